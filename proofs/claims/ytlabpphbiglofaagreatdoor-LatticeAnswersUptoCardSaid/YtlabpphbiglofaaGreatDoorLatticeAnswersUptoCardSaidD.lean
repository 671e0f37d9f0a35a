/-
  Parts of the proof: Package types: replaced, by names of variables. Package types: called. The functions of package lattice, as the machine's text. lattice: below and pointwise of an order. lattice: fill, all monotone functions behind a beginning. lattice: fill evaluated. lattice: the contracts of below, pointwise, Clone and fill. lattice.functions: its loops. lattice.functions evaluated. lattice.functions evaluated: whole. lattice.build, get: evaluated. lattice.build evaluated. A type without variables is told by its text. All monotone functions, in order: what fill finds. The functions from one order to another one are an order. A type's order; lattice.build, functions, get: contracts. lattice: has, Equal, IndexFunc, number, join evaluated. lattice: join evaluated. A round of types.Canon's loop. A round of types.Canon's loop, in its memory. types.vars hands back an iterator over a type's variables. The contract of types.Canon at types without variables. The contract of types.Canon at every type. lattice: of, Size, Below, Join evaluated. lattice: contracts of Canon, of, Size, Below, Join. The document's names: small, sign, signs, upper, Variable, DataName. The document's types: form, Nodes, Wrong, closed; TypeLeft, GreatType. The document's types: Nodes, Wrong, closed; TypeLeft, GreatType. The document's names of data types are the program's. The document's lattices: under, fits evaluated. The document's lattices: rows evaluated. Conditions: none.
-/
import Derived.Test.YtlabpphbiglofaaGreatDoorLatticeAnswersUptoCardSaidC
import Derived.Lib.ItoaLen
import Derived.Lib.IndexLaws
import Derived.Lib.IndexBytes
import Derived.Lib.CountLaws
set_option linter.unusedVariables false
set_option linter.unusedSimpArgs false

section
namespace Go.Vm
set_option maxRecDepth 100000
open Go.Proofs Go.RowKit
def byF:List (BY×BY)→BY→Option BY
  | [],_=>none
  | (m,s) :: r,n=>if n=m then some s else byF r n
def vU (s:BY):V:=.agg [.d false (.int .i64 2),.d false (.str s),.fs false 3 []]
def byE (bs:List (BY×BY)):List (D×V):=bs.map fun q=>(.str q.1,vU q.2)
theorem q42 (n:BY):∀ bs:List (BY×BY),q3C 2 (.str n) (byE bs)=some ((byF bs n).map vU)
  | []=>rfl
  | (m,s) :: r=>by
    have ih:=q42 n r
    simp only [byE,List.map_cons,q3C,q1X,byF] at ih ⊢
    by_cases h:n=m
    · simp [h]
    · simp only [h,decide_false,if_false]
      exact ih
theorem q25 (bs:List (BY×BY)):(byE bs).flatMap (fun q=>q.2.refs)=[]:=by
  induction bs with
  | nil=>rfl
  | cons q l ih=>
    simp only [byE,List.map_cons,List.flatMap_cons] at ih ⊢
    rw [ih]
    rfl
theorem q1S (bs:List (BY×BY)) (p:Nat→Bool):(byE bs).all (fun q=>q.2.within p)=true:=by
  simp only [byE,List.all_map,List.all_eq_true]
  intro q _
  rfl
theorem q5c (bs:List (BY×BY)) (g:Nat→Nat):(byE bs).map (fun q=>(q.1,q.2.ren g))=byE bs:=by
  simp only [byE,List.map_map]
  exact List.map_congr_left fun q _=>rfl
theorem j5M (bs:List (BY×BY)):(byE bs).map (fun q=>(q.1,q.2.dim))=byE bs:=by
  simp only [byE,List.map_map]
  exact List.map_congr_left fun q _=>rfl
theorem forget_dat (p c k rows):Blk.forget p (.dat c k rows)=.dat c k rows:=rfl
theorem q0S (p k rows):Blk.forget p (.mix k rows)=.mix k (rows.map (·.map (V.drop1 p))):=rfl
theorem j5L (z bs' H) (l:List (BY×BY)):mapO (fun q:D×V=>(finA z bs' H q.2).map fun v=>(q.1,v)) (byE l)=some (byE l):=by
  induction l with
  | nil=>rfl
  | cons q l ih=>
    have h1:finA z bs' H (vU q.2)=some (vU q.2):=rfl
    simp only [byE,List.map_cons,mapO,h1,Option.map_some] at ih ⊢
    rw [ih]
def fbA (z:Bool) (bs:List Nat) (H:List (Nat×Blk)):Option Blk→Option Blk
  | some (.dat c k rows)=>some (.dat c k rows)
  | some (.mix k rows)=>(mapO (mapO (finC z bs H)) rows).map (.mix k)
  | some (.map es)=>(mapO (fun q=>(finA z bs H q.2).map fun v=>(q.1,v)) es).map .map
  | none=>none
theorem q0R (z bs H b):finB z bs H b=fbA z bs H (look H b):=by
  unfold finB fbA
  cases look H b with
  | none=>rfl
  | some k=>cases k <;> rfl
theorem q9L (z bs' H l):fbA z bs' H (some (.map (byE l)))=some (.map (byE l)):=by
  show (mapO _ (byE l)).map Blk.map=_
  rw [j5L]
  rfl
mutual
def Ty.sub (bs:List (BY×BY)):Ty→Ty
  | .mk k n l=>if k=2 then (match byF bs n with
    | some s=>.mk 2 s []
    | none=>.mk k n (subL bs l)) else .mk k n (subL bs l)
def subL (bs:List (BY×BY)):List Ty→List Ty
  | []=>[]
  | t :: r=>t.sub bs :: subL bs r
end
theorem q8j (bs):∀ l:List Ty,subL bs l=l.map (Ty.sub bs)
  | []=>rfl
  | t :: r=>by rw [subL,q8j bs r];rfl
def E50 (K:Cx) (bs:List (BY×BY)) (t:Ty):Prop:=K.eff 50 [tyW t,.map 0] [.map (byE bs)]=some (tyR (t.sub bs),[.map (byE bs)],[])
/- 'sloth/types.replaced' -/
def f50_L0:C:=
 (.seq
  (.reg [⟨[],[(29,(.bin .lss (.sl 28) (.sl 27)))],[],none,[1,2,4,27,28],1,[],[],[]⟩])
  (.seq
   (.cond (.sl 29)
    .skip
    (.seq
     (.tidy 1 [2,4])
     (.exit 0)))
   (.seq
    (.block 1
     (.seq
      (.reg [⟨[],[(7,(.sl 28))],[],none,[1,2,4,27,28],2,[],[],[]⟩])
      (.reg [⟨[],[(32,(.ld 1 false (.fa 2 (.sl 2)))),(33,(.sl 7))],[],some (some 40,.calle 50 (.cons (.ld 3 true (.ia 3 (.ld 1 false (.fa 2 (.sl 2))) (.sl 7))) (.cons (.sl 1) .nil))),[1,2,4,27,28],10,[[],[0],[],[],[3],[],[5,3,4],[4,3,5,6],[],[8,6,5,3,4,7],[9,8,7,6,5,4,3,2,0,1],[1,0,2,3,4,5,6,7,8,9,10]],[],[(.fa 2 (.sl 2)),(.ld 1 false (.fa 2 (.sl 2))),(.sl 7)]⟩,⟨[],[],[],some (none,.store 3 (.ia 3 (.sl 32) (.sl 33)) (.sl 40)),[1,2,4,27,28],2,[],[],[]⟩])))
    (.reg [⟨[],[(28,(.bin .add (.sl 28) (.int .i64 1)))],[],none,[1,2,4,27],2,[],[],[]⟩]))))
def f50:Fun:=⟨
 (.seq
  (.reg [⟨[(2,.box (.sl 0)),(4,.box (.agg (.cons (.int .i64 0) (.cons (.str []) (.cons (.nilsl 3) .nil)))))],[],[],none,[1,2,4],2,[],[],[]⟩])
  (.seq
   (.seq
    (.reg [⟨[],[(10,(.bin .eql (.ld 1 false (.fa 0 (.sl 2))) (.int .i64 2)))],[],none,[1,2,4],3,[],[],[]⟩])
    (.cond (.sl 10)
     (.seq
      (.reg [⟨[(5,.box (.agg (.cons (.int .i64 0) (.cons (.str []) (.cons (.nilsl 3) .nil)))))],[(17,(.ext 1 (.lkp true 2 (.agg (.cons (.int .i64 0) (.cons (.str []) (.cons (.nilsl 3) .nil)))) (.sl 1) (.ld 1 false (.fa 1 (.sl 2))))))],[],some (none,.store 3 (.sl 5) (.ext 0 (.lkp true 2 (.agg (.cons (.int .i64 0) (.cons (.str []) (.cons (.nilsl 3) .nil)))) (.sl 1) (.ld 1 false (.fa 1 (.sl 2)))))),[1,2,4,5],9,[],[],[]⟩,⟨[],[(6,(.sl 17))],[],none,[1,2,4,5],1,[],[],[]⟩])
      (.seq
       (.reg [⟨[],[(18,(.sl 6))],[],none,[1,2,4,5],1,[],[],[]⟩])
       (.cond (.sl 18)
        (.seq
         (.reg [⟨[],[],[],some (none,.store 3 (.sl 4) (.call 65 (.cons (.ld 3 true (.sl 5)) .nil))),[4],3,[],[],[]⟩])
         (.seq
          (.tidy 1 [4])
          .ret))
        .skip)))
     .skip))
   (.seq
    (.reg [⟨[(23,.callo 66 (.cons (.ld 1 false (.fa 2 (.sl 2))) .nil))],[],[],some (none,.store 1 (.fa 2 (.sl 2)) (.sl 23)),[1,2,4],5,[],[],[]⟩])
    (.seq
     (.seq
      (.reg [⟨[],[(27,(.len false (.ld 1 false (.fa 2 (.sl 2))))),(28,(.int .i64 0))],[],none,[1,2,4],4,[],[],[]⟩])
      (.block 0
       (.seq (.tidy 1 [1,2,4,27,28]) (.loop (.seq (.tidy 1 [1,2,4,27,28]) f50_L0)))))
     (.seq
      (.reg [⟨[],[],[],some (none,.store 3 (.sl 4) (.ld 3 true (.sl 2))),[4],2,[],[],[]⟩])
      (.seq
       (.tidy 1 [4])
       .ret)))))),
 [(.ld 3 true (.sl 4))],false⟩
theorem j0J:q0o Go.Proofs.Tryz.prog 50 1 2 f50=true:=by kernel_rfl
theorem j2D (K:Cx) (bs:List (BY×BY)) (n s:BY) (l:List Ty) (hs:byF bs n=some s) (h65:K65 K (.mk 2 s [])):q0c K f50 [tyW (.mk 2 n l),.map 0] [.map (byE bs)]=some (tyR (.mk 2 s []),[.map (byE bs)],[]):=by
  have hf:=q42 n bs
  rw [hs] at hf
  unfold K65 at h65
  unfold f50
  simp only [tyW,tyR,dL,Option.map_some,vU] at h65 hf ⊢
  simp (disch:=first|decide|omega|(simp only [LN];first|done|omega)) only [SX,SW,Nat.reduceAdd,Nat.reduceBEq,q2h,hf,q4V,lose,q0a,h65,q1M,q25,reduceCtorEq,q1S,q5c,q0b,q0R,q9L]
def segR:Seg:=⟨[],[(32,(.ld 1 false (.fa 2 (.sl 2)))),(33,(.sl 7))],[],some (some 40,.calle 50 (.cons (.ld 3 true (.ia 3 (.ld 1 false (.fa 2 (.sl 2))) (.sl 7))) (.cons (.sl 1) .nil))),[1,2,4,27,28],10,[[],[0],[],[],[3],[],[5,3,4],[4,3,5,6],[],[8,6,5,3,4,7],[9,8,7,6,5,4,3,2,0,1],[1,0,2,3,4,5,6,7,8,9,10]],[],[(.fa 2 (.sl 2)),(.ld 1 false (.fa 2 (.sl 2))),(.sl 7)]⟩
def rpH (bs:List (BY×BY)) (k:Int) (n:BY) (L:List Ty):List (Nat×Blk):=[(0,.map (byE bs)),(1,.mix 3 [[.d false (.int .i64 k),.d false (.str n),.bsl 3 0 L.length]]),(2,.mix 3 [[.d false (.int .i64 0),.d false (.str []),.fs true 3 []]]),(3,.dat false 3 (L.map Ty.d))]
mutual
theorem q1h:∀ x:D,x.eqb x=true
  | .int _ _=>by simp [D.eqb]
  | .bool _=>by simp [D.eqb]
  | .str _=>by simp [D.eqb]
  | .sl _ rows=>by simp [D.eqb,q0H rows]
  | .ptr cs=>by simp [D.eqb,q0J cs]
  | .nilp=>rfl
  | .nilif=>rfl
  | .nilfn=>rfl
  | .nilm=>rfl
  | .nils _=>by simp [D.eqb]
  | .emps _=>by simp [D.eqb]
  | .iface _ cs=>by simp [D.eqb,q0J cs]
theorem q0J:∀ x:List D,dRow x x=true
  | []=>rfl
  | a :: r=>by simp [dRow,q1h a,q0J r]
theorem q0H:∀ x:List (List D),q2F x x=true
  | []=>rfl
  | a :: r=>by simp [q2F,q0J a,q0H r]
end
theorem j1d (t:Ty) (g:Nat→Nat):(tyR t).ren g=tyR t:=by
  obtain ⟨k,n,l⟩:=t
  cases l <;> rfl
theorem j0e (vs):q2m 50 vs=some (50,vs):=rfl
theorem j1t (K:Cx) (bs:List (BY×BY)) (k:Int) (n:BY) (L:List Ty) (j:Nat) (hj:j < L.length) (N:V) (x:Ty) (hx:nth L (j:Int)=x) (w:E50 K bs x) :
    q1g K ⟨[(7,.d false (.int .i64 j)),(1,.map 0),(2,.ptr 1 0 0),(4,.ptr 2 0 0),(27,N),(28,.d false (.int .i64 j))],rpH bs k n L,4,[]⟩ segR =
      some ⟨[(40,tyR (x.sub bs)),(32,.bsl 3 0 L.length),(33,.d false (.int .i64 j)),(1,.map 0),(2,.ptr 1 0 0),(4,.ptr 2 0 0),(27,N),(28,.d false (.int .i64 j))],rpH bs k n L,4,[]⟩:=by
  have hr:=j1d (x.sub bs)
  unfold E50 at w
  obtain ⟨k',n',ls⟩:=x
  generalize tyR ((Ty.mk k' n' ls).sub bs)=R at *
  refine q01 ?_ ?_
  · unfold segR rpH
    rw [q1A]
    simp only [tyW] at w ⊢
    simp (disch:=first|decide|omega|(simp only [LN];first|done|omega)) only [SX,SW,Nat.reduceBEq,hx,Ty.d,Nat.reduceAdd,q25,q1S,j5M,q5c,dimL,w,q0W,Nat.reduceSub,hr,lose]
  · unfold segR rpH q4p
    simp only [tyW] at w ⊢
    simp (disch:=first|decide|omega|(simp only [LN];first|done|omega)) only [SX,SW,List.isEmpty_cons,q2g,q2Y,q2i,Nat.reduceBEq,hx,Ty.d,Nat.reduceAdd,j0e,q25,q3a,Bool.false_or]
    simp [V.eqb,V.eqb1,D.eqb]
theorem j1r (L:List Ty) (i:Nat) (k:Int) (n:BY) (ls:List Ty) (v:V) (hi:i < L.length) (hv:asD v=some (.sl 3 (dL ls))):(Blk.dat false 3 (L.map Ty.d)).set i 0 [.d false (.int .i64 k),.d false (.str n),v]=some (.dat false 3 ((L.set i (.mk k n ls)).map Ty.d)):=by
  rw [q51 (hi:=hi)]
  have hmm:mapO asD [.d false (.int .i64 k),.d false (.str n),v]=some [.int .i64 k,.str n,.sl 3 (dL ls)]:=by
    simp only [mapO]
    rw [hv]
    rfl
  rw [hmm]
  obtain ⟨k',n',l'⟩:=nth L (i:Int)
  simp [setD,splice,Ty.d,List.map_set]
def rpR (bs:List (BY×BY)):Nat→Nat→List Ty→List Ty
  | 0,_,L=>L
  | m+1,j,L=>rpR bs m (j+1) (L.set j ((nth L (j:Int)).sub bs))
theorem z2Z {L:List Ty} {j i:Nat} {x:Ty} (h:j≠i):nth (L.set j x) (i:Int)=nth L (i:Int):=by
  rw [q6z,q6z,List.getD_eq_getElem?_getD,List.getD_eq_getElem?_getD,List.getElem?_set_ne h]
theorem j1C (K:Cx) (bs:List (BY×BY)) (k:Int) (n:BY) (N:Nat) (hN:N≤most):∀ (m j:Nat) (L:List Ty),j+m=N→L.length=N→(∀ i,j≤i→i < N→E50 K bs (nth L (i:Int)))→
    lp K 1 [1,2,4,27,28] f50_L0 ⟨[(1,.map 0),(2,.ptr 1 0 0),(4,.ptr 2 0 0),(27,.d false (.int .i64 N)),(28,.d false (.int .i64 j))],rpH bs k n L,4,[]⟩ =
      some (.exit 0,⟨[(2,.ptr 1 0 0),(4,.ptr 2 0 0)],rpH bs k n (rpR bs m j L),4,[]⟩):=by
  have hm:most=1099511627776:=rfl
  intro m
  induction m with
  | zero=>
    intro j L hj hL _
    obtain rfl:j=N:=by omega
    simp only [rpR]
    rw [q0p f50_L0.eq_1]
    unfold rpH
    simp (disch:=first|decide|omega|(simp only [LN];first|done|omega)) only [SV,SW,Nat.reduceBEq,q1M,q25,reduceCtorEq,Nat.reduceEqDiff,q1S,Nat.reduceAdd,q5c]
  | succ m ih=>
    intro j L hj hL hE
    have hw:=hE j (by omega) (by omega)
    have ih:=ih (j+1) (L.set j ((nth L (j:Int)).sub bs)) (by omega) (by simpa using hL) (fun i h1 h2=>by rw [z2Z (by omega)];exact hE i (by omega) h2)
    have hs:=j1t K bs k n L j (by omega) (.d false (.int .i64 N)) _ rfl hw
    simp only [rpR]
    rw [← ih]
    clear ih hE hw
    have hset:=fun k n ls v hv=>j1r L j k n ls v (by omega) hv
    generalize (nth L (j:Int)).sub bs=x at *
    obtain ⟨k',n',ls⟩:=x
    have hset:=hset k' n' ls (tlR ls) (j0u ls)
    obtain ⟨q1,q2,q3⟩:=z1o ls
    rw [j0s] at hs
    have hlen:(L.set j (Ty.mk k' n' ls)).length=L.length:=by simp
    rw [q0p f50_L0.eq_1]
    unfold segR at hs
    unfold rpH at hs ⊢
    rw [hlen]
    generalize tlR ls=tv at *
    simp (disch:=first|decide|omega|(simp only [LN];first|done|omega)) only [SV,SW,Nat.reduceBEq,hs,Nat.reduceAdd,hset,lose,q0U,q1M,q25,reduceCtorEq,Nat.reduceEqDiff,q1S,q5c]
theorem z8s (K:Cx) (bs:List (BY×BY)) (k:Int) (n:BY) :
    lp K 1 [1,2,4,27,28] f50_L0 ⟨[(1,.map 0),(2,.ptr 1 0 0),(4,.ptr 2 0 0),(27,.d false (.int .i64 ((0:Nat):Int))),(28,.d false (.int .i64 0))],[(0,.map (byE bs)),(1,.mix 3 [[.d false (.int .i64 k),.d false (.str n),.fs true 3 []]]),(2,.mix 3 [[.d false (.int .i64 0),.d false (.str []),.fs true 3 []]])],3,[]⟩ =
      some (.exit 0,⟨[(2,.ptr 1 0 0),(4,.ptr 2 0 0)],[(0,.map (byE bs)),(1,.mix 3 [[.d false (.int .i64 k),.d false (.str n),.fs true 3 []]]),(2,.mix 3 [[.d false (.int .i64 0),.d false (.str []),.fs true 3 []]])],3,[]⟩):=by
  rw [q0p f50_L0.eq_1]
  simp (disch:=first|decide|omega|(simp only [LN];first|done|omega)) only [SV,SW,Nat.reduceBEq,q1M,q25,reduceCtorEq,Nat.reduceEqDiff,q1S,Nat.reduceAdd,q5c]
theorem z5c (bs):∀ (m j:Nat) (L:List Ty),j+m=L.length→rpR bs m j L=L.take j++(L.drop j).map (Ty.sub bs)
  | 0,j,L,h=>by
    rw [rpR,List.drop_eq_nil_of_le (by omega),List.take_of_length_le (by omega)]
    simp
  | m+1,j,L,h=>by
    have hj:j < L.length:=by omega
    have hn:=q2z (l:=L) (n:=(j:Int)) (by simpa using hj)
    simp only [Int.toNat_natCast] at hn
    rw [rpR,z5c bs m (j+1) _ (by simp;omega),List.drop_eq_getElem_cons hj,← hn]
    rw [List.take_set,List.drop_set_of_lt (by omega)]
    have h1:List.take (j+1) L=List.take j L++[L[j]]:=List.take_succ_eq_append_getElem hj
    rw [h1]
    rw [List.set_append_right _ _ (by rw [List.length_take];omega)]
    simp [List.length_take,Nat.min_eq_left (Nat.le_of_lt hj)]
    have hd:=List.drop_eq_getElem_cons (l:=L.map (Ty.sub bs)) (i:=j) (by simpa using hj)
    rw [hd]
    simp
theorem j5e (K:Cx) (bs:List (BY×BY)) (h66:K66 K) (k:Int) (n:BY) (l:List Ty) (hl:l.length≤most) (hk:k≠2∨byF bs n=none) (hg:∀ t∈l,E50 K bs t):q0c K f50 [tyW (.mk k n l),.map 0] [.map (byE bs)]=some (tyR (.mk k n (subL bs l)),[.map (byE bs)],[]):=by
  have hm:most=1099511627776:=rfl
  have hf:=q42 n bs
  cases l with
  | nil=>
    have w:=h66.2
    have wl:=z8s K bs k n
    clear hg
    simp only [subL]
    unfold f50
    simp only [tyW,tyR,tlV,dL,List.map_nil] at w ⊢
    by_cases h2:k=2
    · subst h2
      rw [hk.resolve_left (by simp),Option.map_none] at hf
      simp (disch:=first|decide|omega|(simp only [LN];first|done|omega)) only [SX,SW,Nat.reduceAdd,Nat.reduceBEq,q2h,hf,q3M,lose,q0a,w,V.new2,V.newR,V.shift,q1M,q25,reduceCtorEq,Nat.reduceEqDiff,q1S,q5c,wl,q0b,q0R,q9L]
    · have e2:(k == 2)=false:=by simpa using h2
      simp (disch:=first|decide|omega|(simp only [LN];first|done|omega)) only [SX,SW,Nat.reduceAdd,Nat.reduceBEq,e2,q0a,w,V.new2,V.newR,V.shift,lose,q1M,q25,reduceCtorEq,Nat.reduceEqDiff,q1S,q5c,wl,q0b,q0R,q9L]
  | cons x r=>
    have w:=h66.1 (x :: r) (by simp) hl
    have wl:=j1C K bs k n (x :: r).length hl (x :: r).length 0 (x :: r) (by omega) rfl (fun i _ h=>hg _ (z1J h))
    have hall:=z5c bs (x :: r).length 0 (x :: r) (by omega)
    rw [List.take_zero,List.drop_zero,List.nil_append,← q8j] at hall
    have hlen:(subL bs (x :: r)).length=(x :: r).length:=by rw [q8j];simp
    rw [hall] at wl
    clear hg hall
    have hr:tyR (.mk k n (subL bs (x :: r)))=.agg [.d false (.int .i64 k),.d false (.str n),.d false (.sl 3 ((subL bs (x :: r)).map Ty.d))]:=by
      rw [← q09]
      rfl
    rw [hr]
    generalize subL bs (x :: r)=L' at *
    unfold rpH at wl
    rw [hlen] at wl
    unfold f50
    simp only [tyW,tlV,q09,Int.natCast_zero,Int.ofNat_zero] at w wl ⊢
    have hlen2:(L'.map Ty.d).length=(x :: r).length:=by rw [List.length_map];exact hlen
    generalize hL:(x :: r).map Ty.d=L at *
    generalize hN:(x :: r).length=N at *
    generalize hL2:L'.map Ty.d=L2 at *
    have vd:∀ (m:Nat) (H:List (Nat×Blk)) (b:Nat),look H b=some (.dat false 3 L2)→q0a (m+1) H (.bsl b 0 N)=some (.sl 3 L2):=fun m H b hb=>by
      simp only [q0a,hb]
      rw [if_pos (by omega)]
      simp [← hlen2]
    by_cases h2:k=2
    · subst h2
      rw [hk.resolve_left (by simp),Option.map_none] at hf
      simp (disch:=first|decide|omega|(simp only [LN];first|done|omega)) only [SX,SW,Nat.reduceAdd,Nat.reduceBEq,q2h,hf,q3M,lose,q0a,w,V.new2,V.newR,V.shift,q1M,q25,reduceCtorEq,Nat.reduceEqDiff,q1S,q5c,wl,q0b,hNew,forgetH,q0S,V.drop1,forget_dat,q0R,q9L]
    · have e2:(k == 2)=false:=by simpa using h2
      simp (disch:=first|decide|omega|(simp only [LN];first|done|omega)) only [SX,SW,Nat.reduceAdd,Nat.reduceBEq,e2,q0a,w,V.new2,V.newR,V.shift,lose,q1M,q25,reduceCtorEq,Nat.reduceEqDiff,q1S,q5c,wl,q0b,hNew,forgetH,q0S,V.drop1,forget_dat,q0R,q9L]
noncomputable def y50 (n:Nat):Se where
  α:=Ty×List (BY×BY)
  f:=50
  ok:=fun (t,_)=>t.fit∧SizeOf.sizeOf t < n
  args:=fun (t,_)=>[tyW t,.map 0]
  blks:=fun (_,bs)=>[.map (byE bs)]
  res:=fun (t,bs)=>(tyR (t.sub bs),[.map (byE bs)],[])
  inj:=by
    rintro ⟨t,b⟩ ⟨t',b'⟩ _ _ h h'
    simp only [List.cons.injEq,and_true] at h
    obtain rfl:=q10 _ _ h
    simp only [List.cons.injEq,Blk.map.injEq,and_true] at h'
    have:b=b':=by
      have inj:∀ l l':List (BY×BY),byE l=byE l'→l=l':=by
        intro l
        induction l with
        | nil=>intro l' h;cases l' with
          | nil=>rfl
          | cons q l'=>simp [byE] at h
        | cons q l ih=>intro l' h;cases l' with
          | nil=>simp [byE] at h
          | cons q' l'=>
            simp only [byE,List.map_cons,List.cons.injEq,Prod.mk.injEq,D.str.injEq,vU,V.agg.injEq,V.d.injEq,true_and,and_true] at h
            obtain ⟨⟨h1,h2⟩,h3⟩:=h
            have:=ih l' h3
            obtain ⟨a,b⟩:=q
            obtain ⟨a',b'⟩:=q'
            simp only at h1 h2
            rw [h1,h2,this]
      exact inj _ _ h'
    subst this
    rfl
theorem z4O (s:BY):(Ty.mk 2 s []).fit:=⟨by simp,trivial⟩
section
variable {G:Nat→Option (List D)}
theorem y50h:∀ n,(y50 n).Holds Tryz.prog G
  | 0=>fun ⟨t,b⟩ ⟨_,h⟩=>absurd h (Nat.not_lt_zero _)
  | n+1=>by
    rintro ⟨⟨k,nm,l⟩,bs⟩ ⟨⟨f1,f2⟩,hs⟩
    by_cases hv:k=2∧∃ s,byF bs nm=some s
    · obtain ⟨rfl,s,hs'⟩:=hv
      have:=q07 (g:=f50) q0e ((Known.nil (G:=G)).put (z65h (SizeOf.sizeOf (Ty.mk 2 s [])+1))).sound j0J (j2D (cx G [zT 65 (SizeOf.sizeOf (Ty.mk 2 s [])+1) tyR] []) bs nm s l hs' (cx1 (zT 65 (SizeOf.sizeOf (Ty.mk 2 s [])+1) tyR) (.mk 2 s []) ⟨z4O s,Nat.lt_succ_self _⟩))
      simp only [y50,Ty.sub,if_true,hs']
      exact this
    · have hk:k≠2∨byF bs nm=none:=by
        by_cases h:k=2
        · right
          cases hb:byF bs nm with
          | none=>rfl
          | some s=>exact absurd ⟨h,s,hb⟩ hv
        · exact .inl h
      have hsub:(Ty.mk k nm l).sub bs=.mk k nm (subL bs l):=by
        rw [Ty.sub]
        split
        · rename_i h
          rw [hk.resolve_left (by simpa using h)]
        · rfl
      have:=q07 (g:=f50) q0e ((Known.nil (G:=G)).put z66h |>.putE (y50h n)).sound j0J (j5e (cx G [z66] [y50 n]) bs (j0D fun l h=>cx1 z66 l h) k nm l f1 hk (fun t ht=>ce1 (y50 n) (t,bs) ⟨q15 l t f2 ht,q20 hs t ht⟩))
      simp only [y50,hsub]
      exact this
end
end Go.Vm
end

section
namespace Go.Vm
set_option maxRecDepth 100000
open Go.Proofs Go.RowKit Go.Shelf Go.Sort
theorem gP10:Tryz.prog.globalNamed "internal/strconv.uint64pow10" = some 0:=by kernel_rfl
theorem z8z{w:World}{F:Nat→Prop}{v:Value}{k:IntKind}{n:Int}(h:RepD w F v (.int k n)):v=.int k n:=by
  cases h with|int k n=>rfl
theorem z0o{w:World}{F:Nat→Prop}{G:Nat→Option (List D)}(hG0:G 0=some (Lib.pow10Tab.map fun z=>.int .u64 z))(h:GlobRel w F G):Lib.TabIs Tryz.prog w "internal/strconv.uint64pow10" .u64 Lib.pow10Tab:=by
  have hx:=h 0 _ hG0
  rw[if_neg (show ¬ q4Z (Lib.pow10Tab.map fun z=>D.int .u64 z)=true from fun e=>Bool.noConfusion (show false=true from e))] at hx
  obtain⟨h1,cs,t,fz,h2,h3⟩:=hx
  unfold Lib.TabIs World.var?
  rw[gP10]
  show(match w.heap[0]? with|some (.cells cs _ _)=>some cs|_=>none)=_
  rw[h2]
  show some cs=_
  congr 1
  apply Array.ext
  · rw[h3];simp
  · intro j hj1 hj2
    cases h1 with
    |ptr b o cells g hf hc hr=>
      have hj:j<Lib.pow10Tab.length:=by simpa using hj2
      have e:(Lib.pow10Tab.map fun z=>D.int .u64 z)[j]? = some (.int .u64 Lib.pow10Tab[j]):=by simp [hj]
      have hv:=hr j _ e
      have hg:=z8z hv
      have hcell:=hc j _ e
      rw[hg,Nat.zero_add] at hcell
      have:w.cell? ⟨0,j,none⟩=some cs[j]:=by
        rw[Lib.cell_of_heap h2]
        simp [hj1]
      rw[this] at hcell
      simpa using Option.some.inj hcell
theorem z0I{w:World}{F:Nat→Prop}{base:Nat}(hF:∀ b,F b→b<w.heap.size):HeapRel w F (fun _ _=>False) base (fun _=>none) 0 (indexed []):=
  ⟨fun b blk h=>absurd (show look [] b=some blk from h) (by simp [look]),fun b b' l l' h=>(by cases h),fun b l h=>(by cases h),hF⟩
theorem z5q{G:Nat→Option (List D)}(hG0:G 0=some (Lib.pow10Tab.map fun z=>.int .u64 z))(n:Int)(h0 : -9223372036854775808≤n)(h1:n≤9223372036854775807):q1V Tryz.prog G 64 [.d false (.int .i64 n)] (.d false (.str (Lib.itoa n))) []:=by
  intro w F vals hF hG hR
  obtain⟨hsz,hval⟩:=hR
  obtain⟨l⟩:=vals
  match l,hsz,hval with
  |[v0],hsz,hval=>
    have e0:=(hval 0 v0 _ rfl rfl).int_inv
    subst e0
    refine(Tryz.strconv_Itoa n h0 h1 w (z0o hG0 hG)).mono ?_
    rintro e w' ⟨rfl,k,os,rfl⟩
    have hsz:(grow (w.drewN k) os).heap.size=w.heap.size+os.size:=by
      show((w.drewN k).heap++os).size=_
      simp
    refine⟨_,F,fun _=>none,rfl,⟨rfl,rfl,rfl,by rw[hsz];omega,fun j hj=>?_⟩,fun b h=>.inl h,?_,z0I (fun b h=>by rw[hsz];have:=hF b h;omega)⟩
    · show((w.drewN k).heap++os)[j]? = _
      rw[Array.getElem?_append_left (by simpa using hj)]
      simp
    · exact .d _ _ _ (.str ⟨(Lib.itoa n).toArray⟩)
  |[],hsz,_=>simp at hsz
  |_ :: _ :: _,hsz,_=>simp at hsz
def q7q(n:Nat):BY:=if n<26 then [UInt8.ofNat (97+n % 26)] else [UInt8.ofNat (97+n % 26)]++Lib.itoa ((n / 26:Nat):Int)
def K64(K:Cx):Prop:=∀ n:Nat,n≤1000000→K.call 64 [.d false (.int .i64 (n:Int))]=some (.d false (.str (Lib.itoa n)),[])
/- 'sloth/types.called' -/
def f49:Fun:=⟨ (.seq (.reg [⟨[],[],[(.str [])],none,[0],1,[],[],[]⟩]) (.seq (.reg [⟨[],[(3,(.i2s (.conv .i32 (.bin .add (.int .i64 97) (.bin .rem (.sl 0) (.int .i64 26))))))],[],none,[0],6,[],[],[]⟩]) (.seq (.seq (.reg [⟨[],[(10,(.bin .lss (.sl 0) (.int .i64 26)))],[],none,[0,3],2,[],[],[]⟩]) (.cond (.sl 10) (.seq (.reg [⟨[],[(2,(.sl 3))],[],none,[],2,[],[],[]⟩]) (.seq (.tidy 0 [2]) .ret)) .skip)) (.seq (.reg [⟨[],[(2,(.bin .add (.sl 3) (.call 64 (.cons (.bin .quo (.sl 0) (.int .i64 26)) .nil))))],[],none,[],6,[],[],[]⟩]) (.seq (.tidy 0 [2]) .ret))))), [(.sl 2)],false⟩
theorem j4G:q0o Go.Proofs.Tryz.prog 49 0 1 f49=true:=by kernel_rfl
theorem z7i:∀ n:Nat,n<26→(Utf8.encode ((97+n:Nat):Int)).data.toList=[UInt8.ofNat (97+n)]:=by decide +kernel
theorem z94:∀ n:Nat,n<26→IntKind.i32.wrap ((97+n:Nat):Int)=((97+n:Nat):Int):=by decide +kernel
theorem j2g(n:Nat)(h:n≤1000000):(Lib.itoa (n:Int)).length≤100:=by
  have:=Lib.itoa_length_le (n:Int) (by omega) (by omega)
  omega
theorem z6W(K:Cx)(h64:K64 K)(n:Nat)(hn:n≤1000000):q0c K f49 [.d false (.int .i64 (n:Int))] []=some (.d false (.str (q7q n)),[],[]):=by
  have hr:((n:Int)).tmod 26=((n % 26:Nat):Int):=by
    rw[Int.tmod_eq_emod_of_nonneg (by omega)];omega
  have hq:((n:Int)).tdiv 26=((n / 26:Nat):Int):=by
    rw[Int.tdiv_eq_ediv_of_nonneg (by omega)];omega
  have hlt:n % 26<26:=Nat.mod_lt _ (by decide)
  have he:=z7i (n % 26) hlt
  have hwr:=z94 (n % 26) hlt
  have hc:((97:Int)+((n % 26:Nat):Int))=((97+n % 26:Nat):Int):=by omega
  have w:=h64 (n / 26) (by omega)
  have hi:=j2g (n / 26) (by omega)
  unfold f49 q7q
  have hlen:([UInt8.ofNat (97+n % 26)]:BY).length+(Lib.itoa ((n / 26:Nat):Int)).length≤4611686018427387904:=by simp only[List.length_singleton];omega
  generalize n % 26=r at *
  by_cases h26:n<26
  · have e:decide ((n:Int)<26)=true:=decide_eq_true (by omega)
    simp only[h26,if_true]
    simp(disch:=first|decide|omega|(simp only[LN];first|done|omega)) only[SV,SW,j5v,Int.reduceEq,hr,hc,q68,hwr,z3z,he,Nat.reduceBEq,q0b]
  · have e:decide ((n:Int)<26)=false:=decide_eq_false (by omega)
    simp only[h26,if_false]
    simp(disch:=first|decide|omega|(simp only[LN];first|done|omega)) only[SV,SW,j5v,Int.reduceEq,hr,hc,q68,hwr,z3z,he,Nat.reduceBEq,hq,q0a,w,q0b]
end Go.Vm
end

section
namespace Go.Vm
set_option maxRecDepth 100000
/- '(*sloth/lattice.order).below' -/
def f27:Fun:=⟨ (.seq (.reg [⟨[],[],[(.bool false)],none,[0,1,2],1,[],[],[]⟩]) (.seq (.seq (.reg [⟨[],[(11,(.eqs false false [4] (.ld 1 false (.fa 1 (.fa 0 (.sl 0)))) .nilp))],[],none,[0,1,2],5,[],[],[]⟩]) (.cond (.sl 11) (.seq (.reg [⟨[],[(6,(.bin .leq (.sl 1) (.sl 2)))],[],none,[],4,[],[],[]⟩]) (.seq (.tidy 0 [6]) .ret)) .skip)) (.seq (.reg [⟨[],[(6,(.ld 1 false (.ia 1 (.ld 1 false (.ia 1 (.ld 1 false (.fa 4 (.fa 0 (.sl 0)))) (.sl 1))) (.sl 2))))],[],none,[],11,[],[],[]⟩]) (.seq (.tidy 0 [6]) .ret)))), [(.sl 6)],false⟩
theorem j0K:q0o Go.Proofs.Tryz.prog 27 0 3 f27=true:=by kernel_rfl
/- 'sloth/lattice.functions' -/
def f53_L0:C:= (.seq (.reg [⟨[],[(61,(.bin .lss (.sl 60) (.sl 59)))],[],none,[7,8,9,47,48,59,60],1,[],[],[]⟩]) (.seq (.cond (.sl 61) .skip (.seq (.tidy 2 [7,9,47,48]) (.exit 2))) (.seq (.block 3 (.seq (.reg [⟨[],[(10,(.sl 60))],[],none,[7,8,9,47,48,59,60],2,[],[],[]⟩]) (.reg [⟨[],[],[],some (none,.store 1 (.ia 1 (.sl 9) (.sl 10)) (.call 72 (.cons (.sl 7) (.cons (.sl 8) (.cons (.sl 10) .nil))))),[7,8,9,47,48,59,60],8,[],[],[]⟩]))) (.reg [⟨[],[(60,(.bin .add (.sl 60) (.int .i64 1)))],[],none,[7,8,9,47,48,59],2,[],[],[]⟩]))))
def f53_L1:C:= (.seq (.reg [⟨[],[(49,(.bin .lss (.sl 48) (.sl 47)))],[],none,[7,47,48],1,[],[],[]⟩]) (.seq (.cond (.sl 49) .skip (.seq (.tidy 2 [7]) (.exit 0))) (.seq (.block 1 (.seq (.reg [⟨[],[(8,(.sl 48))],[],none,[7,47,48],2,[],[],[]⟩]) (.seq (.reg [⟨[(55,.mks 1 (.cons (.bool false) .nil) (.ld 1 false (.fa 0 (.fa 0 (.sl 7)))) (.ld 1 false (.fa 0 (.fa 0 (.sl 7)))))],[(9,(.sl 55))],[],none,[7,8,47,48],6,[],[],[]⟩]) (.seq (.seq (.reg [⟨[],[(59,(.ld 1 false (.fa 0 (.fa 0 (.sl 7))))),(60,(.int .i64 0))],[],none,[7,8,9,47,48],5,[],[],[]⟩]) (.block 2 (.seq (.tidy 2 [7,8,9,47,48,59,60]) (.loop (.seq (.tidy 2 [7,8,9,47,48,59,60]) f53_L0))))) (.regg 2 [(⟨[9],none⟩,⟨[(77,.lits 1 (.cons (.sl 9) .nil))],[(71,(.sl 7))],[],some (some 78,.app 1 (.ld 1 false (.fa 4 (.fa 0 (.sl 7)))) (.sl 77)),[7,47,48],8,[],[],[]⟩),(⟨[],none⟩,⟨[],[],[],some (none,.store 1 (.fa 4 (.fa 0 (.sl 71))) (.sl 78)),[7,47,48],3,[],[],[]⟩)]))))) (.reg [⟨[],[(48,(.bin .add (.sl 48) (.int .i64 1)))],[],none,[7,47],2,[],[],[]⟩]))))
def f53:Fun:=⟨ (.seq (.reg [⟨[(2,.box (.sl 0))],[],[.nilp],none,[1,2],2,[],[],[]⟩]) (.seq (.regg 2 [(⟨[2],none⟩,⟨[],[(20,(.ld 3 true (.ia 3 (.ld 1 false (.fa 2 (.sl 2))) (.int .i64 1)))),(21,(.sl 1))],[],some (some 16,.calle 39 (.cons (.ld 3 true (.ia 3 (.ld 1 false (.fa 2 (.sl 2))) (.int .i64 0))) (.cons (.sl 1) .nil))),[],11,[[],[0],[0,1],[1,0,2],[],[4,2,0,1,3],[],[6],[6,7],[7,6,8],[],[3,1,0,2,4,5,10,8,6,7,9],[9,7,6,8,10,11,3,1,0,2,4,5],[12,9,7,6,8,10,5,4,2,0,1,3,11]],[],[(.fa 2 (.sl 2)),(.ld 1 false (.fa 2 (.sl 2))),(.ia 3 (.ld 1 false (.fa 2 (.sl 2))) (.int .i64 1)),(.ld 3 true (.ia 3 (.ld 1 false (.fa 2 (.sl 2))) (.int .i64 1))),(.sl 1)]⟩),(⟨[],none⟩,⟨[],[],[],some (some 22,.calle 39 (.cons (.sl 20) (.cons (.sl 21) .nil))),[16],1,[],[],[]⟩),(⟨[],none⟩,⟨[],[(5,(.sl 16)),(6,(.sl 22))],[],none,[],2,[],[],[]⟩)]) (.seq (.seq (.reg [⟨[],[(28,(.or (.eqs false false [4] (.sl 5) .nilp) (.eqs false false [4] (.sl 6) .nilp)))],[],none,[5,6],6,[],[],[]⟩]) (.cond (.sl 28) (.seq (.reg [⟨[],[(4,.nilp)],[],none,[],1,[],[],[]⟩]) (.seq (.tidy 2 [4]) .ret)) .skip)) (.seq (.reg [⟨[(32,.box (.set 2 1 (.sl 6) (.set 1 1 (.sl 5) (.agg (.cons (.int .i64 0) (.cons .nilp (.cons .nilp (.cons (.nilsl 1) (.cons (.nilsl 1) .nil)))))))))],[(7,(.sl 32))],[],none,[],5,[],[],[]⟩]) (.seq (.seq (.seq (.ownc 7 3 1) (.reg [⟨[],[],[],some (some 34,.calle 71 (.cons (.sl 7) (.cons (.nilsl 1) .nil))),[7],2,[],[],[]⟩,⟨[],[(35,(.un .not (.sl 34)))],[],none,[7],1,[],[],[]⟩])) (.cond (.sl 35) (.seq (.reg [⟨[],[(4,.nilp)],[],none,[],1,[],[],[]⟩]) (.seq (.tidy 2 [4]) .ret)) .skip)) (.seq (.reg [⟨[],[],[],some (none,.store 1 (.fa 0 (.fa 0 (.sl 7))) (.len false (.ld 1 false (.fa 3 (.fa 0 (.sl 7)))))),[7],9,[],[],[]⟩]) (.seq (.seq (.reg [⟨[],[(47,(.ld 1 false (.fa 0 (.fa 0 (.sl 7))))),(48,(.int .i64 0))],[],none,[7],5,[],[],[]⟩]) (.block 0 (.seq (.tidy 2 [7,47,48]) (.loop (.seq (.tidy 2 [7,47,48]) f53_L1))))) (.seq (.reg [⟨[],[(4,(.sl 7))],[],none,[],2,[],[],[]⟩]) (.seq (.tidy 2 [4]) .ret))))))))), [(.sl 4)],false⟩
theorem j0I:q0o Go.Proofs.Tryz.prog 53 2 2 f53=true:=by kernel_rfl
/- '(*sloth/lattice.order).fill' -/
def f71_L0:C:= (.seq (.reg [⟨[],[(49,(.bin .lss (.sl 48) (.sl 47)))],[],none,[0,1,5,6,7,43,44,47,48],1,[],[],[]⟩]) (.seq (.cond (.sl 49) .skip (.seq (.tidy 2 [0,1,5,6,7,43,44]) (.exit 2))) (.seq (.block 3 (.seq (.reg [⟨[],[(8,(.sl 48))],[],none,[0,1,5,6,7,43,44,47,48],2,[],[],[]⟩]) (.reg [⟨[],[(7,(.and (.sl 7) (.or (.un .not (.call 27 (.cons (.ld 1 false (.fa 1 (.fa 0 (.sl 0)))) (.cons (.sl 8) (.cons (.sl 5) .nil))))) (.call 27 (.cons (.ld 1 false (.fa 2 (.fa 0 (.sl 0)))) (.cons (.ld 1 false (.ia 1 (.sl 1) (.sl 8))) (.cons (.sl 6) .nil)))))))],[],none,[0,1,5,6,43,44,47,48],24,[[],[0],[0,1],[1,0,2],[2,0,1,3],[3,1,0,2,4],[0,1],[0,1],[7,6,4,2,0,1,3,5],[5,3,1,0,2,4,6,7,8],[8,7,6,4,2,0,1,3,5,9],[9,5,3,1,0,2,4,6,7,8,10],[10,8,7,6,4,2,0,1,3,5,9,11],[11,9,5,3,1,0,2,4,6,7,8,10,12],[12,10,8,7,6,4,2,0,1,3,5,9,11,13],[9,5,3,1,0,2,4,6,7,8,10],[9,5,3,1,0,2,4,6,7,8,10],[16,10,8,7,6,4,2,0,1,3,5,9,15],[15,9,5,3,1,0,2,4,6,7,8,10,16,17],[9,5,3,1,0,2,4,6,7,8,10],[19,17,16,15,18,13,11,9,5,3,1,0,2,4,6,7,8,10,12,14],[14,12,11,13,18,15,16,17,19,20,9,5,3,1,0,2,4,6,7,8,10],[10,8,7,6,4,2,3,5,9,20,19,17,16,15,18,13,11,12,14,21,0,1],[1,0,21,14,12,11,13,18,15,16,17,19,20,9,5,3,2,4,6,7,8,10,22]],[],[]⟩]))) (.reg [⟨[],[(48,(.bin .add (.sl 48) (.int .i64 1)))],[],none,[0,1,5,6,7,43,44,47],2,[],[],[]⟩]))))
def f71_L1:C:= (.seq (.reg [⟨[],[(45,(.bin .lss (.sl 44) (.sl 43)))],[],none,[0,1,5,43,44],1,[],[],[]⟩]) (.seq (.cond (.sl 45) .skip (.seq (.tidy 2 []) (.exit 0))) (.seq (.block 1 (.seq (.reg [⟨[],[(6,(.sl 44))],[],none,[0,1,5,43,44],2,[],[],[]⟩]) (.seq (.reg [⟨[],[(7,(.bool true))],[],none,[0,1,5,6,43,44],1,[],[],[]⟩]) (.seq (.seq (.reg [⟨[],[(47,(.sl 5)),(48,(.int .i64 0))],[],none,[0,1,5,6,7,43,44],2,[],[],[]⟩]) (.block 2 (.seq (.tidy 2 [0,1,5,6,7,43,44,47,48]) (.loop (.seq (.tidy 2 [0,1,5,6,7,43,44,47,48]) f71_L0))))) (.seq (.regg 2 [(⟨[],none⟩,⟨[],[(76,(.sl 7))],[],none,[0,1,5,6,43,44],2,[],[],[]⟩),(⟨[],some (76,true)⟩,⟨[(79,.callo 83 (.cons (.sl 1) .nil)),(81,.lits 1 (.cons (.sl 6) .nil))],[(77,(.sl 0))],[],some (some 82,.app 1 (.sl 79) (.sl 81)),[0,1,5,43,44,76],6,[],[],[]⟩),(⟨[82],some (76,true)⟩,⟨[],[],[],some (some 83,.calle 71 (.cons (.sl 77) (.cons (.sl 82) .nil))),[0,1,5,43,44,76],1,[],[],[]⟩),(⟨[],some (76,true)⟩,⟨[],[(84,(.un .not (.sl 83)))],[],none,[0,1,5,43,44,76],1,[],[],[]⟩),(⟨[],none⟩,⟨[],[(85,(.and (.sl 76) (.sl 84)))],[],none,[0,1,5,43,44],1,[],[],[]⟩)]) (.cond (.sl 85) (.seq (.reg [⟨[],[(4,(.bool false))],[],none,[],1,[],[],[]⟩]) (.seq (.tidy 2 [4]) .ret)) .skip)))))) (.reg [⟨[],[(44,(.bin .add (.sl 44) (.int .i64 1)))],[],none,[0,1,5,43],2,[],[],[]⟩]))))
def f71:Fun:=⟨ (.seq (.reg [⟨[],[],[(.bool false)],none,[0,1],1,[],[],[]⟩]) (.seq (.reg [⟨[],[(5,(.len false (.sl 1)))],[],none,[0,1],3,[],[],[]⟩]) (.seq (.seq (.reg [⟨[],[(19,(.bin .eql (.sl 5) (.ld 1 false (.fa 0 (.fa 0 (.ld 1 false (.fa 1 (.fa 0 (.sl 0)))))))))],[],none,[0,1,5],9,[],[],[]⟩]) (.cond (.sl 19) (.seq (.reg [⟨[(27,.lits 1 (.cons (.call 83 (.cons (.sl 1) .nil)) .nil))],[(20,(.sl 0))],[],some (some 28,.app 1 (.ld 1 false (.fa 3 (.fa 0 (.sl 0)))) (.sl 27)),[0],9,[[],[],[1],[1,2],[2,1,3],[],[5],[5,6],[6,5,7,3,1,2,4],[8,7,6,5,4,3,2,1,0],[0,1,2,3,4,5,6,7,8,9],[9,8,7,6,5,4,3,2,1,0,10]],[],[(.sl 0)]⟩,⟨[],[],[],some (none,.store 1 (.fa 3 (.fa 0 (.sl 20))) (.sl 28)),[0],3,[],[],[]⟩]) (.seq (.reg [⟨[],[(4,(.bin .leq (.len false (.ld 1 false (.fa 3 (.fa 0 (.sl 0))))) (.int .i64 40)))],[],none,[],7,[],[],[]⟩]) (.seq (.tidy 2 [4]) .ret))) .skip)) (.seq (.seq (.reg [⟨[],[(43,(.ld 1 false (.fa 0 (.fa 0 (.ld 1 false (.fa 2 (.fa 0 (.sl 0)))))))),(44,(.int .i64 0))],[],none,[0,1,5],8,[],[],[]⟩]) (.block 0 (.seq (.tidy 2 [0,1,5,43,44]) (.loop (.seq (.tidy 2 [0,1,5,43,44]) f71_L1))))) (.seq (.reg [⟨[],[(4,(.bool true))],[],none,[],1,[],[],[]⟩]) (.seq (.tidy 2 [4]) .ret)))))), [(.sl 4)],false⟩
theorem j0H:q0o Go.Proofs.Tryz.prog 71 2 2 f71=true:=by kernel_rfl
/- '(*sloth/lattice.order).pointwise' -/
def f72_L0:C:= (.seq (.reg [⟨[],[(16,(.bin .lss (.sl 15) (.sl 14)))],[],none,[0,1,2,14,15],1,[],[],[]⟩]) (.seq (.cond (.sl 16) .skip (.seq (.tidy 0 []) (.exit 0))) (.seq (.block 1 (.seq (.reg [⟨[],[(7,(.sl 15))],[],none,[0,1,2,14,15],2,[],[],[]⟩]) (.seq (.reg [⟨[],[(43,(.un .not (.call 27 (.cons (.ld 1 false (.fa 2 (.fa 0 (.sl 0)))) (.cons (.ld 1 false (.ia 1 (.ld 1 false (.ia 1 (.ld 1 false (.fa 3 (.fa 0 (.sl 0)))) (.sl 1))) (.sl 7))) (.cons (.ld 1 false (.ia 1 (.ld 1 false (.ia 1 (.ld 1 false (.fa 3 (.fa 0 (.sl 0)))) (.sl 2))) (.sl 7))) .nil))))))],[],none,[0,1,2,14,15],26,[[],[0],[0,1],[1,0,2],[],[4],[4,5],[5,4,6],[],[8,6,4,5,7],[7,5,4,6,8,9],[],[11,9,8,6,4,5,7,10],[10,7,5,4,6,8,9,11,12],[],[14],[14,15],[15,14,16],[],[18,16,14,15,17],[17,15,14,16,18,19],[],[21,19,18,16,14,15,17,20],[20,17,15,14,16,18,19,21,22],[22,21,19,18,16,14,15,17,20,23,12,11,9,8,6,4,5,7,10,13,2,0,1,3],[3,1,0,2,13,10,7,5,4,6,8,9,11,12,23,20,17,15,14,16,18,19,21,22,24]],[],[]⟩]) (.cond (.sl 43) (.seq (.reg [⟨[],[(6,(.bool false))],[],none,[],1,[],[],[]⟩]) (.seq (.tidy 0 [6]) .ret)) .skip)))) (.reg [⟨[],[(15,(.bin .add (.sl 15) (.int .i64 1)))],[],none,[0,1,2,14],2,[],[],[]⟩]))))
def f72:Fun:=⟨ (.seq (.reg [⟨[],[],[(.bool false)],none,[0,1,2],1,[],[],[]⟩]) (.seq (.seq (.reg [⟨[],[(14,(.ld 1 false (.fa 0 (.fa 0 (.ld 1 false (.fa 1 (.fa 0 (.sl 0)))))))),(15,(.int .i64 0))],[],none,[0,1,2],8,[],[],[]⟩]) (.block 0 (.seq (.tidy 0 [0,1,2,14,15]) (.loop (.seq (.tidy 0 [0,1,2,14,15]) f72_L0))))) (.seq (.reg [⟨[],[(6,(.bool true))],[],none,[],1,[],[],[]⟩]) (.seq (.tidy 0 [6]) .ret)))), [(.sl 6)],false⟩
theorem j4p:q0o Go.Proofs.Tryz.prog 72 0 3 f72=true:=by kernel_rfl
/- 'slices.Clone[[]int,int]' -/
def f83:Fun:=⟨ (.seq (.reg [⟨[],[],[(.nilsl 1)],none,[0],1,[],[],[]⟩]) (.seq (.seq (.reg [⟨[],[(4,(.eqs false false [3] (.sl 0) (.nilsl 1)))],[],none,[0],2,[],[],[]⟩]) (.cond (.sl 4) (.seq (.reg [⟨[],[(2,(.nilsl 1))],[],none,[],1,[],[],[]⟩]) (.seq (.tidy 0 [2]) .ret)) .skip)) (.seq (.reg [⟨[(5,.lits 1 .nil)],[],[],some (some 7,.app 1 (.sl 5) (.sl 0)),[],3,[],[],[]⟩,⟨[],[(2,(.sl 7))],[],none,[],1,[],[],[]⟩]) (.seq (.tidy 0 [2]) .ret)))), [(.sl 2)],true⟩
theorem j4i:q0o Go.Proofs.Tryz.prog 83 0 1 f83=true:=by kernel_rfl
end Go.Vm
end

section
namespace Go.Vm
set_option maxRecDepth 20000
inductive Lat where
 |ch (n:Nat)
 |fn (a b:Lat) (rows:List (List Nat)) (low:List (List Bool))
def Lat.sz:Lat→Nat
 |.ch n=>n
 |.fn _ _ rows _=>rows.length
def natD(v:Nat):List D:=[.int .i64 (v:Int)]
def q1T(v:Bool):List D:=[.bool v]
def rowD(r:List Nat):List D:=[.sl 1 (r.map natD)]
def lowD(r:List Bool):List D:=[.sl 1 (r.map q1T)]
def Lat.cells:Lat→List D
 |.ch n=>[.int .i64 n,.nilp,.nilp,.sl 1 [],.sl 1 []]
 |.fn a b rows low=>[.int .i64 rows.length,.ptr a.cells,.ptr b.cells,.sl 1 (rows.map rowD),.sl 1 (low.map lowD)]
def Lat.le:Lat→Nat→Nat→Bool
 |.ch _,x,y=>decide (x≤y)
 |.fn _ _ _ low,x,y=>nth (nth low (x:Int)) (y:Int)
def Lat.wf:Lat→Prop
 |.ch n=>n≤1000
 |.fn a b rows low=>a.wf∧b.wf∧rows.length≤1000∧low.length=rows.length∧(∀ r∈low,r.length=rows.length)∧∀ r∈rows,r.length=a.sz∧∀ v∈r,v<b.sz
def pD(l:Lat):V:=.d false (.ptr l.cells)
@[reducible] def iN (n:Nat):V:=.d false (.int .i64 (n:Int))
def K27(K:Cx):Prop:=∀(o:Lat)(x y:Nat),o.wf→x<o.sz→y<o.sz→K.call 27 [pD o,iN x,iN y]=some (.bool (o.le x y),[])
theorem z19(K:Cx)(o:Lat)(x y:Nat)(hw:o.wf)(hx:x<o.sz)(hy:y<o.sz):q0c K f27 [pD o,iN x,iN y] []=some (.bool (o.le x y),[],[]):=by
 cases o with
 |ch n=>
  have e:((x:Int)≤(y:Int))=(x≤y):=by simp
  unfold f27
  simp only[pD,Lat.cells,Lat.le,iN]
  simp(disch:=first|decide|omega|(simp only[LN];first|done|omega)) only[SV,SW,Nat.reduceAdd,Nat.reduceBEq,q0r,q0K,q0h,q0n,V.isNilP,e,q0b]
 |fn a b rows low=>
  obtain⟨_,_,_,h1,h2,_⟩:=hw
  simp only[Lat.sz] at hx hy
  have hr:nth low (x:Int)∈low:=by rw[←q2z (n:=(x:Int)) (by simpa using(by omega:x<low.length))];exact List.getElem_mem _
  have hl:=h2 _ hr
  unfold f27
  simp only[pD,Lat.cells,Lat.le,iN]
  simp(disch:=first|decide|omega|(simp only[LN];first|done|omega)) only[SV,SW,Nat.reduceAdd,Nat.reduceBEq,q0r,q0K,q0h,q0n,V.isNilP,lowD,q1T,q0b]
def Lat.tl:Lat→List D
 |.ch _=>[.nilp,.nilp,.sl 1 [],.sl 1 []]
 |.fn a b rows low=>[.ptr a.cells,.ptr b.cells,.sl 1 (rows.map rowD),.sl 1 (low.map lowD)]
theorem q2Z(l:Lat):l.cells=.int .i64 (l.sz:Int) :: l.tl:=by cases l <;> rfl
def ptwR(b:Lat)(f g:List Nat):Nat→Nat→Bool
 |0,_=>true
 |m+1,k=>b.le (nth f (k:Int)) (nth g (k:Int))&&ptwR b f g m (k+1)
def ptw(a b:Lat)(f g:List Nat):Bool:=ptwR b f g a.sz 0
@[reducible] def q7r (s:D) (a b:Lat) (rows:List (List Nat)) (l:D):D:=.ptr [s,.ptr a.cells,.ptr b.cells,.sl 1 (rows.map rowD),l]
def q1K(a b:Lat)(rows:List (List Nat)):Prop:=∀ r∈rows,r.length=a.sz∧∀ v∈r,v<b.sz
def K72(K:Cx):Prop:=∀(s:D)(a b:Lat)(rows:List (List Nat))(l:D)(x y:Nat),b.wf→a.sz≤1000→q1K a b rows→x<rows.length→y<rows.length→K.call 72 [.d false (q7r s a b rows l),iN x,iN y]=some (.bool (ptw a b (nth rows (x:Int)) (nth rows (y:Int))),[])
theorem q1j(k:Nat):((k:Int)+1)=((k+1:Nat):Int):=by omega
theorem q0v{α:Type} [Inhabited α]{l:List α}{x:Nat}(h:x<l.length):nth l (x:Int)∈l:=by
 rw[←q2z (n:=(x:Int)) (by simpa using h)];exact List.getElem_mem _
def z5r:Bool→Option (Ex×S)
 |true=>some (.exit 0,⟨[],[],0,[]⟩)
 |false=>some (.ret,⟨[(6,.bool false)],[],0,[]⟩)
theorem j1L(K:Cx)(h41:K27 K)(s:D)(a b:Lat)(rows:List (List Nat))(l:D)(x y:Nat)(hb:b.wf)(ha:a.sz≤1000)(hr:q1K a b rows)(hx:x<rows.length)(hy:y<rows.length):∀(m k:Nat),k+m=a.sz→
  lp K 0 [0,1,2,14,15] f72_L0 ⟨[(0,.d false (q7r s a b rows l)),(1,iN x),(2,iN y),(14,iN a.sz),(15,iN k)],[],0,[]⟩=z5r (ptwR b (nth rows (x:Int)) (nth rows (y:Int)) m k):=by
 obtain⟨l1,v1⟩:=hr _ (q0v hx)
 obtain⟨l2,v2⟩:=hr _ (q0v hy)
 intro m
 induction m with
 |zero=>
  intro k hk
  simp only[ptwR,z5r]
  rw[q0p f72_L0.eq_1]
  clear v1 v2 hr
  simp(disch:=first|decide|omega|(simp only[LN];first|done|omega)) only[SV,SW,Nat.reduceBEq]
 |succ m ih=>
  intro k hk
  have ih:=ih (k+1) (by omega)
  have w:=h41 b (nth (nth rows (x:Int)) (k:Int)) (nth (nth rows (y:Int)) (k:Int)) hb (v1 _ (q0v (by omega))) (v2 _ (q0v (by omega)))
  simp only[ptwR]
  rw[q0p f72_L0.eq_1]
  clear v1 v2 hr
  simp only[pD,iN] at w ih ⊢
  cases hc:b.le (nth (nth rows (x:Int)) (k:Int)) (nth (nth rows (y:Int)) (k:Int)) with
  |false=>
   rw[hc] at w
   simp only[Bool.false_and,z5r]
   clear ih
   simp(disch:=first|decide|omega|(simp only[LN];first|done|omega)) only[SV,SW,Nat.reduceBEq,rowD,natD,q0a,w]
  |true=>
   rw[hc] at w
   simp only[Bool.true_and]
   rw[←ih]
   clear ih
   simp(disch:=first|decide|omega|(simp only[LN];first|done|omega)) only[SV,SW,Nat.reduceBEq,rowD,natD,q0a,w,q1j]
theorem q9R(K:Cx)(h41:K27 K)(s:D)(a b:Lat)(rows:List (List Nat))(l:D)(x y:Nat)(hb:b.wf)(ha:a.sz≤1000)(hr:q1K a b rows)(hx:x<rows.length)(hy:y<rows.length) :
  q0c K f72 [.d false (q7r s a b rows l),iN x,iN y] []=some (.bool (ptw a b (nth rows (x:Int)) (nth rows (y:Int))),[],[]):=by
 have w:=j1L K h41 s a b rows l x y hb ha hr hx hy a.sz 0 (by omega)
 unfold f72 ptw
 generalize ptwR b (nth rows (x:Int)) (nth rows (y:Int)) a.sz 0=q at w
 simp only[iN,q7r,Int.ofNat_zero,Int.natCast_zero] at w
 have e:=q2Z a
 cases q with
 |true=>
  simp only[z5r,e] at w
  simp only[e,q7r,iN]
  simp(disch:=first|decide|omega|(simp only[LN];first|done|omega)) only[SV,SW,Nat.reduceAdd,Nat.reduceBEq,w,q0b]
 |false=>
  simp only[z5r,e] at w
  simp only[e,q7r,iN]
  simp(disch:=first|decide|omega|(simp only[LN];first|done|omega)) only[SV,SW,Nat.reduceAdd,Nat.reduceBEq,w,q0b]
end Go.Vm
end

section
namespace Go.Vm
set_option maxRecDepth 20000
def fitR(a b:Lat)(row:List Nat)(v:Nat):Nat→Nat→Bool→Bool
 |0,_,q=>q
 |m+1,y,q=>fitR a b row v m (y+1) (q&&(!a.le y row.length||b.le (nth row (y:Int)) v))
def fitB(a b:Lat)(row:List Nat)(v:Nat):Bool:=fitR a b row v row.length 0 true
def q3D(F:List Nat→List (List Nat)→Bool×List (List Nat))(fit:Nat→Bool)(row:List Nat):Nat→Nat→List (List Nat)→Bool×List (List Nat)
 |0,_,found=>(true,found)
 |m+1,v,found=>if fit v then(match F (row++[v]) found with
  |(true,f)=>q3D F fit row m (v+1) f
  |(false,f)=>(false,f)) else q3D F fit row m (v+1) found
def q00(a b:Lat):Nat→List Nat→List (List Nat)→Bool×List (List Nat)
 |0,row,found=>(decide (found.length+1≤40),found++[row])
 |k+1,row,found=>q3D (q00 a b k) (fitB a b row) row b.sz 0 found
@[reducible] def rowV (row:List Nat):V:=.d false (.sl 1 (row.map natD))
def RowV(rv:V)(row:List Nat):Prop:=rv=rowV row∨(row=[]∧rv=.fs false 1 [])
@[reducible] def box5 (a b:Lat) (n:Nat):Blk:=.mix 5 [[.d false (.int .i64 0),pD a,pD b,.bsl 1 0 n,.fs false 1 []]]
@[reducible] def resB (found:List (List Nat)):Blk:=.dat false 1 (found.map rowD)
@[reducible] def mvB:Bool→List Nat
 |true=>[1]
 |false=>[]
theorem j2n(K:Cx)(h41:K27 K)(a b:Lat)(ha:a.wf)(hb:b.wf)(ha2:a.sz≤1000)(row:List Nat)(rv:V)(hrv:RowV rv row)(v:Nat)(hx:row.length<a.sz)(hv:v<b.sz)(hr:∀ u∈row,u<b.sz)(found:List (List Nat))(u:Bool):∀(m y:Nat)(q:Bool),y+m=row.length→
  lp K 2 [0,1,5,6,7,43,44,47,48] f71_L0 ⟨[(0,.ptr 0 0 0),(1,rv),(5,iN row.length),(6,iN v),(7,.d false (.bool q)),(43,iN b.sz),(44,iN v),(47,iN row.length),(48,iN y)],[(0,box5 a b found.length),(1,resB found)],2,mvB u⟩ =
   some (.exit 2,⟨[(0,.ptr 0 0 0),(1,rv),(5,iN row.length),(6,iN v),(7,.d false (.bool (fitR a b row v m y q))),(43,iN b.sz),(44,iN v)],[(0,box5 a b found.length),(1,resB found)],2,mvB u⟩):=by
 intro m
 induction m with
 |zero=>
  intro y q hy
  have hy:y=row.length:=by omega
  subst hy
  simp only[fitR]
  rw[q0p f71_L0.eq_1]
  rcases hrv with rfl|⟨rfl,rfl⟩
  ·clear hr
   simp only[iN,rowV,box5,resB,pD]
   cases u <;> (simp only[mvB];simp(disch:=first|decide|omega|(simp only[LN];first|done|omega)) only[SV,SW,Nat.reduceBEq,q0A,reduceCtorEq,Nat.reduceAdd])
  ·clear hr
   simp only[iN,rowV,box5,resB,pD]
   cases u <;> (simp only[mvB];simp(disch:=first|decide|omega|(simp only[LN];first|done|omega)) only[SV,SW,Nat.reduceBEq,q0A,reduceCtorEq,Nat.reduceAdd])
 |succ m ih=>
  intro y q hy
  have ih:=ih (y+1) (q&&(!a.le y row.length||b.le (nth row (y:Int)) v)) (by omega)
  have w1:=h41 a y row.length ha (by omega) hx
  have w2:=h41 b (nth row (y:Int)) v hb (hr _ (q0v (by omega))) hv
  rcases hrv with rfl|⟨rfl,rfl⟩
  ·simp only[fitR]
   rw[←ih]
   clear ih
   rw[q0p f71_L0.eq_1]
   clear hr
   simp only[pD,iN,rowV,box5,resB] at w1 w2 ⊢
   generalize a.le y row.length=p1 at w1 ⊢
   generalize b.le (nth row (y:Int)) v=p2 at w2 ⊢
   cases u <;> (simp only[mvB];simp(disch:=first|decide|omega|(simp only[LN];first|done|omega)) only[SV,SW,Nat.reduceBEq,q0a,w1,natD,w2,q1j,q0A,reduceCtorEq,Nat.reduceAdd])
  ·simp at hy
def K83(K:Cx):Prop:=(∀ row:List Nat,0<row.length→row.length≤1000→K.call 83 [rowV row]=some (.bsl 0 0 row.length,[.dat true 1 (row.map natD)]))∧K.call 83 [rowV []]=some (.fs true 1 [],[])
def chg(f g:List (List Nat)):Bool:=decide (f.length<g.length)
def E71(K:Cx)(a b:Lat)(k:Nat):Prop:=∀(row:List Nat)(rv:V)(found:List (List Nat)),RowV rv row→row.length+k=a.sz→(∀ u∈row,u<b.sz)→found.length≤40→
 K.eff 71 [.ptr 0 0 0,rv] [box5 a b found.length,resB found]=some (.bool (q00 a b k row found).1,[box5 a b (q00 a b k row found).2.length,resB (q00 a b k row found).2],mvB (chg found (q00 a b k row found).2))
theorem q59{F:List Nat→List (List Nat)→Bool×List (List Nat)}(hF:∀ r f,f.length≤(F r f).2.length∧(f.length≤40→(F r f).1=true→(F r f).2.length≤40)) (fit row):∀ m v found,found.length≤(q3D F fit row m v found).2.length∧(found.length≤40→(q3D F fit row m v found).1=true→(q3D F fit row m v found).2.length≤40)
 |0,v,found=>⟨Nat.le_refl _,fun h _=>h⟩
 |m+1,v,found=>by
  simp only[q3D]
  split
  ·obtain⟨h1,h2⟩:=hF (row++[v]) found
   split
   ·rename_i f he
    rw[he] at h1 h2
    obtain⟨g1,g2⟩:=q59 hF fit row m (v+1) f
    exact⟨Nat.le_trans h1 g1,fun hl hr=>g2 (h2 hl rfl) hr⟩
   ·rename_i f he
    rw[he] at h1
    exact⟨h1,fun _ h=>by cases h⟩
  ·exact q59 hF fit row m (v+1) found
theorem q6a(a b:Lat):∀ k r f,f.length≤(q00 a b k r f).2.length∧(f.length≤40→(q00 a b k r f).1=true→(q00 a b k r f).2.length≤40)
 |0,r,f=>by
  simp only[q00,List.length_append,List.length_singleton,decide_eq_true_eq]
  exact⟨by omega,fun _ h=>h⟩
 |k+1,r,f=>by
  simp only[q00]
  exact q59 (q6a a b k) _ _ _ _ _
theorem q92{f g h:List (List Nat)}(h1:f.length≤g.length)(h2:g.length≤h.length):(chg f g||chg g h)=chg f h:=by
 simp only[chg]
 rw[←Bool.decide_or]
 exact decide_eq_decide.2 (by omega)
def z6e(a b:Lat)(r:Bool×List (List Nat))(u:Bool):Option (Ex×S):=if r.1 then some (.exit 0,⟨[],[(0,box5 a b r.2.length),(1,resB r.2)],2,mvB u⟩) else some (.ret,⟨[(4,.d false (.bool false))],[(0,box5 a b r.2.length),(1,resB r.2)],2,mvB u⟩)
set_option maxHeartbeats 8000000 in
theorem j2s(K:Cx)(h41:K27 K)(h40:K83 K)(a b:Lat)(ha:a.wf)(hb:b.wf)(ha2:a.sz≤1000)(hb2:b.sz≤1000)(k:Nat)(E:E71 K a b k)(row:List Nat)(rv:V)(hrv:RowV rv row)(hx:row.length+(k+1)=a.sz)(hr:∀ u∈row,u<b.sz):∀(m v:Nat)(found:List (List Nat))(u:Bool),v+m=b.sz→found.length≤40→
  lp K 2 [0,1,5,43,44] f71_L1 ⟨[(0,.ptr 0 0 0),(1,rv),(5,iN row.length),(43,iN b.sz),(44,iN v)],[(0,box5 a b found.length),(1,resB found)],2,mvB u⟩ =
   z6e a b (q3D (q00 a b k) (fitB a b row) row m v found) (u||chg found (q3D (q00 a b k) (fitB a b row) row m v found).2):=by
 intro m
 induction m with
 |zero=>
  intro v found u hv hf
  have hv:v=b.sz:=by omega
  subst hv
  have hc:chg found found=false:=by simp [chg]
  simp only[q3D,z6e,hc,Bool.or_false,if_true]
  rw[q0p f71_L1.eq_1]
  clear hr E
  rcases hrv with rfl|⟨rfl,rfl⟩
  ·simp only[iN,rowV,box5,resB,pD]
   cases u <;> (simp only[mvB];simp(disch:=first|decide|omega|(simp only[LN];first|done|omega)) only[SV,SW,Nat.reduceBEq,q0A,reduceCtorEq,Nat.reduceAdd])
  ·simp only[iN,rowV,box5,resB,pD]
   cases u <;> (simp only[mvB];simp(disch:=first|decide|omega|(simp only[LN];first|done|omega)) only[SV,SW,Nat.reduceBEq,q0A,reduceCtorEq,Nat.reduceAdd])
 |succ m ih=>
  intro v found u hv hf
  have wl:=j2n K h41 a b ha hb ha2 row rv hrv v (by omega) (by omega) hr found u row.length 0 true (by omega)
  cases hfit:fitB a b row v with
  |false=>
   have ih:=ih (v+1) found u (by omega) hf
   simp only[q3D,hfit,Bool.false_eq_true,if_false]
   rw[←ih]
   clear ih
   unfold fitB at hfit
   rw[hfit] at wl
   rw[q0p f71_L1.eq_1]
   clear hr E
   rcases hrv with rfl|⟨rfl,rfl⟩
   ·simp only[iN,rowV,box5,resB,pD,Int.natCast_zero,Int.ofNat_zero] at wl ⊢
    cases u <;> (simp only[mvB] at wl⊢;simp(disch:=first|decide|omega|(simp only[LN];first|done|omega)) only[SV,SW,Nat.reduceBEq,q0A,reduceCtorEq,Nat.reduceAdd,wl,q0q,q0i,q0G,q0k,q0s,q1r,q5J,q0a,q3O,q2L,q0y,q05,q9H,q0x,q1j])
   ·simp only[iN,rowV,box5,resB,pD,Int.natCast_zero,Int.ofNat_zero] at wl ⊢
    simp only[List.length_nil] at wl ⊢
    cases u <;> (simp only[mvB] at wl⊢;simp(disch:=first|decide|omega|(simp only[LN];first|done|omega)) only[SV,SW,Nat.reduceBEq,q0A,reduceCtorEq,Nat.reduceAdd,wl,q0q,q0i,q0G,q0k,q0s,q1r,q5J,q0a,q3O,q2L,q0y,q05,q9H,q0x,q1j])
  |true=>
   have w:=E (row++[v]) (rowV (row++[v])) found (.inl rfl) (by simp;omega) (fun u hu=>by
    rcases List.mem_append.1 hu with h|h
    ·exact hr u h
    ·simp at h;omega) hf
   obtain⟨le1,le2⟩:=q6a a b k (row++[v]) found
   simp only[q3D,hfit,if_true]
   unfold fitB at hfit
   rw[hfit] at wl
   obtain⟨q1,q2⟩:=h40
   generalize hq:q00 a b k (row++[v]) found=q at w le1 le2 ⊢
   obtain⟨ok,f⟩:=q
   simp only at w le1 le2
   have e1:(row++[v]).map natD=row.map natD++[[.int .i64 (v:Int)]]:=by rw[List.map_append];rfl
   rw[q0p f71_L1.eq_1]
   clear hr E hq
   cases ok with
   |false=>
    simp only[z6e,Bool.false_eq_true,if_false]
    clear ih
    rcases hrv with rfl|⟨rfl,rfl⟩
    ·rcases Nat.eq_zero_or_pos row.length with h0|h0
     ·obtain rfl:row=[]:=List.eq_nil_of_length_eq_zero h0
      simp only[iN,rowV,box5,resB,pD,Int.natCast_zero,Int.ofNat_zero,e1] at wl w q2 ⊢
      simp only[List.length_nil,List.map_nil,List.nil_append] at wl w q2 ⊢
      generalize chg found f=ch at w ⊢
      cases u <;> cases ch <;> (simp only[mvB,Bool.or_false,Bool.or_true,Bool.false_or,Bool.true_or] at wl w⊢;simp(disch:=first|decide|omega|(simp only[LN];first|done|omega)) only[SV,SW,Nat.reduceBEq,q0A,reduceCtorEq,Nat.reduceAdd,wl,q0q,q0i,q0G,q0k,q0s,q1r,q5J,q0a,q2,V.new2,V.newR,V.shift,lose,q3O,q2L,q0y,q05,q0V,q2U,V.forget,V.drop1,V.ref0,dimL,w,q0W,Nat.reduceSub,q0x])
     ·have q1:=q1 row h0 (by omega)
      simp only[iN,rowV,box5,resB,pD,Int.natCast_zero,Int.ofNat_zero,e1] at wl w q1 ⊢
      generalize chg found f=ch at w ⊢
      cases u <;> cases ch <;> (simp only[mvB,Bool.or_false,Bool.or_true,Bool.false_or,Bool.true_or] at wl w⊢;simp(disch:=first|decide|omega|(simp only[LN];first|done|omega)) only[SV,SW,Nat.reduceBEq,q0A,reduceCtorEq,Nat.reduceAdd,wl,q0q,q0i,q0G,q0k,q0s,q1r,q5J,q0a,q1,V.new2,V.newR,V.shift,lose,V.forget,V.drop1,V.ref0,q3O,q2L,q0y,q05,q0V,q3c,dimL,w,q0W,Nat.reduceSub,q0x])
    ·simp only[iN,rowV,box5,resB,pD,Int.natCast_zero,Int.ofNat_zero,e1] at wl w q2 ⊢
     simp only[List.length_nil,List.map_nil,List.nil_append] at wl w q2 ⊢
     generalize chg found f=ch at w ⊢
     cases u <;> cases ch <;> (simp only[mvB,Bool.or_false,Bool.or_true,Bool.false_or,Bool.true_or] at wl w⊢;simp(disch:=first|decide|omega|(simp only[LN];first|done|omega)) only[SV,SW,Nat.reduceBEq,q0A,reduceCtorEq,Nat.reduceAdd,wl,q0q,q0i,q0G,q0k,q0s,q1r,q5J,q0a,q2,V.new2,V.newR,V.shift,lose,q3O,q2L,q0y,q05,q0V,q2U,V.forget,V.drop1,V.ref0,dimL,w,q0W,Nat.reduceSub,q0x])
   |true=>
    simp only
    have g:=q59 (q6a a b k) (fitB a b row) row m (v+1) f
    have hct:=q92 le1 g.1
    have ih:=ih (v+1) f (u||chg found f) (by omega) (le2 hf rfl)
    rw[Bool.or_assoc,hct] at ih
    rw[←ih]
    clear ih hct g
    rcases hrv with rfl|⟨rfl,rfl⟩
    ·rcases Nat.eq_zero_or_pos row.length with h0|h0
     ·obtain rfl:row=[]:=List.eq_nil_of_length_eq_zero h0
      simp only[iN,rowV,box5,resB,pD,Int.natCast_zero,Int.ofNat_zero,e1] at wl w q2 ⊢
      simp only[List.length_nil,List.map_nil,List.nil_append] at wl w q2 ⊢
      generalize chg found f=ch at w ⊢
      cases u <;> cases ch <;> (simp only[mvB,Bool.or_false,Bool.or_true,Bool.false_or,Bool.true_or] at wl w⊢;simp(disch:=first|decide|omega|(simp only[LN];first|done|omega)) only[SV,SW,Nat.reduceBEq,q0A,reduceCtorEq,Nat.reduceAdd,wl,q0q,q0i,q0G,q0k,q0s,q1r,q5J,q0a,q2,V.new2,V.newR,V.shift,lose,q3O,q2L,q0y,q05,q0V,q2U,V.forget,V.drop1,V.ref0,dimL,w,q0W,Nat.reduceSub,q0x,q1j])
     ·have q1:=q1 row h0 (by omega)
      simp only[iN,rowV,box5,resB,pD,Int.natCast_zero,Int.ofNat_zero,e1] at wl w q1 ⊢
      generalize chg found f=ch at w ⊢
      cases u <;> cases ch <;> (simp only[mvB,Bool.or_false,Bool.or_true,Bool.false_or,Bool.true_or] at wl w⊢;simp(disch:=first|decide|omega|(simp only[LN];first|done|omega)) only[SV,SW,Nat.reduceBEq,q0A,reduceCtorEq,Nat.reduceAdd,wl,q0q,q0i,q0G,q0k,q0s,q1r,q5J,q0a,q1,V.new2,V.newR,V.shift,lose,V.forget,V.drop1,V.ref0,q3O,q2L,q0y,q05,q0V,q3c,dimL,w,q0W,Nat.reduceSub,q0x,q1j])
    ·simp only[iN,rowV,box5,resB,pD,Int.natCast_zero,Int.ofNat_zero,e1] at wl w q2 ⊢
     simp only[List.length_nil,List.map_nil,List.nil_append] at wl w q2 ⊢
     generalize chg found f=ch at w ⊢
     cases u <;> cases ch <;> (simp only[mvB,Bool.or_false,Bool.or_true,Bool.false_or,Bool.true_or] at wl w⊢;simp(disch:=first|decide|omega|(simp only[LN];first|done|omega)) only[SV,SW,Nat.reduceBEq,q0A,reduceCtorEq,Nat.reduceAdd,wl,q0q,q0i,q0G,q0k,q0s,q1r,q5J,q0a,q2,V.new2,V.newR,V.shift,lose,q3O,q2L,q0y,q05,q0V,q2U,V.forget,V.drop1,V.ref0,dimL,w,q0W,Nat.reduceSub,q0x,q1j])
end Go.Vm
end

section
namespace Go.Vm
set_option maxRecDepth 20000
def segA:Seg:=⟨[(27,.lits 1 (.cons (.call 83 (.cons (.sl 1) .nil)) .nil))],[(20,(.sl 0))],[],some (some 28,.app 1 (.ld 1 false (.fa 3 (.fa 0 (.sl 0)))) (.sl 27)),[0],9,[[],[],[1],[1,2],[2,1,3],[],[5],[5,6],[6,5,7,3,1,2,4],[8,7,6,5,4,3,2,1,0],[0,1,2,3,4,5,6,7,8,9],[9,8,7,6,5,4,3,2,1,0,10]],[],[(.sl 0)]⟩
theorem j1x(K:Cx)(h40:K83 K)(a b:Lat)(row:List Nat)(h0:0<row.length)(h1:row.length≤1000)(found:List (List Nat))(hf:found.length≤40) :
  q1g K ⟨[(19,.d false (.bool true)),(0,.ptr 0 0 0),(1,rowV row),(5,iN row.length)],[(0,box5 a b found.length),(1,resB found)],2,[]⟩ segA=some ⟨[(28,.bsl 1 0 (found.length+1)),(20,.ptr 0 0 0),(0,.ptr 0 0 0)],
   [(2,.dat false 1 [[.sl 1 (row.map natD)]]),(0,.mix 5 [[.d false (.int .i64 0),pD a,pD b,.junk,.fs false 1 []]]),(1,.dat false 1 (found.map rowD++[[.sl 1 (row.map natD)]]))],3,[1]⟩:=by
 have q1:=h40.1 row h0 h1
 refine q01 ?_ ?_
 ·unfold segA
  rw[q1A]
  simp only[iN,rowV,box5,resB,pD] at q1 ⊢
  simp(disch:=first|decide|omega|(simp only[LN];first|done|omega)) only[SV,SW,Nat.reduceBEq,q0a,q1,q8a,Nat.reduceAdd,lose,V.forget,V.drop1,V.ref0,reduceCtorEq]
 ·unfold segA q4p
  simp only[iN,rowV,box5,resB,pD] at q1 ⊢
  simp(disch:=first|decide|omega|(simp only[LN];first|done|omega)) only[SV,SW,List.isEmpty_cons,Nat.reduceBEq,q0a,q1,q8a,Nat.reduceAdd,q2g,q2Y,reduceCtorEq,Nat.reduceEqDiff,q2i,q3a]
theorem z9M(K:Cx)(h40:K83 K)(a b:Lat)(row:List Nat)(rv:V)(hrv:RowV rv row)(h0:0<row.length)(hz:row.length=a.sz)(h1:a.sz≤1000)(found:List (List Nat))(hf:found.length≤40) :
  q0c K f71 [.ptr 0 0 0,rv] [box5 a b found.length,resB found]=some (.bool (q00 a b 0 row found).1,[box5 a b (q00 a b 0 row found).2.length,resB (q00 a b 0 row found).2],mvB (chg found (q00 a b 0 row found).2)):=by
 obtain rfl:rv=rowV row:=by
  rcases hrv with h|⟨h,_⟩
  ·exact h
  ·subst h;simp at h0
 have w:=j1x K h40 a b row h0 (by omega) found hf
 have e:=q2Z a
 have hc:chg found (found++[row])=true:=by simp [chg]
 have hle:((found.length:Int)+1≤40)=(found.length+1≤40):=by simp only[eq_iff_iff];omega
 simp only[q00,hc,mvB,List.map_append,List.map_cons,List.map_nil,List.length_append,List.length_cons,List.length_nil]
 unfold f71
 unfold segA at w
 simp only[iN,rowV,box5,resB,pD,e,hz,rowD] at w ⊢
 simp(disch:=first|decide|omega|(simp only[LN];first|done|omega)) only[SV,SW,Nat.reduceAdd,Nat.reduceBEq,hz,w,lose,q0A,reduceCtorEq,q0b,hNew,V.forget,V.drop1,V.ref0,V.newR,q0a,Nat.reduceLeDiff]
 have hd:decide (((found.length+1:Nat):Int)≤40)=decide (found.length≤39):=decide_eq_decide.2 (by omega)
 refine⟨by rw[hd],?_⟩
 rw[List.map_append]
 rfl
theorem z9L(K:Cx)(h41:K27 K)(h40:K83 K)(a b:Lat)(ha:a.wf)(hb:b.wf)(ha2:a.sz≤1000)(hb2:b.sz≤1000)(k:Nat)(E:E71 K a b k)(row:List Nat)(rv:V)(hrv:RowV rv row)(hx:row.length+(k+1)=a.sz)(hr:∀ u∈row,u<b.sz)(found:List (List Nat))(hf:found.length≤40) :
  q0c K f71 [.ptr 0 0 0,rv] [box5 a b found.length,resB found]=some (.bool (q00 a b (k+1) row found).1,[box5 a b (q00 a b (k+1) row found).2.length,resB (q00 a b (k+1) row found).2],mvB (chg found (q00 a b (k+1) row found).2)):=by
 have w:=j2s K h41 h40 a b ha hb ha2 hb2 k E row rv hrv hx hr b.sz 0 found false (by omega) hf
 have e:=q2Z a
 have e2:=q2Z b
 have hne:((row.length:Int)==(a.sz:Int))=false:=by simp;omega
 have hne0:((0:Int)==(a.sz:Int))=false∨0<row.length:=by
  rcases Nat.eq_zero_or_pos row.length with h|h
  ·exact .inl (by simp;omega)
  ·exact .inr h
 simp only[q00]
 generalize q3D (q00 a b k) (fitB a b row) row b.sz 0 found=q at w ⊢
 obtain⟨ok,f⟩:=q
 clear E hr
 unfold f71
 rcases hrv with rfl|⟨rfl,rfl⟩
 ·simp only[iN,rowV,box5,resB,pD,e,e2,Int.natCast_zero,Int.ofNat_zero,Bool.false_or] at w ⊢
  generalize chg found f=ch at w ⊢
  cases ok <;> cases ch <;> (simp only[z6e,iN,rowV,box5,resB,pD,e,e2,mvB,if_true,if_false,Bool.false_eq_true] at w⊢;simp(disch:=first|decide|omega|(simp only[LN];first|done|omega)) only[SV,SW,Nat.reduceAdd,Nat.reduceBEq,hne,q0A,reduceCtorEq,w,q0b,hNew,V.forget,V.drop1,V.ref0,V.newR,q0a])
 ·have hne1:((0:Int)==(a.sz:Int))=false:=hne0.resolve_right (by simp)
  simp only[iN,rowV,box5,resB,pD,e,e2,Int.natCast_zero,Int.ofNat_zero,Bool.false_or] at w ⊢
  simp only[List.length_nil] at w ⊢
  generalize chg found f=ch at w ⊢
  cases ok <;> cases ch <;> (simp only[z6e,iN,rowV,box5,resB,pD,e,e2,mvB,if_true,if_false,Bool.false_eq_true] at w⊢;simp(disch:=first|decide|omega|(simp only[LN];first|done|omega)) only[SV,SW,Nat.reduceAdd,Nat.reduceBEq,q0A,reduceCtorEq,w,q0b,hNew,V.forget,V.drop1,V.ref0,V.newR,q0a])
end Go.Vm
end

section
namespace Go.Vm
set_option maxRecDepth 20000
open Go.Proofs Go.RowKit
theorem q0L{α β:Type}{f:α→β}(hf:∀ x y,f x=f y→x=y):∀ l l':List α,l.map f=l'.map f→l=l'
 |[],[],_=>rfl
 |[],_ :: _,h=>by simp at h
 |_ :: _,[],h=>by simp at h
 |a :: l,b :: l',h=>by
  simp only[List.map_cons,List.cons.injEq] at h
  rw[hf a b h.1,q0L hf l l' h.2]
theorem q3p(x y:Nat)(h:natD x=natD y):x=y:=by
 simp only[natD,List.cons.injEq,D.int.injEq,true_and,and_true] at h
 omega
theorem z7s(x y:Bool)(h:q1T x=q1T y):x=y:=by
 simpa [q1T] using h
theorem q4L(x y:List Nat)(h:rowD x=rowD y):x=y:=by
 simp only[rowD,List.cons.injEq,D.sl.injEq,true_and,and_true] at h
 exact q0L q3p x y h
theorem z8Z(x y:List Bool)(h:lowD x=lowD y):x=y:=by
 simp only[lowD,List.cons.injEq,D.sl.injEq,true_and,and_true] at h
 exact q0L z7s x y h
theorem q1Q:∀ x y:Lat,x.cells=y.cells→x=y
 |.ch n,.ch m,h=>by
  simp only[Lat.cells,List.cons.injEq,D.int.injEq,true_and,and_true] at h
  rw[Int.natCast_inj.1 h]
 |.ch _,.fn _ _ _ _,h=>by simp [Lat.cells] at h
 |.fn _ _ _ _,.ch _,h=>by simp [Lat.cells] at h
 |.fn a b r l,.fn a' b' r' l',h=>by
  simp only[Lat.cells,List.cons.injEq,D.ptr.injEq,D.sl.injEq,true_and,and_true] at h
  obtain⟨_,h1,h2,h3,h4⟩:=h
  rw[q1Q a a' h1,q1Q b b' h2,q0L q4L _ _ h3,q0L z8Z _ _ h4]
noncomputable def z27:Sp where
 α:=Lat×Nat×Nat
 f:=27
 ok:=fun(o,x,y)=>o.wf∧x<o.sz∧y<o.sz
 args:=fun(o,x,y)=>[pD o,iN x,iN y]
 res:=fun(o,x,y)=>(.bool (o.le x y),[])
 inj:=by
  rintro⟨o,x,y⟩ ⟨o',x',y'⟩ _ _ h
  simp only[pD,iN,List.cons.injEq,V.d.injEq,D.ptr.injEq,D.int.injEq,true_and,and_true,Int.natCast_inj] at h
  obtain⟨h1,rfl,rfl⟩:=h
  obtain rfl:=q1Q _ _ h1
  rfl
noncomputable def z83:Sp where
 α:=List Nat
 f:=83
 ok:=fun r=>r.length≤1000
 args:=fun r=>[rowV r]
 res:=fun r=>if r=[] then(.fs true 1 [],[]) else(.bsl 0 0 r.length,[.dat true 1 (r.map natD)])
 inj:=by
  intro r r' _ _ h
  simp only[rowV,List.cons.injEq,V.d.injEq,D.sl.injEq,true_and,and_true] at h
  rw[q0L q3p r r' h]
noncomputable def z72:Sp where
 α:=D×Lat×Lat×List (List Nat)×D×Nat×Nat
 f:=72
 ok:=fun(_,a,b,rows,_,x,y)=>b.wf∧a.sz≤1000∧q1K a b rows∧x<rows.length∧y<rows.length
 args:=fun(s,a,b,rows,l,x,y)=>[.d false (q7r s a b rows l),iN x,iN y]
 res:=fun(_,a,b,rows,_,x,y)=>(.bool (ptw a b (nth rows (x:Int)) (nth rows (y:Int))),[])
 inj:=by
  rintro⟨s,a,b,rows,l,x,y⟩ ⟨s',a',b',rows',l',x',y'⟩ _ _ h
  simp only[q7r,iN,List.cons.injEq,V.d.injEq,D.ptr.injEq,D.int.injEq,D.sl.injEq,true_and,and_true,Int.natCast_inj] at h
  obtain⟨⟨rfl,h1,h2,h3,rfl⟩,rfl,rfl⟩:=h
  obtain rfl:=q1Q _ _ h1
  obtain rfl:=q1Q _ _ h2
  obtain rfl:=q0L q4L _ _ h3
  rfl
noncomputable def y71(a b:Lat)(k:Nat):Se where
 α:=List Nat×V×List (List Nat)
 f:=71
 ok:=fun(row,rv,found)=>RowV rv row∧row.length+k=a.sz∧(∀ u∈row,u<b.sz)∧found.length≤40
 args:=fun(_,rv,_)=>[.ptr 0 0 0,rv]
 blks:=fun(_,_,found)=>[box5 a b found.length,resB found]
 res:=fun(row,_,found)=>(.bool (q00 a b k row found).1,[box5 a b (q00 a b k row found).2.length,resB (q00 a b k row found).2],mvB (chg found (q00 a b k row found).2))
 inj:=by
  rintro⟨row,rv,found⟩ ⟨row',rv',found'⟩ ⟨h1,_⟩ ⟨h2,_⟩ h h'
  simp only[List.cons.injEq,true_and,and_true] at h
  subst h
  simp only[resB,List.cons.injEq,Blk.dat.injEq,true_and,and_true] at h'
  obtain rfl:=q0L q4L _ _ h'.2
  have:row=row':=by
   rcases h1 with rfl|⟨rfl,rfl⟩
   ·rcases h2 with h|⟨rfl,h⟩
    ·simp only[rowV,V.d.injEq,D.sl.injEq,true_and] at h
     exact q0L q3p _ _ h
    ·simp [rowV] at h
   ·rcases h2 with h|⟨rfl,_⟩
    ·simp [rowV] at h
    ·rfl
  subst this
  rfl
theorem z3o(K:Cx)(r:List Nat)(h0:0<r.length)(h1:r.length≤1000):q0c K f83 [rowV r] []=some (.bsl 0 0 r.length,[.dat true 1 (r.map natD)],[]):=by
 have hne:r.map natD≠[]:=by
  intro h
  have:=congrArg List.length h
  simp at this
  subst this
  simp at h0
 have hni:(V.d false (.sl 1 (r.map natD))).isNilS=some false:=by
  cases r with
  |nil=>simp at h0
  |cons x r=>rfl
 have hfl:q0E (r.map natD)=true:=q3U r natD (fun x=>rfl)
 unfold f83
 simp only[rowV]
 simp(disch:=first|decide|omega|(simp only[LN];first|done|omega)) only[SX,SW,q0K,q0h,q0n,hni,mkBlk,Nat.reduceBEq,hfl,lose,V.forget,V.drop1,V.ref0,forgetH,Blk.forget,q0b,hNew,V.newR,q0a,finB]
theorem z9b{s:Se}{L':List Se}:HasE (s :: L') s:=q3Q s L'
theorem z5W{G L E}(h:Has L z27):K27 (cx G L E):=fun o x y h1 h2 h3=>h (o,x,y) ⟨h1,h2,h3⟩
theorem j0C{G L E}(h:Has L z83):K83 (cx G L E):=⟨fun r h1 h2=>by
  have:=h r h2
  have hne:r≠[]:=by rintro rfl;simp at h1
  simp only[z83,if_neg hne] at this
  exact this,by
  have:=h [] (by simp [z83])
  simp only[z83,if_true] at this
  exact this⟩
theorem j5C{G L E a b k}(h:HasE E (y71 a b k)):E71 (cx G L E) a b k:=fun row rv found h1 h2 h3 h4=>h (row,rv,found) ⟨h1,h2,h3,h4⟩
theorem z5U(G:Nat→Option (List D)):Known Tryz.prog G [z83,z27] []:=by
 refine Known.put (Known.add (s:=z27) Known.nil q0e (g:=f27) (fun a _=>j0K) fun⟨o,x,y⟩ ⟨h1,h2,h3⟩=>⟨_,z19 _ o x y h1 h2 h3⟩) ?_
 intro r hr
 refine⟨by kernel_rfl,?_⟩
 simp only[z83]
 split
 ·rename_i h
  subst h
  exact q9p
 ·rename_i h
  exact(q2o q0e (Known.nil (G:=G)).sound j4i (z3o _ r (List.length_pos_iff.2 h) hr)).2
theorem h40':Has [z83,z27] z83:=q1u _ _
theorem h41':Has [z83,z27] z27:=q14 (q1u _ _) (by decide)
theorem z72h(G:Nat→Option (List D)):z72.Holds Tryz.prog G:=
 q0d q0e (z5U G).sound (g:=f72) (fun a _=>j4p) fun⟨s,a,b,rows,l,x,y⟩ ⟨h1,h2,h3,h4,h5⟩=>⟨_,q9R _ (z5W h41') s a b rows l x y h1 h2 h3 h4 h5⟩
theorem y71h(G:Nat→Option (List D))(a b:Lat)(ha:a.wf)(hb:b.wf)(ha2:a.sz≤1000)(hb2:b.sz≤1000)(h0:0<a.sz):∀ k,(y71 a b k).Holds Tryz.prog G
 |0=>q41 q0e (z5U G).sound (g:=f71) (fun x _=>j0H) fun⟨row,rv,found⟩ ⟨h1,h2,h3,h4⟩=>z9M _ (j0C h40') a b row rv h1 (by omega) (by omega) ha2 found h4
 |k+1=>q41 q0e ((z5U G).putE (y71h G a b ha hb ha2 hb2 h0 k)).sound (g:=f71) (fun x _=>j0H) fun⟨row,rv,found⟩ ⟨h1,h2,h3,h4⟩=>z9L _ (z5W h41') (j0C h40') a b ha hb ha2 hb2 k (j5C z9b) row rv h1 (by omega) h3 found h4
end Go.Vm
end

section
namespace Go.Vm
set_option maxRecDepth 20000
def oV:Option Lat→V
 |some l=>pD l
 |none=>.d false .nilp
def q0C(l:List (List UInt8×Option Lat)):List (D×V):=l.map fun q=>(.str q.1,oV q.2)
theorem j1T(o:Option Lat):(oV o).refs=[]:=by cases o <;> rfl
theorem q0m(l:List (List UInt8×Option Lat)):(q0C l).flatMap (fun q=>q.2.refs)=[]:=by
 induction l with
 |nil=>rfl
 |cons q l ih=>
  simp only[q0C,List.map_cons,List.flatMap_cons,j1T,List.nil_append]
  exact ih
theorem q0f(l:List (List UInt8×Option Lat))(p:Nat→Bool):(q0C l).all (fun q=>q.2.within p)=true:=by
 simp only[q0C,List.all_map,List.all_eq_true]
 intro q _
 cases h:q.2 <;> simp [h,oV,pD,V.within]
theorem q0u(l:List (List UInt8×Option Lat))(g:Nat→Nat):(q0C l).map (fun q=>(q.1,q.2.ren g))=q0C l:=by
 simp only[q0C,List.map_map]
 refine List.map_congr_left fun q _=>?_
 cases h:q.2 <;> simp [h,oV,pD,V.ren]
theorem q3v(l:List (List UInt8×Option Lat)):(q0C l).map (fun q=>(q.1,q.2.dim))=q0C l:=by
 simp only[q0C,List.map_map]
 refine List.map_congr_left fun q _=>?_
 cases h:q.2 <;> simp [h,oV,pD,V.dim]
theorem q13(l:List (List UInt8×Option Lat))(p:Nat→Bool):Blk.forget p (.map (q0C l))=.map (q0C l):=by
 simp only[Blk.forget,q0C,List.map_map]
 congr 1
 refine List.map_congr_left fun q _=>?_
 cases h:q.2 <;> simp [h,oV,pD,V.forget,V.drop1]
def rowR(p:Nat→Bool):Nat→Nat→List Bool→List Bool
 |0,_,l=>l
 |m+1,j,l=>rowR p m (j+1) (l.set j (p j))
theorem z1z(p):∀ m j l,(rowR p m j l).length=l.length
 |0,_,_=>rfl
 |m+1,j,l=>by rw[rowR,z1z p m];simp
def lowC(b:Nat):List (List Bool)→V
 |[]=>.fs false 1 []
 |x :: l=>.bsl b 0 (l.length+1)
def lowH(b:Nat):List (List Bool)→List (Nat×Blk)
 |[]=>[]
 |x :: l=>[(b,.dat true 1 ((x :: l).map lowD))]
def lowN:List (List Bool)→Nat
 |[]=>0
 |_ :: _=>1
def fnH(a b:Lat)(f:List (List Nat))(es:List (List UInt8×Option Lat))(low:List (List Bool)):List (Nat×Blk):=
 [(0,.mix 1 [[.map 1]]),(1,.map (q0C es)),(2,.mix 5 [[iN f.length,pD a,pD b,.bsl 3 0 f.length,lowC 4 low]]),(3,resB f)]++lowH 4 low
def fnI(a b:Lat)(f:List (List Nat))(es:List (List UInt8×Option Lat))(low:List (List Bool))(l:List Bool):List (Nat×Blk):=
 [(0,.mix 1 [[.map 1]]),(1,.map (q0C es)),(2,.mix 5 [[iN f.length,pD a,pD b,.bsl 4 0 f.length,lowC 5 low]]),(3,.dat true 1 (l.map q1T)),(4,resB f)]++lowH 5 low
theorem z1t(c:Bool)(l:List Bool)(j:Nat)(v:Bool)(hj:j<l.length):(Blk.dat c 1 (l.map q1T)).set j 0 [.d false (.bool v)]=some (.dat c 1 ((l.set j v).map q1T)):=by
 rw[q51 (hi:=hj)]
 simp [q1T,mapO,asD,setD,splice,V.new1,D.flat,List.map_set]
theorem j2j(K:Cx)(h33:K72 K)(a b:Lat)(hb:b.wf)(ha:a.sz≤1000)(f:List (List Nat))(hf:q1K a b f)(hn:f.length≤1000)(es:List (List UInt8×Option Lat))(low:List (List Bool))(x:Nat)(hx:x<f.length):∀(m j:Nat)(l:List Bool),j+m=f.length→l.length=f.length→
  lp K 2 [7,8,9,47,48,59,60] f53_L0 ⟨[(7,.ptr 2 0 0),(8,iN x),(9,.bsl 3 0 f.length),(47,iN f.length),(48,iN x),(59,iN f.length),(60,iN j)],fnI a b f es low l,5+lowN low,[]⟩ =
   some (.exit 2,⟨[(7,.ptr 2 0 0),(9,.bsl 3 0 f.length),(47,iN f.length),(48,iN x)],fnI a b f es low (rowR (fun y=>ptw a b (nth f (x:Int)) (nth f (y:Int))) m j l),5+lowN low,[]⟩):=by
 intro m
 induction m with
 |zero=>
  intro j l hj hl
  obtain rfl:j=f.length:=by omega
  simp only[rowR]
  rw[q0p f53_L0.eq_1]
  clear hf
  cases low with
  |nil=>
   simp only[fnI,lowH,lowC,lowN,iN,pD,resB,List.append_nil,List.cons_append,List.nil_append]
   simp(disch:=first|decide|omega|(simp only[LN];first|done|omega)) only[SV,SW,Nat.reduceBEq,q0A,q0m,reduceCtorEq,Nat.reduceEqDiff,q0f,Nat.reduceAdd,q0u]
  |cons y low=>
   simp only[fnI,lowH,lowC,lowN,iN,pD,resB,List.append_nil,List.cons_append,List.nil_append]
   simp(disch:=first|decide|omega|(simp only[LN];first|done|omega)) only[SV,SW,Nat.reduceAdd,Nat.reduceBEq,q0A,q0m,reduceCtorEq,Nat.reduceEqDiff,q0f,q0u]
 |succ m ih=>
  intro j l hj hl
  have ih:=ih (j+1) (l.set j (ptw a b (nth f (x:Int)) (nth f (j:Int)))) (by omega) (by simpa using hl)
  have hset:=fun c=>z1t c l j (ptw a b (nth f (x:Int)) (nth f (j:Int))) (by omega)
  simp only[rowR]
  rw[←ih]
  clear ih
  rw[q0p f53_L0.eq_1]
  cases low with
  |nil=>
   have w:=h33 (.int .i64 f.length) a b f (.sl 1 []) x j hb ha hf hx (by omega)
   clear hf
   simp only[q7r,iN] at w
   simp only[fnI,lowH,lowC,lowN,iN,pD,resB,List.append_nil,List.cons_append,List.nil_append]
   generalize ptw a b (nth f (x:Int)) (nth f (j:Int))=q at *
   simp(disch:=first|decide|omega|(simp only[LN];first|done|omega)) only[SV,SW,Nat.reduceBEq,q0a,w,hset,lose,q1j,q0A,q0m,reduceCtorEq,Nat.reduceEqDiff,q0f,Nat.reduceAdd,q0u]
  |cons y low=>
   have w:=h33 (.int .i64 f.length) a b f (.sl 1 ((y :: low).map lowD)) x j hb ha hf hx (by omega)
   clear hf
   simp only[q7r,iN,List.map_cons] at w
   simp only[fnI,lowH,lowC,lowN,iN,pD,resB,List.append_nil,List.cons_append,List.nil_append]
   generalize ptw a b (nth f (x:Int)) (nth f (j:Int))=q at *
   simp(disch:=first|decide|omega|(simp only[LN];first|done|omega)) only[SV,SW,Nat.reduceAdd,Nat.reduceBEq,q0a,w,hset,lose,q1j,q0A,q0m,reduceCtorEq,Nat.reduceEqDiff,q0f,q0u]
def q4K(a b:Lat)(f:List (List Nat))(x:Nat):List Bool:=rowR (fun y=>ptw a b (nth f (x:Int)) (nth f (y:Int))) f.length 0 (List.replicate f.length false)
def lowR(a b:Lat)(f:List (List Nat)):Nat→Nat→List (List Bool)→List (List Bool)
 |0,_,low=>low
 |m+1,k,low=>lowR a b f m (k+1) (low++[q4K a b f k])
theorem q6r(a b f x):(q4K a b f x).length=f.length:=by rw[q4K,z1z];simp
set_option maxHeartbeats 2000000 in
theorem z8J(K:Cx)(h33:K72 K)(a b:Lat)(hb:b.wf)(ha:a.sz≤1000)(f:List (List Nat))(hf:q1K a b f)(hn:f.length≤1000)(es:List (List UInt8×Option Lat)):∀(m k:Nat)(low:List (List Bool)),k+m=f.length→low.length=k→
  lp K 2 [7,47,48] f53_L1 ⟨[(7,.ptr 2 0 0),(47,iN f.length),(48,iN k)],fnH a b f es low,4+lowN low,[]⟩ =
   some (.exit 0,⟨[(7,.ptr 2 0 0)],fnH a b f es (lowR a b f m k low),4+lowN (lowR a b f m k low),[]⟩):=by
 intro m
 induction m with
 |zero=>
  intro k low hk hl
  obtain rfl:k=f.length:=by omega
  simp only[lowR]
  rw[q0p f53_L1.eq_1]
  clear hf
  cases low with
  |nil=>
   simp only[fnH,lowH,lowC,lowN,iN,pD,resB,List.append_nil,List.cons_append,List.nil_append]
   simp(disch:=first|decide|omega|(simp only[LN];first|done|omega)) only[SV,SW,Nat.reduceBEq,q0A,q0m,reduceCtorEq,Nat.reduceEqDiff,q0f,Nat.reduceAdd,q0u]
  |cons y low=>
   simp only[fnH,lowH,lowC,lowN,iN,pD,resB,List.append_nil,List.cons_append,List.nil_append]
   simp(disch:=first|decide|omega|(simp only[LN];first|done|omega)) only[SV,SW,Nat.reduceAdd,Nat.reduceBEq,q0A,q0m,reduceCtorEq,Nat.reduceEqDiff,q0f,q0u]
 |succ m ih=>
  intro k low hk hl
  have ih:=ih (k+1) (low++[q4K a b f k]) (by omega) (by simp [hl])
  have wl:=j2j K h33 a b hb ha f hf hn es low k (by omega) f.length 0 (List.replicate f.length false) (by omega) (by simp)
  have hR:=q6r a b f k
  change lp K 2 _ _ _=some (.exit 2,⟨_,fnI a b f es low (q4K a b f k),_,_⟩) at wl
  simp only[lowR]
  rw[←ih]
  clear ih hf
  generalize q4K a b f k=R at *
  rw[q0p f53_L1.eq_1]
  cases low with
  |nil=>
   simp only[fnI,fnH,lowH,lowC,lowN,iN,pD,resB,List.append_nil,List.cons_append,List.nil_append,List.map_replicate,q1T,List.length_nil,Int.natCast_zero,Int.ofNat_zero] at wl ⊢
   simp(disch:=first|decide|omega|(simp only[LN];first|done|omega)) only[SX,SW,Nat.reduceBEq,q2h,q3q,Nat.reduceAdd,q0A,q0m,reduceCtorEq,Nat.reduceEqDiff,q0f,q0u,wl,q0q,q0i,q0y,q05,q0V,q58,V.forget,V.drop1,V.ref0,forgetH,q0S,q13,forget_dat,q0G,q0k,mkBlk,lose,q0s,q0x,q1j,lowD]
  |cons y low=>
   simp only[fnI,fnH,lowH,lowC,lowN,iN,pD,resB,List.append_nil,List.cons_append,List.nil_append,List.map_replicate,q1T,List.length_nil,Int.natCast_zero,Int.ofNat_zero,List.map_cons,List.map_append,List.map_nil,List.length_append,List.length_cons,Nat.zero_add,lowD] at wl ⊢
   simp only[List.length_cons] at hl
   simp(disch:=first|decide|omega|(simp only[LN];first|done|omega)) only[SX,SW,Nat.reduceAdd,Nat.reduceBEq,q2h,q3q,q0A,q0m,reduceCtorEq,Nat.reduceEqDiff,q0f,q0u,wl,q0q,q0i,q0y,q05,q0V,q58,V.forget,V.drop1,V.ref0,forgetH,q0S,q13,forget_dat,q0G,q0k,mkBlk,lose,q0s,q0x,q1j]
end Go.Vm
end

section
namespace Go.Vm
set_option maxRecDepth 20000
theorem z9e{m t:Nat}{s:S}{b k:Nat}{row:List V}{ds:List D}(h:look s.rho t=some (.ptr b 0 0))(hb:look s.heap b=some (.mix k [row]))(hr:mapO asD row=some ds)(h1:m≤b)(h2:0<ds.length) :
  frzV m t s=⟨put (forgetR (·== b) s.rho) t (.d (row.all V.new1) (.ptr ds)),put (forgetH (·== b) s.heap) b (.dat true k []),s.nx,s.mv⟩:=by
 unfold frzV
 rw[h]
 simp only
 rw[hb]
 simp only
 rw[hr]
 exact if_pos ⟨h1,h2⟩
theorem q3P(H k c r0 r1):evIa H k (.d c (.sl k [r0,r1])) (.int .i64 0)=some (.d c (.ptr r0)):=by simp [evIa]
theorem q4s(H k c r0 r1):evIa H k (.d c (.sl k [r0,r1])) (.int .i64 1)=some (.d c (.ptr r1)):=by simp [evIa]
def segB:Seg:=⟨[],[(20,(.ld 3 true (.ia 3 (.ld 1 false (.fa 2 (.sl 2))) (.int .i64 1)))),(21,(.sl 1))],[],some (some 16,.calle 39 (.cons (.ld 3 true (.ia 3 (.ld 1 false (.fa 2 (.sl 2))) (.int .i64 0))) (.cons (.sl 1) .nil))),[],11,[[],[0],[0,1],[1,0,2],[],[4,2,0,1,3],[],[6],[6,7],[7,6,8],[],[3,1,0,2,4,5,10,8,6,7,9],[9,7,6,8,10,11,3,1,0,2,4,5],[12,9,7,6,8,10,5,4,2,0,1,3,11]],[],[(.fa 2 (.sl 2)),(.ld 1 false (.fa 2 (.sl 2))),(.ia 3 (.ld 1 false (.fa 2 (.sl 2))) (.int .i64 1)),(.ld 3 true (.ia 3 (.ld 1 false (.fa 2 (.sl 2))) (.int .i64 1))),(.sl 1)]⟩
def regA:List (Pre×Seg):=[(⟨[2],none⟩,⟨[],[(20,(.ld 3 true (.ia 3 (.ld 1 false (.fa 2 (.sl 2))) (.int .i64 1)))),(21,(.sl 1))],[],some (some 16,.calle 39 (.cons (.ld 3 true (.ia 3 (.ld 1 false (.fa 2 (.sl 2))) (.int .i64 0))) (.cons (.sl 1) .nil))),[],11,[[],[0],[0,1],[1,0,2],[],[4,2,0,1,3],[],[6],[6,7],[7,6,8],[],[3,1,0,2,4,5,10,8,6,7,9],[9,7,6,8,10,11,3,1,0,2,4,5],[12,9,7,6,8,10,5,4,2,0,1,3,11]],[],[(.fa 2 (.sl 2)),(.ld 1 false (.fa 2 (.sl 2))),(.ia 3 (.ld 1 false (.fa 2 (.sl 2))) (.int .i64 1)),(.ld 3 true (.ia 3 (.ld 1 false (.fa 2 (.sl 2))) (.int .i64 1))),(.sl 1)]⟩),(⟨[],none⟩,⟨[],[],[],some (some 22,.calle 39 (.cons (.sl 20) (.cons (.sl 21) .nil))),[16],1,[],[],[]⟩),(⟨[],none⟩,⟨[],[(5,(.sl 16)),(6,(.sl 22))],[],none,[],2,[],[],[]⟩)]
def tyV(k:Int)(n:List UInt8)(r:List (List D)):V:=.agg [.d false (.int .i64 k),.d false (.str n),.d false (.sl 3 r)]
def tyL(k:Int)(n:List UInt8)(r:List (List D)):List D:=[.int .i64 k,.str n,.sl 3 r]
def E39(K:Cx)(k:Int)(n:List UInt8)(r:List (List D))(es:List (List UInt8×Option Lat))(o:Option Lat)(es':List (List UInt8×Option Lat)):Prop:=
 K.eff 39 [tyV k n r,.ptr 0 0 0] [.mix 1 [[.map 1]],.map (q0C es)]=some (oV o,[.mix 1 [[.map 1]],.map (q0C es')],[])
theorem j1w(K:Cx)(k0 k1:Int)(n0 n1:List UInt8)(r0 r1:List (List D))(nm:List UInt8)(es es1:List (List UInt8×Option Lat))(o:Option Lat)(w:E39 K k0 n0 r0 es o es1) :
  q1g K ⟨[(1,.ptr 0 0 0),(2,.d false (.ptr [.int .i64 3,.str nm,.sl 3 [tyL k0 n0 r0,tyL k1 n1 r1]]))],[(2,.dat true 3 []),(0,.mix 1 [[.map 1]]),(1,.map (q0C es))],3,[]⟩ segB=some ⟨[(16,oV o),(20,tyV k1 n1 r1),(21,.ptr 0 0 0)],[(2,.dat true 3 []),(0,.mix 1 [[.map 1]]),(1,.map (q0C es1))],3,[]⟩:=by
 have hd:=q3v es
 have ho:∀ g,(oV o).ren g=oV o:=fun g=>by cases o <;> rfl
 refine q01 ?_ ?_
 ·unfold segB
  rw[q1A]
  simp only[E39,tyV,tyL] at w ⊢
  simp(disch:=first|decide|omega|(simp only[LN];first|done|omega)) only[SX,SW,Nat.reduceBEq,q4s,Nat.reduceAdd,q3P,q0m,reduceCtorEq,q0f,dimL,hd,q0u,w,q0W,Nat.reduceSub,ho,lose]
 ·unfold segB q4p
  simp only[E39,tyV,tyL] at w ⊢
  simp(disch:=first|decide|omega|(simp only[LN];first|done|omega)) only[SX,SW,List.isEmpty_cons,q2g,q2Y,q2i,Nat.reduceBEq,q3P,Nat.reduceAdd,q2m,q3a,q4s,Bool.false_or]
  simp [V.eqb,V.eqb1,vRow,D.eqb,dRow,q2F,q1h,q0J,q0H]
theorem z88(z bs H)(l:List (List UInt8×Option Lat)):mapO (fun q:D×V=>(finA z bs H q.2).map fun v=>(q.1,v)) (q0C l)=some (q0C l):=by
 induction l with
 |nil=>rfl
 |cons q l ih=>
  have h1:finA z bs H (oV q.2)=some (oV q.2):=by cases q.2 <;> rfl
  simp only[q0C,List.map_cons,mapO,h1,Option.map_some] at ih ⊢
  rw[ih]
def owC(k:Nat)(s:S)(b k0 j:Nat)(row:List V):Option V→S
 |some (.fs _ k' [])=>if k'=k then⟨s.rho,(s.nx,.dat true k []) :: put s.heap b (.mix k0 [row.set j (.bsl s.nx 0 0)]),s.nx+1,s.mv⟩ else s
 |_=>s
theorem z5v(k s b k0 j row c):owC k s b k0 j row (some (.fs c k []))=⟨s.rho,(s.nx,.dat true k []) :: put s.heap b (.mix k0 [row.set j (.bsl s.nx 0 0)]),s.nx+1,s.mv⟩:=if_pos rfl
def owB(j k:Nat)(s:S)(b:Nat):Option Blk→S
 |some (.mix k0 [row])=>owC k s b k0 j row (row[j]?)
 |_=>s
theorem z0C(j k s b k0 row):owB j k s b (some (.mix k0 [row]))=owC k s b k0 j row (row[j]?):=rfl
def owA(j k:Nat)(s:S):Option V→S
 |some (.ptr b 0 0)=>owB j k s b (look s.heap b)
 |_=>s
theorem z0D(j k s b):owA j k s (some (.ptr b 0 0))=owB j k s b (look s.heap b):=rfl
theorem q60(K t j k s):exec K (.ownc t j k) s=some (.nrm,owA j k s (look s.rho t)):=by
 have:z2W t j k s=owA j k s (look s.rho t):=by
  unfold z2W owA
  cases look s.rho t with
  |none=>rfl
  |some v=>
   cases v with
   |ptr b i j'=>
    cases i with
    |zero=>cases j' with
     |zero=>
      simp only[owB]
      cases look s.heap b with
      |none=>rfl
      |some x=>
       cases x with
       |mix k0 rows=>cases rows with
        |nil=>rfl
        |cons row rest=>cases rest with
         |nil=>rfl
         |cons _ _=>rfl
       |_=>rfl
     |succ _=>rfl
    |succ _=>rfl
   |_=>rfl
 simp only[exec,this]
theorem q1d(z bs H k rows):fbA z bs H (some (.mix k rows))=(mapO (mapO (finC z bs H)) rows).map (.mix k):=rfl
theorem q1e(z bs H l):fbA z bs H (some (.map (q0C l)))=some (.map (q0C l)):=by
 show(mapO _ (q0C l)).map Blk.map=_
 rw[z88]
 rfl
theorem z5k(K:Cx)(k0 k1:Int)(n0 n1:List UInt8)(r0 r1:List (List D))(nm:List UInt8)(es es1 es2:List (List UInt8×Option Lat))(o o':Option Lat)(w:E39 K k0 n0 r0 es o es1)(w':E39 K k1 n1 r1 es1 o' es2) :
  q06 2 K ⟨[(1,.ptr 0 0 0),(2,.ptr 2 0 0)],[(2,.mix 3 [[.d false (.int .i64 3),.d false (.str nm),.d false (.sl 3 [tyL k0 n0 r0,tyL k1 n1 r1])]]),(0,.mix 1 [[.map 1]]),(1,.map (q0C es))],3,[]⟩ regA =
   some ⟨[(5,oV o),(6,oV o')],[(2,.dat true 3 []),(0,.mix 1 [[.map 1]]),(1,.map (q0C es2))],3,[]⟩:=by
 have hs:=j1w K k0 k1 n0 n1 r0 r1 nm es es1 o w
 have hd:=q3v es1
 have ho:∀ g (o:Option Lat),(oV o).ren g=oV o:=fun g o=>by cases o <;> rfl
 have hfz:frzL 2 [2] ⟨[(1,.ptr 0 0 0),(2,.ptr 2 0 0)],[(2,.mix 3 [[.d false (.int .i64 3),.d false (.str nm),.d false (.sl 3 [tyL k0 n0 r0,tyL k1 n1 r1])]]),(0,.mix 1 [[.map 1]]),(1,.map (q0C es))],3,[]⟩ =
   ⟨[(1,.ptr 0 0 0),(2,.d false (.ptr [.int .i64 3,.str nm,.sl 3 [tyL k0 n0 r0,tyL k1 n1 r1]]))],[(2,.dat true 3 []),(0,.mix 1 [[.map 1]]),(1,.map (q0C es))],3,[]⟩:=by
  rw[q0y,q0G,z9e (b:=2) (k:=3) (row:=[.d false (.int .i64 3),.d false (.str nm),.d false (.sl 3 [tyL k0 n0 r0,tyL k1 n1 r1])]) (ds:=[.int .i64 3,.str nm,.sl 3 [tyL k0 n0 r0,tyL k1 n1 r1]]) rfl rfl rfl (Nat.le_refl _) (by simp)]
  simp(disch:=first|decide|omega|(simp only[LN];first|done|omega)) only[SX,SW,V.forget,V.drop1,V.ref0,reduceCtorEq,Nat.reduceBEq,forgetH,q0S,q13]
 unfold regA
 rw[q0i,hfz,q0k]
 unfold segB at hs
 rw[hs]
 simp only[E39,tyV,tyL] at w' ⊢
 have hl:∀(b:Nat),q4T (.some b) (oV o)=oV o:=fun b=>by cases o <;> rfl
 simp(disch:=first|decide|omega|(simp only[LN];first|done|omega)) only[SX,SW,q0s,q0G,q0k,Nat.reduceBEq,q0m,reduceCtorEq,q0f,dimL,hd,q0u,w',Nat.reduceAdd,q0W,Nat.reduceSub,ho,lose,q0x]
end Go.Vm
end

section
namespace Go.Vm
set_option maxRecDepth 20000
def lowM(a b:Lat)(f:List (List Nat)):List (List Bool):=lowR a b f f.length 0 []
def fnsM(a b:Lat):Option Lat:=if(q00 a b a.sz [] []).1 then some (.fn a b (q00 a b a.sz [] []).2 (lowM a b (q00 a b a.sz [] []).2)) else none
def F71(K:Cx)(a b:Lat):Prop:=K.eff 71 [.ptr 0 0 0,.fs false 1 []] [box5 a b 0,resB []]=some (.bool (q00 a b a.sz [] []).1,[box5 a b (q00 a b a.sz [] []).2.length,resB (q00 a b a.sz [] []).2],mvB (chg [] (q00 a b a.sz [] []).2))
theorem q8E(K:Cx)(k0 k1:Int)(n0 n1:List UInt8)(r0 r1:List (List D))(nm:List UInt8)(es es1 es2:List (List UInt8×Option Lat))(o o':Option Lat)(w:E39 K k0 n0 r0 es o es1)(w':E39 K k1 n1 r1 es1 o' es2)(hn:o=none∨o'=none) :
  q0c K f53 [tyV 3 nm [tyL k0 n0 r0,tyL k1 n1 r1],.ptr 0 0 0] [.mix 1 [[.map 1]],.map (q0C es)]=some (oV none,[.mix 1 [[.map 1]],.map (q0C es2)],[]):=by
 have h1:=z5k K k0 k1 n0 n1 r0 r1 nm es es1 es2 o o' w w'
 unfold f53
 unfold regA at h1
 simp only[tyV,tyL] at h1 ⊢
 cases o with
 |none=>
  cases o' with
  |none=>
   simp only[oV,pD] at h1 ⊢
   simp(disch:=first|decide|omega|(simp only[LN];first|done|omega)) only[SX,SW,Nat.reduceAdd,Nat.reduceBEq,q0r,q0q,h1,q0K,q0h,q0n,V.isNilP,q0A,q0m,reduceCtorEq,q0f,q0u,q0b,q0R,q1d,q1e]
  |some l=>
   simp only[oV,pD] at h1 ⊢
   simp(disch:=first|decide|omega|(simp only[LN];first|done|omega)) only[SX,SW,Nat.reduceAdd,Nat.reduceBEq,q0r,q0q,h1,q0K,q0h,q0n,V.isNilP,q0A,q0m,reduceCtorEq,q0f,q0u,q0b,q0R,q1d,q1e]
 |some l=>
  obtain rfl:o'=none:=hn.resolve_left (by simp)
  simp only[oV,pD] at h1 ⊢
  simp(disch:=first|decide|omega|(simp only[LN];first|done|omega)) only[SX,SW,Nat.reduceAdd,Nat.reduceBEq,q0r,q0q,h1,q0K,q0h,q0n,V.isNilP,q0A,q0m,reduceCtorEq,q0f,q0u,q0b,q0R,q1d,q1e]
set_option maxHeartbeats 1000000 in
theorem q9T(K:Cx)(h33:K72 K)(k0 k1:Int)(n0 n1:List UInt8)(r0 r1:List (List D))(nm:List UInt8)(es es1 es2:List (List UInt8×Option Lat))(a b:Lat)(w:E39 K k0 n0 r0 es (some a) es1)(w':E39 K k1 n1 r1 es1 (some b) es2)
  (hb:b.wf) (ha:a.sz≤1000) (w32:F71 K a b) (hf:q1K a b (q00 a b a.sz [] []).2) :
  q0c K f53 [tyV 3 nm [tyL k0 n0 r0,tyL k1 n1 r1],.ptr 0 0 0] [.mix 1 [[.map 1]],.map (q0C es)]=some (oV (fnsM a b),[.mix 1 [[.map 1]],.map (q0C es2)],[]):=by
 have h1:=z5k K k0 k1 n0 n1 r0 r1 nm es es1 es2 _ _ w w'
 have hle:=(q6a a b a.sz [] []).2 (by simp)
 unfold fnsM
 unfold F71 at w32
 generalize hq:q00 a b a.sz [] []=q at w32 hf hle ⊢
 obtain⟨ok,f⟩:=q
 simp only at w32 hf hle ⊢
 unfold f53
 unfold regA at h1
 simp only[tyV,tyL,oV,pD] at h1 ⊢
 cases ok with
 |false=>
  clear hf hle hq
  generalize chg [] f=ch at w32
  simp only[box5,resB,pD,List.map_nil,Bool.false_eq_true,if_false] at w32 ⊢
  cases ch <;> (simp only[mvB] at w32;simp(disch:=first|decide|omega|(simp only[LN];first|done|omega)) only[SX,SW,Nat.reduceAdd,Nat.reduceBEq,q0r,q0q,h1,q0K,q0h,q0n,V.isNilP,q60,z0D,z0C,z5v,Nat.reduceEqDiff,dimL,w32,q0W,Nat.reduceSub,lose,q0A,q0m,reduceCtorEq,q0f,q0u,q0b,q0R,q1d,q1e,forgetH,forget_dat,q0S,V.drop1,q13,V.forget,V.ref0])
 |true=>
  have hl:=z8J K h33 a b hb ha f hf (by have:=hle rfl;omega) es2 f.length 0 [] (by omega) rfl
  have hlow:lowM a b f=lowR a b f f.length 0 []:=rfl
  rw[hlow]
  clear hf hle hq hlow
  generalize lowR a b f f.length 0 []=low at hl ⊢
  generalize chg [] f=ch at w32
  simp only[box5,resB,pD,List.map_nil,if_true,fnH,lowH,lowC,lowN,iN,List.append_nil,List.cons_append,List.nil_append,Int.natCast_zero,Int.ofNat_zero,Nat.add_zero] at w32 hl ⊢
  cases low with
  |nil=>
   simp only[lowH,lowC,lowN,List.append_nil,Nat.add_zero] at hl
   cases ch <;> (simp only[mvB] at w32;simp(disch:=first|decide|omega|(simp only[LN];first|done|omega)) only[SX,SW,Nat.reduceAdd,Nat.reduceBEq,q0r,q0q,h1,q0K,q0h,q0n,V.isNilP,q60,z0D,z0C,z5v,Nat.reduceEqDiff,dimL,w32,q0W,Nat.reduceSub,lose,q0A,q0m,reduceCtorEq,q0f,q0u,hl,q0b,hNew,forgetH,q0S,V.drop1,forget_dat,V.newR,q0a,q0R,q1d,q1e,Lat.cells,q13,V.forget,V.ref0])
  |cons y low=>
   simp only[lowH,lowC,lowN,List.cons_append,List.nil_append,List.map_cons] at hl
   cases ch <;> (simp only[mvB] at w32;simp(disch:=first|decide|omega|(simp only[LN];first|done|omega)) only[SX,SW,Nat.reduceAdd,Nat.reduceBEq,q0r,q0q,h1,q0K,q0h,q0n,V.isNilP,q60,z0D,z0C,z5v,Nat.reduceEqDiff,dimL,w32,q0W,Nat.reduceSub,lose,q0A,q0m,reduceCtorEq,q0f,q0u,hl,q0b,hNew,forgetH,q0S,V.drop1,forget_dat,V.newR,q0a,q0R,q1d,q1e,Lat.cells,q13,V.forget,V.ref0])
end Go.Vm
end

section
namespace Go.Vm
set_option maxRecDepth 100000
/- 'sloth/lattice.build' -/
def f39:Fun:=⟨ (.seq (.reg [⟨[(2,.box (.sl 0)),(3,.box (.sl 1))],[],[.nilp],none,[2,3],3,[],[],[]⟩]) (.seq (.block 0 (.seq (.reg [⟨[],[(7,(.and (.bin .eql (.ld 1 false (.fa 0 (.sl 2))) (.int .i64 4)) (.bin .eql (.ld 1 false (.fa 1 (.sl 2))) (.str [76,105,115,116]))))],[],none,[2,3],9,[],[],[]⟩]) (.cond (.sl 7) (.seq (.seq (.reg [⟨[],[(19,(.bin .neq (.len false (.ld 1 false (.fa 2 (.sl 2)))) (.int .i64 1)))],[],none,[],4,[],[],[]⟩]) (.cond (.sl 19) (.seq (.reg [⟨[],[(4,.nilp)],[],none,[],1,[],[],[]⟩]) (.seq (.tidy 2 [4]) .ret)) .skip)) (.seq (.reg [⟨[(21,.box (.set 0 1 (.int .i64 4) (.agg (.cons (.int .i64 0) (.cons .nilp (.cons .nilp (.cons (.nilsl 1) (.cons (.nilsl 1) .nil))))))))],[(4,(.sl 21))],[],none,[],3,[],[],[]⟩]) (.seq (.tidy 2 [4]) .ret))) (.seq (.reg [⟨[],[(22,(.bin .neq (.ld 1 false (.fa 0 (.sl 2))) (.int .i64 3)))],[],none,[2,3],4,[],[],[]⟩]) (.cond (.sl 22) (.seq (.reg [⟨[(27,.box (.set 0 1 (.int .i64 2) (.agg (.cons (.int .i64 0) (.cons .nilp (.cons .nilp (.cons (.nilsl 1) (.cons (.nilsl 1) .nil))))))))],[(4,(.sl 27))],[],none,[],3,[],[],[]⟩]) (.seq (.tidy 2 [4]) .ret)) .skip))))) (.seq (.reg [⟨[],[(5,(.ext 0 (.call 52 (.cons (.ld 3 true (.sl 2)) .nil))))],[(.ext 1 (.call 52 (.cons (.ld 3 true (.sl 2)) .nil)))],none,[2,3],7,[],[],[]⟩]) (.seq (.seq (.reg [⟨[],[(34,(.bin .eql (.sl 5) (.str [])))],[],none,[2,3,5],2,[],[],[]⟩]) (.cond (.sl 34) (.seq (.reg [⟨[],[],[],some (some 37,.calle 53 (.cons (.ld 3 true (.sl 2)) (.cons (.ld 1 false (.sl 3)) .nil))),[],3,[],[],[]⟩,⟨[],[(4,(.sl 37))],[],none,[],1,[],[],[]⟩]) (.seq (.tidy 2 [4]) .ret)) .skip)) (.seq (.reg [⟨[],[],[],some (some 41,.calle 54 (.cons (.ld 1 false (.sl 3)) (.cons (.sl 5) (.cons (.mkf 55 (.cons (.sl 2) (.cons (.sl 3) .nil))) .nil)))),[],4,[],[],[]⟩,⟨[],[(4,(.sl 41))],[],none,[],1,[],[],[]⟩]) (.seq (.tidy 2 [4]) .ret)))))), [(.sl 4)],false⟩
theorem j4P:q0o Go.Proofs.Tryz.prog 39 2 2 f39=true:=by kernel_rfl
/- '(*sloth/lattice.kept[string, *sloth/lattice.order]).get' -/
def f54:Fun:=⟨ (.seq (.reg [⟨[],[],[.nilp],none,[0,1,2],1,[],[],[]⟩]) (.seq (.seq (.reg [⟨[],[(7,(.ext 0 (.lkp true 2 .nilp (.ld 1 false (.fa 0 (.fa 0 (.sl 0)))) (.sl 1)))),(8,(.ext 1 (.lkp true 2 .nilp (.ld 1 false (.fa 0 (.fa 0 (.sl 0)))) (.sl 1))))],[],none,[0,1,2],11,[],[],[]⟩]) (.seq (.reg [⟨[],[(19,(.sl 8))],[],none,[0,1,2,7],1,[],[],[]⟩]) (.cond (.sl 19) (.seq (.reg [⟨[],[(6,(.sl 7))],[],none,[],2,[],[],[]⟩]) (.seq (.tidy 4 [6]) .ret)) .skip))) (.seq (.reg [⟨[],[],[],some (some 22,.calle 4294967295 (.cons (.sl 2) .nil)),[0,1],2,[],[],[]⟩,⟨[],[(9,(.sl 22))],[],none,[0,1],1,[],[],[]⟩]) (.seq (.reg [⟨[],[],[],some (none,.mset 2 (.ld 1 false (.fa 0 (.fa 0 (.sl 0)))) (.sl 1) (.sl 9)),[9],7,[],[],[]⟩]) (.seq (.reg [⟨[],[(6,(.sl 9))],[],none,[],2,[],[],[]⟩]) (.seq (.tidy 4 [6]) .ret)))))), [(.sl 6)],false⟩
theorem j4D:q0o Go.Proofs.Tryz.prog 54 4 3 f54=true:=by kernel_rfl
/- 'sloth/lattice.build$1' -/
def f55:Fun:=⟨ (.seq (.reg [⟨[],[],[.nilp],none,[0,1],1,[],[],[]⟩]) (.seq (.reg [⟨[],[],[],some (some 5,.calle 53 (.cons (.ld 3 true (.sl 0)) (.cons (.ld 1 false (.sl 1)) .nil))),[],3,[],[],[]⟩,⟨[],[(2,(.sl 5))],[],none,[],1,[],[],[]⟩]) (.seq (.tidy 4 [2]) .ret))), [(.sl 2)],false⟩
theorem j4C:q0o Go.Proofs.Tryz.prog 55 4 2 f55=true:=by kernel_rfl
abbrev Kpt:=List (BY×Option Lat)
theorem rng4:List.range 4=[0,1,2,3]:=rfl
def q4g(x:BY):Kpt→Option (Option Lat)
  |[]=>none
  |(m,o) :: r=>if x=m then some o else q4g x r
def setK(x:BY)(o:Option Lat):Kpt→Kpt
  |[]=>[(x,o)]
  |(m,p) :: r=>if x=m then(m,o) :: r else(m,p) :: setK x o r
theorem q5z(x:BY):∀ es:Kpt,q3C 2 (.str x) (q0C es)=some ((q4g x es).map oV)
  |[]=>rfl
  |(m,o) :: r=>by
    have ih:=q5z x r
    simp only[q0C,List.map_cons,q3C,q1X,q4g] at ih ⊢
    by_cases h:x=m
    · simp [h]
    · simp only[h,decide_false,if_false]
      exact ih
theorem q9f(x:BY)(o:Option Lat):∀ es:Kpt,setE 2 (.str x) (oV o) (q0C es)=some (q0C (setK x o es))
  |[]=>by simp [q0C,setE,q1X,setK]
  |(m,p) :: r=>by
    have ih:=q9f x o r
    simp only[q0C,List.map_cons,setE,q1X,setK] at ih ⊢
    by_cases h:x=m
    · simp [h]
    · simp only[h,decide_false,if_false,ih,List.map_cons]
@[reducible] def kp (es:Kpt):List Blk:=[.mix 1 [[.map 1]],.map (q0C es)]
def tyR3(k:Int)(n:BY)(r:List (List D)):List V:=[.d false (.int .i64 k),.d false (.str n),.d false (.sl 3 r)]
def E53(K:Cx)(k:Int)(n:BY)(r:List (List D))(es:Kpt)(o:Option Lat)(es':Kpt):Prop:=
  K.eff 53 [tyV k n r,.ptr 0 0 0] (kp es)=some (oV o,kp es',[])
def E55(K:Cx)(k:Int)(n:BY)(r:List (List D))(es:Kpt)(o:Option Lat)(es':Kpt):Prop:=
  K.eff 55 [.ptr 0 0 0,.ptr 1 0 0] [.mix 3 [tyR3 k n r],.mix 1 [[.ptr 2 0 0]],.mix 1 [[.map 3]],.map (q0C es)]=some (oV o,[.mix 3 [tyR3 k n r],.mix 1 [[.ptr 2 0 0]],.mix 1 [[.map 3]],.map (q0C es')],[])
def E54(K:Cx)(x:BY)(k:Int)(n:BY)(r:List (List D))(es:Kpt)(o:Option Lat)(es':Kpt):Prop:=
  K.eff 54 [.ptr 0 0 0,.d false (.str x),.fn 55 [.ptr 1 0 0,.ptr 2 0 0]] [.mix 1 [[.map 3]],.mix 3 [tyR3 k n r],.mix 1 [[.ptr 0 0 0]],.map (q0C es)]=some (oV o,[.mix 1 [[.map 3]],.mix 3 [tyR3 k n r],.mix 1 [[.ptr 0 0 0]],.map (q0C es')],[])
theorem ev_55(K:Cx)(k:Int)(n:BY)(r:List (List D))(es es':Kpt)(o:Option Lat)(w:E53 K k n r es o es') :
    q0c K f55 [.ptr 0 0 0,.ptr 1 0 0] [.mix 3 [tyR3 k n r],.mix 1 [[.ptr 2 0 0]],.mix 1 [[.map 3]],.map (q0C es)]=some (oV o,[.mix 3 [tyR3 k n r],.mix 1 [[.ptr 2 0 0]],.mix 1 [[.map 3]],.map (q0C es')],[]):=by
  have hd:=q3v es
  unfold f55
  simp only[E53,tyV,tyR3,kp] at w ⊢
  cases o with
  |none=>
    simp only[oV] at w ⊢
    simp(disch:=first|decide|omega|(simp only[LN];first|done|omega)) only[SX,SW,Nat.reduceAdd,q0r,Nat.reduceBEq,q0m,Nat.reduceEqDiff,q0f,dimL,hd,q0u,w,q0W,Nat.reduceSub,lose,rng4,reduceCtorEq,q0b,q0R,q1d,hNew,forgetH,V.newR,q0a,q1e]
  |some l=>
    simp only[oV,pD] at w ⊢
    simp(disch:=first|decide|omega|(simp only[LN];first|done|omega)) only[SX,SW,Nat.reduceAdd,q0r,Nat.reduceBEq,q0m,Nat.reduceEqDiff,q0f,dimL,hd,q0u,w,q0W,Nat.reduceSub,lose,rng4,reduceCtorEq,q0b,q0R,q1d,hNew,forgetH,V.newR,q0a,q1e]
theorem j5r(K:Cx)(x:BY)(k:Int)(n:BY)(r:List (List D))(es:Kpt)(o:Option Lat)(h:q4g x es=some o) :
    q0c K f54 [.ptr 0 0 0,.d false (.str x),.fn 55 [.ptr 1 0 0,.ptr 2 0 0]] [.mix 1 [[.map 3]],.mix 3 [tyR3 k n r],.mix 1 [[.ptr 0 0 0]],.map (q0C es)]=some (oV o,[.mix 1 [[.map 3]],.mix 3 [tyR3 k n r],.mix 1 [[.ptr 0 0 0]],.map (q0C es)],[]):=by
  have hf:=q5z x es
  rw[h,Option.map_some] at hf
  unfold f54
  simp only[tyR3] at hf ⊢
  cases o with
  |none=>
    simp only[oV] at hf ⊢
    simp(disch:=first|decide|omega|(simp only[LN];first|done|omega)) only[SX,SW,Nat.reduceAdd,q0r,Nat.reduceBEq,q2h,hf,q4V,rng4,q0m,reduceCtorEq,Nat.reduceEqDiff,q0f,q0u,q0b,q0R,q1d,hNew,forgetH,V.newR,q0a,q1e]
  |some l=>
    simp only[oV,pD] at hf ⊢
    simp(disch:=first|decide|omega|(simp only[LN];first|done|omega)) only[SX,SW,Nat.reduceAdd,q0r,Nat.reduceBEq,q2h,hf,q4V,rng4,q0m,reduceCtorEq,Nat.reduceEqDiff,q0f,q0u,q0b,q0R,q1d,hNew,forgetH,V.newR,q0a,q1e]
theorem j5q(K:Cx)(x:BY)(k:Int)(n:BY)(r:List (List D))(es es':Kpt)(o:Option Lat)(h:q4g x es=none)(w:E55 K k n r es o es') :
    q0c K f54 [.ptr 0 0 0,.d false (.str x),.fn 55 [.ptr 1 0 0,.ptr 2 0 0]] [.mix 1 [[.map 3]],.mix 3 [tyR3 k n r],.mix 1 [[.ptr 0 0 0]],.map (q0C es)]=some (oV o,[.mix 1 [[.map 3]],.mix 3 [tyR3 k n r],.mix 1 [[.ptr 0 0 0]],.map (q0C (setK x o es'))],[]):=by
  have hf:=q5z x es
  rw[h,Option.map_none] at hf
  have hs:=q9f x o es'
  have hd:=q3v es
  have hd':=q3v es'
  unfold f54
  simp only[E55,tyR3] at w ⊢
  cases o with
  |none=>
    simp only[oV] at w hs ⊢
    simp(disch:=first|decide|omega|(simp only[LN];first|done|omega)) only[SX,SW,Nat.reduceAdd,q0r,Nat.reduceBEq,q2h,hf,q3M,q81,q0m,Nat.reduceEqDiff,reduceCtorEq,q0f,dimL,hd,q0u,w,q0W,Nat.reduceSub,lose,q61,q5g,z0K,hs,q8k,rng4,q0b,q0R,q1d,hNew,forgetH,V.newR,q0a,q1e]
  |some l=>
    simp only[oV,pD] at w hs ⊢
    simp(disch:=first|decide|omega|(simp only[LN];first|done|omega)) only[SX,SW,Nat.reduceAdd,q0r,Nat.reduceBEq,q2h,hf,q3M,q81,q0m,Nat.reduceEqDiff,reduceCtorEq,q0f,dimL,hd,q0u,w,q0W,Nat.reduceSub,lose,q61,q5g,z0K,hs,q8k,rng4,q0b,q0R,q1d,hNew,forgetH,V.newR,q0a,q1e]
end Go.Vm
end

section
namespace Go.Vm
set_option maxRecDepth 100000
theorem j3F(n:Nat):pD (.ch n)=.d false (.ptr [.int .i64 n,.nilp,.nilp,.sl 1 [],.sl 1 []]):=rfl
theorem z6Z(K:Cx)(r:List (List D))(es:Kpt):q0c K f39 [tyV 4 [76,105,115,116] r,.ptr 0 0 0] (kp es)=some (oV (if r.length=1 then some (.ch 4) else none),kp es,[]):=by
 by_cases h:r.length=1
 ·have e:((r.length:Int) != 1)=false:=by simp;omega
  simp only[h,if_true]
  unfold f39
  simp only[tyV,oV,j3F,kp]
  rw[show((4:Nat):Int)=4 from rfl]
  simp(disch:=first|decide|omega|(simp only[LN];first|done|omega)) only[SX,SW,Nat.reduceAdd,Nat.reduceBEq,q0r,e,q0A,q0m,reduceCtorEq,Nat.reduceEqDiff,q0f,q0u,q0b,hNew,forgetH,q0S,V.drop1,V.newR,q0a,q0R,q1d,q1e]
 ·have e:((r.length:Int) != 1)=true:=by simp;omega
  simp only[h,if_false]
  unfold f39
  simp only[tyV,oV,kp]
  simp(disch:=first|decide|omega|(simp only[LN];first|done|omega)) only[SX,SW,Nat.reduceAdd,Nat.reduceBEq,q0r,e,q0A,q0m,reduceCtorEq,q0f,q0u,q0b,q0R,q1d,q1e]
theorem z6Y(K:Cx)(k:Int)(n:BY)(r:List (List D))(es:Kpt)(h:(k==4&&decide (n=[76,105,115,116]))=false)(h3:k≠3):q0c K f39 [tyV k n r,.ptr 0 0 0] (kp es)=some (oV (some (.ch 2)),kp es,[]):=by
 have e:(k != 3)=true:=by simpa using h3
 unfold f39
 simp only[tyV,oV,j3F,kp]
 rw[show((2:Nat):Int)=2 from rfl]
 simp(disch:=first|decide|omega|(simp only[LN];first|done|omega)) only[SX,SW,Nat.reduceAdd,Nat.reduceBEq,q0r,h,e,q0A,q0m,reduceCtorEq,Nat.reduceEqDiff,q0f,q0u,q0b,hNew,forgetH,q0S,V.drop1,V.newR,q0a,q0R,q1d,q1e]
theorem z61(K:Cx)(n:BY)(r:List (List D))(es es':Kpt)(o:Option Lat)(x:BY)(hx:x≠[])(wp:K.call 52 [tyV 3 n r]=some (.tup [.d false (.str x),.d false (.int .i64 0)],[]))(w:E54 K x 3 n r es o es'):q0c K f39 [tyV 3 n r,.ptr 0 0 0] (kp es)=some (oV o,kp es',[]):=by
 have hd:=q3v es
 have e:decide (x=[])=false:=decide_eq_false hx
 unfold f39
 simp only[E54,tyV,tyR3,kp] at w wp ⊢
 cases o with
 |none=>
  simp only[oV] at w ⊢
  simp(disch:=first|decide|omega|(simp only[LN];first|done|omega)) only[SX,SW,Nat.reduceAdd,Nat.reduceBEq,q0r,q0a,wp,e,q9X,q2N,q0m,reduceCtorEq,Nat.reduceEqDiff,q0f,dimL,hd,q0u,w,q0W,Nat.reduceSub,lose,q0A,q0b,q0R,q1d,q1e]
 |some l=>
  simp only[oV,pD] at w ⊢
  simp(disch:=first|decide|omega|(simp only[LN];first|done|omega)) only[SX,SW,Nat.reduceAdd,Nat.reduceBEq,q0r,q0a,wp,e,q9X,q2N,q0m,reduceCtorEq,Nat.reduceEqDiff,q0f,dimL,hd,q0u,w,q0W,Nat.reduceSub,lose,q0A,q0b,q0R,q1d,q1e]
theorem z60(K:Cx)(n:BY)(r:List (List D))(es es':Kpt)(o:Option Lat)(wp:K.call 52 [tyV 3 n r]=some (.tup [.d false (.str []),.d false (.int .i64 4)],[]))(w:E53 K 3 n r es o es'):q0c K f39 [tyV 3 n r,.ptr 0 0 0] (kp es)=some (oV o,kp es',[]):=by
 have hd:=q3v es
 unfold f39
 simp only[E53,tyV,tyR3,kp] at w wp ⊢
 cases o with
 |none=>
  simp only[oV] at w ⊢
  simp(disch:=first|decide|omega|(simp only[LN];first|done|omega)) only[SX,SW,Nat.reduceAdd,Nat.reduceBEq,q0r,q0a,wp,q0m,reduceCtorEq,q0f,dimL,hd,q0u,w,q0W,Nat.reduceSub,lose,q0A,q0b,q0R,q1d,q1e]
 |some l=>
  simp only[oV,pD] at w ⊢
  simp(disch:=first|decide|omega|(simp only[LN];first|done|omega)) only[SX,SW,Nat.reduceAdd,Nat.reduceBEq,q0r,q0a,wp,q0m,reduceCtorEq,q0f,dimL,hd,q0u,w,q0W,Nat.reduceSub,lose,q0A,q0b,q0R,q1d,q1e]
end Go.Vm
end

section
namespace Go.Vm
set_option maxRecDepth 20000
def q5X(c:UInt8):Bool:=q2w c||c==46
theorem q8f{c:UInt8}(h:q5X c=true):c≠40∧c≠41∧c≠32:=by
 refine⟨?_,?_,?_⟩ <;> rintro rfl <;> exact absurd h (by decide)
theorem z4R{s:BY}(h:q0O s=true):∀ c∈s,q2w c=true:=by
 unfold q0O at h
 exact List.all_eq_true.1 h
theorem q3o{s:BY}(h:q04 s=true):s≠[]∧∀ c∈s,q2w c=true:=by
 cases s with
 |nil=>cases h
 |cons c r=>
  simp only[q04,Bool.and_eq_true] at h
  exact⟨by simp,z4R h.2⟩
theorem q6n:∀(k:Nat)(s:BY),(Go.Lib.splitK [46] 0 k s).all q04=true→s≠[]∧∀ c∈s,q5X c=true
 |0,s,h=>by
  simp only[Go.Lib.splitK,List.all_cons,List.all_nil,Bool.and_true] at h
  obtain⟨h1,h2⟩:=q3o h
  exact⟨h1,fun c hc=>by simp [q5X,h2 c hc]⟩
 |k+1,s,h=>by
  rw[Go.Lib.splitK] at h
  split at h
  ·simp only[List.all_cons,List.all_nil,Bool.and_true] at h
   obtain⟨h1,h2⟩:=q3o h
   exact⟨h1,fun c hc=>by simp [q5X,h2 c hc]⟩
  ·rename_i hi
   simp only[List.all_cons,Bool.and_eq_true,Nat.add_zero,List.length_singleton] at h
   rw[Go.Lib.index_one] at h hi
   have hge:=Go.Lib.indexByte_ge s 46
   have hne:Go.Lib.indexByte s 46≠-1:=by simpa using hi
   obtain⟨i,hi'⟩:∃ i:Nat,Go.Lib.indexByte s 46=i:=⟨(Go.Lib.indexByte s 46).toNat,by omega⟩
   obtain⟨hs,_⟩:=Go.Lib.indexByte_some hi'
   rw[hi',Int.toNat_natCast] at h
   obtain⟨p1,p2⟩:=q3o h.1
   obtain⟨_,q2⟩:=q6n k (s.drop (i+1)) h.2
   have hlt:=(List.getElem?_eq_some_iff.1 hs).1
   refine⟨by rintro rfl;simp at hlt,fun c hc=>?_⟩
   have e:s=s.take i++(46 :: s.drop (i+1)):=by
    have h1:=List.take_append_drop i s
    rw[List.drop_eq_getElem_cons hlt] at h1
    rw[(List.getElem?_eq_some_iff.1 hs).2] at h1
    exact h1.symm
   rw[e] at hc
   simp only[List.mem_append,List.mem_cons] at hc
   rcases hc with hc|rfl|hc
   ·simp [q5X,p2 c hc]
   ·rfl
   ·exact q2 c hc
theorem z3D{n:BY}(h:q1b n=true):n≠[]∧(∀ c∈n,q5X c=true)∧n≠[73,110,116]:=by
 simp only[q1b,Bool.and_eq_true,Bool.not_eq_true',decide_eq_false_iff_not,decide_eq_true_eq] at h
 obtain⟨⟨⟨_,h2⟩,h3⟩,_⟩:=h
 obtain⟨q1,q2⟩:=q6n _ n h3
 exact⟨q1,q2,h2⟩
def Stop(r:BY):Prop:=∀ c r',r=c :: r'→c=32∨c=41
theorem q2v{c:UInt8}{r:BY}(h:c=32∨c=41):Stop (c :: r):=by
 intro c' r' e
 cases e
 exact h
theorem q4D:∀(n n' r r':BY),(∀ c∈n,q5X c=true)→(∀ c∈n',q5X c=true)→Stop r→Stop r'→n++r=n'++r'→n=n'∧r=r'
 |[],[],r,r',_,_,_,_,h=>⟨rfl,h⟩
 |[],c :: n',r,r',_,h2,h3,_,h=>by
  have:=q8f (h2 c (by simp))
  rcases h3 c (n'++r') (by simpa using h) with e|e
  ·exact absurd e this.2.2
  ·exact absurd e this.2.1
 |c :: n,[],r,r',h1,_,_,h4,h=>by
  have:=q8f (h1 c (by simp))
  rcases h4 c (n++r) (by simpa using h.symm) with e|e
  ·exact absurd e this.2.2
  ·exact absurd e this.2.1
 |c :: n,c' :: n',r,r',h1,h2,h3,h4,h=>by
  simp only[List.cons_append,List.cons.injEq] at h
  obtain⟨rfl,h⟩:=h
  obtain⟨e1,e2⟩:=q4D n n' r r' (fun c hc=>h1 c (by simp [hc])) (fun c hc=>h2 c (by simp [hc])) h3 h4 h
  exact⟨by rw[e1],e2⟩
def q3h(t:Ty):Prop:=t.mayB=true∧t.varB=false
inductive Form:Ty→Prop
 |atom (k:Int) (n w:BY):w≠[]→(∀ c∈w,q5X c=true)→(Ty.mk k n []).txt=w→(k=1∧n=[]∧w=[73,110,116]∨k=4∧n=w∧w≠[73,110,116])→Form (.mk k n [])
 |fn (a b:Ty):q3h a→q3h b→Form (.mk 3 [] [a,b])
 |data (n:BY) (l:List Ty):l≠[]→n≠[]→(∀ c∈n,q5X c=true)→(∀ t∈l,q3h t)→Form (.mk 4 n l)
theorem q4E:∀(l:List Ty)(t:Ty),varL l=false→t∈l→t.varB=false
 |[],t,_,h=>by simp at h
 |u :: r,t,hm,h=>by
  rw[varL,Bool.or_eq_false_iff] at hm
  rcases List.mem_cons.1 h with rfl|h
  ·exact hm.1
  ·exact q4E r t hm.2 h
theorem q2r{t:Ty}(h:q3h t):Form t:=by
 obtain⟨k,n,l⟩:=t
 obtain⟨h1,h2⟩:=h
 obtain⟨m1,_,hc⟩:=q2c h1
 rw[Ty.varB,Bool.or_eq_false_iff] at h2
 obtain⟨v1,v2⟩:=h2
 rcases hc with⟨rfl,rfl,rfl⟩|⟨rfl,_,rfl⟩|⟨rfl,rfl,a,b,rfl⟩|⟨rfl,hd,_⟩
 ·exact .atom 1 [] [73,110,116] (by simp) (by decide) (by simp [Ty.txt]) (.inl ⟨rfl,rfl,rfl⟩)
 ·cases v1
 ·exact .fn a b ⟨q3r _ a m1 (by simp),q4E _ a v2 (by simp)⟩ ⟨q3r _ b m1 (by simp),q4E _ b v2 (by simp)⟩
 ·obtain⟨d1,d2,d3⟩:=z3D hd
  by_cases hl:l=[]
  ·subst hl
   exact .atom 4 n n d1 d2 (by simp [Ty.txt]) (.inr ⟨rfl,rfl,d3⟩)
  ·exact .data n l hl d1 d2 fun t ht=>⟨q3r _ t m1 ht,q4E _ t v2 ht⟩
theorem q7B(a b:Ty)(r:BY):(Ty.mk 3 [] [a,b]).txt++r=40 :: (a.txt++32 :: 45 :: 62 :: 32 :: (b.txt++41 :: r)):=by
 simp [Ty.txt,txtF,txtG]
theorem q30(n:BY)(l:List Ty)(hl:l≠[])(r:BY):(Ty.mk 4 n l).txt++r=40 :: (n++(txtL l++41 :: r)):=by
 simp [Ty.txt,hl]
theorem q3F(l:List Ty)(r:BY):Stop (txtL l++41 :: r):=by
 cases l with
 |nil=>exact q2v (.inr rfl)
 |cons t l=>exact q2v (.inl rfl)
theorem q3g{w:BY}(h0:w≠[])(h:∀ c∈w,q5X c=true){r x:BY}(e:w++r=40 :: x):False:=by
 cases w with
 |nil=>exact h0 rfl
 |cons c w=>
  simp only[List.cons_append,List.cons.injEq] at e
  exact(q8f (h c (by simp))).1 e.1
theorem z8b{t:Ty}(h:q3h t)(r:BY):∃ c x,t.txt++r=c :: x∧c≠45:=by
 cases q2r h with
 |atom k n w h0 hw he _=>
  rw[he]
  cases w with
  |nil=>exact absurd rfl h0
  |cons c w=>
   refine⟨c,w++r,rfl,?_⟩
   rintro rfl
   exact absurd (hw 45 (by simp)) (by decide)
 |fn a b _ _=>exact⟨40,_,q7B a b r,by decide⟩
 |data n l hl _ _ _=>exact⟨40,_,q30 n l hl r,by decide⟩
theorem z4G:∀(m:Nat)(t u:Ty)(r r':BY),SizeOf.sizeOf t<m→q3h t→q3h u→Stop r→Stop r'→t.txt++r=u.txt++r'→t=u∧r=r'
 |0,t,u,r,r',h,_,_,_,_,_=>absurd h (Nat.not_lt_zero _)
 |m+1,t,u,r,r',hm,ht,hu,hr,hr',h=>by
  have ih:=z4G m
  have lst:∀(l l':List Ty) (r r':BY),(∀ t∈l,SizeOf.sizeOf t<m∧q3h t)→(∀ t∈l',q3h t)→txtL l++41 :: r=txtL l'++41 :: r'→l=l'∧r=r':=by
   intro l
   induction l with
   |nil=>
    intro l' r r' _ _ h
    cases l' with
    |nil=>simp only[txtL,List.nil_append,List.cons.injEq,true_and] at h;exact⟨rfl,h⟩
    |cons t l'=>simp [txtL] at h
   |cons t l ihl=>
    intro l' r r' h1 h2 h
    cases l' with
    |nil=>simp [txtL] at h
    |cons t' l'=>
     simp only[txtL,List.cons_append,List.cons.injEq,true_and,List.append_assoc] at h
     obtain⟨h1a,h1b⟩:=h1 t (by simp)
     obtain⟨rfl,e⟩:=ih t t' _ _ h1a h1b (h2 t' (by simp)) (q3F l r) (q3F l' r') h
     obtain⟨rfl,e2⟩:=ihl l' r r' (fun t ht=>h1 t (by simp [ht])) (fun t ht=>h2 t (by simp [ht])) e
     exact⟨rfl,e2⟩
  -- a function type against a data type
  have fd:∀(a b:Ty) (n:BY) (l:List Ty) (r r':BY),q3h a→n≠[]→(∀ c∈n,q5X c=true)→l≠[]→(∀ t∈l,q3h t)→a.txt++32 :: 45 :: 62 :: 32 :: (b.txt++41 :: r)=n++(txtL l++41 :: r')→False:=by
   intro a b n l r r' ha hn hw hl hc h
   cases q2r ha with
   |atom k n' w h0 hw' he _=>
    rw[he] at h
    obtain⟨_,e⟩:=q4D w n _ _ hw' hw (q2v (.inl rfl)) (q3F l r') h
    cases l with
    |nil=>exact hl rfl
    |cons t l=>
     simp only[txtL,List.cons_append,List.cons.injEq,true_and,List.append_assoc] at e
     obtain⟨c,x,e2,h45⟩:=z8b (hc t (by simp)) (txtL l++41 :: r')
     rw[e2] at e
     simp only[List.cons.injEq] at e
     exact h45 e.1.symm
   |fn a' b' _ _=>rw[q7B] at h;exact q3g hn hw h.symm
   |data n' l' hl' _ _ _=>rw[q30 _ _ hl'] at h;exact q3g hn hw h.symm
  cases q2r ht with
  |atom k n w h0 hw he hk=>
   rw[he] at h
   cases q2r hu with
   |atom k' n' w' h0' hw' he' hk'=>
    rw[he'] at h
    obtain⟨rfl,e⟩:=q4D w w' r r' hw hw' hr hr' h
    refine⟨?_,e⟩
    rcases hk with⟨rfl,rfl,hx⟩|⟨rfl,rfl,hx⟩
    ·rcases hk' with⟨rfl,rfl,_⟩|⟨_,_,hy⟩
     ·rfl
     ·exact absurd hx hy
    ·rcases hk' with⟨_,_,hy⟩|⟨rfl,rfl,_⟩
     ·exact absurd hy hx
     ·rfl
   |fn a b _ _=>rw[q7B] at h;exact(q3g h0 hw h).elim
   |data n' l' hl' _ _ _=>rw[q30 _ _ hl'] at h;exact(q3g h0 hw h).elim
  |fn a b ca cb=>
   rw[q7B] at h
   cases q2r hu with
   |atom k' n' w' h0' hw' he' hk'=>rw[he'] at h;exact(q3g h0' hw' h.symm).elim
   |fn a' b' ca' cb'=>
    rw[q7B] at h
    simp only[List.cons.injEq,true_and] at h
    simp only[Ty.mk.sizeOf_spec,List.cons.sizeOf_spec,List.nil.sizeOf_spec] at hm
    obtain⟨rfl,e⟩:=ih a a' _ _ (by omega) ca ca' (q2v (.inl rfl)) (q2v (.inl rfl)) h
    simp only[List.cons.injEq,true_and] at e
    obtain⟨rfl,e2⟩:=ih b b' _ _ (by omega) cb cb' (q2v (.inr rfl)) (q2v (.inr rfl)) e
    simp only[List.cons.injEq,true_and] at e2
    exact⟨rfl,e2⟩
   |data n' l' hl' hn' hw' hc'=>
    rw[q30 _ _ hl'] at h
    simp only[List.cons.injEq,true_and] at h
    exact(fd a b n' l' r r' ca hn' hw' hl' hc' h).elim
  |data n l hl hn hw hc=>
   rw[q30 _ _ hl] at h
   cases q2r hu with
   |atom k' n' w' h0' hw' he' hk'=>rw[he'] at h;exact(q3g h0' hw' h.symm).elim
   |fn a' b' ca' cb'=>
    rw[q7B] at h
    simp only[List.cons.injEq,true_and] at h
    exact(fd a' b' n l r' r ca' hn hw hl hc h.symm).elim
   |data n' l' hl' hn' hw' hc'=>
    rw[q30 _ _ hl'] at h
    simp only[List.cons.injEq,true_and] at h
    obtain⟨rfl,e⟩:=q4D n n' _ _ hw hw' (q3F l r) (q3F l' r') h
    obtain⟨rfl,e2⟩:=lst l l' r r' (fun t ht=>⟨by
     have:=List.sizeOf_lt_of_mem ht
     simp only[Ty.mk.sizeOf_spec] at hm
     omega,hc t ht⟩) hc' e
    exact⟨rfl,e2⟩
theorem j1e{t u:Ty}(ht:q3h t)(hu:q3h u)(h:t.txt=u.txt):t=u:=
 (z4G _ t u [] [] (Nat.lt_succ_self _) ht hu (fun _ _ h=>by cases h) (fun _ _ h=>by cases h) (by rw[h])).1
end Go.Vm
end

section
namespace Go.Vm
def cat(P:Nat→List (List Nat)):Nat→Nat→List (List Nat)
 |0,_=>[]
 |m+1,v=>P v++cat P m (v+1)
def enum(a b:Lat):Nat→List Nat→List (List Nat)
 |0,row=>[row]
 |k+1,row=>cat (fun v=>if fitB a b row v then enum a b k (row++[v]) else []) b.sz 0
def q98(found:List (List Nat))(L:List (List Nat))(r:Bool×List (List Nat)):Prop:=
 (found.length+L.length≤40→r=(true,found++L))∧(¬ found.length+L.length≤40→r.1=false)
theorem q6T{F:List Nat→List (List Nat)→Bool×List (List Nat)}{P:Nat→List (List Nat)}(fit:Nat→Bool)(row:List Nat)
  (hF:∀ v found,fit v=true→found.length≤40→q98 found (P v) (F (row++[v]) found)) (hP:∀ v,fit v=false→P v=[]):∀ m v found,found.length≤40→q98 found (cat P m v) (q3D F fit row m v found)
 |0,v,found,h=>by simp [q3D,cat,q98,h]
 |m+1,v,found,h=>by
  simp only[q3D,cat]
  cases hf:fit v with
  |false=>
   simp only[Bool.false_eq_true,if_false,hP v hf,List.nil_append]
   exact q6T fit row hF hP m (v+1) found h
  |true=>
   simp only[if_true]
   obtain⟨h1,h2⟩:=hF v found hf h
   by_cases hl:found.length+(P v).length≤40
   ·rw[h1 hl]
    simp only
    obtain⟨g1,g2⟩:=q6T fit row hF hP m (v+1) (found++P v) (by rw[List.length_append];exact hl)
    simp only[List.length_append,List.append_assoc] at g1 g2
    refine⟨fun hh=>?_,fun hh=>?_⟩
    ·rw[List.length_append] at hh
     rw[g1 (by omega)]
    ·rw[List.length_append] at hh
     exact g2 (by omega)
   ·have e:=h2 hl
    generalize F (row++[v]) found=q at e ⊢
    obtain⟨ok,f⟩:=q
    simp only at e
    subst e
    simp only
    refine⟨fun hh=>?_,fun _=>rfl⟩
    rw[List.length_append] at hh
    omega
theorem q73(a b:Lat):∀ k row found,found.length≤40→q98 found (enum a b k row) (q00 a b k row found)
 |0,row,found,h=>by
  simp only[q00,enum,q98,List.length_singleton]
  refine⟨fun hh=>by simp [hh],fun hh=>by simpa using hh⟩
 |k+1,row,found,h=>by
  simp only[q00,enum]
  refine q6T _ row (fun v found hv hf=>?_) (fun v hv=>by simp [hv]) b.sz 0 found h
  simp only[hv,if_true]
  exact q73 a b k (row++[v]) found hf
theorem z0L(P:Nat→List (List Nat))(r:List Nat):∀ m v,r∈cat P m v↔∃ u,v≤u∧u<v+m∧r∈P u
 |0,v=>by simp [cat];intro u h1 h2;omega
 |m+1,v=>by
  simp only[cat,List.mem_append,z0L P r m (v+1)]
  constructor
  ·rintro(h|⟨u,h1,h2,h3⟩)
   ·exact⟨v,Nat.le_refl _,by omega,h⟩
   ·exact⟨u,by omega,by omega,h3⟩
  ·rintro⟨u,h1,h2,h3⟩
   by_cases hu:u=v
   ·subst hu;exact .inl h3
   ·exact .inr ⟨u,by omega,by omega,h3⟩
def Fits(a b:Lat)(n:Nat)(r:List Nat):Prop:=∀ j,n≤j→(h:j<r.length)→r[j]<b.sz∧fitB a b (r.take j) r[j]=true
theorem q4P(a b:Lat):∀ k row r,r∈enum a b k row↔r.length=row.length+k∧r.take row.length=row∧Fits a b row.length r
 |0,row,r=>by
  simp only[enum,List.mem_singleton,Nat.add_zero]
  constructor
  ·rintro rfl
   exact⟨rfl,List.take_length,fun j h1 h2=>by omega⟩
  ·rintro⟨h1,h2,_⟩
   rw[←h1,List.take_length] at h2
   exact h2
 |k+1,row,r=>by
  simp only[enum,z0L]
  constructor
  ·rintro⟨u,_,h2,h3⟩
   rw[Nat.zero_add] at h2
   split at h3
   ·rename_i hf
    obtain⟨g1,g2,g3⟩:=(q4P a b k (row++[u]) r).1 h3
    simp only[List.length_append,List.length_singleton] at g1 g2 g3
    have hlt:row.length<r.length:=by omega
    have t1:r.take row.length=row:=by
     have:=congrArg (List.take row.length) g2
     rw[List.take_take,Nat.min_eq_left (by omega)] at this
     simpa using this
    have t2:r[row.length]=u:=by
     have h:=List.getElem?_take_of_lt (l:=r) (i:=row.length) (j:=row.length+1) (by omega)
     rw[g2] at h
     simp only[List.getElem?_append_right (Nat.le_refl _),Nat.sub_self,List.getElem?_cons_zero] at h
     rw[List.getElem?_eq_getElem hlt] at h
     exact(Option.some.inj h).symm
    refine⟨by omega,t1,fun j h1 hj=>?_⟩
    by_cases hj2:j=row.length
    ·subst hj2
     rw[t2,t1]
     exact⟨h2,hf⟩
    ·exact g3 j (by omega) hj
   ·simp at h3
  ·rintro⟨h1,h2,h3⟩
   have hlt:row.length<r.length:=by omega
   obtain⟨g1,g2⟩:=h3 row.length (Nat.le_refl _) hlt
   rw[h2] at g2
   refine⟨r[row.length],Nat.zero_le _,by omega,?_⟩
   rw[if_pos g2]
   refine(q4P a b k _ r).2 ⟨by simp;omega,?_,fun j hj1 hj2=>h3 j (by simp at hj1;omega) hj2⟩
   simp only[List.length_append,List.length_singleton]
   rw[List.take_succ_eq_append_getElem hlt,h2]
theorem z1Y(a b:Lat)(row:List Nat)(v:Nat):∀ m y q,fitR a b row v m y q=true↔q=true∧∀ j,y≤j→j<y+m→a.le j row.length=true→b.le (nth row (j:Int)) v=true
 |0,y,q=>by simp [fitR];intro _ j h1 h2;omega
 |m+1,y,q=>by
  rw[fitR,z1Y a b row v m]
  simp only[Bool.and_eq_true,Bool.or_eq_true,Bool.not_eq_true']
  constructor
  ·rintro⟨⟨h1,h2⟩,h3⟩
   refine⟨h1,fun j hj1 hj2 hle=>?_⟩
   by_cases hj:j=y
   ·subst hj
    rcases h2 with h2|h2
    ·rw[hle] at h2;cases h2
    ·exact h2
   ·exact h3 j (by omega) (by omega) hle
  ·rintro⟨h1,h2⟩
   refine⟨⟨h1,?_⟩,fun j hj1 hj2 hle=>h2 j (by omega) (by omega) hle⟩
   cases hle:a.le y row.length with
   |false=>exact .inl rfl
   |true=>exact .inr (h2 y (Nat.le_refl _) (by omega) hle)
theorem z11(a b:Lat)(row:List Nat)(v:Nat):fitB a b row v=true↔∀ j,j<row.length→a.le j row.length=true→b.le (nth row (j:Int)) v=true:=by
 rw[fitB,z1Y]
 constructor
 ·rintro⟨_,h⟩ j hj
  exact h j (Nat.zero_le _) (by omega)
 ·intro h
  exact⟨rfl,fun j _ hj=>h j (by omega)⟩
def Mono(a b:Lat)(r:List Nat):Prop:=r.length=a.sz∧(∀ j,(h:j<r.length)→r[j]<b.sz)∧∀ i j,(h:i<j)→(hj:j<r.length)→a.le i j=true→b.le (r[i]'(by omega)) r[j]=true
theorem q3L(a b:Lat)(r:List Nat):r∈enum a b a.sz []↔Mono a b r:=by
 rw[q4P]
 simp only[List.length_nil,Nat.zero_add,List.take_zero,true_and,Fits,Mono]
 constructor
 ·rintro⟨h1,h2⟩
  refine⟨h1,fun j h=>(h2 j (Nat.zero_le _) h).1,fun i j h hj hle=>?_⟩
  have hf:=(z11 a b _ _).1 (h2 j (Nat.zero_le _) hj).2 i (by simp;omega)
  rw[List.length_take,Nat.min_eq_left (by omega)] at hf
  have:=hf hle
  have e:nth (r.take j) (i:Int)=r[i]:=q4h (by rw[List.getElem?_take_of_lt h,List.getElem?_eq_getElem])
  rwa [e] at this
 ·rintro⟨h1,h2,h3⟩
  refine⟨h1,fun j _ hj=>⟨h2 j hj,(z11 a b _ _).2 fun i hi hle=>?_⟩⟩
  rw[List.length_take,Nat.min_eq_left (by omega)] at hi hle
  have e:nth (r.take j) (i:Int)=r[i]:=q4h (by rw[List.getElem?_take_of_lt hi,List.getElem?_eq_getElem])
  rw[e]
  exact h3 i j hi hj hle
def j3j(f g:List Nat):Prop:=∃ i,∃(h:i<f.length)(h':i<g.length),f.take i=g.take i∧f[i]<g[i]
theorem q79{R:List Nat→List Nat→Prop}(P:Nat→List (List Nat))(h1:∀ v,(P v).Pairwise R)(h2:∀ u v,u<v→∀ x∈P u,∀ y∈P v,R x y):∀ m v,(cat P m v).Pairwise R
 |0,v=>.nil
 |m+1,v=>by
  rw[cat,List.pairwise_append]
  refine⟨h1 v,q79 P h1 h2 m (v+1),fun x hx y hy=>?_⟩
  obtain⟨u,hu1,_,hu3⟩:=(z0L P y m (v+1)).1 hy
  exact h2 v u (by omega) x hx y hu3
theorem q69(a b:Lat):∀ k row,(enum a b k row).Pairwise j3j
 |0,row=>by simp [enum]
 |k+1,row=>by
  rw[enum]
  refine q79 _ (fun v=>?_) (fun u v huv x hx y hy=>?_) _ _
  ·show List.Pairwise j3j (if fitB a b row v then enum a b k (row++[v]) else [])
   split
   ·exact q69 a b k _
   ·exact .nil
  ·replace hx:x∈(if fitB a b row u then enum a b k (row++[u]) else []):=hx
   replace hy:y∈(if fitB a b row v then enum a b k (row++[v]) else []):=hy
   split at hx
   ·split at hy
    ·obtain⟨x1,x2,_⟩:=(q4P a b k _ x).1 hx
     obtain⟨y1,y2,_⟩:=(q4P a b k _ y).1 hy
     simp only[List.length_append,List.length_singleton] at x1 x2 y1 y2
     have key:∀(r:List Nat) (u:Nat) (hl:row.length<r.length),r.take (row.length+1)=row++[u]→r.take row.length=row∧r[row.length]=u:=by
      intro r u hl h
      constructor
      ·have:=congrArg (List.take row.length) h
       rw[List.take_take,Nat.min_eq_left (by omega)] at this
       simpa using this
      ·have h':=List.getElem?_take_of_lt (l:=r) (i:=row.length) (j:=row.length+1) (by omega)
       rw[h] at h'
       simp only[List.getElem?_append_right (Nat.le_refl _),Nat.sub_self,List.getElem?_cons_zero] at h'
       rw[List.getElem?_eq_getElem hl] at h'
       exact(Option.some.inj h').symm
     obtain⟨a1,a2⟩:=key x u (by omega) x2
     obtain⟨b1,b2⟩:=key y v (by omega) y2
     exact⟨row.length,by omega,by omega,by rw[a1,b1],by rw[a2,b2];exact huv⟩
    ·simp at hy
   ·simp at hx
end Go.Vm
end

section
namespace Go.Vm
theorem q1y {α:Type} [Inhabited α] {l:List α} {i:Nat} (h:i < l.length):nth l (i:Int)=l[i]:=q4h (List.getElem?_eq_getElem h)
theorem z1A (p:Nat→Bool) (i:Nat):∀ (m k:Nat) (l:List Bool),k+m≤l.length→i < l.length→(rowR p m k l)[i]? = if k≤i∧i < k+m then some (p i) else l[i]?
 | 0,k,l,_,_=>by rw [rowR,if_neg (by omega)]
 | m+1,k,l,h,hi=>by
  rw [rowR,z1A p i m (k+1) _ (by simp;omega) (by simpa using hi)]
  by_cases h1:k+1≤i∧i < k+1+m
  ·rw [if_pos h1,if_pos (by omega)]
  ·rw [if_neg h1]
   by_cases h2:i=k
   ·subst h2
    rw [if_pos (by omega),List.getElem?_set_self hi]
   ·rw [if_neg (by omega),List.getElem?_set_ne (by omega)]
theorem z5e (a b:Lat) (f:List (List Nat)) (x i:Nat) (hi:i < f.length):nth (q4K a b f x) (i:Int)=ptw a b (nth f (x:Int)) (nth f (i:Int)):=by
 refine q4h ?_
 rw [q4K,z1A _ i _ _ _ (by simp) (by simpa using hi),if_pos (by omega)]
theorem z0N (a b:Lat) (f:List (List Nat)):∀ m k low,lowR a b f m k low=low++(List.range' k m).map (q4K a b f)
 | 0,k,low=>by simp [lowR]
 | m+1,k,low=>by rw [lowR,z0N a b f m];simp [List.range'_succ]
theorem z0O (a b:Lat) (f:List (List Nat)):lowM a b f=(List.range f.length).map (q4K a b f):=by
 rw [lowM,z0N,List.nil_append,List.range_eq_range']
theorem z8Y (a b:Lat) (f:List (List Nat)) (x y:Nat) (hx:x < f.length) (hy:y < f.length):nth (nth (lowM a b f) (x:Int)) (y:Int)=ptw a b (nth f (x:Int)) (nth f (y:Int)):=by
 have e:nth (lowM a b f) (x:Int)=q4K a b f x:=q4h (by rw [z0O,List.getElem?_map,List.getElem?_range hx,Option.map_some])
 rw [e,z5e a b f x y hy]
theorem z1F (b:Lat) (f g:List Nat):∀ m k,ptwR b f g m k=true↔∀ x,k≤x→x < k+m→b.le (nth f (x:Int)) (nth g (x:Int))=true
 | 0,k=>by simp [ptwR];intro x h1 h2;omega
 | m+1,k=>by
  rw [ptwR,Bool.and_eq_true,z1F b f g m]
  constructor
  ·rintro ⟨h1,h2⟩ x hx1 hx2
   by_cases h:x=k
   ·subst h;exact h1
   ·exact h2 x (by omega) (by omega)
  ·intro h
   exact ⟨h k (Nat.le_refl _) (by omega),fun x hx1 hx2=>h x (by omega) (by omega)⟩
theorem j1K (a b:Lat) (f g:List Nat):ptw a b f g=true↔∀ x,x < a.sz→b.le (nth f (x:Int)) (nth g (x:Int))=true:=by
 rw [ptw,z1F]
 constructor
 ·intro h x hx;exact h x (Nat.zero_le _) (by omega)
 ·intro h x _ hx;exact h x (by omega)
def Lat.jn:Lat→Nat→Nat→Nat
 | .ch _,x,y=>max x y
 | .fn a b rows _,x,y=>rows.findIdx fun r=>decide (r=(List.range a.sz).map fun (i:Nat)=>b.jn (nth (nth rows (x:Int)) (i:Int)) (nth (nth rows (y:Int)) (i:Int)))
structure Ord (o:Lat):Prop where
 pos:0 < o.sz
 refl:∀ x,x < o.sz→o.le x x=true
 trans:∀ x y z,x < o.sz→y < o.sz→z < o.sz→o.le x y=true→o.le y z=true→o.le x z=true
 num:∀ x y,x < o.sz→y < o.sz→o.le x y=true→x≤y
 bot:∀ x,x < o.sz→o.le 0 x=true
 top:∀ x,x < o.sz→o.le x (o.sz - 1)=true
 jlt:∀ x y,x < o.sz→y < o.sz→o.jn x y < o.sz
 jl:∀ x y,x < o.sz→y < o.sz→o.le x (o.jn x y)=true
 jr:∀ x y,x < o.sz→y < o.sz→o.le y (o.jn x y)=true
 jlub:∀ x y z,x < o.sz→y < o.sz→z < o.sz→o.le x z=true→o.le y z=true→o.le (o.jn x y) z=true
theorem j3G (n:Nat) (h:0 < n):Ord (.ch n):=by
 have e:∀ x y,(Lat.ch n).le x y=true↔x≤y:=fun x y=>decide_eq_true_iff
 have j:∀ x y,(Lat.ch n).jn x y=max x y:=fun x y=>rfl
 have z:(Lat.ch n).sz=n:=rfl
 refine ⟨h,fun x hx=>(e _ _).2 (Nat.le_refl _),fun x y z _ _ _ h1 h2=>(e _ _).2 (Nat.le_trans ((e _ _).1 h1) ((e _ _).1 h2)),fun x y _ _ h=>(e _ _).1 h,fun x _=>(e _ _).2 (Nat.zero_le _),fun x hx=>(e _ _).2 ?_,fun x y hx hy=>?_,fun x y _ _=>(e _ _).2 ?_,fun x y _ _=>(e _ _).2 ?_,fun x y z _ _ _ h1 h2=>(e _ _).2 ?_⟩
 ·rw [z] at hx⊢;omega
 ·rw [z] at hx hy⊢;rw [j];omega
 ·rw [j];omega
 ·rw [j];omega
 ·have:=(e _ _).1 h1
  have:=(e _ _).1 h2
  rw [j];omega
def Lat.fns (a b:Lat):Lat:=.fn a b (enum a b a.sz []) (lowM a b (enum a b a.sz []))
theorem q4t (a b:Lat):fnsM a b=if (enum a b a.sz []).length≤40 then some (Lat.fns a b) else none:=by
 obtain ⟨h1,h2⟩:=q73 a b a.sz [] [] (by simp)
 simp only [List.length_nil,Nat.zero_add,List.nil_append] at h1 h2
 unfold fnsM Lat.fns
 by_cases h:(enum a b a.sz []).length≤40
 ·rw [h1 h]
  simp only [if_true,if_pos h]
 ·rw [if_neg h,h2 h]
  simp
section
variable {a b:Lat} (ha:Ord a) (hb:Ord b)
abbrev Rw (a b:Lat):List (List Nat):=enum a b a.sz []
theorem q33 {i:Nat} (h:i < (Rw a b).length):Mono a b (nth (Rw a b) (i:Int)):=by
 rw [q1y h]
 exact (q3L a b _).1 (List.getElem_mem h)
theorem q6q {i j:Nat} (h:i < j) (hj:j < (Rw a b).length):j3j (nth (Rw a b) (i:Int)) (nth (Rw a b) (j:Int)):=by
 rw [q1y hj,q1y (Nat.lt_trans h hj)]
 exact List.pairwise_iff_getElem.1 (q69 a b a.sz []) i j (Nat.lt_trans h hj) hj h
theorem z1y {r:List Nat} (h:Mono a b r):∃ i,i < (Rw a b).length∧nth (Rw a b) (i:Int)=r:=by
 obtain ⟨i,hi,e⟩:=List.getElem_of_mem ((q3L a b r).2 h)
 exact ⟨i,hi,by rw [q1y hi,e]⟩
theorem q3A (x y:Nat) (hx:x < (Lat.fns a b).sz) (hy:y < (Lat.fns a b).sz):(Lat.fns a b).le x y=true↔∀ i,i < a.sz→b.le (nth (nth (Rw a b) (x:Int)) (i:Int)) (nth (nth (Rw a b) (y:Int)) (i:Int))=true:=by
 rw [← j1K]
 simp only [Lat.fns,Lat.le]
 rw [z8Y a b _ x y hx hy]
theorem q1x {i x:Nat} (h:i < (Rw a b).length) (hx:x < a.sz):nth (nth (Rw a b) (i:Int)) (x:Int) < b.sz:=by
 obtain ⟨h1,h2,_⟩:=q33 h
 rw [q1y (by omega)]
 exact h2 _ _
theorem z1L {r:List Nat} (h:Mono a b r) {i j:Nat} (hij:i < j) (hj:j < a.sz) (hle:a.le i j=true):b.le (nth r (i:Int)) (nth r (j:Int))=true:=by
 obtain ⟨h1,_,h3⟩:=h
 rw [q1y (by omega:i < r.length),q1y (by omega:j < r.length)]
 exact h3 i j hij (by omega) hle
include hb in
theorem q5q (v:Nat) (hv:v < b.sz):Mono a b (List.replicate a.sz v):=by
 refine ⟨by simp,fun j h=>by simpa using hv,fun i j h hj _=>?_⟩
 rw [List.getElem_replicate,List.getElem_replicate]
 exact hb.refl v hv
include hb in
theorem j2p (x y:Nat) (hx:x < (Lat.fns a b).sz) (hy:y < (Lat.fns a b).sz) (h:(Lat.fns a b).le x y=true):x≤y:=by
 rcases Nat.lt_or_ge y x with hlt | hge
 ·obtain ⟨p,h1,h2,_,h4⟩:=q6q (a:=a) (b:=b) hlt hx
  have m1:=q33 (a:=a) (b:=b) hx
  have m2:=q33 (a:=a) (b:=b) hy
  have hp:p < a.sz:=by have:=m1.1;omega
  have hl:=(q3A x y hx hy).1 h p hp
  have:=hb.num _ _ (q1x hx hp) (q1x hy hp) hl
  rw [q1y (by omega:p < (nth (Rw a b) (x:Int)).length),q1y (by omega:p < (nth (Rw a b) (y:Int)).length)] at this
  omega
 ·exact hge
def jrow (a b:Lat) (x y:Nat):List Nat:=(List.range a.sz).map fun (i:Nat)=>b.jn (nth (nth (Rw a b) (x:Int)) (i:Int)) (nth (nth (Rw a b) (y:Int)) (i:Int))
theorem q37 (x y i:Nat) (hi:i < a.sz):nth (jrow a b x y) (i:Int)=b.jn (nth (nth (Rw a b) (x:Int)) (i:Int)) (nth (nth (Rw a b) (y:Int)) (i:Int)):=by
 refine q4h ?_
 rw [jrow,List.getElem?_map,List.getElem?_range hi,Option.map_some]
include hb in
theorem z5X (x y:Nat) (hx:x < (Rw a b).length) (hy:y < (Rw a b).length):Mono a b (jrow a b x y):=by
 have hl:(jrow a b x y).length=a.sz:=by simp [jrow]
 refine ⟨hl,fun j h=>?_,fun i j h hj hle=>?_⟩
 ·rw [← q1y h,q37 x y j (by omega)]
  exact hb.jlt _ _ (q1x hx (by omega)) (q1x hy (by omega))
 ·have hja:j < a.sz:=by omega
  have hia:i < a.sz:=by omega
  rw [← q1y hj,← q1y (show i < (jrow a b x y).length by omega),q37 x y j hja,q37 x y i hia]
  have q1:=q1x hx hia
  have q2:=q1x hy hia
  have q3:=q1x hx hja
  have q4:=q1x hy hja
  have q5:=hb.jlt _ _ q3 q4
  refine hb.jlub _ _ _ q1 q2 q5 (hb.trans _ _ _ q1 q3 q5 ?_ (hb.jl _ _ q3 q4)) (hb.trans _ _ _ q2 q4 q5 ?_ (hb.jr _ _ q3 q4))
  ·exact z1L (q33 hx) h hja hle
  ·exact z1L (q33 hy) h hja hle
include hb in
theorem q9I (x y:Nat) (hx:x < (Rw a b).length) (hy:y < (Rw a b).length):(Lat.fns a b).jn x y < (Rw a b).length∧nth (Rw a b) (((Lat.fns a b).jn x y:Nat):Int)=jrow a b x y:=by
 obtain ⟨i,hi,e⟩:=z1y (z5X hb x y hx hy)
 have hj:(Lat.fns a b).jn x y=(Rw a b).findIdx fun r=>decide (r=jrow a b x y):=rfl
 rw [hj]
 have hlt:((Rw a b).findIdx fun r=>decide (r=jrow a b x y)) < (Rw a b).length:=by
  refine List.findIdx_lt_length_of_exists ⟨jrow a b x y,?_,by simp⟩
  rw [← e,q1y hi]
  exact List.getElem_mem hi
 refine ⟨hlt,?_⟩
 rw [q1y hlt]
 have:=List.findIdx_getElem (w:=hlt)
 simpa using this
include hb in
theorem j1O:Ord (Lat.fns a b):=by
 have hsz:(Lat.fns a b).sz=(Rw a b).length:=rfl
 have hpos:0 < (Rw a b).length:=by
  obtain ⟨i,hi,_⟩:=z1y (q5q (a:=a) hb 0 hb.pos)
  omega
 refine ⟨hpos,fun x hx=>?_,fun x y z hx hy hz h1 h2=>?_,j2p hb,fun x hx=>?_,fun x hx=>?_,fun x y hx hy=>(q9I hb x y hx hy).1,fun x y hx hy=>?_,fun x y hx hy=>?_,fun x y z hx hy hz h1 h2=>?_⟩
 ·exact (q3A x x hx hx).2 fun i hi=>hb.refl _ (q1x hx hi)
 ·exact (q3A x z hx hz).2 fun i hi=>hb.trans _ _ _ (q1x hx hi) (q1x hy hi) (q1x hz hi) ((q3A x y hx hy).1 h1 i hi) ((q3A y z hy hz).1 h2 i hi)
 ·obtain ⟨k,hk,e⟩:=z1y (q5q (a:=a) hb 0 hb.pos)
  have hk0:k=0:=by
   rcases Nat.eq_zero_or_pos k with h | h
   ·exact h
   ·obtain ⟨p,h1,h2,_,h4⟩:=q6q (a:=a) (b:=b) h hk
    have:(nth (Rw a b) (k:Int))[p]=0:=by
     simp only [e]
     exact List.getElem_replicate _
    omega
  subst hk0
  refine (q3A 0 x hpos hx).2 fun i hi=>?_
  rw [e]
  have:nth (List.replicate a.sz 0) (i:Int)=0:=q4h (by simp [hi])
  rw [this]
  exact hb.bot _ (q1x hx hi)
 ·obtain ⟨k,hk,e⟩:=z1y (q5q (a:=a) hb (b.sz - 1) (by have:=hb.pos;omega))
  have hk0:k=(Rw a b).length - 1:=by
   rcases Nat.lt_or_ge k ((Rw a b).length - 1) with h | h
   ·obtain ⟨p,h1,h2,_,h4⟩:=q6q (a:=a) (b:=b) h (by omega)
    have e2:(nth (Rw a b) (k:Int))[p]=b.sz - 1:=by
     simp only [e]
     exact List.getElem_replicate _
    have m:=(q33 (a:=a) (b:=b) (show (Rw a b).length - 1 < (Rw a b).length by omega)).2.1 p h2
    omega
   ·omega
  have ht:(Lat.fns a b).sz - 1 < (Lat.fns a b).sz:=by omega
  refine (q3A x _ hx ht).2 fun i hi=>?_
  rw [hsz,← hk0,e]
  have:nth (List.replicate a.sz (b.sz - 1)) (i:Int)=b.sz - 1:=q4h (by simp [hi])
  rw [this]
  exact hb.top _ (q1x hx hi)
 ·obtain ⟨j1,j2⟩:=q9I hb x y hx hy
  refine (q3A x _ hx j1).2 fun i hi=>?_
  rw [j2,q37 x y i hi]
  exact hb.jl _ _ (q1x hx hi) (q1x hy hi)
 ·obtain ⟨j1,j2⟩:=q9I hb x y hx hy
  refine (q3A y _ hy j1).2 fun i hi=>?_
  rw [j2,q37 x y i hi]
  exact hb.jr _ _ (q1x hx hi) (q1x hy hi)
 ·obtain ⟨j1,j2⟩:=q9I hb x y hx hy
  refine (q3A _ z j1 hz).2 fun i hi=>?_
  rw [j2,q37 x y i hi]
  exact hb.jlub _ _ _ (q1x hx hi) (q1x hy hi) (q1x hz hi) ((q3A x z hx hz).1 h1 i hi) ((q3A y z hy hz).1 h2 i hi)
end
theorem j3o {a b:Lat} (ha:a.wf) (hb:b.wf) (h:(enum a b a.sz []).length≤40):(Lat.fns a b).wf:=by
 refine ⟨ha,hb,by omega,by rw [z0O];simp,fun r hr=>?_,fun r hr=>?_⟩
 ·rw [z0O,List.mem_map] at hr
  obtain ⟨x,_,rfl⟩:=hr
  exact q6r a b _ x
 ·obtain ⟨h1,h2,_⟩:=(q3L a b r).1 hr
  refine ⟨h1,fun v hv=>?_⟩
  obtain ⟨i,hi,rfl⟩:=List.getElem_of_mem hv
  exact h2 i hi
end Go.Vm
end

section
namespace Go.Vm
set_option maxRecDepth 100000
open Go.Proofs Go.RowKit
def q4W:BY:=[76,105,115,116]
def latF:List (Option Lat)→Option Lat
 |[some a,some b]=>fnsM a b
 |_=>none
mutual
def Ty.lat:Ty→Option Lat
 |.mk k n l=>if(k==4&&decide (n=q4W))=true then(if l.length=1 then some (.ch 4) else none) else if k≠3 then some (.ch 2) else latF (latL l)
def latL:List Ty→List (Option Lat)
 |[]=>[]
 |t :: r=>t.lat :: latL r
end
mutual
def Ty.kpt:Ty→Kpt→Kpt
 |.mk k n l,es=>if k=3 then(if(Ty.mk k n l).txt.length≤65536 then(if(q4g (Ty.mk k n l).txt es).isSome then es else setK (Ty.mk k n l).txt (Ty.mk k n l).lat (kptL l es)) else kptL l es) else es
def kptL:List Ty→Kpt→Kpt
 |[],es=>es
 |t :: r,es=>kptL r (t.kpt es)
end
def Fine(o:Lat):Prop:=Ord o∧o.wf∧o.sz≤40
theorem z0T{n:Nat}(h0:0<n)(h:n≤40):Fine (.ch n):=⟨j3G n h0,by show n≤1000;omega,h⟩
theorem z12{a b o:Lat}(ha:Fine a)(hb:Fine b)(h:fnsM a b=some o):Fine o:=by
 rw[q4t] at h
 split at h
 ·rename_i hl
  cases h
  exact⟨j1O hb.1,j3o ha.2.1 hb.2.1 hl,hl⟩
 ·cases h
mutual
theorem q8y:∀(t:Ty)(o:Lat),t.lat=some o→Fine o
 |.mk k n l,o,h=>by
  rw[Ty.lat] at h
  split at h
  ·split at h
   ·cases h;exact z0T (by decide) (by decide)
   ·cases h
  ·split at h
   ·cases h;exact z0T (by decide) (by decide)
   ·have hl:=q9w l
    generalize latL l=q at h hl
    unfold latF at h
    split at h
    ·exact z12 (hl _ (by simp)) (hl _ (by simp)) h
    ·cases h
theorem q9w:∀(l:List Ty)(o:Lat),some o∈latL l→Fine o
 |[],o,h=>by simp [latL] at h
 |t :: r,o,h=>by
  rw[latL,List.mem_cons] at h
  rcases h with h|h
  ·exact q8y t o h.symm
  ·exact q9w r o h
end
def KG(es:Kpt):Prop:=∀ x o,q4g x es=some o→∀ t,q3h t→t.txt=x→t.lat=o
theorem j30:KG []:=fun x o h=>by cases h
theorem z1O(y x:BY)(o:Option Lat):∀ es:Kpt,q4g y (setK x o es)=if y=x then some o else q4g y es
 |[]=>by simp [setK,q4g]
 |(m,p) :: r=>by
  rw[setK]
  by_cases h:x=m
  ·subst h
   simp only[if_true,q4g]
   split <;> rfl
  ·rw[if_neg h,q4g,q4g,z1O y x o r]
   by_cases h2:y=m
   ·subst h2
    rw[if_pos rfl,if_pos rfl,if_neg (Ne.symm h)]
   ·rw[if_neg h2,if_neg h2]
theorem j3Z{es:Kpt}(h:KG es){t:Ty}(ht:q3h t):KG (setK t.txt t.lat es):=by
 intro x o hl u hu hx
 rw[z1O] at hl
 split at hl
 ·rename_i e
  rw[j1e hu ht (hx.trans e)]
  exact Option.some.inj hl
 ·exact h x o hl u hu hx
theorem q5C{k:Int}{n:BY}{l:List Ty}(h:q3h (.mk k n l)):∀ t∈l,q3h t:=by
 obtain⟨m1,_,_⟩:=q2c h.1
 have h2:=h.2
 rw[Ty.varB,Bool.or_eq_false_iff] at h2
 exact fun t ht=>⟨q3r _ t m1 ht,q4E _ t h2.2 ht⟩
mutual
theorem j0B:∀(t:Ty)(es:Kpt),q3h t→KG es→KG (t.kpt es)
 |.mk k n l,es,ht,h=>by
  have hl:=z5V l es (q5C ht) h
  rw[Ty.kpt]
  split
  ·split
   ·split
    ·exact h
    ·exact j3Z hl ht
   ·exact hl
  ·exact h
theorem z5V:∀(l:List Ty)(es:Kpt),(∀ t∈l,q3h t)→KG es→KG (kptL l es)
 |[],es,_,h=>h
 |t :: r,es,ht,h=>z5V r (t.kpt es) (fun u hu=>ht u (by simp [hu])) (j0B t es (ht t (by simp)) h)
end
theorem q8P:∀(l:List Ty)(t:Ty),t∈l→t.cnt≤cntL l
 |[],t,h=>by simp at h
 |u :: r,t,h=>by
  rw[cntL]
  rcases List.mem_cons.1 h with rfl|h
  ·omega
  ·have:=q8P r t h;omega
mutual
theorem q5n:∀ t:Ty,t.nod≤t.cnt
 |.mk k n l=>by
  have:=q6B l 1
  rw[Ty.nod,Ty.cnt]
  omega
theorem q6B:∀(l:List Ty)(n:Nat),nodL n l≤n+cntL l
 |[],n=>by simp [nodL]
 |t :: r,n=>by
  rw[nodL,cntL]
  split
  ·omega
  ·have h1:=q6B r (n+t.nod)
   have h2:=q5n t
   omega
end
theorem q7w{k:Int}{n:BY}{l:List Ty}(h:(Ty.mk k n l).wrongI=0):∀ t∈l,t.wrongI=0:=by
 obtain⟨h1,h2⟩:=q2K h
 intro t ht
 have m1:=(q2c h1).1
 have hc:=q6A _ h2
 have hn:nodL 1 l≤500:=by
  rw[Ty.nod] at h2;omega
 have h3:t.nod≤500:=by
  have hx:=q8w l 1 hn
  have hm:=q8P l t ht
  have hle:=q5n t
  omega
 unfold Ty.wrongI
 rw[if_pos (q3r l t m1 ht),if_neg (by omega)]
theorem q4m{t:Ty}(h:t.wrongI=0)(hv:t.varB=false):q3h t:=⟨(q2K h).1,hv⟩
theorem j3T{o o':Option Lat}(h:oV o=oV o'):o=o':=by
 cases o with
 |none=>cases o' with
  |none=>rfl
  |some l=>simp [oV,pD] at h
 |some l=>cases o' with
  |none=>simp [oV,pD] at h
  |some l'=>
   simp only[oV,pD,V.d.injEq,D.ptr.injEq,true_and] at h
   rw[q1Q _ _ h]
theorem q4Y:∀ es es':Kpt,q0C es=q0C es'→es=es'
 |[],[],_=>rfl
 |[],_ :: _,h=>by simp [q0C] at h
 |_ :: _,[],h=>by simp [q0C] at h
 |(x,o) :: es,(x',o') :: es',h=>by
  simp only[q0C,List.map_cons,List.cons.injEq,Prod.mk.injEq,D.str.injEq] at h
  obtain⟨⟨rfl,h1⟩,h2⟩:=h
  rw[j3T h1,q4Y es es' h2]
theorem q6S{F:List Nat→List (List Nat)→Bool×List (List Nat)}{P:Nat→List (List Nat)}(fit:Nat→Bool)(row:List Nat)
  (hF:∀ v found,fit v=true→∀ r∈(F (row++[v]) found).2,r∈found∨r∈P v):∀ m v found,∀ r∈(q3D F fit row m v found).2,r∈found∨r∈cat P m v
 |0,v,found,r,h=>.inl h
 |m+1,v,found,r,h=>by
  simp only[q3D] at h
  simp only[cat,List.mem_append]
  cases hf:fit v with
  |false=>
   simp only[hf,Bool.false_eq_true,if_false] at h
   exact(q6S fit row hF m (v+1) found r h).imp id .inr
  |true=>
   have q:=hF v found hf
   simp only[hf,if_true] at h
   generalize F (row++[v]) found=z at q h
   obtain⟨ok,f⟩:=z
   simp only at q
   cases ok with
   |false=>
    simp only at h
    exact(q r h).imp id .inl
   |true=>
    simp only at h
    rcases q6S fit row hF m (v+1) f r h with h|h
    ·exact(q r h).imp id .inl
    ·exact .inr (.inr h)
theorem q9K(a b:Lat):∀ k row found,∀ r∈(q00 a b k row found).2,r∈found∨r∈enum a b k row
 |0,row,found,r,h=>by
  simp only[q00,List.mem_append,enum] at h ⊢
  exact h
 |k+1,row,found,r,h=>by
  simp only[q00,enum] at h ⊢
  refine q6S _ row (fun v found hv r hr=>?_) b.sz 0 found r h
  simp only[hv,if_true]
  exact q9K a b k (row++[v]) found r hr
theorem z5d(a b:Lat):q1K a b (q00 a b a.sz [] []).2:=by
 intro r hr
 rcases q9K a b a.sz [] [] r hr with h|h
 ·simp at h
 ·obtain⟨h1,h2,_⟩:=(q3L a b r).1 h
  refine⟨h1,fun v hv=>?_⟩
  obtain⟨i,hi,rfl⟩:=List.getElem_of_mem hv
  exact h2 i hi
def j0r(n:Nat)(t:Ty)(es:Kpt):Prop:=t.fit∧SizeOf.sizeOf t<n∧t.wrongI=0∧t.varB=false∧KG es
noncomputable def y39(n:Nat):Se where
 α:=Ty×Kpt
 f:=39
 ok:=fun(t,es)=>j0r n t es
 args:=fun(t,_)=>[tyW t,.ptr 0 0 0]
 blks:=fun(_,es)=>kp es
 res:=fun(t,es)=>(oV t.lat,kp (t.kpt es),[])
 inj:=by
  rintro⟨t,es⟩ ⟨t',es'⟩ _ _ h h'
  simp only[List.cons.injEq,and_true] at h
  obtain rfl:=q10 _ _ h
  simp only[kp,List.cons.injEq,Blk.map.injEq,true_and,and_true] at h'
  obtain rfl:=q4Y _ _ h'
  rfl
def z2g(n:Nat)(t:Ty)(es:Kpt):Prop:=j0r n t es∧∃ a b,t=.mk 3 [] [a,b]
def Ty.argsOf:Ty→List Ty
 |.mk _ _ l=>l
noncomputable def y53(n:Nat):Se where
 α:=Ty×Kpt
 f:=53
 ok:=fun(t,es)=>z2g n t es
 args:=fun(t,_)=>[tyW t,.ptr 0 0 0]
 blks:=fun(_,es)=>kp es
 res:=fun(t,es)=>(oV t.lat,kp (kptL t.argsOf es),[])
 inj:=by
  rintro⟨t,es⟩ ⟨t',es'⟩ _ _ h h'
  simp only[List.cons.injEq,and_true] at h
  obtain rfl:=q10 _ _ h
  simp only[kp,List.cons.injEq,Blk.map.injEq,true_and,and_true] at h'
  obtain rfl:=q4Y _ _ h'
  rfl
@[reducible] def tyB (t:Ty):Blk:=.mix 3 [t.d.map (V.d false)]
theorem z4E{t u:Ty}(h:tyB t=tyB u):t=u:=by
 obtain⟨k,n,l⟩:=t
 obtain⟨k',n',l'⟩:=u
 simp only[tyB,Ty.d,List.map_cons,List.map_nil,Blk.mix.injEq,List.cons.injEq,V.d.injEq,D.int.injEq,D.str.injEq,D.sl.injEq,true_and,and_true] at h
 rw[h.1,h.2.1,q9Z l l' h.2.2]
noncomputable def y55(n:Nat):Se where
 α:=Ty×Kpt
 f:=55
 ok:=fun(t,es)=>z2g n t es
 args:=fun _=>[.ptr 0 0 0,.ptr 1 0 0]
 blks:=fun(t,es)=>[tyB t,.mix 1 [[.ptr 2 0 0]],.mix 1 [[.map 3]],.map (q0C es)]
 res:=fun(t,es)=>(oV t.lat,[tyB t,.mix 1 [[.ptr 2 0 0]],.mix 1 [[.map 3]],.map (q0C (kptL t.argsOf es))],[])
 inj:=by
  rintro⟨t,es⟩ ⟨t',es'⟩ _ _ h h'
  simp only[List.cons.injEq,Blk.map.injEq,true_and,and_true] at h'
  obtain⟨h1,h2⟩:=h'
  obtain rfl:=z4E h1
  obtain rfl:=q4Y _ _ h2
  rfl
noncomputable def y54(n:Nat):Se where
 α:=Ty×Kpt
 f:=54
 ok:=fun(t,es)=>z2g n t es
 args:=fun(t,_)=>[.ptr 0 0 0,.d false (.str t.txt),.fn 55 [.ptr 1 0 0,.ptr 2 0 0]]
 blks:=fun(t,es)=>[.mix 1 [[.map 3]],tyB t,.mix 1 [[.ptr 0 0 0]],.map (q0C es)]
 res:=fun(t,es)=>(oV t.lat,[.mix 1 [[.map 3]],tyB t,.mix 1 [[.ptr 0 0 0]],.map (q0C (if(q4g t.txt es).isSome then es else setK t.txt t.lat (kptL t.argsOf es)))],[])
 inj:=by
  rintro⟨t,es⟩ ⟨t',es'⟩ _ _ h h'
  simp only[List.cons.injEq,Blk.map.injEq,true_and,and_true] at h'
  obtain⟨h1,h2⟩:=h'
  obtain rfl:=z4E h1
  obtain rfl:=q4Y _ _ h2
  rfl
section
variable {G:Nat→Option (List D)}
theorem j1m{a b:Ty}{m:Nat}(h:SizeOf.sizeOf (Ty.mk 3 [] [a,b])<m+1):SizeOf.sizeOf a<m∧SizeOf.sizeOf b<m:=by
 simp only[Ty.mk.sizeOf_spec,List.cons.sizeOf_spec,List.nil.sizeOf_spec] at h
 omega
theorem y53h(n:Nat)(hy:(y39 n).Holds Tryz.prog G):(y53 (n+1)).Holds Tryz.prog G:=by
 rintro⟨t,es⟩ ⟨⟨hf,hs,hw,hv,hk⟩,a,b,rfl⟩
 obtain⟨s1,s2⟩:=j1m hs
 obtain⟨_,f1,f2,_⟩:=hf
 have wa:=q7w hw
 have hcl:=q4m hw hv
 have ca:=q5C hcl
 have qa:j0r n a es:=⟨f1,s1,wa a (by simp),(ca a (by simp)).2,hk⟩
 have qb:j0r n b (a.kpt es):=⟨f2,s2,wa b (by simp),(ca b (by simp)).2,j0B a es (ca a (by simp)) hk⟩
 have hlat:(Ty.mk 3 [] [a,b]).lat=latF [a.lat,b.lat]:=by simp [Ty.lat,latL]
 have hfa:=q8y a
 have hfb:=q8y b
 by_cases hn:a.lat=none∨b.lat=none
 ·have hl:(Ty.mk 3 [] [a,b]).lat=none:=by
   rw[hlat]
   rcases hn with h|h
   ·rw[h];rfl
   ·rw[h];cases a.lat <;> rfl
  have ea:(cx G [] [y39 n]).eff 39 [tyW a,.ptr 0 0 0] (kp es)=some (oV a.lat,kp (a.kpt es),[]):=ce1 (y39 n) (a,es) qa
  have eb:(cx G [] [y39 n]).eff 39 [tyW b,.ptr 0 0 0] (kp (a.kpt es))=some (oV b.lat,kp (b.kpt (a.kpt es)),[]):=ce1 (y39 n) (b,a.kpt es) qb
  simp only[y53,hl]
  refine q07 (g:=f53) q0e ((Known.nil (G:=G)).putE hy).sound j0I ?_
  obtain⟨ka,na,la⟩:=a
  obtain⟨kb,nb,lb⟩:=b
  exact q8E _ ka kb na nb (dL la) (dL lb) [] es _ _ _ _ ea eb hn
 ·obtain⟨x,hx⟩:∃ x,a.lat=some x:=by
   cases h:a.lat with
   |none=>exact absurd (.inl h) hn
   |some x=>exact⟨x,rfl⟩
  obtain⟨y,hy'⟩:∃ y,b.lat=some y:=by
   cases h:b.lat with
   |none=>exact absurd (.inr h) hn
   |some y=>exact⟨y,rfl⟩
  obtain⟨ox,wx,zx⟩:=hfa x hx
  obtain⟨oy,wy,zy⟩:=hfb y hy'
  have hl:(Ty.mk 3 [] [a,b]).lat=fnsM x y:=by rw[hlat,hx,hy'];rfl
  have ea:(cx G [z72] [y71 x y x.sz,y39 n]).eff 39 [tyW a,.ptr 0 0 0] (kp es)=some (oV (some x),kp (a.kpt es),[]):=by
   rw[←hx];exact ce2 (y39 n) (show(71:Nat)≠39 by decide) (a,es) qa
  have eb:(cx G [z72] [y71 x y x.sz,y39 n]).eff 39 [tyW b,.ptr 0 0 0] (kp (a.kpt es))=some (oV (some y),kp (b.kpt (a.kpt es)),[]):=by
   rw[←hy'];exact ce2 (y39 n) (show(71:Nat)≠39 by decide) (b,a.kpt es) qb
  have ef:F71 (cx G [z72] [y71 x y x.sz,y39 n]) x y:=ce1 (y71 x y x.sz) ([],.fs false 1 [],[]) ⟨.inr ⟨rfl,rfl⟩,by simp,by simp,by simp⟩
  have hr:=z5d x y
  simp only[y53,hl]
  refine q07 (g:=f53) q0e ((Known.nil (G:=G)).put (z72h G) |>.putE hy |>.putE (y71h G x y wx wy (by omega) (by omega) ox.pos x.sz)).sound j0I ?_
  obtain⟨ka,na,la⟩:=a
  obtain⟨kb,nb,lb⟩:=b
  exact q9T _ (fun s a b rows l x y h1 h2 h3 h4 h5=>cx1 z72 (s,a,b,rows,l,x,y) ⟨h1,h2,h3,h4,h5⟩) ka kb na nb (dL la) (dL lb) [] es _ _ x y ea eb wy (by omega) ef hr
theorem y55h(n:Nat)(hy:(y53 n).Holds Tryz.prog G):(y55 n).Holds Tryz.prog G:=by
 rintro⟨t,es⟩ hq
 have e:(cx G [] [y53 n]).eff 53 [tyW t,.ptr 0 0 0] (kp es)=some (oV t.lat,kp (kptL t.argsOf es),[]):=ce1 (y53 n) (t,es) hq
 refine q07 (g:=f55) q0e ((Known.nil (G:=G)).putE hy).sound j4C ?_
 obtain⟨k,nm,l⟩:=t
 exact ev_55 _ k nm (dL l) es _ _ e
theorem y54h(n:Nat)(hy:(y55 n).Holds Tryz.prog G):(y54 n).Holds Tryz.prog G:=by
 rintro⟨t,es⟩ hq
 have e:(cx G [] [y55 n]).eff 55 [.ptr 0 0 0,.ptr 1 0 0] [tyB t,.mix 1 [[.ptr 2 0 0]],.mix 1 [[.map 3]],.map (q0C es)]=some (oV t.lat,[tyB t,.mix 1 [[.ptr 2 0 0]],.mix 1 [[.map 3]],.map (q0C (kptL t.argsOf es))],[]):=ce1 (y55 n) (t,es) hq
 refine q07 (g:=f54) q0e ((Known.nil (G:=G)).putE hy).sound j4D ?_
 have hg:=hq.1.2.2.2.2
 have hc:=q4m hq.1.2.2.1 hq.1.2.2.2.1
 cases hl:q4g t.txt es with
 |some o=>
  have ho:=hg _ _ hl t hc rfl
  simp only[y54,hl,Option.isSome_some,if_true,ho]
  obtain⟨k,nm,l⟩:=t
  exact j5r _ _ k nm (dL l) es o hl
 |none=>
  simp only[y54,hl,Option.isSome_none,Bool.false_eq_true,if_false]
  obtain⟨k,nm,l⟩:=t
  exact j5q _ _ k nm (dL l) es _ _ hl e
theorem y39h{m:Int}(hG:G 1=some [.int .i64 m]):∀ n,(y39 n).Holds Tryz.prog G
 |0=>fun⟨t,es⟩ ⟨_,h,_⟩=>absurd h (Nat.not_lt_zero _)
 |n+1=>by
  have h53:=y53h n (y39h hG n)
  have h54:=y54h (n+1) (y55h (n+1) h53)
  refine q41 q0e ((Known.nil (G:=G)).put (z52h hG (n+1)) |>.putE h53 |>.putE h54).sound (g:=f39) (fun _ _=>j4P) ?_
  rintro⟨⟨k,nm,l⟩,es⟩ ⟨hf,hs,hw,hv,hk⟩
  have h52:(cx G [zT 52 (n+1) fun t=>t.prtV] [y54 (n+1),y53 (n+1)]).call 52 [tyW (.mk k nm l)]=some ((Ty.mk k nm l).prtV,[]):=cx1 (zT 52 (n+1) fun t=>t.prtV) (.mk k nm l) ⟨hf,hs⟩
  simp only[y39]
  by_cases hL:(k==4&&decide (nm=q4W))=true
  ·have hk4:k=4∧nm=q4W:=by simpa using hL
   obtain⟨rfl,rfl⟩:=hk4
   have e1:(Ty.mk 4 q4W l).lat=if(dL l).length=1 then some (.ch 4) else none:=by rw[Ty.lat,if_pos hL,z2d]
   have e2:(Ty.mk 4 q4W l).kpt es=es:=by rw[Ty.kpt,if_neg (by decide)]
   rw[e1,e2]
   exact z6Z _ (dL l) es
  ·by_cases h3:k=3
   ·subst h3
    have e2:(Ty.mk 3 nm l).kpt es=if(Ty.mk 3 nm l).txt.length≤65536 then(if(q4g (Ty.mk 3 nm l).txt es).isSome then es else setK (Ty.mk 3 nm l).txt (Ty.mk 3 nm l).lat (kptL l es)) else kptL l es:=by rw[Ty.kpt,if_pos rfl]
    obtain⟨_,_,hc⟩:=q2c (q2K hw).1
    obtain⟨rfl,a,b,rfl⟩:nm=[]∧∃ a b,l=[a,b]:=by
     rcases hc with⟨h,_⟩|⟨h,_⟩|⟨_,h⟩|⟨h,_⟩
     ·cases h
     ·cases h
     ·exact h
     ·cases h
    have hq:z2g (n+1) (.mk 3 [] [a,b]) es:=⟨⟨hf,hs,hw,hv,hk⟩,a,b,rfl⟩
    rw[e2]
    by_cases hb:(Ty.mk 3 [] [a,b]).txt.length≤65536
    ·rw[if_pos hb]
     have w:=ce1 (G:=G) (L:=[zT 52 (n+1) fun t=>t.prtV]) (E:=[y53 (n+1)]) (y54 (n+1)) (.mk 3 [] [a,b],es) hq
     simp only[Ty.prtV,if_pos hw,if_pos hb] at h52
     exact z61 _ [] (dL [a,b]) es _ _ _ (by simp [Ty.txt]) h52 w
    ·rw[if_neg hb]
     have w:=ce2 (G:=G) (L:=[zT 52 (n+1) fun t=>t.prtV]) (E:=[]) (t:=y54 (n+1)) (y53 (n+1)) (show(54:Nat)≠53 by decide) (.mk 3 [] [a,b],es) hq
     simp only[Ty.prtV,if_pos hw,if_neg hb] at h52
     exact z60 _ [] (dL [a,b]) es _ _ h52 w
   ·have e1:(Ty.mk k nm l).lat=some (.ch 2):=by rw[Ty.lat,if_neg hL,if_pos h3]
    have e2:(Ty.mk k nm l).kpt es=es:=by rw[Ty.kpt,if_neg h3]
    rw[e1,e2]
    exact z6Y _ k nm (dL l) es (Bool.eq_false_iff.2 hL) h3
end
end Go.Vm
end

section
namespace Go.Vm
set_option maxRecDepth 20000
def intD(z:Int):List D:=[.int .i64 z]
@[reducible] def ilV (l:List Int):V:=.d false (.sl 1 (l.map intD))
def natI(r:List Nat):List Int:=r.map fun(v:Nat)=>(v:Int)
theorem q52(r:List Nat):r.map natD=(natI r).map intD:=by simp [natI,natD,intD]
/- '(*sloth/lattice.order).has' -/
def f26:Fun:=⟨ (.seq (.reg [⟨[],[],[(.bool false)],none,[0,1],1,[],[],[]⟩]) (.seq (.reg [⟨[],[(4,(.and (.bin .geq (.sl 1) (.int .i64 0)) (.bin .lss (.sl 1) (.ld 1 false (.fa 0 (.fa 0 (.sl 0)))))))],[],none,[],11,[],[],[]⟩]) (.seq (.tidy 0 [4]) .ret))), [(.sl 4)],false⟩
theorem j4Y:q0o Go.Proofs.Tryz.prog 26 0 2 f26=true:=by kernel_rfl
/- '(*sloth/lattice.order).join' -/
def f28_L0:C:= (.seq (.reg [⟨[],[(25,(.bin .lss (.sl 24) (.sl 23)))],[],none,[0,1,2,7,23,24],1,[],[],[]⟩]) (.seq (.cond (.sl 25) .skip (.seq (.tidy 0 [0,7]) (.exit 0))) (.seq (.block 1 (.seq (.reg [⟨[],[(8,(.sl 24))],[],none,[0,1,2,7,23,24],2,[],[],[]⟩]) (.reg [⟨[(53,.lits 1 (.cons (.call 28 (.cons (.ld 1 false (.fa 2 (.fa 0 (.sl 0)))) (.cons (.ld 1 false (.ia 1 (.ld 1 false (.ia 1 (.ld 1 false (.fa 3 (.fa 0 (.sl 0)))) (.sl 1))) (.sl 8))) (.cons (.ld 1 false (.ia 1 (.ld 1 false (.ia 1 (.ld 1 false (.fa 3 (.fa 0 (.sl 0)))) (.sl 2))) (.sl 8))) .nil)))) .nil))],[],[],some (some 54,.app 1 (.sl 7) (.sl 53)),[0,1,2,23,24],28,[[],[],[1],[1,2],[2,1,3],[],[5],[5,6],[6,5,7],[],[9,7,5,6,8],[8,6,5,7,9,10],[],[12,10,9,7,5,6,8,11],[11,8,6,5,7,9,10,12,13],[],[15],[15,16],[16,15,17],[],[19,17,15,16,18],[18,16,15,17,19,20],[],[22,20,19,17,15,16,18,21],[21,18,16,15,17,19,20,22,23],[23,22,20,19,17,15,16,18,21,24,13,12,10,9,7,5,6,8,11,14,3,1,2,4],[4,2,1,3,14,11,8,6,5,7,9,10,12,13,24,21,18,16,15,17,19,20,22,23,25],[25,23,22,20,19,17,15,16,18,21,24,13,12,10,9,7,5,6,8,11,14,3,1,2,4,26,0],[0,26,4,2,1,3,14,11,8,6,5,7,9,10,12,13,24,21,18,16,15,17,19,20,22,23,25,27]],[],[]⟩,⟨[],[(7,(.sl 54))],[],none,[0,1,2,23,24],1,[],[],[]⟩]))) (.reg [⟨[],[(24,(.bin .add (.sl 24) (.int .i64 1)))],[],none,[0,1,2,7,23],2,[],[],[]⟩]))))
def f28:Fun:=⟨ (.seq (.reg [⟨[],[],[(.int .i64 0)],none,[0,1,2],1,[],[],[]⟩]) (.seq (.seq (.reg [⟨[],[(13,(.eqs false false [4] (.ld 1 false (.fa 1 (.fa 0 (.sl 0)))) .nilp))],[],none,[0,1,2],5,[],[],[]⟩]) (.cond (.sl 13) (.seq (.reg [⟨[],[(6,(.cond (.and (.bin .eql (.bin .and (.sl 2) (.int .i64 0)) (.bin .and (.sl 2) (.int .i64 0))) (.bin .gtr (.sl 2) (.sl 1))) (.sl 2) (.sl 1)))],[(.sl 1)],none,[],4,[],[],[]⟩]) (.seq (.tidy 0 [6]) .ret)) .skip)) (.seq (.reg [⟨[],[(7,(.nilsl 1))],[],none,[0,1,2],1,[],[],[]⟩]) (.seq (.seq (.reg [⟨[],[(23,(.ld 1 false (.fa 0 (.fa 0 (.ld 1 false (.fa 1 (.fa 0 (.sl 0)))))))),(24,(.int .i64 0))],[],none,[0,1,2,7],8,[],[],[]⟩]) (.block 0 (.seq (.tidy 0 [0,1,2,7,23,24]) (.loop (.seq (.tidy 0 [0,1,2,7,23,24]) f28_L0))))) (.seq (.reg [⟨[],[(6,(.call 33 (.cons (.sl 0) (.cons (.sl 7) .nil))))],[],none,[],4,[],[],[]⟩]) (.seq (.tidy 0 [6]) .ret)))))), [(.sl 6)],false⟩
theorem j4X:q0o Go.Proofs.Tryz.prog 28 0 3 f28=true:=by kernel_rfl
/- '(*sloth/lattice.order).number' -/
def f33:Fun:=⟨ (.seq (.reg [⟨[(3,.box (.sl 1))],[],[(.int .i64 0)],none,[0,3],2,[],[],[]⟩]) (.seq (.reg [⟨[],[(4,(.call 44 (.cons (.ld 1 false (.fa 3 (.fa 0 (.sl 0)))) (.cons (.mkf 45 (.cons (.sl 3) .nil)) .nil))))],[],none,[],7,[],[],[]⟩]) (.seq (.tidy 0 [4]) .ret))), [(.sl 4)],false⟩
theorem j4S:q0o Go.Proofs.Tryz.prog 33 0 2 f33=true:=by kernel_rfl
/- 'slices.IndexFunc[[][]int,[]int]' -/
def f44_L0:C:= (.seq (.reg [⟨[],[(9,(.bin .lss (.sl 8) (.sl 7)))],[],none,[0,1,7,8],1,[],[],[]⟩]) (.seq (.cond (.sl 9) .skip (.seq (.tidy 0 []) (.exit 0))) (.seq (.block 1 (.seq (.reg [⟨[],[(5,(.sl 8))],[],none,[0,1,7,8],2,[],[],[]⟩]) (.seq (.reg [⟨[],[(16,(.callv (.sl 1) (.cons (.ld 1 false (.ia 1 (.sl 0) (.sl 5))) .nil)))],[],none,[0,1,5,7,8],6,[],[],[]⟩]) (.cond (.sl 16) (.seq (.reg [⟨[],[(4,(.sl 5))],[],none,[],2,[],[],[]⟩]) (.seq (.tidy 0 [4]) .ret)) .skip)))) (.reg [⟨[],[(8,(.bin .add (.sl 8) (.int .i64 1)))],[],none,[0,1,7],2,[],[],[]⟩]))))
def f44:Fun:=⟨ (.seq (.reg [⟨[],[],[(.int .i64 0)],none,[0,1],1,[],[],[]⟩]) (.seq (.seq (.reg [⟨[],[(7,(.len false (.sl 0))),(8,(.int .i64 0))],[],none,[0,1],3,[],[],[]⟩]) (.block 0 (.seq (.tidy 0 [0,1,7,8]) (.loop (.seq (.tidy 0 [0,1,7,8]) f44_L0))))) (.seq (.reg [⟨[],[(4,(.int .i64 (-1)))],[],none,[],1,[],[],[]⟩]) (.seq (.tidy 0 [4]) .ret)))), [(.sl 4)],false⟩
theorem j4K:q0o Go.Proofs.Tryz.prog 44 0 2 f44=true:=by kernel_rfl
/- '(*sloth/lattice.order).number$1' -/
def f45:Fun:=⟨ (.seq (.reg [⟨[],[],[(.bool false)],none,[0,1],1,[],[],[]⟩]) (.seq (.reg [⟨[],[(3,(.call 46 (.cons (.sl 0) (.cons (.ld 1 false (.sl 1)) .nil))))],[],none,[],4,[],[],[]⟩]) (.seq (.tidy 0 [3]) .ret))), [(.sl 3)],false⟩
theorem j4J:q0o Go.Proofs.Tryz.prog 45 0 2 f45=true:=by kernel_rfl
/- 'slices.Equal[[]int,int]' -/
def f46_L0:C:= (.seq (.reg [⟨[],[(14,(.bin .lss (.sl 13) (.sl 12)))],[],none,[0,1,12,13],1,[],[],[]⟩]) (.seq (.cond (.sl 14) .skip (.seq (.tidy 0 []) (.exit 0))) (.seq (.block 1 (.seq (.reg [⟨[],[(5,(.sl 13))],[],none,[0,1,12,13],2,[],[],[]⟩]) (.seq (.reg [⟨[],[(24,(.bin .neq (.ld 1 false (.ia 1 (.sl 0) (.sl 5))) (.ld 1 false (.ia 1 (.sl 1) (.sl 5)))))],[],none,[0,1,12,13],9,[[],[],[1,0],[0,1,2],[],[],[5,4],[4,5,6],[6,5,4,7,2,1,0,3]],[],[]⟩]) (.cond (.sl 24) (.seq (.reg [⟨[],[(4,(.bool false))],[],none,[],1,[],[],[]⟩]) (.seq (.tidy 0 [4]) .ret)) .skip)))) (.reg [⟨[],[(13,(.bin .add (.sl 13) (.int .i64 1)))],[],none,[0,1,12],2,[],[],[]⟩]))))
def f46:Fun:=⟨ (.seq (.reg [⟨[],[],[(.bool false)],none,[0,1],1,[],[],[]⟩]) (.seq (.seq (.reg [⟨[],[(10,(.bin .neq (.len false (.sl 0)) (.len false (.sl 1))))],[],none,[0,1],5,[],[],[]⟩]) (.cond (.sl 10) (.seq (.reg [⟨[],[(4,(.bool false))],[],none,[],1,[],[],[]⟩]) (.seq (.tidy 0 [4]) .ret)) .skip)) (.seq (.seq (.reg [⟨[],[(12,(.len false (.sl 0))),(13,(.int .i64 0))],[],none,[0,1],3,[],[],[]⟩]) (.block 0 (.seq (.tidy 0 [0,1,12,13]) (.loop (.seq (.tidy 0 [0,1,12,13]) f46_L0))))) (.seq (.reg [⟨[],[(4,(.bool true))],[],none,[],1,[],[],[]⟩]) (.seq (.tidy 0 [4]) .ret))))), [(.sl 4)],false⟩
theorem j4I:q0o Go.Proofs.Tryz.prog 46 0 2 f46=true:=by kernel_rfl
theorem j5k(K:Cx)(o:Lat)(x:Int):q0c K f26 [pD o,.d false (.int .i64 x)] []=some (.bool (decide (0≤x)&&decide (x<(o.sz:Int))),[],[]):=by
  have e:=q2Z o
  unfold f26
  simp only[pD,e]
  simp(disch:=first|decide|omega|(simp only[LN];first|done|omega)) only[SV,SW,Nat.reduceAdd,Nat.reduceBEq,q0b]
theorem j2R(K:Cx)(a b:List Int)(hl:a.length=b.length)(ha:a.length≤1099511627776):∀(r:List Int)(k:Nat),a.drop k=r→k≤a.length→
    lp K 0 [0,1,12,13] f46_L0 ⟨[(0,ilV a),(1,ilV b),(12,.d false (.int .i64 a.length)),(13,.d false (.int .i64 k))],[],0,[]⟩ =
      if decide (r=b.drop k) then some (.exit 0,⟨[],[],0,[]⟩) else some (.ret,⟨[(4,.d false (.bool false))],[],0,[]⟩):=by
  intro r
  induction r with
  |nil=>
    intro k hd hk
    have hlen:=congrArg List.length hd
    rw[List.length_drop,List.length_nil] at hlen
    have e:decide (([]:List Int)=b.drop k)=true:=by
      rw[List.drop_eq_nil_of_le (by omega)];rfl
    rw[e,if_pos rfl]
    rw[q0p f46_L0.eq_1]
    simp(disch:=first|decide|omega|(simp only[LN];first|done|omega)) only[SV,SW,Nat.reduceBEq]
  |cons x r ih=>
    intro k hd hk
    have hl':k<a.length:=by
      rcases Nat.lt_or_ge k a.length with h'|h'
      · exact h'
      · rw[List.drop_eq_nil_of_le h'] at hd;cases hd
    have hdn:=q1i hl'
    rw[hd] at hdn
    simp only[List.cons.injEq] at hdn
    obtain⟨hn,hd'⟩:=hdn
    have hn:=hn.symm
    have ih:=ih (k+1) hd'.symm (by omega)
    have hb:=q1i (show k<b.length by omega)
    rw[hb]
    generalize hy:nth b (k:Int)=y at *
    clear hd hd' hb
    rw[q0p f46_L0.eq_1]
    simp only[ilV] at ih ⊢
    by_cases hxy:x=y
    · subst hxy
      simp only[List.cons.injEq,true_and]
      rw[←ih]
      clear ih
      simp(disch:=first|decide|omega|(simp only[LN];first|done|omega)) only[SV,SW,Nat.reduceBEq,intD,hn,hy,q0U]
    · have e:decide (x :: r=y :: b.drop (k+1))=false:=by simp [hxy]
      have e2:(x != y)=true:=by simp [hxy]
      rw[e]
      simp only[Bool.false_eq_true,if_false]
      clear ih e
      simp(disch:=first|decide|omega|(simp only[LN];first|done|omega)) only[SV,SW,Nat.reduceBEq,intD,hn,hy,e2]
theorem z9N(K:Cx)(a b:List Int)(ha:a.length≤1099511627776)(hb:b.length≤1099511627776):q0c K f46 [ilV a,ilV b] []=some (.bool (decide (a=b)),[],[]):=by
  by_cases hl:a.length=b.length
  · have w:=j2R K a b hl ha a 0 rfl (by omega)
    have e:((a.length:Int) != (b.length:Int))=false:=by simp [hl]
    unfold f46
    simp only[ilV,List.drop_zero,Int.natCast_zero,Int.ofNat_zero] at w ⊢
    by_cases h:a=b
    · subst h
      simp only[decide_true,if_true] at w
      simp(disch:=first|decide|omega|(simp only[LN];first|done|omega)) only[SV,SW,Nat.reduceAdd,Nat.reduceBEq,w,q0b]
    · simp only[h,decide_false,Bool.false_eq_true,if_false] at w
      simp(disch:=first|decide|omega|(simp only[LN];first|done|omega)) only[SV,SW,Nat.reduceAdd,Nat.reduceBEq,e,w,q0b,h]
  · have e:((a.length:Int) != (b.length:Int))=true:=by simp;omega
    have e2:decide (a=b)=false:=decide_eq_false fun h=>hl (congrArg List.length h)
    rw[e2]
    unfold f46
    simp only[ilV]
    simp(disch:=first|decide|omega|(simp only[LN];first|done|omega)) only[SV,SW,Nat.reduceAdd,Nat.reduceBEq,e,q0b]
theorem j2H(K:Cx)(a b:List Int)(w:K.call 46 [ilV a,ilV b]=some (.bool (decide (a=b)),[])):q0c K f45 [ilV a,.d false (.ptr [.sl 1 (b.map intD)])] []=some (.bool (decide (a=b)),[],[]):=by
  unfold f45
  simp only[ilV] at w ⊢
  simp(disch:=first|decide|omega|(simp only[LN];first|done|omega)) only[SV,SW,Nat.reduceAdd,Nat.reduceBEq,q0a,w,q0b]
def q18(l:List Int):Nat→List (List Nat)→Int
  |_,[]=>-1
  |k,t :: r=>if natI t=l then(k:Int) else q18 l (k+1) r
@[reducible] def fnV (l:List Int):V:=.fn 45 [.d false (.ptr [.sl 1 (l.map intD)])]
theorem j2f(K:Cx)(q:List Int)(l:List (List Nat))(hl:l.length≤1000)(hg:∀ t∈l,K.call 45 [ilV (natI t),.d false (.ptr [.sl 1 (q.map intD)])]=some (.bool (decide (natI t=q)),[])):∀(r:List (List Nat))(k:Nat),l.drop k=r→k≤l.length→
    lp K 0 [0,1,7,8] f44_L0 ⟨[(0,.d false (.sl 1 (l.map rowD))),(1,fnV q),(7,.d false (.int .i64 l.length)),(8,.d false (.int .i64 k))],[],0,[]⟩ =
      if r.any (fun t=>decide (natI t=q)) then some (.ret,⟨[(4,.d false (.int .i64 (q18 q k r)))],[],0,[]⟩) else some (.exit 0,⟨[],[],0,[]⟩):=by
  intro r
  induction r with
  |nil=>
    intro k hd hk
    have hlen:=congrArg List.length hd
    rw[List.length_drop,List.length_nil] at hlen
    simp only[List.any_nil,Bool.false_eq_true,if_false]
    rw[q0p f44_L0.eq_1]
    clear hg
    simp(disch:=first|decide|omega|(simp only[LN];first|done|omega)) only[SV,SW,Nat.reduceBEq]
  |cons x r ih=>
    intro k hd hk
    have hl':k<l.length:=by
      rcases Nat.lt_or_ge k l.length with h'|h'
      · exact h'
      · rw[List.drop_eq_nil_of_le h'] at hd;cases hd
    have hdn:=q1i hl'
    rw[hd] at hdn
    simp only[List.cons.injEq] at hdn
    obtain⟨hn,hd'⟩:=hdn
    have hn:=hn.symm
    have ih:=ih (k+1) hd'.symm (by omega)
    have w:=hg x (by rw[←List.take_append_drop k l,hd];simp)
    have hr:=q52 x
    rw[q0p f44_L0.eq_1]
    clear hd hd' hg
    simp only[List.any_cons,q18]
    simp only[ilV,fnV] at w ih ⊢
    by_cases hp:natI x=q
    · simp only[hp,decide_true] at w
      simp only[hp,decide_true,Bool.true_or,if_true]
      rw[hp] at hr
      clear ih
      simp(disch:=first|decide|omega|(simp only[LN];first|done|omega)) only[SV,SW,Nat.reduceBEq,rowD,hn,hr,q0a,w]
    · simp only[hp,decide_false] at w
      simp only[hp,decide_false,Bool.false_or,if_false]
      rw[←ih]
      clear ih
      simp(disch:=first|decide|omega|(simp only[LN];first|done|omega)) only[SV,SW,Nat.reduceBEq,rowD,hn,hr,q0a,w,q0U]
theorem z0Q(q:List Int):∀(l:List (List Nat))(k:Nat),l.any (fun t=>decide (natI t=q))=false→q18 q k l=-1
  |[],k,_=>rfl
  |t :: r,k,h=>by
    simp only[List.any_cons,Bool.or_eq_false_iff,decide_eq_false_iff_not] at h
    rw[q18,if_neg h.1]
    exact z0Q q r (k+1) h.2
theorem j5i(K:Cx)(q:List Int)(l:List (List Nat))(hl:l.length≤1000)(hg:∀ t∈l,K.call 45 [ilV (natI t),.d false (.ptr [.sl 1 (q.map intD)])]=some (.bool (decide (natI t=q)),[])):q0c K f44 [.d false (.sl 1 (l.map rowD)),fnV q] []=some (.d false (.int .i64 (q18 q 0 l)),[],[]):=by
  have w:=j2f K q l hl hg l 0 rfl (by omega)
  have hn:=z0Q q l 0
  generalize l.any (fun t=>decide (natI t=q))=c at w hn
  unfold f44
  clear hg
  simp only[fnV,Int.natCast_zero,Int.ofNat_zero] at w ⊢
  cases c with
  |true=>simp only[if_true] at w;clear hn;simp(disch:=first|decide|omega|(simp only[LN];first|done|omega)) only[SV,SW,Int.reduceNeg,Nat.reduceAdd,Nat.reduceBEq,w,q0b]
  |false=>simp only[Bool.false_eq_true,if_false] at w;rw[hn rfl];clear hn;simp(disch:=first|decide|omega|(simp only[LN];first|done|omega)) only[SV,SW,Int.reduceNeg,Nat.reduceAdd,Nat.reduceBEq,w,q0b]
theorem z6M(K:Cx)(a b:Lat)(rows:List (List Nat))(low:List (List Bool))(q:List Int)(w:K.call 44 [.d false (.sl 1 (rows.map rowD)),fnV q]=some (.d false (.int .i64 (q18 q 0 rows)),[])):q0c K f33 [pD (.fn a b rows low),ilV q] []=some (.d false (.int .i64 (q18 q 0 rows)),[],[]):=by
  unfold f33
  simp only[pD,Lat.cells,ilV,fnV] at w ⊢
  simp(disch:=first|decide|omega|(simp only[LN];first|done|omega)) only[SV,SW,Nat.reduceAdd,Nat.reduceBEq,q9X,q2N,q0a,w,q0b]
end Go.Vm
end

section
namespace Go.Vm
set_option maxRecDepth 20000
def jV:List Nat→V
 |[]=>.fs true 1 []
 |x :: l=>.bsl 0 0 (l.length+1)
def jH:List Nat→List (Nat×Blk)
 |[]=>[]
 |x :: l=>[(0,.dat true 1 ((x :: l).map natD))]
def jN:List Nat→Nat
 |[]=>0
 |_ :: _=>1
def q4r(b:Lat)(f g:List Nat):Nat→Nat→List Nat
 |0,_=>[]
 |m+1,k=>b.jn (nth f (k:Int)) (nth g (k:Int)) :: q4r b f g m (k+1)
def KJ(K:Cx)(b:Lat):Prop:=∀ u v,u<b.sz→v<b.sz→K.call 28 [pD b,iN u,iN v]=some (iN (b.jn u v),[])
theorem j2e(K:Cx)(a b:Lat)(rows:List (List Nat))(low:List (List Bool))(x y:Nat)(hr:q1K a b rows)(ha:a.sz≤1000)(hj:KJ K b)(hx:x<rows.length)(hy:y<rows.length):∀(m k:Nat)(l:List Nat),k+m=a.sz→l.length=k→
  lp K 0 [0,1,2,7,23,24] f28_L0 ⟨[(0,pD (.fn a b rows low)),(1,iN x),(2,iN y),(7,jV l),(23,iN a.sz),(24,iN k)],jH l,jN l,[]⟩ =
   some (.exit 0,⟨[(0,pD (.fn a b rows low)),(7,jV (l++q4r b (nth rows (x:Int)) (nth rows (y:Int)) m k))],jH (l++q4r b (nth rows (x:Int)) (nth rows (y:Int)) m k),jN (l++q4r b (nth rows (x:Int)) (nth rows (y:Int)) m k),[]⟩):=by
 obtain⟨l1,v1⟩:=hr _ (q0v hx)
 obtain⟨l2,v2⟩:=hr _ (q0v hy)
 intro m
 induction m with
 |zero=>
  intro k l hk hl
  simp only[q4r,List.append_nil]
  rw[q0p f28_L0.eq_1]
  clear v1 v2 hr hj
  simp only[pD,iN]
  cases l with
  |nil=>simp only[jV,jH,jN];simp(disch:=first|decide|omega|(simp only[LN];first|done|omega)) only[SV,SW,Nat.reduceBEq]
  |cons z l=>simp only[jV,jH,jN,List.length_cons,List.map_cons] at hl⊢;simp(disch:=first|decide|omega|(simp only[LN];first|done|omega)) only[SV,SW,Nat.reduceBEq]
 |succ m ih=>
  intro k l hk hl
  have ih:=ih (k+1) (l++[b.jn (nth (nth rows (x:Int)) (k:Int)) (nth (nth rows (y:Int)) (k:Int))]) (by omega) (by simp [hl])
  have w:=hj (nth (nth rows (x:Int)) (k:Int)) (nth (nth rows (y:Int)) (k:Int)) (v1 _ (q0v (by omega))) (v2 _ (q0v (by omega)))
  simp only[q4r]
  simp only[List.append_assoc,List.singleton_append] at ih
  rw[←ih]
  clear ih v1 v2 hr hj
  rw[q0p f28_L0.eq_1]
  generalize b.jn (nth (nth rows (x:Int)) (k:Int)) (nth (nth rows (y:Int)) (k:Int))=J at *
  simp only[pD,iN,Lat.cells] at w ⊢
  cases l with
  |nil=>
   simp only[jV,jH,jN,List.nil_append,List.map_cons,List.map_nil,List.length_nil] at hl ⊢
   simp(disch:=first|decide|omega|(simp only[LN];first|done|omega)) only[SV,SW,Nat.reduceBEq,rowD,natD,q0a,w,Nat.reduceAdd,lose,q1j]
  |cons z l=>
   simp only[jV,jH,jN,List.length_cons,List.map_cons,List.cons_append,List.map_append,List.map_nil,List.length_append,List.length_nil] at hl ⊢
   simp(disch:=first|decide|omega|(simp only[LN];first|done|omega)) only[SV,SW,natD,Nat.reduceBEq,rowD,q0a,w,Nat.reduceAdd,lose,V.forget,V.drop1,V.ref0,q1j]
theorem z7u(x:Nat):bits .and .i64 (x:Int) 0=0:=by
 unfold bits
 simp
 rfl
theorem z9H(K:Cx)(n x y:Nat)(hx:x<n)(hy:y<n)(hn:n≤1000):q0c K f28 [pD (.ch n),iN x,iN y] []=some (iN (max x y),[],[]):=by
 have b0:=z7u y
 have hle:decide ((y:Int)≤(x:Int))=decide (y≤x):=decide_eq_decide.2 (by omega)
 have hlt:decide ((x:Int)<(y:Int))=decide (x<y):=decide_eq_decide.2 (by omega)
 unfold f28
 simp only[pD,Lat.cells,iN]
 by_cases h:x<y
 ·have e:max x y=y:=by omega
  simp only[h,decide_true] at hlt
  rw[e]
  simp(disch:=first|decide|omega|(simp only[LN];first|done|omega)) only[SV,SW,Nat.reduceAdd,Nat.reduceBEq,q0r,q0K,q0h,q0n,V.isNilP,b0,q0b]
 ·have e:max x y=x:=by omega
  simp only[h,decide_false] at hlt
  rw[e]
  simp(disch:=first|decide|omega|(simp only[LN];first|done|omega)) only[SV,SW,Nat.reduceAdd,Nat.reduceBEq,q0r,q0K,q0h,q0n,V.isNilP,b0,q0b]
theorem q6K(b:Lat)(f g:List Nat):∀ m k,(q4r b f g m k).length=m
 |0,_=>rfl
 |m+1,k=>by rw[q4r,List.length_cons,q6K b f g m]
theorem z9G(K:Cx)(a b:Lat)(rows:List (List Nat))(low:List (List Bool))(x y:Nat)(hr:q1K a b rows)(ha:a.sz≤1000)(h0:0<a.sz)(hj:KJ K b)(hx:x<rows.length)(hy:y<rows.length)(z:Int)
  (w:K.call 33 [pD (.fn a b rows low),ilV (natI (q4r b (nth rows (x:Int)) (nth rows (y:Int)) a.sz 0))]=some (.d false (.int .i64 z),[])):q0c K f28 [pD (.fn a b rows low),iN x,iN y] []=some (.d false (.int .i64 z),[],[]):=by
 have wl:=j2e K a b rows low x y hr ha hj hx hy a.sz 0 [] (by omega) rfl
 have hlen:=q6K b (nth rows (x:Int)) (nth rows (y:Int)) a.sz 0
 have hri:=q52 (q4r b (nth rows (x:Int)) (nth rows (y:Int)) a.sz 0)
 have e:=q2Z a
 simp only[List.nil_append] at wl
 generalize q4r b (nth rows (x:Int)) (nth rows (y:Int)) a.sz 0=J at *
 unfold f28
 clear hr hj
 cases J with
 |nil=>simp at hlen;omega
 |cons j J=>
  simp only[ilV,←hri,pD,iN,jV,jH,jN,Lat.cells,e,Int.natCast_zero,Int.ofNat_zero,List.map_cons,List.length_cons] at w wl ⊢
  simp(disch:=first|decide|omega|(simp only[LN];first|done|omega)) only[SV,SW,Nat.reduceAdd,Nat.reduceBEq,q0r,q0K,q0h,q0n,V.isNilP,wl,q0a,w,q0b]
end Go.Vm
end

section
namespace Go.Vm
set_option maxRecDepth 100000
open Go.Proofs Go.RowKit Go.Shelf
def q2J:List BY→List (BY×BY)→List (BY×BY)
 |[],bs=>bs
 |x :: r,bs=>q2J r (if(byF bs x).isSome then bs else bs++[(x,q7q bs.length)])
theorem q77(x:BY):∀(l:List BY)(bs:List (BY×BY)),q2J (l++[x]) bs=if(byF (q2J l bs) x).isSome then q2J l bs else q2J l bs++[(x,q7q (q2J l bs).length)]
 |[],bs=>rfl
 |y :: l,bs=>q77 x l _
theorem q90:∀(l:List BY)(bs:List (BY×BY)),(q2J l bs).length≤bs.length+l.length
 |[],bs=>by simp [q2J]
 |x :: l,bs=>by
  have:=q90 l (if(byF bs x).isSome then bs else bs++[(x,q7q bs.length)])
  rw[q2J]
  refine Nat.le_trans this ?_
  split <;> simp <;> omega
def vU'(s:BY):V:=.agg [.d false (.int .i64 2),.d false (.str s),.fs true 3 []]
theorem z4U(x:BY)(v:V):∀ bs:List (BY×BY),byF bs x=none→setE 2 (.str x) v (byE bs)=some (byE bs++[(.str x,v)])
 |[],_=>by simp [byE,setE,q1X]
 |(m,s) :: r,h=>by
  rw[byF] at h
  by_cases hx:x=m
  ·rw[if_pos hx] at h;cases h
  ·rw[if_neg hx] at h
   have ih:=z4U x v r h
   simp only[byE,List.map_cons,setE,q1X,hx,decide_false,List.cons_append] at ih ⊢
   rw[ih]
theorem q5b(bs:List (BY×BY)):q1n (byE bs)=false:=by cases bs <;> rfl
theorem j5K(bs:List (BY×BY)):(byE bs).length=bs.length:=by simp [byE]
abbrev z2z:E:=.agg (.cons (.int .i64 0) (.cons (.str []) (.cons (.nilsl 3) .nil)))
def q1R:C:=.block 1 (.seq
 (.reg [⟨[(7,.box z2z)],[(24,(.ext 1 (.lkp true 2 z2z (.ld 1 false (.sl 5)) (.sl 6))))],[],some (none,.store 3 (.sl 7) (.ext 0 (.lkp true 2 z2z (.ld 1 false (.sl 5)) (.sl 6)))),[5,6],8,[],[],[]⟩,⟨[],[(8,.sl 24)],[],none,[5,6],1,[],[],[]⟩])
 (.seq (.reg [⟨[],[(26,.un .not (.sl 8))],[],none,[5,6],2,[],[],[]⟩])
  (.cond (.sl 26) (.reg [⟨[],[],[],some (none,.mset 2 (.ld 1 false (.sl 5)) (.sl 6) (.set 1 1 (.call 49 (.cons (.mlen (.ld 1 false (.sl 5))) .nil)) (.set 0 1 (.int .i64 2) z2z))),[5,6],7,[[],[],[],[2],[3,2],[4,3,2],[0,1,5,4,3,2]],[],[]⟩]) .skip)))
def K49(K:Cx):Prop:=∀ n:Nat,n≤1000000→K.call 49 [.d false (.int .i64 (n:Int))]=some (.d false (.str (q7q n)),[])
def q3W(bs:List (BY×BY))(x:BY):S:=⟨[(5,.ptr 1 0 0),(6,.d false (.str x))],[(0,.map (byE bs)),(1,.mix 1 [[.map 0]])],2,[]⟩
def seen(r:Option (Ex×S)):Option (Ex×Option Blk×Option Blk×List Nat×Nat):=r.map fun r=>(r.1,look r.2.heap 0,look r.2.heap 1,r.2.mv,r.2.nx)
theorem q9g(e s):seen (some (e,s))=some (e,look s.heap 0,look s.heap 1,s.mv,s.nx):=rfl
theorem z5i(K:Cx)(bs:List (BY×BY))(x:BY)(s:BY)(h:byF bs x=some s):seen (exec K q1R (q3W bs x))=some (.nrm,some (.map (byE bs)),some (.mix 1 [[.map 0]]),[],3):=by
 have hf:=q42 x bs
 rw[h,Option.map_some] at hf
 unfold q1R q3W z2z
 simp only[vU] at hf
 simp(disch:=first|decide|omega|(simp only[LN];first|done|omega)) only[SV,SW,Nat.reduceAdd,Nat.reduceBEq,hf,q4V,lose,q9g]
theorem z5h(K:Cx)(h49:K49 K)(bs:List (BY×BY))(hl:bs.length≤1000000)(x:BY)(h:byF bs x=none):seen (exec K q1R (q3W bs x))=some (.nrm,some (.map (byE bs++[(.str x,vU' (q7q bs.length))])),some (.mix 1 [[.map 0]]),[],3):=by
 have hf:=q42 x bs
 rw[h,Option.map_none] at hf
 have hs:=z4U x (vU' (q7q bs.length)) bs h
 have w:=h49 bs.length hl
 have ht:=q5b bs
 have hln:=j5K bs
 unfold q1R q3W z2z
 simp only[vU'] at hs ⊢
 have hm:∀ H:List (Nat×Blk),look H 0=some (.map (byE bs))→q65 H (.map 0)=some (.d false (.int .i64 (bs.length:Int))):=fun H h=>by simp [q65,h,Blk.entries,ht,hln]
 have hm2:=hm [(2,Blk.mix 3 [[V.int IntKind.i64 0,V.str [],V.fs true 3 []]]),(0,Blk.map (byE bs)),(1,Blk.mix 1 [[V.map 0]])] rfl
 simp(disch:=first|decide|omega|(simp only[LN];first|done|omega)) only[SV,SW,Nat.reduceAdd,Nat.reduceBEq,hf,q3M,lose,q61,j5u,hm2,q0a,w,q5g,z0K,hs,q8k,q9g]
end Go.Vm
end

section
namespace Go.Vm
set_option maxRecDepth 100000
open Go.Proofs Go.RowKit Go.Shelf
def z7B(mb tb:Nat)(bs:List (BY×BY))(W:World):Prop:=
 (∃ es ck,W.heap[mb]? = some (.map es ck)∧MapRel W (fun _=>False) 0 (fun _=>none) es (byE bs))∧∃ T,W.heap[tb]? = some (.cells #[.map (some mb)] T (0,0))
def SG(mb tb:Nat):Nat→Option Loc:=fun b=>if b=0 then some ⟨mb,0,0⟩ else if b=1 then some ⟨tb,1,1⟩ else none
def XG(mb tb:Nat):Nat→Nat→Prop:=fun b k=>(b=0∧k=mb)∨(b=1∧k=tb)
theorem q6s{w w':World}{F F':Nat→Prop}{base base':Nat}{σ σ':Nat→Option Loc}{v:Value}{s:BY}(h:RepV w F base σ v (vU s)∨RepV w F base σ v (vU' s)):RepV w' F' base' σ' v (vU s):=by
 have key:∃ a,v=.agg #[.int .i64 2,.string ⟨s.toArray⟩,.slice a 0 0]∧RepD w F (.slice a 0 0) (.sl 3 []):=by
  have col_F:∀ {c:Bool} {b:Nat},col F base c b→F b:=fun {c b} h=>by
   cases c with
   |false=>exact h
   |true=>exact h.1
  have gen:∀ c:Bool,RepV w F base σ v (.agg [.d false (.int .i64 2),.d false (.str s),.fs c 3 []])→∃ a,v=.agg #[.int .i64 2,.string ⟨s.toArray⟩,.slice a 0 0]∧RepD w F (.slice a 0 0) (.sl 3 []):=by
   intro c h
   cases h with
   |agg cs _ h1 h2 h3=>
    obtain⟨l⟩:=cs
    match l,h1 with
    |[x,y,z],_=>
     have e0:=(h2 0 x _ rfl rfl).int_inv
     obtain⟨t,e1,e2⟩:=(h2 1 y _ rfl rfl).str_inv
     have r2:=h2 2 z _ rfl rfl
     subst e0;subst e1
     have ht:t=⟨s.toArray⟩:=by
      cases t
      simp only at e2
      rw[e2]
     subst ht
     cases r2 with
     |fs c a len k rows h=>
      have h':=h.mono (w':=w) (F':=F) (fun b hb=>⟨col_F hb,rfl⟩)
      have:len=0:=by
       generalize hd:D.sl 3 []=d at h'
       generalize hv:Value.slice a len len=v at h'
       cases h' with
       |sl0 a cap k hc=>cases hv;rfl
       |sl b o n cap k rows g h1=>cases hv;cases hd;exact h1.symm
       |_=>cases hv <;> rfl
      subst this
      exact⟨a,rfl,h'⟩
  rcases h with h|h
  ·exact gen false h
  ·exact gen true h
 clear h
 obtain⟨a,rfl,hq⟩:=key
 have h':RepD w' F' (.slice a 0 0) (.sl 3 []):=by
  generalize hd:D.sl 3 []=d at hq
  cases hq with
  |sl0 a cap k hc=>cases hd;exact .sl0 _ _ _ hc
  |sl b o len cap k rows g h1 h2 h3 h4 h5 h6=>cases hd;exact .sl0 _ _ _ (fun e=>by cases e)
  |_=>cases hd
 refine .agg _ _ rfl (fun j v x hv hx=>?_) (fun v hv=>?_)
 ·match j,hv,hx with
  |0,hv,hx=>simp at hv hx;subst hv;subst hx;exact .int
  |1,hv,hx=>simp at hv hx;subst hv;subst hx;exact .str (s:=⟨s.toArray⟩)
  |2,hv,hx=>simp at hv hx;subst hv;subst hx;exact .fs _ _ _ _ _ h'
  |j+3,hv,hx=>simp at hv
 ·simp only[List.mem_toArray,List.mem_cons,List.not_mem_nil,or_false] at hv
  rcases hv with rfl|rfl|rfl <;> rfl
theorem q2O{w w':World}{F F':Nat→Prop}{base base':Nat}{σ σ':Nat→Option Loc}{es:Array MapEntry}{bs:List (BY×BY)}(h:MapRel w F base σ es (byE bs)):MapRel w' F' base' σ' es (byE bs):=by
 refine⟨h.1,fun i e p he hp=>?_⟩
 obtain⟨h1,h2,h3⟩:=h.2 i e p he hp
 refine⟨h1,h2.flat h1,?_⟩
 simp only[byE,List.getElem?_map,Option.map_eq_some_iff] at hp
 obtain⟨q,_,rfl⟩:=hp
 exact q6s (.inl h3)
theorem z0M{w w':World}{F F':Nat→Prop}{base base':Nat}{σ σ':Nat→Option Loc}{es:Array MapEntry}{bs:List (BY×BY)}{x s:BY}(h:MapRel w F base σ es (byE bs++[(.str x,vU' s)])):MapRel w' F' base' σ' es (byE (bs++[(x,s)])):=by
 have e:byE (bs++[(x,s)])=byE bs++[(.str x,vU s)]:=by simp [byE]
 rw[e]
 refine⟨by simpa using h.1,fun i e p he hp=>?_⟩
 by_cases hi:i<(byE bs).length
 ·rw[List.getElem?_append_left hi] at hp
  have hp':(byE bs++[(D.str x,vU' s)])[i]? = some p:=by rw[List.getElem?_append_left hi];exact hp
  obtain⟨h1,h2,h3⟩:=h.2 i e p he hp'
  refine⟨h1,h2.flat h1,?_⟩
  simp only[byE,List.getElem?_map,Option.map_eq_some_iff] at hp
  obtain⟨q,_,rfl⟩:=hp
  exact q6s (.inl h3)
 ·have hi2:i=(byE bs).length:=by
   have:=(List.getElem?_eq_some_iff.1 hp).1
   simp at this hi ⊢
   omega
  subst hi2
  simp only[List.getElem?_append_right (Nat.le_refl _),Nat.sub_self,List.getElem?_cons_zero,Option.some.injEq] at hp
  subst hp
  obtain⟨h1,h2,h3⟩:=h.2 (byE bs).length e (.str x,vU' s) he (by simp)
  exact⟨rfl,h2.flat rfl,q6s (.inr h3)⟩
variable {K:Cx}
theorem z8v(hK:K.Sound Tryz.prog)(h49:K49 K){nn l:Nat}(code:Code)(hc:chk Tryz.prog 2 36 q1R code=true)(hp:q0Z code=true)(a:Act)(W:World)(F:Nat→Prop)(mb tb:Nat)(bs:List (BY×BY))(x:BY)
  (hl:bs.length≤1000000) (hh:z7B mb tb bs W) (hF:∀ b,F b→b<W.heap.size∧b≠mb∧b≠tb) (hG:GlobRel W F K.glob) (ha:a.tmps.size=36) (hd:a.defers=[]) (h5:a.tmps.getD 5 undef=.pointer (some ⟨tb,0,none⟩)) (h6:a.tmps.getD 6 undef=.string ⟨x.toArray⟩) :
  code.wpIn (FR l) nn Tryz.prog (fun e _ W'=>e=.normal∧Frame (XG mb tb) W.heap.size W W'∧z7B mb tb (if(byF bs x).isSome then bs else bs++[(x,q7q bs.length)]) W') a W:=by
 obtain⟨⟨es,ck,hm,hr⟩,T,ht⟩:=hh
 have hne:mb≠tb:=by
  rintro rfl
  rw[hm] at ht
  cases ht
 have hmb:=(Array.getElem?_eq_some_iff.1 hm).1
 have htb:=(Array.getElem?_eq_some_iff.1 ht).1
 have hs:StRel K (XG mb tb) W.heap.size W F 2 (SG mb tb) 36 (q3W bs x) a W F (SG mb tb):=by
  refine⟨⟨fun b blk hb=>?_,fun b b' l l' h1 h2 he=>?_,fun b l hb=>?_,fun b hb=>(hF b hb).1⟩,hG,Nat.le_refl _,⟨rfl,rfl,rfl,Nat.le_refl _,fun _ _ _=>rfl⟩,fun b hb=>.inl hb,ha,hd,fun t v hv=>?_,fun b blk hb=>?_,fun b l _ h _=>h,Nat.le_refl _,fun b k h=>?_,fun b h=>h⟩
  ·simp only[q3W,look] at hb
   split at hb
   ·rename_i h;subst h
    cases hb
    exact .inr (.inl ⟨⟨mb,0,0⟩,es,ck,_,rfl,rfl,.inl ⟨hm,rfl,q5b bs⟩,rfl,trivial,q2O hr⟩)
   ·split at hb
    ·rename_i h;subst h
     cases hb
     refine .inr (.inr ⟨⟨tb,1,1⟩,_,T,rfl,ht,rfl,Nat.le_refl _,rfl,fun i row hrow=>?_,rfl⟩)
     match i,hrow with
     |0,hrow=>
      simp only[Blk.row?,List.getElem?_cons_zero,Option.some.injEq] at hrow
      subst hrow
      refine⟨rfl,fun j x hx=>?_⟩
      match j,hx with
      |0,hx=>
       simp at hx
       subst hx
       exact⟨_,rfl,rfl,RepV.map 0 ⟨mb,0,0⟩ rfl⟩
      |j+1,hx=>simp at hx
     |i+1,hrow=>simp [Blk.row?] at hrow
    ·cases hb
  ·simp only[SG] at h1 h2
   split at h1
   ·cases h1
    split at h2
    ·omega
    ·split at h2
     ·cases h2;exact absurd he hne
     ·cases h2
   ·split at h1
    ·cases h1
     split at h2
     ·cases h2;exact absurd he.symm hne
     ·split at h2
      ·omega
      ·cases h2
    ·cases h1
  ·simp only[SG] at hb
   split at hb
   ·rename_i h;subst h;cases hb
    exact⟨show 0<2 by decide,fun h=>(hF _ h).2.1 rfl,.inr (.inl ⟨rfl,rfl⟩),hmb⟩
   ·split at hb
    ·rename_i h;subst h;cases hb
     exact⟨show 1<2 by decide,fun h=>(hF _ h).2.2 rfl,.inr (.inr ⟨rfl,rfl⟩),htb⟩
    ·cases hb
  ·simp only[q3W,look] at hv
   split at hv
   ·rename_i h;subst h;cases hv
    rw[h5]
    exact RepV.ptr 1 0 0 ⟨tb,1,1⟩ rfl
   ·split at hv
    ·rename_i h;subst h;cases hv
     rw[h6]
     exact .str (s:=⟨x.toArray⟩)
    ·cases hv
  ·simp only[q3W,look] at hb
   split at hb
   ·rename_i h;subst h;show 0<2;omega
   ·split at hb
    ·rename_i h;subst h;show 1<2;omega
    ·cases hb
  ·rcases h with⟨rfl,_⟩|⟨rfl,_⟩ <;> decide
 have fin:∀ r:Ex×S,exec K q1R (q3W bs x)=some r→r.1=.nrm→(∀ i,i<2→i∉r.2.mv)→∀ bs',(∀(w:World) (F:Nat→Prop) base σ es,(∃ ds,look r.2.heap 0=some (.map ds)∧MapRel w F base σ es ds)→MapRel w (fun _=>False) 0 (fun _=>none) es (byE bs'))→(∃ ds,look r.2.heap 0=some (.map ds)∧q1n ds=false)→look r.2.heap 1=some (.mix 1 [[.map 0]])→
   code.wpIn (FR l) nn Tryz.prog (fun e _ W'=>e=.normal∧Frame (XG mb tb) W.heap.size W W'∧z7B mb tb bs' W') a W:=by
  rintro⟨e,s1⟩ he hn hmv bs' hmap ⟨ds,hd0,htag⟩ hd1
  simp only at hn hmv hmap hd0 hd1
  subst hn
  refine wpIn_mono (j2z q0e hK q1R code _ _ a W F _ hc hp he hs) ?_
  rintro e' a' W' ⟨rfl,F',σ',hs'⟩
  have q0:σ' 0=some ⟨mb,0,0⟩:=hs'.stab 0 _ (by decide) rfl (hmv 0 (by decide))
  have q1:σ' 1=some ⟨tb,1,1⟩:=hs'.stab 1 _ (by decide) rfl (hmv 1 (by decide))
  refine⟨rfl,hs'.frame,?_,?_⟩
  ·rcases hs'.heap.blk 0 _ hd0 with⟨_,h⟩|⟨l',es',ck',ds',hb,hl',hmo,_,_,hmr⟩|⟨_,_,_,_,_,_,_,_,_,h⟩
   ·rw[q0] at h;cases h
   ·cases hb
    rw[q0] at hl'
    cases hl'
    obtain⟨h1,_⟩:=hmo.map htag
    exact⟨es',ck',h1,hmap _ _ _ _ _ ⟨_,hd0,hmr⟩⟩
   ·simp [Blk.entries] at h
  ·rcases hs'.heap.blk 1 _ hd1 with⟨h,_⟩|⟨l',es',ck',ds',hb,_⟩|⟨l',cs,T',hl',hw,hk,hn,hsz,hrow,_⟩
   ·simp [Blk.n] at h
   ·cases hb
   ·rw[q1] at hl'
    cases hl'
    obtain⟨_,hr0⟩:=hrow 0 [.map 0] rfl
    obtain⟨v,hv,_,hrv⟩:=hr0 0 (.map 0) rfl
    have:v=.map (some mb):=by
     cases hrv with
     |map b l h=>rw[q0] at h;cases h;rfl
    subst this
    obtain⟨cl⟩:=cs
    match cl,hsz,hv with
    |[v],_,hv=>
     simp at hv
     subst hv
     exact⟨T',hw⟩
    |[],hsz,_=>simp at hsz
    |_ :: _ :: _,hsz,_=>simp at hsz
 cases hf:byF bs x with
 |some s=>
  have h:=z5i K bs x s hf
  cases he:exec K q1R (q3W bs x) with
  |none=>rw[he] at h;cases h
  |some r=>
   rw[he] at h
   simp only[seen,Option.map_some,Option.some.injEq,Prod.mk.injEq] at h
   obtain⟨h1,h2,h3,h4,_⟩:=h
   simp only[Option.isSome_some,if_true]
   refine fin r he h1 (fun i _=>by rw[h4];simp) bs ?_ ⟨_,h2,q5b bs⟩ h3
   rintro w F base σ es ⟨ds,hd,hmr⟩
   rw[h2] at hd
   cases hd
   exact q2O hmr
 |none=>
  have h:=z5h K h49 bs hl x hf
  cases he:exec K q1R (q3W bs x) with
  |none=>rw[he] at h;cases h
  |some r=>
   rw[he] at h
   simp only[seen,Option.map_some,Option.some.injEq,Prod.mk.injEq] at h
   obtain⟨h1,h2,h3,h4,_⟩:=h
   simp only[Option.isSome_none,Bool.false_eq_true,if_false]
   refine fin r he h1 (fun i _=>by rw[h4];simp) _ ?_ ⟨_,h2,by cases bs <;> rfl⟩ h3
   rintro w F base σ es ⟨ds,hd,hmr⟩
   rw[h2] at hd
   cases hd
   exact z0M hmr
end Go.Vm
end

section
namespace Go.Vm
open Go.Proofs Go.RowKit Go.Shelf
attribute [local go_sem] Oper.semAt_some
set_option maxRecDepth 100000 in
set_option maxHeartbeats 1000000 in
theorem j09(n:Nat)(v0 v1 v2:Value)(w:World)(hs:∃(k:Int)(s:ByteArray)(a:Option Addr)(len cap:Nat),v0=.int .i64 k∧v1=.string s∧v2=.slice a len cap) :
  CallsIn Fence.wide n Tryz.prog 48 #[.agg #[v0,v1,v2]] w fun e w'=>e=.returned (.func (.func 62) #[] #[.pointer (some ⟨w.heap.size,0,none⟩)])∧w'=w.alloc (.cells #[v0,v1,v2] 24):=by
 obtain⟨k,s,a,len,cap,rfl,rfl,rfl⟩:=hs
 refine callsIn_of_wp Tryz.func48 rfl trivial ?_ rfl
 simp only[Tryz.ntmps48,List.size_toArray,List.length_cons,List.length_nil,Nat.reduceAdd,Nat.reduceSub,Array.replicate_succ,Array.replicate_zero,List.push_toArray,List.append_toArray,List.nil_append,List.cons_append]
 gi_wp2
 go_ret
 exact⟨rfl,rfl⟩
theorem z1j{β:Type}{B:Nat}{I:β→World→Prop}(h:AbidesFrom B I):∀ s A B',I s A→World.grownBy A B' none→I s B':=
 fun s A B' hs hg=>h s A B' none hs hg (fun r e=>by cases e)
set_option maxRecDepth 100000 in
set_option maxHeartbeats 1000000 in
theorem z8a(n l n₀ N:Nat)(F:Nat→Prop)(hFn:∀ b,F b→b<n₀)(J Jx:List (List UInt8)→World→Prop)(hJ:∀ s A B,J s A→World.grownBy A B none→J s B)
  (hY:∀ m pre x W,J pre W→pre.length<N→YieldAt Fence.wide m Tryz.prog l #[.string ⟨x.toArray⟩] W fun e W'=>(e=.returned (.bool true)∧J (pre++[x]) W'∧Below n₀ W W')∨(e=.returned (.bool false)∧Jx (pre++[x]) W'))
  (T:Ty) (W:World) (v0 v1 v2:Value) (Bt:Nat) (hf:T.fit) (hle:n₀≤W.heap.size) (hrep:∀(j:Nat) (v:Value) (d:D),#[v0,v1,v2][j]? = some v→T.d[j]? = some d→RepD W F v d) (h0:J [] W) (hN:T.vars.length≤N)
  (hB:∀(i:Nat) (v:Value),#[v0,v1,v2][i]? = some v→W.cell? ⟨Bt,i,none⟩=some v) :
  CallsIn Fence.wide n Tryz.prog 62 #[.func (.yield l) #[] #[],.pointer (some ⟨Bt,0,none⟩)] W fun e W'=>(∃ v,e=.returned v)∧((∃ ys,ys=T.vars∧J ys W')∨(∃ pre,True∧Jx pre W')):=by
 obtain⟨k,nm,ls⟩:=T
 have r0:=hrep 0 v0 _ rfl rfl
 have r1:=hrep 1 v1 _ rfl rfl
 have r2:=hrep 2 v2 _ rfl rfl
 have c0:=hB 0 v0 rfl
 have c1:=hB 1 v1 rfl
 have c2:=hB 2 v2 rfl
 have he:=j2Y l n₀ N F hFn J hJ Jx hY (SizeOf.sizeOf (Ty.mk k nm ls)+1) (.mk k nm ls) (n - 1) [] W v0 v1 v2 (Nat.lt_succ_self _) hf hle hrep h0 (by simpa using hN)
 cases r0 with
 |int=>
  generalize hd1:D.str nm=d1 at r1
  cases r1 with
  |str s=>
   obtain⟨a,cap,rfl,_⟩:=q4I r2
   refine callsIn_of_wp Tryz.func62 rfl trivial ?_ rfl
   simp only[Tryz.ntmps62,List.size_toArray,List.length_cons,List.length_nil,Nat.reduceAdd,Nat.reduceSub,Array.replicate_succ,Array.replicate_zero,List.push_toArray,List.append_toArray,List.nil_append,List.cons_append]
   gi_wp2
   refine⟨trivial,fun h=>(by cases h),he.mono ?_⟩
   rintro e W3 (⟨rfl,hJ3,_⟩|⟨rfl,q,hx⟩)
   ·gi_wp2
    go_end0
    exact⟨⟨_,rfl⟩,.inl ⟨_,rfl,by simpa using hJ3⟩⟩
   ·gi_wp2
    go_end0
    exact⟨⟨_,rfl⟩,.inr ⟨_,trivial,hx⟩⟩
  |_=>cases hd1
theorem z2G(n n₀:Nat)(F:Nat→Prop)(hFn:∀ b,F b→b<n₀)(T:Ty)(w:World)(v0 v1 v2:Value)(Bt:Nat)(hf:T.fit)(hle:n₀≤w.heap.size)(hBt:Bt<w.heap.size)
  (hrep:∀(j:Nat) (v:Value) (d:D),#[v0,v1,v2][j]? = some v→T.d[j]? = some d→RepD w F v d) (hB:∀(i:Nat) (v:Value),#[v0,v1,v2][i]? = some v→w.cell? ⟨Bt,i,none⟩=some v) :
  SeqStopsK Fence.wide n Tryz.prog 62 #[.pointer (some ⟨Bt,0,none⟩)] (fun x:List UInt8=>#[Value.string ⟨x.toArray⟩]) (Below n₀) (fun ys=>ys=T.vars) (fun _=>True) T.vars.length w:=by
 intro l J Jx W hW hJ hJx hY h0
 refine z8a n l n₀ T.vars.length F hFn J Jx (z1j hJ) (fun m pre x W1 h1 h2=>?_) T W v0 v1 v2 Bt hf (Nat.le_trans hle hW.size) (fun j v d hv hd=>(hrep j v d hv hd).mono fun y hy=>⟨hy,?_⟩) h0 (Nat.le_refl _) (fun i v hv=>?_)
 ·obtain⟨fn,tmps,assign,body,hy,hR⟩:=hY pre x W1 h1 h2
  exact⟨fn,tmps,assign,body,hy,⟨hR.1,fun c cs _=>hR.2 c cs (fun d h=>by cases h)⟩⟩
 ·exact hW.block y (Nat.lt_of_lt_of_le (hFn y hy) hle)
 ·exact(hW.cell (p:=⟨Bt,i,none⟩) hBt).trans (hB i v hv)
end Go.Vm
end

section
namespace Go.Vm
open Go.Proofs Go.RowKit Go.Shelf
attribute [local go_sem] Oper.semAt_some
@[reducible] def Ty.v:Ty→V
 |.mk k n l=>.agg [.d false (.int .i64 k),.d false (.str n),.d false (.sl 3 (dL l))]
theorem Ty.open{w:World}{F:Nat→Prop}{base:Nat}{σ:Nat→Option Loc}{v:Value}{T:Ty}(h:RepV w F base σ v T.v) :
  ∃ v0 v1 v2,v=.agg #[v0,v1,v2]∧(∀(j:Nat) (x:Value) (d:D),#[v0,v1,v2][j]? = some x→T.d[j]? = some d→RepD w F x d)∧∃(k:Int) (s:ByteArray) (a:Option Addr) (len cap:Nat),v0=.int .i64 k∧v1=.string s∧v2=.slice a len cap:=by
 obtain⟨k,nm,ls⟩:=T
 cases h with
 |agg cs _ h1 h2 h3=>
  obtain⟨l⟩:=cs
  match l,h1 with
  |[a,b,c],_=>
   have ra:=h2 0 a _ rfl rfl
   have rb:=h2 1 b _ rfl rfl
   have rc:=h2 2 c _ rfl rfl
   have e0:=ra.int_inv
   obtain⟨s,e1,_⟩:=rb.str_inv
   have rc':RepD w F c (.sl 3 (dL ls)):=by cases rc with|d _ _ _ h=>exact h
   obtain⟨ad,cap,e2,_⟩:=q4I rc'
   refine⟨a,b,c,rfl,fun j x d hx hd=>?_,_,_,_,_,_,e0,e1,e2⟩
   match j,hx,hd with
   |0,hx,hd=>simp [Ty.d] at hx hd;subst hx;subst hd;cases ra with|d _ _ _ h=>exact h
   |1,hx,hd=>simp [Ty.d] at hx hd;subst hx;subst hd;cases rb with|d _ _ _ h=>exact h
   |2,hx,hd=>simp [Ty.d] at hx hd;subst hx;subst hd;exact rc'
   |j+3,hx,hd=>simp at hx
variable {K:Cx}{P:Program}
theorem Ty.reps{w:World}{F:Nat→Prop}{base:Nat}{σ:Nat→Option Loc}{T:Ty}{v0 v1 v2:Value}(hrep:∀(j:Nat)(x:Value)(d:D),#[v0,v1,v2][j]? = some x→T.d[j]? = some d→RepD w F x d)
  (ho:∃(k:Int) (s:ByteArray) (a:Option Addr) (len cap:Nat),v0=.int .i64 k∧v1=.string s∧v2=.slice a len cap):RepV w F base σ (.agg #[v0,v1,v2]) T.v:=by
 obtain⟨k,s,a,len,cap,rfl,rfl,rfl⟩:=ho
 obtain⟨k',nm,ls⟩:=T
 refine .agg _ _ rfl (fun j x y hx hy=>?_) (fun x hx=>?_)
 ·match j,hx,hy with
  |0,hx,hy=>simp at hx hy;subst hx;subst hy;exact .d _ _ _ (hrep 0 _ _ rfl rfl)
  |1,hx,hy=>simp at hx hy;subst hx;subst hy;exact .d _ _ _ (hrep 1 _ _ rfl rfl)
  |2,hx,hy=>simp at hx hy;subst hx;subst hy;exact .d _ _ _ (hrep 2 _ _ rfl rfl)
  |j+3,hx,hy=>simp at hx
 ·simp only[List.mem_toArray,List.mem_cons,List.not_mem_nil,or_false] at hx
  rcases hx with rfl|rfl|rfl <;> rfl
theorem q38{w W:World}{F:Nat→Prop}{G:Nat→Option (List D)}(hF:∀ b,F b→b<w.heap.size)(hb:Below w.heap.size w W)(hG:GlobRel w F G):GlobRel W F G:=
 hG.mono fun b h=>⟨h,hb.block b (hF b h)⟩
def q5M:V→Option D
 |.d _ x=>some x
 |.fs _ k r=>some (.sl k r)
 |_=>none
theorem z2V{w:World}{F:Nat→Prop}{base:Nat}{σ:Nat→Option Loc}{q:Value}{v:V}{d:D}(h:RepV w F base σ q v)(hp:q5M v=some d):RepD w F q d:=by
 have col_F:∀ {c:Bool} {b:Nat},col F base c b→F b:=fun {c b} h=>by
  cases c with
  |false=>exact h
  |true=>exact h.1
 cases h with
 |d c _ x h=>
  simp only[q5M,Option.some.injEq] at hp
  subst hp
  exact h.mono fun b hb=>⟨col_F hb,rfl⟩
 |fs c a len k rows h=>
  simp only[q5M,Option.some.injEq] at hp
  subst hp
  exact h.mono fun b hb=>⟨col_F hb,rfl⟩
 |_=>simp [q5M] at hp
theorem q4c{W:World}{b i j:Nat}{v:Value}(h:i≠j):(W.setCell ⟨b,i,none⟩ v).cell? ⟨b,j,none⟩=W.cell? ⟨b,j,none⟩:=World.cell?_setCell_other _ _ _ _ (by intro e;simp at e;try exact h e)
theorem q78{W:World}{b:Nat}{x y z x' y' z':Value}(c0:W.cell? ⟨b,0,none⟩=some x)(c1:W.cell? ⟨b,1,none⟩=some y)(c2:W.cell? ⟨b,2,none⟩=some z){W':World}(hW:W'=((W.setCell ⟨b,0,none⟩ x').setCell ⟨b,1,none⟩ y').setCell ⟨b,2,none⟩ z') :
  W'.cell? ⟨b,0,none⟩=some x'∧W'.cell? ⟨b,1,none⟩=some y'∧W'.cell? ⟨b,2,none⟩=some z':=by
 subst hW
 refine⟨?_,?_,?_⟩
 ·rw[q4c (by decide),q4c (by decide),World.cell?_setCell_same' _ _ _ (by rw[c0];rfl)]
 ·rw[q4c (by decide),World.cell?_setCell_same' _ _ _ (by rw[q4c (by decide),c1];rfl)]
 ·rw[World.cell?_setCell_same' _ _ _ (by rw[q4c (by decide),q4c (by decide),c2];rfl)]
theorem q94{tmps:Array Value}{W:World}{b:Nat}{x y z:Value}{e:Int}(ht2:tmps.getD 2 undef=.pointer (some ⟨b,0,none⟩))(ht3:tmps.getD 3 undef=.int .i64 e)
  (c0:W.cell? ⟨b,0,none⟩=some x) (c1:W.cell? ⟨b,1,none⟩=some y) (c2:W.cell? ⟨b,2,none⟩=some z):(results Tryz.f37 tmps).run Tryz.prog W=.ok (.tuple #[.agg #[x,y,z],.int .i64 e]) W:=by
 rw[results_cell_tmp rfl,ht2,ht3]
 simp [loadVar,go_sem,c0,c1,c2]
 trace_state
set_option maxRecDepth 100000 in
set_option maxHeartbeats 2000000 in
theorem z7o(hK:K.Sound Tryz.prog)(T:Ty)(e:Int)(he:e≠0){cw:Bool}(hw:K.call 47 [T.v]=some (.d cw (.int .i64 e),[])):q1V Tryz.prog K.glob 37 [T.v] (.tup [.agg [.d false (.int .i64 0),.d false (.str []),.d false (.sl 3 [])],.d false (.int .i64 e)]) []:=by
 intro w F vals hF hG hR
 obtain⟨l⟩:=vals
 obtain⟨h1,h2⟩:=hR
 match l,h1 with
 |[v],_=>
  obtain⟨v0,v1,v2,rfl,hrep,ho⟩:=Ty.open (h2 0 v _ rfl rfl)
  obtain⟨k,s,a,len,cap,rfl,rfl,rfl⟩:=id ho
  have hwr:=(hK.pure _ _ _ _ hw).2
  clear h2
  obtain⟨n,hn⟩:∃ n:Nat,3≤n:=⟨3,Nat.le_refl _⟩
  refine(callsIn_wide (n:=n)).1 (callsIn_of_wp Tryz.func37 rfl trivial ?_ rfl)
  simp only[Tryz.ntmps37,List.size_toArray,List.length_cons,List.length_nil,Nat.reduceAdd,Nat.reduceSub,Array.replicate_succ,Array.replicate_zero,List.push_toArray,List.append_toArray,List.nil_append,List.cons_append]
  gi_wp2
  have hb2:Below w.heap.size w ((w.alloc (.cells #[.int .i64 k,.string s,.slice a len cap] 24)).alloc (.cells #[.int .i64 0,.string ByteArray.empty,.slice none 0 0] 24)):=((Below.refl _ w).alloc (Nat.le_refl _) _).alloc (by simp) _
  refine⟨trivial,fun h=>(by cases h),(callsIn_wide.2 (hwr _ F _ (fun b hb=>Nat.lt_of_lt_of_le (hF b hb) hb2.size) (q38 hF hb2 hG) ⟨rfl,fun j x y hx hy=>?_⟩)).mono ?_⟩
  ·match j,hx,hy with
   |0,hx,hy=>
    simp at hx hy
    subst hx;subst hy
    exact Ty.reps (fun j x d hx hd=>(hrep j x d hx hd).mono fun y hy=>⟨hy,hb2.block y (hF y hy)⟩) ho
   |j+1,hx,hy=>simp at hx
  ·rintro e' W3 ⟨v,F',σ',rfl,hb3,_,hv,_⟩
   obtain rfl:=hv.int_inv
   have hk2:W3.heap[w.heap.size+1]? = some (.cells #[.int .i64 0,.string ByteArray.empty,.slice none 0 0] 24):=by
    rw[hb3.block (w.heap.size+1) (by simp),←World.size_alloc w (.cells #[.int .i64 k,.string s,.slice a len cap] 24)]
    exact World.alloc_heap_new _ _
   have c20:W3.cell? ⟨w.heap.size+1,0,none⟩=some (.int .i64 0):=by simp [World.cell?,hk2]
   have c21:W3.cell? ⟨w.heap.size+1,1,none⟩=some (.string ByteArray.empty):=by simp [World.cell?,hk2]
   have c22:W3.cell? ⟨w.heap.size+1,2,none⟩=some (.slice none 0 0):=by simp [World.cell?,hk2]
   have f20:W3.frozen? ⟨w.heap.size+1,0,none⟩=false:=by simp [World.frozen?,hk2]
   have f21:W3.frozen? ⟨w.heap.size+1,1,none⟩=false:=by simp [World.frozen?,hk2]
   have f22:W3.frozen? ⟨w.heap.size+1,2,none⟩=false:=by simp [World.frozen?,hk2]
   have he':(e != 0)=true:=by simpa using he
   gi_wp2
   refine bodyPost_ret (v:=.tuple #[.agg #[.int .i64 0,.string ByteArray.empty,.slice none 0 0],.int .i64 e]) ?_ rfl ?_
   ·obtain⟨d0,d1,d2⟩:=q78 (x':=.int .i64 0) (y':=.string { data:=#[] }) (z':=.slice none 0 0) c20 c21 c22 rfl
    exact q94 (b:=w.heap.size+1) rfl rfl d0 d1 d2
   ·have hb4:Below w.heap.size w W3:=hb2.trans (hb3.mono hb2.size)
    have hb5:=((hb4.setCell (p:=⟨w.heap.size+1,0,none⟩) (by simp) (.int .i64 0)).setCell (p:=⟨w.heap.size+1,1,none⟩) (by simp) (.string { data:=#[] })).setCell (p:=⟨w.heap.size+1,2,none⟩) (by simp) (.slice none 0 0)
    exact⟨_,F,fun _=>none,rfl,hb5,fun b hb=>.inl hb,.tup _ _ rfl (fun j x y hx hy=>by
     match j,hx,hy with
     |0,hx,hy=>
      simp at hx hy
      subst hx;subst hy
      refine .agg _ _ rfl (fun j x y hx hy=>?_) (fun x hx=>?_)
      ·match j,hx,hy with
       |0,hx,hy=>simp at hx hy;subst hx;subst hy;exact .int
       |1,hx,hy=>simp at hx hy;subst hx;subst hy;exact .str (s:=ByteArray.empty)
       |2,hx,hy=>simp at hx hy;subst hx;subst hy;exact .d _ _ _ (.sl0 _ _ _ (fun _=>rfl))
       |j+3,hx,hy=>simp at hx
      ·simp only[List.mem_toArray,List.mem_cons,List.not_mem_nil,or_false] at hx
       rcases hx with rfl|rfl|rfl <;> rfl
     |1,hx,hy=>simp at hx hy;subst hx;subst hy;exact .int
     |j+2,hx,hy=>simp at hx),⟨fun b blk h=>by simp [indexed,look] at h,fun b b' l l' h=>(by cases h),fun b l h=>(by cases h),fun b hb=>Nat.lt_of_lt_of_le (hF b hb) hb5.size⟩⟩
theorem q11{W:World}{b i D:Nat}{v:Value}(h:b≠D):(W.setCell ⟨b,i,none⟩ v).heap[D]? = W.heap[D]?:=by
 exact Below.heap_setCell W ⟨b,i,none⟩ v D (fun e=>h e.symm)
theorem q8r{W:World}{b i D:Nat}{o:Obj}(h:b≠D):(W.putObj D o).cell? ⟨b,i,none⟩=W.cell? ⟨b,i,none⟩:=World.cell?_of_block (World.putObj_heap_other h)
end Go.Vm
end

section
namespace Go.Vm
open Go.Proofs Go.RowKit Go.Shelf
attribute [local go_sem] Oper.semAt_some
variable {K:Cx}
set_option maxRecDepth 100000 in
set_option maxHeartbeats 2000000 in
theorem q95(hK:K.Sound Tryz.prog)(T:Ty)(hf:T.fit)(hv:T.vars.length≤1000000)(h49:K49 K){cw:Bool}(hw:K.call 47 [T.v]=some (.d cw (.int .i64 0),[])){x y z:D}{x' y' z':V}{mv:List Nat}(hr:K.eff 50 [T.v,.map 0] [.map (byE (q2J T.vars []))]=some (.agg [x',y',z'],[.map (byE (q2J T.vars []))],mv))(px:q5M x'=some x)(py:q5M y'=some y)(pz:q5M z'=some z):q1V Tryz.prog K.glob 37 [T.v] (.tup [.agg [.d false x,.d false y,.d false z],.d false (.int .i64 0)]) []:=by
 intro w F vals hF hG hR
 obtain⟨l⟩:=vals
 obtain⟨h1,h2⟩:=hR
 match l,h1 with
 |[v],_=>
  obtain⟨v0,v1,v2,rfl,hrep,ho⟩:=Ty.open (h2 0 v _ rfl rfl)
  obtain⟨k,s,a,len,cap,rfl,rfl,rfl⟩:=id ho
  have hwr:=(hK.pure _ _ _ _ hw).2
  clear h2
  obtain⟨n,hn⟩:∃ n:Nat,3≤n:=⟨3,Nat.le_refl _⟩
  refine(callsIn_wide (n:=n)).1 (callsIn_of_wp_marks Tryz.func37 rfl trivial ?_ rfl)
  simp only[Tryz.ntmps37,List.size_toArray,List.length_cons,List.length_nil,Nat.reduceAdd,Nat.reduceSub,Array.replicate_succ,Array.replicate_zero,List.push_toArray,List.append_toArray,List.nil_append,List.cons_append]
  gi_wp2
  have hb2:Below w.heap.size w ((w.alloc (.cells #[.int .i64 k,.string s,.slice a len cap] 24)).alloc (.cells #[.int .i64 0,.string ByteArray.empty,.slice none 0 0] 24)):=((Below.refl _ w).alloc (Nat.le_refl _) _).alloc (by simp) _
  refine⟨trivial,fun h=>(by cases h),(callsIn_wide.2 (hwr _ F _ (fun b hb=>Nat.lt_of_lt_of_le (hF b hb) hb2.size) (q38 hF hb2 hG) ⟨rfl,fun j x y hx hy=>?_⟩)).mono ?_⟩
  ·match j,hx,hy with
   |0,hx,hy=>
    simp at hx hy
    subst hx;subst hy
    exact Ty.reps (fun j x d hx hd=>(hrep j x d hx hd).mono fun y hy=>⟨hy,hb2.block y (hF y hy)⟩) ho
   |j+1,hx,hy=>simp at hx
  ·rintro e' W3 ⟨v,F',σ',rfl,hb3,_,hvv,_⟩
   obtain rfl:=hvv.int_inv
   have hk1:W3.heap[w.heap.size]? = some (.cells #[.int .i64 k,.string s,.slice a len cap] 24):=by
    rw[hb3.block w.heap.size (by simp;omega)]
    exact((Below.refl _ (w.alloc (.cells #[.int .i64 k,.string s,.slice a len cap] 24))).alloc (Nat.le_refl _) _).block w.heap.size (by simp) |>.trans (World.alloc_heap_new _ _)
   have hk2:W3.heap[w.heap.size+1]? = some (.cells #[.int .i64 0,.string ByteArray.empty,.slice none 0 0] 24):=by
    rw[hb3.block (w.heap.size+1) (by simp),←World.size_alloc w (.cells #[.int .i64 k,.string s,.slice a len cap] 24)]
    exact World.alloc_heap_new _ _
   have c10:W3.cell? ⟨w.heap.size,0,none⟩=some (.int .i64 k):=by simp [World.cell?,hk1]
   have c11:W3.cell? ⟨w.heap.size,1,none⟩=some (.string s):=by simp [World.cell?,hk1]
   have c12:W3.cell? ⟨w.heap.size,2,none⟩=some (.slice a len cap):=by simp [World.cell?,hk1]
   have c20:W3.cell? ⟨w.heap.size+1,0,none⟩=some (.int .i64 0):=by simp [World.cell?,hk2]
   have c21:W3.cell? ⟨w.heap.size+1,1,none⟩=some (.string ByteArray.empty):=by simp [World.cell?,hk2]
   have c22:W3.cell? ⟨w.heap.size+1,2,none⟩=some (.slice none 0 0):=by simp [World.cell?,hk2]
   have hmm:∀(t:TypeId) (w:World),(Instr.makeMap t none).run Tryz.prog w=.ok (.map (some w.heap.size)) (w.alloc (.map #[] 0)):=fun t w=>rfl
   have hs1:w.heap.size+2≤W3.heap.size:=by have:=hb3.size;simpa using this
   have b35:Below W3.heap.size W3 ((W3.alloc (.map #[] 0)).alloc (.cells #[.map (some W3.heap.size)] 74)):=((Below.refl _ W3).alloc (Nat.le_refl _) _).alloc (by simp) _
   have e10:=(b35.cell (p:=⟨w.heap.size,0,none⟩) (by simp;omega)).trans c10
   have e11:=(b35.cell (p:=⟨w.heap.size,1,none⟩) (by simp;omega)).trans c11
   have e12:=(b35.cell (p:=⟨w.heap.size,2,none⟩) (by simp;omega)).trans c12
   gi_wp2
   refine⟨trivial,fun h=>(by cases h),(j09 (n - 1) _ _ _ _ ⟨_,_,_,_,_,rfl,rfl,rfl⟩).mono ?_⟩
   rintro e' W6 ⟨rfl,hW6⟩
   have b56:Below ((W3.alloc (.map #[] 0)).alloc (.cells #[.map (some W3.heap.size)] 74)).heap.size ((W3.alloc (.map #[] 0)).alloc (.cells #[.map (some W3.heap.size)] 74)) W6:=by
    rw[hW6];exact(Below.refl _ _).alloc (Nat.le_refl _) _
   have hsz6:W6.heap.size=W3.heap.size+3:=by rw[hW6];simp
   have bk (i:Nat):W6.cell? ⟨W3.heap.size+2,i,none⟩=(#[.int .i64 k,.string s,.slice a len cap]:Array Value)[i]?:=by
    rw[hW6]
    have hq:((W3.alloc (.map #[] 0)).alloc (.cells #[.map (some W3.heap.size)] 74)).heap.size=W3.heap.size+2:=by simp
    rw[←hq]
    simp only[World.cell?,World.alloc_heap_new]
    match i with
    |0=>rfl
    |1=>rfl
    |2=>rfl
    |i+3=>simp
   have held6:z7B W3.heap.size (W3.heap.size+1) [] W6:=by
    refine⟨⟨#[],0,?_,rfl,fun i e p he hp=>by simp at he⟩,74,?_⟩
    ·rw[b56.block _ (by simp;omega),((Below.refl _ (W3.alloc (.map #[] 0))).alloc (Nat.le_refl _) _).block _ (by simp)]
     exact World.alloc_heap_new _ _
    ·rw[b56.block _ (by simp)]
     have:(W3.alloc (.map #[] 0)).heap.size=W3.heap.size+1:=by simp
     rw[←this];exact World.alloc_heap_new _ _
   clear hW6
   gi_wp2
   have hb06:Below w.heap.size w W6:=(hb2.trans (hb3.mono hb2.size)).trans ((b35.mono (by omega)).trans (b56.mono (by simp;omega)))
   have hF6:∀ b,F b→b<W6.heap.size:=fun b hb=>Nat.lt_of_lt_of_le (hF b hb) hb06.size
   have hrep6:∀(j:Nat) (x:Value) (d:D),#[Value.int .i64 k,Value.string s,Value.slice a len cap][j]? = some x→T.d[j]? = some d→RepD W6 F x d:=fun j x d hx hd=>(hrep j x d hx hd).mono fun y hy=>⟨hy,hb06.block y (hF y hy)⟩
   refine wpIn_rangeFunc_ownG rfl (Nat.le_trans (by decide) hn) (gf:=62) (lb:=#[.pointer (some ⟨W3.heap.size+2,0,none⟩)]) rfl trivial (enters_of Tryz.func62 (by kernel_rfl) rfl)
    (z2G (n - 1) w.heap.size F hF T W6 _ _ _ (W3.heap.size+2) hf hb06.size (by omega) hrep6 (fun i v hv=>(bk i).trans hv))
    belowK_t (belowK_b hb06.size) (Below.refl _ _) (fun _=>rfl)
    (fun pre W=>Below w.heap.size W6 W∧(∀ j,j<W6.heap.size→j≠W3.heap.size→j≠W3.heap.size+1→W.heap[j]? = W6.heap[j]?)∧z7B W3.heap.size (W3.heap.size+1) (q2J pre []) W) (fun _ _ _=>False) ?hI (fun _ _ _ _ _ hs _ _=>hs) ⟨Below.refl _ _,fun _ _ _ _=>rfl,held6⟩ (fun x=>{ tmps:=#[.agg #[.int .i64 k,.string s,.slice a len cap],.pointer (some ⟨w.heap.size,0,none⟩),.pointer (some ⟨w.heap.size+1,0,none⟩),.int .i64 0,.int .i64 0,.pointer (some ⟨W3.heap.size+1,0,none⟩),.string ⟨x.toArray⟩,undef,undef,.agg #[.int .i64 k,.string s,.slice a len cap],.int .i64 0,.int .i64 0,.bool false,undef,undef,.map (some W3.heap.size),.agg #[.int .i64 k,.string s,.slice a len cap],.func (.func 62) #[] #[.pointer (some ⟨W3.heap.size+2,0,none⟩)],.string ⟨x.toArray⟩,undef,undef,undef,undef,undef,undef,undef,undef,undef,undef,undef,undef,undef,undef,undef,undef,undef],defers:=[] }) ?assign ?body ?done ?stop
   case hI=>
    rintro pre A B row ⟨hs,hu,hh⟩ hg hr
    have hle:w.heap.size≤W6.heap.size:=hb06.size
    have hAB:Below W6.heap.size A B:=by
     refine(Below.refl W6.heap.size A).grown hg ?_ (fun k e=>(hr k e).1)
     exact hs.size
    refine⟨hs.trans (hAB.mono hle),fun j h1 h2 h3=>(hAB.block j h1).trans (hu j h1 h2 h3),?_⟩
    obtain⟨⟨es,ck,e1,e2⟩,T',e3⟩:=hh
    exact⟨⟨es,ck,(hAB.block _ (by omega)).trans e1,q2O e2⟩,T',(hAB.block _ (by omega)).trans e3⟩
   case assign=>
    intro l x W K hK
    gi_wp2
    exact hK
   case body=>
    rintro l pre x W ⟨hs,hu,hh⟩ hlt
    have hsz:=hs.size
    refine wpIn_mono (z8v hK h49 _ (by kernel_rfl) (by kernel_rfl) _ W F W3.heap.size (W3.heap.size+1) (q2J pre []) x (by have:=q90 pre [];simp at this;omega) hh (fun b hb=>⟨by have:=hF6 b hb;omega,by have:=hF b hb;omega,by have:=hF b hb;omega⟩) (q38 hF (hb06.trans hs) hG) rfl rfl rfl rfl) ?_
    rintro e a' W' ⟨rfl,hfr,hh'⟩
    rw[←q77] at hh'
    refine⟨⟨hfr.size,fun j o h1 h2 _=>?_⟩,⟨hfr.os,hfr.tape,hfr.output,hfr.size,fun j h=>?_⟩,?_,fun j h1 h2 h3=>?_,hh'⟩
    ·rw[hfr.block j (Array.getElem?_eq_some_iff.1 h2).1 (fun b hx=>by rcases hx with⟨_,hx⟩|⟨_,hx⟩ <;> omega)]
     exact h2
    ·exact hfr.block j (by omega) (fun b hx=>by rcases hx with⟨_,hx⟩|⟨_,hx⟩ <;> omega)
    ·exact hs.trans ⟨hfr.os,hfr.tape,hfr.output,hfr.size,fun j h=>hfr.block j (by omega) (fun b hx=>by rcases hx with⟨_,hx⟩|⟨_,hx⟩ <;> omega)⟩
    ·rw[hfr.block j (by omega) (fun b hx=>by rcases hx with⟨_,hx⟩|⟨_,hx⟩ <;> omega)]
     exact hu j h1 h2 h3
   case stop=>
    rintro D c pre W _ _ h _
    exact h.elim
   case done=>
    rintro D xs W hD rfl ⟨hbW,hu,⟨es,ck,h4,hmr⟩,T5,h5⟩ hDD
    have hq:((W3.alloc (.map #[] 0)).alloc (.cells #[.map (some W3.heap.size)] 74)).heap.size=W3.heap.size+2:=by simp
    have g10:=(World.cell?_of_block (a:=⟨w.heap.size,0,none⟩) (hu w.heap.size (by omega) (by omega) (by omega))).trans ((b56.cell (p:=⟨w.heap.size,0,none⟩) (by simp;omega)).trans e10)
    have g11:=(World.cell?_of_block (a:=⟨w.heap.size,1,none⟩) (hu w.heap.size (by omega) (by omega) (by omega))).trans ((b56.cell (p:=⟨w.heap.size,1,none⟩) (by simp;omega)).trans e11)
    have g12:=(World.cell?_of_block (a:=⟨w.heap.size,2,none⟩) (hu w.heap.size (by omega) (by omega) (by omega))).trans ((b56.cell (p:=⟨w.heap.size,2,none⟩) (by simp;omega)).trans e12)
    have h2:W.heap[w.heap.size+1]? = some (.cells #[.int .i64 0,.string ByteArray.empty,.slice none 0 0] 24):=by
     rw[hu _ (by omega) (by omega) (by omega),b56.block _ (by omega),b35.block _ (by omega)]
     exact hk2
    have g5:W.cell? ⟨W3.heap.size+1,0,none⟩=some (.map (some W3.heap.size)):=by simp [World.cell?,h5]
    have hwW:Below w.heap.size w W:=hb06.trans hbW
    gi_wp2
    have hef:=(hK.eff _ _ _ _ _ _ hr).2 W F (fun b=>if b=0 then some ⟨W3.heap.size,0,0⟩ else none) #[.agg #[.int .i64 k,.string s,.slice a len cap],.map (some W3.heap.size)] (q38 hF hwW hG) ?H ?R
    case H=>
     refine⟨fun b blk hb=>?_,fun b b' l l' h1 h2 _=>?_,fun b l hb=>?_,fun b hb=>Nat.lt_of_lt_of_le (hF b hb) hwW.size⟩
     ·have:b=0∧blk=.map (byE (q2J T.vars [])):=by
       simp only[indexed,List.zipIdx_cons,List.zipIdx_nil,List.map_cons,List.map_nil,look] at hb
       split at hb
       ·rename_i h;exact⟨h.symm,(Option.some.inj hb).symm⟩
       ·cases hb
      obtain⟨rfl,rfl⟩:=this
      exact .inr (.inl ⟨_,es,ck,_,rfl,rfl,.inl ⟨h4,rfl,q5b _⟩,rfl,trivial,q2O hmr⟩)
     ·split at h1
      ·split at h2
       ·omega
       ·cases h2
      ·cases h1
     ·split at hb
      ·rename_i h0
       subst h0
       obtain rfl:=Option.some.inj hb
       exact⟨Nat.zero_lt_one,fun hf=>by have h:=hF W3.heap.size hf;omega,.inr ⟨_,rfl,rfl⟩,by have:=hbW.size;show W3.heap.size<W.heap.size;omega⟩
      ·cases hb
    case R=>
     refine⟨rfl,fun j x y hx hy=>?_⟩
     match j,hx,hy with
     |0,hx,hy=>
      simp at hx hy
      subst hx;subst hy
      exact Ty.reps (fun j x d hx hd=>(hrep j x d hx hd).mono fun y hy=>⟨hy,hwW.block y (hF y hy)⟩) ho
     |1,hx,hy=>
      simp at hx hy
      subst hx;subst hy
      exact RepV.map 0 ⟨W3.heap.size,0,0⟩ (if_pos rfl)
     |j+2,hx,hy=>simp at hx
    refine⟨trivial,fun h=>(by cases h),(callsIn_wide.2 hef).mono ?_⟩
    rintro e' W7 ⟨v,F',σ',rfl,hfr,_,hFo,hvv,hhr,_⟩
    have hbw7:Below w.heap.size w W7:=hwW.trans ⟨hfr.os,hfr.tape,hfr.output,hfr.size,fun b hb=>hfr.block b (by have:=hwW.size;omega) (fun j ⟨l,hl,hlb⟩=>by
     simp only at hl
     split at hl
     ·obtain rfl:=Option.some.inj hl
      simp only at hlb
      omega
     ·cases hl)⟩
    have h7:W7.heap[w.heap.size+1]? = some (.cells #[.int .i64 0,.string ByteArray.empty,.slice none 0 0] 24):=by
     rw[hfr.block _ (by have:=hbW.size;omega) (fun j ⟨l,hl,hlb⟩=>by
      simp only at hl
      split at hl
      ·obtain rfl:=Option.some.inj hl
       simp only at hlb
       omega
      ·cases hl)]
     exact h2
    have c20:W7.cell? ⟨w.heap.size+1,0,none⟩=some (.int .i64 0):=by simp [World.cell?,h7]
    have c21:W7.cell? ⟨w.heap.size+1,1,none⟩=some (.string ByteArray.empty):=by simp [World.cell?,h7]
    have c22:W7.cell? ⟨w.heap.size+1,2,none⟩=some (.slice none 0 0):=by simp [World.cell?,h7]
    have f20:W7.frozen? ⟨w.heap.size+1,0,none⟩=false:=by simp [World.frozen?,h7]
    have f21:W7.frozen? ⟨w.heap.size+1,1,none⟩=false:=by simp [World.frozen?,h7]
    have f22:W7.frozen? ⟨w.heap.size+1,2,none⟩=false:=by simp [World.frozen?,h7]
    have hd7:W7.heap[D]? = some (.deferred (some [])):=by
     rw[hfr.block D (by have:=(Array.getElem?_eq_some_iff.1 hDD).1;omega) (fun j ⟨l,hl,hlb⟩=>by
      simp only at hl
      split at hl
      ·obtain rfl:=Option.some.inj hl
       simp only at hlb
       omega
      ·cases hl)]
     exact hDD
    cases hvv with
    |agg cs _ b1 a2 a3=>
     obtain⟨lc⟩:=cs
     match lc,b1 with
     |[q0,q1,q2],_=>
      have s0:∀(ad:Addr) (w:World),(store ad q0).run Tryz.prog w=stored Tryz.prog w ad q0 .plain:=fun ad w=>run_store Tryz.prog w ad q0 _ (a3 q0 (by simp))
      have s1:∀(ad:Addr) (w:World),(store ad q1).run Tryz.prog w=stored Tryz.prog w ad q1 .plain:=fun ad w=>run_store Tryz.prog w ad q1 _ (a3 q1 (by simp))
      have s2:∀(ad:Addr) (w:World),(store ad q2).run Tryz.prog w=stored Tryz.prog w ad q2 .plain:=fun ad w=>run_store Tryz.prog w ad q2 _ (a3 q2 (by simp))
      gi_wp2
      have hd8:(((W7.setCell ⟨w.heap.size+1,0,none⟩ q0).setCell ⟨w.heap.size+1,1,none⟩ q1).setCell ⟨w.heap.size+1,2,none⟩ q2).heap[D]? = some (.deferred (some [])):=by
       have hne:w.heap.size+1≠D:=by omega
       rw[q11 hne,q11 hne,q11 hne]
       exact hd7
      refine⟨by simp,.inl ⟨_,_,rfl,run_takeDeferred hd8,?_⟩⟩
      have hb8:=((hbw7.setCell (p:=⟨w.heap.size+1,0,none⟩) (by simp) q0).setCell (p:=⟨w.heap.size+1,1,none⟩) (by simp) q1).setCell (p:=⟨w.heap.size+1,2,none⟩) (by simp) q2
      have hb9:=hb8.grown (grownBy_putObj' _ D (.deferred none)) hb8.size (fun k e=>by cases e;omega)
      obtain⟨d0,d1,d2⟩:=q78 (x':=q0) (y':=q1) (z':=q2) c20 c21 c22 rfl
      refine⟨_,q94 (b:=w.heap.size+1) (x:=q0) (y:=q1) (z:=q2) rfl rfl ?_ ?_ ?_,_,F',fun _=>none,rfl,?_,fun b hb=>(hFo b hb).imp id (fun h=>Nat.le_trans hwW.size h),.tup _ _ rfl (fun j x y hx hy=>?_),⟨fun b blk h=>by simp [indexed,look] at h,fun b b' l l' h=>(by cases h),fun b l h=>(by cases h),fun b hb=>Nat.lt_of_lt_of_le (hhr.fro b hb) ?_⟩⟩
      ·exact(q8r (by omega)).trans d0
      ·exact(q8r (by omega)).trans d1
      ·exact(q8r (by omega)).trans d2
      ·exact hb9
      ·match j,hx,hy with
       |0,hx,hy=>
        simp at hx hy
        subst hx;subst hy
        have hfar:∀ b,F' b→b≠w.heap.size+1∧b≠D:=fun b hb=>by
         have hDW:=(Array.getElem?_eq_some_iff.1 hDD).1
         have:=hbW.size
         rcases hFo b hb with h|h
         ·have:=hF b h;omega
         ·omega
        have hkeep:∀ b,F' b→F' b∧((((W7.setCell ⟨w.heap.size+1,0,none⟩ q0).setCell ⟨w.heap.size+1,1,none⟩ q1).setCell ⟨w.heap.size+1,2,none⟩ q2).putObj D (.deferred none)).heap[b]? = W7.heap[b]?:=fun b hb=>by
         obtain⟨n1,n2⟩:=hfar b hb
         refine⟨hb,?_⟩
         rw[World.putObj_heap_other n2,q11 (Ne.symm n1),q11 (Ne.symm n1),q11 (Ne.symm n1)]
        have hone:∀ {q:Value} {v:V} {d:Vm.D},RepV W7 F' W.heap.size σ' q v→q5M v=some d→RepV ((((W7.setCell ⟨w.heap.size+1,0,none⟩ q0).setCell ⟨w.heap.size+1,1,none⟩ q1).setCell ⟨w.heap.size+1,2,none⟩ q2).putObj D (.deferred none)) F' w.heap.size (fun _=>none) q (.d false d):=fun {q v d} h hp=>.d _ _ _ ((z2V h hp).mono fun b hb=>hkeep b hb)
        refine .agg _ _ rfl (fun j x y hx hy=>?_) a3
        match j,hx,hy with
        |0,hx,hy=>simp at hx hy;subst hx;subst hy;exact hone (a2 0 _ _ rfl rfl) px
        |1,hx,hy=>simp at hx hy;subst hx;subst hy;exact hone (a2 1 _ _ rfl rfl) py
        |2,hx,hy=>simp at hx hy;subst hx;subst hy;exact hone (a2 2 _ _ rfl rfl) pz
        |j+3,hx,hy=>simp at hx
       |1,hx,hy=>simp at hx hy;subst hx;subst hy;exact .int
       |j+2,hx,hy=>simp at hx
      ·have h70:=(((Below.refl 0 W7).setCell (p:=⟨w.heap.size+1,0,none⟩) (Nat.zero_le _) q0).setCell (p:=⟨w.heap.size+1,1,none⟩) (Nat.zero_le _) q1).setCell (p:=⟨w.heap.size+1,2,none⟩) (Nat.zero_le _) q2
       exact(h70.grown (grownBy_putObj' _ D (.deferred none)) (Nat.zero_le _) (fun k e=>Nat.zero_le _)).size
end Go.Vm
end

section
namespace Go.Vm
set_option maxRecDepth 20000
def Ty.ofL(t:Ty):Option Lat:=if t.wrongI=0∧t.varB=false then t.lat else none
@[reducible] def iZ (x:Int):V:=.d false (.int .i64 x)
def inB(o:Lat)(x:Int):Bool:=decide (0≤x)&&decide (x<(o.sz:Int))
/- 'sloth/lattice.Size' -/
def f8:Fun:=⟨ (.seq (.reg [⟨[(1,.box (.sl 0))],[],[(.int .i64 0)],none,[1],3,[],[],[]⟩]) (.seq (.reg [⟨[],[(4,(.call 24 (.cons (.ld 3 true (.sl 1)) .nil)))],[],none,[],3,[],[],[]⟩]) (.seq (.seq (.reg [⟨[],[(8,(.eqs false false [4] (.sl 4) .nilp))],[],none,[4],2,[],[],[]⟩]) (.cond (.sl 8) (.seq (.reg [⟨[],[(2,(.int .i64 0)),(3,(.int .i64 140))],[],none,[],2,[],[],[]⟩]) (.seq (.tidy 0 [2,3]) .ret)) .skip)) (.seq (.reg [⟨[],[(2,(.ld 1 false (.fa 0 (.fa 0 (.sl 4))))),(3,(.int .i64 0))],[],none,[],6,[],[],[]⟩]) (.seq (.tidy 0 [2,3]) .ret))))), [(.sl 2),(.sl 3)],false⟩
theorem f8_ok:q0o Go.Proofs.Tryz.prog 8 0 1 f8=true:=by kernel_rfl
/- 'sloth/lattice.Below' -/
def f11:Fun:=⟨ (.seq (.reg [⟨[(3,.box (.sl 0))],[],[(.int .i64 0),(.bool false)],none,[1,2,3],3,[],[],[]⟩]) (.seq (.reg [⟨[],[(8,(.call 24 (.cons (.ld 3 true (.sl 3)) .nil)))],[],none,[1,2],3,[],[],[]⟩]) (.seq (.block 0 (.seq (.reg [⟨[],[(11,(.eqs false false [4] (.sl 8) .nilp))],[],none,[1,2,8],3,[],[],[]⟩]) (.cond (.sl 11) (.seq (.reg [⟨[],[(6,(.bool false)),(7,(.int .i64 140))],[],none,[],2,[],[],[]⟩]) (.seq (.tidy 0 [6,7]) .ret)) (.seq (.reg [⟨[],[(14,(.or (.un .not (.call 26 (.cons (.sl 8) (.cons (.sl 1) .nil)))) (.un .not (.call 26 (.cons (.sl 8) (.cons (.sl 2) .nil))))))],[],none,[1,2,8],11,[],[],[]⟩]) (.cond (.sl 14) (.seq (.reg [⟨[],[(6,(.bool false)),(7,(.int .i64 141))],[],none,[],2,[],[],[]⟩]) (.seq (.tidy 0 [6,7]) .ret)) .skip))))) (.seq (.reg [⟨[],[(6,(.call 27 (.cons (.sl 8) (.cons (.sl 1) (.cons (.sl 2) .nil))))),(7,(.int .i64 0))],[],none,[],6,[],[],[]⟩]) (.seq (.tidy 0 [6,7]) .ret))))), [(.sl 6),(.sl 7)],false⟩
theorem j5c:q0o Go.Proofs.Tryz.prog 11 0 3 f11=true:=by kernel_rfl
/- 'sloth/lattice.Join' -/
def f12:Fun:=⟨ (.seq (.reg [⟨[(3,.box (.sl 0))],[],[(.int .i64 0)],none,[1,2,3],3,[],[],[]⟩]) (.seq (.reg [⟨[],[(8,(.call 24 (.cons (.ld 3 true (.sl 3)) .nil)))],[],none,[1,2],3,[],[],[]⟩]) (.seq (.block 0 (.seq (.reg [⟨[],[(11,(.eqs false false [4] (.sl 8) .nilp))],[],none,[1,2,8],3,[],[],[]⟩]) (.cond (.sl 11) (.seq (.reg [⟨[],[(6,(.int .i64 0)),(7,(.int .i64 140))],[],none,[],2,[],[],[]⟩]) (.seq (.tidy 0 [6,7]) .ret)) (.seq (.reg [⟨[],[(14,(.or (.un .not (.call 26 (.cons (.sl 8) (.cons (.sl 1) .nil)))) (.un .not (.call 26 (.cons (.sl 8) (.cons (.sl 2) .nil))))))],[],none,[1,2,8],11,[],[],[]⟩]) (.cond (.sl 14) (.seq (.reg [⟨[],[(6,(.int .i64 0)),(7,(.int .i64 141))],[],none,[],2,[],[],[]⟩]) (.seq (.tidy 0 [6,7]) .ret)) .skip))))) (.seq (.reg [⟨[],[(6,(.call 28 (.cons (.sl 8) (.cons (.sl 1) (.cons (.sl 2) .nil))))),(7,(.int .i64 0))],[],none,[],6,[],[],[]⟩]) (.seq (.tidy 0 [6,7]) .ret))))), [(.sl 6),(.sl 7)],false⟩
theorem j5b:q0o Go.Proofs.Tryz.prog 12 0 3 f12=true:=by kernel_rfl
/- 'sloth/lattice.of' -/
def f24:Fun:=⟨ (.seq (.reg [⟨[(1,.box (.sl 0))],[],[.nilp],none,[1],2,[],[],[]⟩]) (.seq (.seq (.reg [⟨[(3,.box (.agg (.cons (.int .i64 0) (.cons (.str []) (.cons (.nilsl 3) .nil)))))],[(9,(.ext 1 (.call 37 (.cons (.ld 3 true (.sl 1)) .nil))))],[],some (none,.store 3 (.sl 3) (.ext 0 (.call 37 (.cons (.ld 3 true (.sl 1)) .nil)))),[1],7,[],[],[]⟩,⟨[],[(4,(.sl 9))],[],none,[1],1,[],[],[]⟩]) (.seq (.reg [⟨[],[(15,(.or (.bin .neq (.sl 4) (.int .i64 0)) (.call 38 (.cons (.ld 3 true (.sl 1)) .nil))))],[],none,[1],6,[],[],[]⟩]) (.cond (.sl 15) (.seq (.reg [⟨[],[(2,.nilp)],[],none,[],1,[],[],[]⟩]) (.seq (.tidy 0 [2]) .ret)) .skip))) (.seq (.reg [⟨[(17,.mkm),(19,.box (.set 0 1 (.sl 17) (.agg (.cons .nilm .nil))))],[(16,(.ld 3 true (.sl 1)))],[],none,[19],4,[],[],[]⟩,⟨[],[],[],some (some 20,.calle 39 (.cons (.sl 16) (.cons (.sl 19) .nil))),[],1,[],[],[]⟩,⟨[],[(2,(.sl 20))],[],none,[],1,[],[],[]⟩]) (.seq (.tidy 0 [2]) .ret)))), [(.sl 2)],false⟩
theorem j40:q0o Go.Proofs.Tryz.prog 24 0 1 f24=true:=by kernel_rfl
theorem z17(K:Cx)(t:Ty)(x y z:D)(e:Int)(w1:K.call 37 [tyW t]=some (.tup [.agg [.d false x,.d false y,.d false z],.d false (.int .i64 e)],[]))(w2:K.call 38 [tyW t]=some (.bool t.varB,[]))(h:e≠0∨t.varB=true) :
    q0c K f24 [tyW t] []=some (oV none,[],[]):=by
  obtain⟨k,n,l⟩:=t
  simp only[tyW,oV] at w1 w2 ⊢
  unfold f24
  rcases h with h|h
  · have e2:(e != 0)=true:=by simpa using h
    generalize (Ty.mk k n l).varB=v at w2
    simp(disch:=first|decide|omega|(simp only[LN];first|done|omega)) only[SV,SW,Nat.reduceAdd,Nat.reduceBEq,q0r,q0a,w1,Bool.false_or,lose,e2,w2,q0b]
  · rw[h] at w2
    generalize hq:(e != 0)=q
    simp(disch:=first|decide|omega|(simp only[LN];first|done|omega)) only[SV,SW,Nat.reduceAdd,Nat.reduceBEq,q0r,q0a,w1,Bool.false_or,lose,hq,w2,q0b]
theorem j0R(K:Cx)(s:S):ev K s .nilm=some (.d false .nilm):=rfl
theorem z6L(K:Cx)(t:Ty)(x y z:D)(es:Kpt)(o:Option Lat)(w1:K.call 37 [tyW t]=some (.tup [.agg [.d false x,.d false y,.d false z],.d false (.int .i64 0)],[]))(w2:K.call 38 [tyW t]=some (.bool false,[]))
    (w3:K.eff 39 [tyW t,.ptr 0 0 0] (kp [])=some (oV o,kp es,[])):q0c K f24 [tyW t] []=some (oV o,[],[]):=by
  obtain⟨k,n,l⟩:=t
  simp only[tyW] at w1 w2 w3 ⊢
  unfold f24
  have h0:q0C []=[]:=rfl
  cases o with
  |none=>
    simp only[kp,oV,h0] at w3 ⊢
    simp(disch:=first|decide|omega|(simp only[LN];first|done|omega)) only[SX,SW,Nat.reduceAdd,Nat.reduceBEq,q0r,q0a,w1,Bool.false_or,lose,w2,j0R,Nat.reduceEqDiff,dimL,w3,q0W,Nat.reduceSub,q0u,q0b]
  |some o=>
    simp only[kp,oV,pD,h0] at w3 ⊢
    simp(disch:=first|decide|omega|(simp only[LN];first|done|omega)) only[SX,SW,Nat.reduceAdd,Nat.reduceBEq,q0r,q0a,w1,Bool.false_or,lose,w2,j0R,Nat.reduceEqDiff,dimL,w3,q0W,Nat.reduceSub,q0u,q0b]
def q4d(o:Option Lat):V:=match o with
  |none=>.tup [iZ 0,iZ 140]
  |some o=>.tup [iZ o.sz,iZ 0]
theorem j2A(K:Cx)(t:Ty)(o:Option Lat)(w:K.call 24 [tyW t]=some (oV o,[])):q0c K f8 [tyW t] []=some (q4d o,[],[]):=by
  obtain⟨k,n,l⟩:=t
  unfold f8
  cases o with
  |none=>
    simp only[q4d,oV,tyW,iZ] at w ⊢
    simp(disch:=first|decide|omega|(simp only[LN];first|done|omega)) only[SV,SW,Nat.reduceAdd,Nat.reduceBEq,q0a,w,q0r,q0K,q0h,q0n,V.isNilP,q0b]
  |some o=>
    have e:=q2Z o
    simp only[q4d,oV,pD,tyW,iZ,e] at w ⊢
    simp(disch:=first|decide|omega|(simp only[LN];first|done|omega)) only[SV,SW,Nat.reduceAdd,Nat.reduceBEq,q0a,w,q0r,q0K,q0h,q0n,V.isNilP,q0b]
def q3X(o:Option Lat)(x y:Int):V:=match o with
  |none=>.tup [.d false (.bool false),iZ 140]
  |some o=>if inB o x&&inB o y then .tup [.d false (.bool (o.le x.toNat y.toNat)),iZ 0] else .tup [.d false (.bool false),iZ 141]
def q5Y(o:Option Lat)(x y:Int):V:=match o with
  |none=>.tup [iZ 0,iZ 140]
  |some o=>if inB o x&&inB o y then .tup [iZ (o.jn x.toNat y.toNat),iZ 0] else .tup [iZ 0,iZ 141]
theorem z9S(K:Cx)(t:Ty)(o:Option Lat)(x y:Int)(w:K.call 24 [tyW t]=some (oV o,[]))(h26:∀ l z,o=some l→K.call 26 [pD l,iZ z]=some (.bool (inB l z),[]))
    (h27:∀ l,o=some l→inB l x=true→inB l y=true→K.call 27 [pD l,iZ x,iZ y]=some (.bool (l.le x.toNat y.toNat),[])):q0c K f11 [tyW t,iZ x,iZ y] []=some (q3X o x y,[],[]):=by
  obtain⟨k,n,l⟩:=t
  unfold f11
  cases o with
  |none=>
    clear h26 h27
    simp only[q3X,oV,tyW,iZ] at w ⊢
    simp(disch:=first|decide|omega|(simp only[LN];first|done|omega)) only[SV,SW,Nat.reduceAdd,Nat.reduceBEq,q0a,w,q0r,q0K,q0h,q0n,V.isNilP,q0b]
  |some o=>
    have wx:=h26 o x rfl
    have wy:=h26 o y rfl
    have wl:=h27 o rfl
    clear h26 h27
    simp only[q3X,oV,pD,tyW,iZ] at w wx wy wl ⊢
    generalize inB o x=p at wx wl ⊢
    generalize inB o y=q at wy wl ⊢
    cases p with
    |false=>clear wl;simp(disch:=first|decide|omega|(simp only[LN];first|done|omega)) only[SV,SW,Nat.reduceAdd,Nat.reduceBEq,q0a,w,q0r,q0K,q0h,q0n,V.isNilP,wx,wy,q0b]
    |true=>cases q with
      |false=>clear wl;simp(disch:=first|decide|omega|(simp only[LN];first|done|omega)) only[SV,SW,Nat.reduceAdd,Nat.reduceBEq,q0a,w,q0r,q0K,q0h,q0n,V.isNilP,wx,wy,q0b]
      |true=>
        have wl:=wl rfl rfl
        simp(disch:=first|decide|omega|(simp only[LN];first|done|omega)) only[SV,SW,Nat.reduceAdd,Nat.reduceBEq,q0a,w,q0r,q0K,q0h,q0n,V.isNilP,wx,wy,wl,q0b]
theorem j2N(K:Cx)(t:Ty)(o:Option Lat)(x y:Int)(w:K.call 24 [tyW t]=some (oV o,[]))(h26:∀ l z,o=some l→K.call 26 [pD l,iZ z]=some (.bool (inB l z),[]))
    (h28:∀ l,o=some l→inB l x=true→inB l y=true→K.call 28 [pD l,iZ x,iZ y]=some (iZ (l.jn x.toNat y.toNat),[])):q0c K f12 [tyW t,iZ x,iZ y] []=some (q5Y o x y,[],[]):=by
  obtain⟨k,n,l⟩:=t
  unfold f12
  cases o with
  |none=>
    clear h26 h28
    simp only[q5Y,oV,tyW,iZ] at w ⊢
    simp(disch:=first|decide|omega|(simp only[LN];first|done|omega)) only[SV,SW,Nat.reduceAdd,Nat.reduceBEq,q0a,w,q0r,q0K,q0h,q0n,V.isNilP,q0b]
  |some o=>
    have wx:=h26 o x rfl
    have wy:=h26 o y rfl
    have wl:=h28 o rfl
    clear h26 h28
    simp only[q5Y,oV,pD,tyW,iZ] at w wx wy wl ⊢
    generalize inB o x=p at wx wl ⊢
    generalize inB o y=q at wy wl ⊢
    cases p with
    |false=>clear wl;simp(disch:=first|decide|omega|(simp only[LN];first|done|omega)) only[SV,SW,Nat.reduceAdd,Nat.reduceBEq,q0a,w,q0r,q0K,q0h,q0n,V.isNilP,wx,wy,q0b]
    |true=>cases q with
      |false=>clear wl;simp(disch:=first|decide|omega|(simp only[LN];first|done|omega)) only[SV,SW,Nat.reduceAdd,Nat.reduceBEq,q0a,w,q0r,q0K,q0h,q0n,V.isNilP,wx,wy,q0b]
      |true=>
        have wl:=wl rfl rfl
        simp(disch:=first|decide|omega|(simp only[LN];first|done|omega)) only[SV,SW,Nat.reduceAdd,Nat.reduceBEq,q0a,w,q0r,q0K,q0h,q0n,V.isNilP,wx,wy,wl,q0b]
end Go.Vm
end

section
namespace Go.Vm
set_option maxRecDepth 100000
open Go.Proofs Go.RowKit
inductive Okl:Lat→Prop
 | ch (n:Nat):0 < n→n≤40→Okl (.ch n)
 | fns (a b:Lat):Okl a→Okl b→(enum a b a.sz []).length≤40→Okl (Lat.fns a b)
theorem q1t {o:Lat} (h:Okl o):Fine o:=by
 induction h with
 | ch n h1 h2=>exact z0T h1 h2
 | fns a b _ _ hl iha ihb=>exact z12 iha ihb (by rw [q4t,if_pos hl])
mutual
theorem q5t:∀ (t:Ty) (o:Lat),t.lat=some o→Okl o
 | .mk k n l,o,h=>by
  rw [Ty.lat] at h
  split at h
  ·split at h
   ·cases h;exact .ch 4 (by decide) (by decide)
   ·cases h
  ·split at h
   ·cases h;exact .ch 2 (by decide) (by decide)
   ·have hl:=z1W l
    generalize latL l=q at h hl
    unfold latF at h
    split at h
    ·rename_i a b
     rw [q4t] at h
     split at h
     ·rename_i hlen
      cases h
      exact .fns _ _ (hl _ (by simp)) (hl _ (by simp)) hlen
     ·cases h
    ·cases h
theorem z1W:∀ (l:List Ty) (o:Lat),some o∈latL l→Okl o
 | [],o,h=>by simp [latL] at h
 | t :: r,o,h=>by
  rw [latL,List.mem_cons] at h
  rcases h with h | h
  ·exact q5t t o h.symm
  ·exact z1W r o h
end
theorem q22 {t:Ty} {o:Lat} (h:t.ofL=some o):Okl o:=by
 unfold Ty.ofL at h
 split at h
 ·exact q5t t o h
 ·cases h
theorem q40 (x y:Int) (h:intD x=intD y):x=y:=by simpa [intD] using h
theorem q6M {a b:List Int} (h:ilV a=ilV b):a=b:=by
 simp only [ilV,V.d.injEq,D.sl.injEq,true_and] at h
 exact q0L q40 _ _ h
noncomputable def z26:Sp where
 α:=Lat×Int
 f:=26
 ok:=fun _=>True
 args:=fun (o,x)=>[pD o,iZ x]
 res:=fun (o,x)=>(.bool (inB o x),[])
 inj:=by
  rintro ⟨o,x⟩ ⟨o',x'⟩ _ _ h
  simp only [pD,iZ,List.cons.injEq,V.d.injEq,D.ptr.injEq,D.int.injEq,true_and,and_true] at h
  obtain ⟨h1,rfl⟩:=h
  obtain rfl:=q1Q _ _ h1
  rfl
noncomputable def z46:Sp where
 α:=List Int×List Int
 f:=46
 ok:=fun (a,b)=>a.length≤1099511627776∧b.length≤1099511627776
 args:=fun (a,b)=>[ilV a,ilV b]
 res:=fun (a,b)=>(.bool (decide (a=b)),[])
 inj:=by
  rintro ⟨a,b⟩ ⟨a',b'⟩ _ _ h
  simp only [List.cons.injEq,and_true] at h
  obtain rfl:=q6M h.1
  obtain rfl:=q6M h.2
  rfl
noncomputable def z45:Sp where
 α:=List Int×List Int
 f:=45
 ok:=fun (a,b)=>a.length≤1099511627776∧b.length≤1099511627776
 args:=fun (a,b)=>[ilV a,.d false (.ptr [.sl 1 (b.map intD)])]
 res:=fun (a,b)=>(.bool (decide (a=b)),[])
 inj:=by
  rintro ⟨a,b⟩ ⟨a',b'⟩ _ _ h
  simp only [List.cons.injEq,V.d.injEq,D.ptr.injEq,D.sl.injEq,true_and,and_true] at h
  obtain rfl:=q0L q40 _ _ h.1
  obtain rfl:=q0L q40 _ _ h.2
  rfl
noncomputable def z44:Sp where
 α:=List (List Nat)×List Int
 f:=44
 ok:=fun (l,q)=>l.length≤1000∧(∀ t∈l,t.length≤1000)∧q.length≤1099511627776
 args:=fun (l,q)=>[.d false (.sl 1 (l.map rowD)),fnV q]
 res:=fun (l,q)=>(iZ (q18 q 0 l),[])
 inj:=by
  rintro ⟨a,b⟩ ⟨a',b'⟩ _ _ h
  simp only [fnV,List.cons.injEq,V.d.injEq,V.fn.injEq,D.ptr.injEq,D.sl.injEq,true_and,and_true] at h
  obtain rfl:=q0L q4L _ _ h.1
  obtain rfl:=q0L q40 _ _ h.2
  rfl
noncomputable def z33:Sp where
 α:=(Lat×Lat×List (List Nat)×List (List Bool))×List Int
 f:=33
 ok:=fun ((_,_,rows,_),q)=>rows.length≤1000∧(∀ t∈rows,t.length≤1000)∧q.length≤1099511627776
 args:=fun ((a,b,rows,low),q)=>[pD (.fn a b rows low),ilV q]
 res:=fun ((_,_,rows,_),q)=>(iZ (q18 q 0 rows),[])
 inj:=by
  rintro ⟨⟨a,b,r,l⟩,q⟩ ⟨⟨a',b',r',l'⟩,q'⟩ _ _ h
  simp only [pD,List.cons.injEq,V.d.injEq,D.ptr.injEq,true_and,and_true] at h
  have:=q1Q _ _ h.1
  cases this
  obtain rfl:=q0L q40 _ _ (by simpa using h.2)
  rfl
section
variable {G:Nat→Option (List D)}
theorem z26h:z26.Holds Tryz.prog G:=q0d q0e (Known.nil (G:=G)).sound (g:=f26) (fun _ _=>j4Y) fun ⟨o,x⟩ _=>⟨_,j5k _ o x⟩
theorem z46h:z46.Holds Tryz.prog G:=q0d q0e (Known.nil (G:=G)).sound (g:=f46) (fun _ _=>j4I) fun ⟨a,b⟩ ⟨h1,h2⟩=>⟨_,z9N _ a b h1 h2⟩
theorem z45h:z45.Holds Tryz.prog G:=q0d q0e ((Known.nil (G:=G)).put z46h).sound (g:=f45) (fun _ _=>j4J) fun ⟨a,b⟩ h=>⟨_,j2H _ a b (cx1 z46 (a,b) h)⟩
theorem q35 (t:List Nat):(natI t).length=t.length:=by simp [natI]
theorem z44h:z44.Holds Tryz.prog G:=q0d q0e ((Known.nil (G:=G)).put z45h).sound (g:=f44) (fun _ _=>j4K) fun ⟨l,q⟩ ⟨h1,h2,h3⟩=>⟨_,j5i _ q l h1 fun t ht=>cx1 z45 (natI t,q) ⟨by have:=h2 t ht;rw [q35];omega,h3⟩⟩
theorem z33h:z33.Holds Tryz.prog G:=q0d q0e ((Known.nil (G:=G)).put z44h).sound (g:=f33) (fun _ _=>j4S) fun ⟨⟨a,b,rows,low⟩,q⟩ h=>⟨_,z6M _ a b rows low q (cx1 z44 (rows,q) h)⟩
theorem z8O {x y:List Nat} (h:natI x=natI y):x=y:=q0L (f:=fun (v:Nat)=>(v:Int)) (fun a b h=>Int.natCast_inj.1 h) x y h
theorem q7N (J:List Nat):∀ (l:List (List Nat)) (k:Nat),J∈l→q18 (natI J) k l=((k+l.findIdx fun r=>decide (r=J):Nat):Int)
 | [],k,h=>by simp at h
 | t :: r,k,h=>by
  rw [q18]
  by_cases ht:t=J
  ·subst ht
   rw [if_pos rfl,List.findIdx_cons]
   simp
  ·rw [if_neg (fun e=>ht (z8O e)),q7N J r (k+1) (by
    rcases List.mem_cons.1 h with h | h
    ·exact absurd h.symm ht
    ·exact h),List.findIdx_cons]
   simp [ht]
   omega
theorem q9y (b:Lat) (f g:List Nat):∀ m k,q4r b f g m k=(List.range' k m).map fun (i:Nat)=>b.jn (nth f (i:Int)) (nth g (i:Int))
 | 0,k=>rfl
 | m+1,k=>by rw [q4r,q9y b f g m (k+1),List.range'_succ,List.map_cons]
theorem z3c (a b:Lat) (x y:Nat):q4r b (nth (Rw a b) (x:Int)) (nth (Rw a b) (y:Int)) a.sz 0=jrow a b x y:=by
 rw [q9y,jrow,List.range_eq_range']
noncomputable def z28 (n:Nat):Sp where
 α:=Lat×Nat×Nat
 f:=28
 ok:=fun (o,x,y)=>Okl o∧SizeOf.sizeOf o < n∧x < o.sz∧y < o.sz
 args:=fun (o,x,y)=>[pD o,iN x,iN y]
 res:=fun (o,x,y)=>(iN (o.jn x y),[])
 inj:=by
  rintro ⟨o,x,y⟩ ⟨o',x',y'⟩ _ _ h
  simp only [pD,iN,List.cons.injEq,V.d.injEq,D.ptr.injEq,D.int.injEq,true_and,and_true,Int.natCast_inj] at h
  obtain ⟨h1,rfl,rfl⟩:=h
  obtain rfl:=q1Q _ _ h1
  rfl
theorem z28h:∀ n,(z28 n).Holds Tryz.prog G
 | 0=>fun ⟨o,x,y⟩ ⟨_,h,_⟩=>absurd h (Nat.not_lt_zero _)
 | n+1=>by
  refine q0d q0e ((Known.nil (G:=G)).put (z28h n) |>.put z33h).sound (g:=f28) (fun _ _=>j4X) ?_
  rintro ⟨o,x,y⟩ ⟨ho,hs,hx,hy⟩
  cases ho with
  | ch m h1 h2=>exact ⟨_,z9H _ m x y hx hy (by omega)⟩
  | fns a b ha hb hl=>
   obtain ⟨oa,wa,sa⟩:=q1t ha
   obtain ⟨ob,wb,sb⟩:=q1t hb
   have hsb:SizeOf.sizeOf b < n:=by
    simp only [Lat.fns,Lat.fn.sizeOf_spec] at hs
    omega
   have hrow:∀ t∈Rw a b,t.length≤1000:=fun t ht=>by
    have:=((q3L a b t).1 ht).1
    omega
   have hj:(Lat.fns a b).jn x y < (Rw a b).length∧nth (Rw a b) (((Lat.fns a b).jn x y:Nat):Int)=jrow a b x y:=q9I ob x y hx hy
   have hmem:jrow a b x y∈Rw a b:=by rw [← hj.2,q1y hj.1];exact List.getElem_mem _
   have e:=q7N (jrow a b x y) (Rw a b) 0 hmem
   have w:=cx1 (G:=G) (L:=[z28 n]) (E:=[]) z33 ((a,b,Rw a b,lowM a b (Rw a b)),natI (q4r b (nth (Rw a b) (x:Int)) (nth (Rw a b) (y:Int)) a.sz 0)) ⟨Nat.le_trans hl (by decide),hrow,by rw [q35,q6K];omega⟩
   have:=z9G (cx G [z33,z28 n] []) a b (Rw a b) (lowM a b (Rw a b)) x y (fun r hr=>by
    obtain ⟨q1,q2,_⟩:=(q3L a b r).1 hr
    refine ⟨q1,fun v hv=>?_⟩
    obtain ⟨i,hi,rfl⟩:=List.getElem_of_mem hv
    exact q2 i hi) (by omega) oa.pos (fun u v hu hv=>cx2 (z28 n) (show (33:Nat)≠28 by decide) (b,u,v) ⟨hb,hsb,hu,hv⟩) hx hy _ w
   rw [z3c,e] at this
   simp only [Nat.zero_add] at this
   exact ⟨_,this⟩
noncomputable def z64:Sp where
 α:=Nat
 f:=64
 ok:=fun n=>n≤1000000
 args:=fun n=>[iN n]
 res:=fun n=>(.d false (.str (Lib.itoa n)),[])
 inj:=by
  intro a b _ _ h
  simp only [iN,List.cons.injEq,V.d.injEq,D.int.injEq,true_and,and_true,Int.natCast_inj] at h
  rw [h]
noncomputable def z49:Sp where
 α:=Nat
 f:=49
 ok:=fun n=>n≤1000000
 args:=fun n=>[iN n]
 res:=fun n=>(.d false (.str (q7q n)),[])
 inj:=by
  intro a b _ _ h
  simp only [iN,List.cons.injEq,V.d.injEq,D.int.injEq,true_and,and_true,Int.natCast_inj] at h
  rw [h]
structure GZ (G:Nat→Option (List D)) (m:Int):Prop where
 pow:G 0=some (Lib.pow10Tab.map fun z=>.int .u64 z)
 max:G 1=some [.int .i64 m]
theorem z64h {m:Int} (hG:GZ G m):z64.Holds Tryz.prog G:=fun (n:Nat) (hn:n≤1000000)=>by
 exact ⟨by kernel_rfl,z5q hG.pow n (by omega) (by omega)⟩
theorem z49h {m:Int} (hG:GZ G m):z49.Holds Tryz.prog G:=q0d q0e ((Known.nil (G:=G)).put (z64h hG)).sound (g:=f49) (fun _ _=>j4G) fun n hn=>⟨_,z6W _ (fun k hk=>cx1 z64 k hk) n hn⟩
mutual
theorem z1m:∀ t:Ty,t.vars.length≤t.cnt
 | .mk k n l=>by
  have:=q83 l
  rw [Ty.vars,Ty.cnt]
  split
  ·simp
  ·omega
theorem q83:∀ l:List Ty,(q2G l).length≤cntL l
 | []=>by simp [q2G,cntL]
 | t :: r=>by
  have h1:=z1m t
  have h2:=q83 r
  rw [q2G,cntL,List.length_append]
  omega
end
def Ty.canV (t:Ty):V:=if t.wrongI=0 then .tup [.agg ((t.sub (q2J t.vars [])).d.map (V.d false)),iZ 0] else .tup [.agg [.d false (.int .i64 0),.d false (.str []),.d false (.sl 3 [])],iZ t.wrongI]
theorem z37h {m:Int} (hG:GZ G m) (n:Nat):(zT 37 n fun t=>t.canV).Holds Tryz.prog G:=by
 intro (t:Ty) (ht:t.fit∧SizeOf.sizeOf t < n)
 obtain ⟨hf,hs⟩:=ht
 have hK:=((Known.nil (G:=G)).put (z47h hG.max n) |>.put (z49h hG) |>.putE (y50h n)).sound
 have h47:(cx G [z49,zT 47 n fun t=>.d false (.int .i64 t.wrongI)] [y50 n]).call 47 [tyW t]=some (.d false (.int .i64 t.wrongI),[]):=cx2 (zT 47 n fun t=>.d false (.int .i64 t.wrongI)) (show (49:Nat)≠47 by decide) t ⟨hf,hs⟩
 have h50:(cx G [z49,zT 47 n fun t=>.d false (.int .i64 t.wrongI)] [y50 n]).eff 50 [tyW t,.map 0] [.map (byE (q2J t.vars []))]=some (tyR (t.sub (q2J t.vars [])),[.map (byE (q2J t.vars []))],[]):=ce1 (y50 n) (t,q2J t.vars []) ⟨hf,hs⟩
 have h49:K49 (cx G [z49,zT 47 n fun t=>.d false (.int .i64 t.wrongI)] [y50 n]):=fun k hk=>cx1 z49 k hk
 have ev:tyW t=t.v:=by obtain ⟨k,nm,l⟩:=t;rfl
 refine ⟨by kernel_rfl,?_⟩
 simp only [zT,Ty.canV]
 rw [ev] at *
 by_cases h0:t.wrongI=0
 ·rw [if_pos h0]
  rw [h0] at h47
  have hv:t.vars.length≤1000000:=by
   have h1:=z1m t
   have h2:=(q2K h0).2
   rw [q6A t h2] at h1
   omega
  generalize ht':t.sub (q2J t.vars [])=u at h50 ⊢
  obtain ⟨k,nm,l⟩:=u
  cases l with
  | nil=>exact q95 hK t hf hv h49 h47 h50 rfl rfl rfl
  | cons x l=>exact q95 hK t hf hv h49 h47 h50 rfl rfl rfl
 ·rw [if_neg h0]
  exact z7o hK t t.wrongI h0 h47
theorem z24h {m:Int} (hG:GZ G m) (n:Nat):(zT 24 n fun t=>oV t.ofL).Holds Tryz.prog G:=by
 refine q0d q0e ((Known.nil (G:=G)).put (z37h hG n) |>.put (z38h n) |>.putE (y39h hG.max n)).sound (g:=f24) (fun _ _=>j40) ?_
 rintro t ⟨hf,hs⟩
 have h37:(cx G [zT 38 n fun t=>.bool t.varB,zT 37 n fun t=>t.canV] [y39 n]).call 37 [tyW t]=some (t.canV,[]):=cx2 (zT 37 n fun t=>t.canV) (show (38:Nat)≠37 by decide) t ⟨hf,hs⟩
 have h38:(cx G [zT 38 n fun t=>.bool t.varB,zT 37 n fun t=>t.canV] [y39 n]).call 38 [tyW t]=some (.bool t.varB,[]):=cx1 (zT 38 n fun t=>.bool t.varB) t ⟨hf,hs⟩
 simp only [zT]
 by_cases h0:t.wrongI=0
 ·by_cases hv:t.varB=false
  ·have ho:t.ofL=t.lat:=by unfold Ty.ofL;rw [if_pos ⟨h0,hv⟩]
   have h39:(cx G [zT 38 n fun t=>.bool t.varB,zT 37 n fun t=>t.canV] [y39 n]).eff 39 [tyW t,.ptr 0 0 0] (kp [])=some (oV t.lat,kp (t.kpt []),[]):=ce1 (y39 n) (t,[]) ⟨hf,hs,h0,hv,j30⟩
   rw [ho]
   unfold Ty.canV at h37
   rw [if_pos h0] at h37
   rw [hv] at h38
   generalize t.sub (q2J t.vars [])=u at h37
   obtain ⟨k,nm,l⟩:=u
   exact ⟨_,z6L _ t _ _ _ _ _ h37 h38 h39⟩
  ·have ho:t.ofL=none:=by unfold Ty.ofL;rw [if_neg (fun h=>hv h.2)]
   rw [ho]
   unfold Ty.canV at h37
   rw [if_pos h0] at h37
   generalize t.sub (q2J t.vars [])=u at h37
   obtain ⟨k,nm,l⟩:=u
   exact ⟨_,z17 _ t _ _ _ _ h37 h38 (.inr (by simpa using hv))⟩
 ·have ho:t.ofL=none:=by unfold Ty.ofL;rw [if_neg (fun h=>h0 h.1)]
  rw [ho]
  unfold Ty.canV at h37
  rw [if_neg h0] at h37
  exact ⟨_,z17 _ t _ _ _ _ h37 h38 (.inl h0)⟩
theorem z8h {m:Int} (hG:GZ G m) (n:Nat):(zT 8 n fun t=>q4d t.ofL).Holds Tryz.prog G:=
 q0d q0e ((Known.nil (G:=G)).put (z24h hG n)).sound (g:=f8) (fun _ _=>f8_ok) fun t ht=>⟨_,j2A _ t _ (cx1 (zT 24 n fun t=>oV t.ofL) t ht)⟩
noncomputable def zI (f:FuncId) (n:Nat) (r:Ty→Int→Int→V):Sp where
 α:=Ty×Int×Int
 f:=f
 ok:=fun (t,_,_)=>t.fit∧SizeOf.sizeOf t < n
 args:=fun (t,x,y)=>[tyW t,iZ x,iZ y]
 res:=fun (t,x,y)=>(r t x y,[])
 inj:=by
  rintro ⟨t,x,y⟩ ⟨t',x',y'⟩ _ _ h
  simp only [iZ,List.cons.injEq,V.d.injEq,D.int.injEq,true_and,and_true] at h
  obtain ⟨h1,rfl,rfl⟩:=h
  obtain rfl:=q10 _ _ h1
  rfl
theorem q8A {o:Lat} {x:Int} (h:inB o x=true):x.toNat < o.sz∧iZ x=iN x.toNat:=by
 simp only [inB,Bool.and_eq_true,decide_eq_true_eq] at h
 refine ⟨by omega,?_⟩
 simp only [iZ,iN]
 rw [Int.toNat_of_nonneg h.1]
theorem z27h:z27.Holds Tryz.prog G:=q0d q0e (Known.nil (G:=G)).sound (g:=f27) (fun _ _=>j0K) fun ⟨o,x,y⟩ ⟨h1,h2,h3⟩=>⟨_,z19 _ o x y h1 h2 h3⟩
theorem z11h {m:Int} (hG:GZ G m) (n:Nat):(zI 11 n fun t x y=>q3X t.ofL x y).Holds Tryz.prog G:=by
 refine q0d q0e ((Known.nil (G:=G)).put (z24h hG n) |>.put z26h |>.put z27h).sound (g:=f11) (fun _ _=>j5c) ?_
 rintro ⟨t,x,y⟩ ht
 refine ⟨_,z9S _ t t.ofL x y (cx3 (zT 24 n fun t=>oV t.ofL) (show (26:Nat)≠24 by decide) (show (27:Nat)≠24 by decide) t ht) (fun l z _=>cx2 z26 (show (27:Nat)≠26 by decide) (l,z) trivial) fun l hl hx hy=>?_⟩
 obtain ⟨h1,e1⟩:=q8A hx
 obtain ⟨h2,e2⟩:=q8A hy
 rw [e1,e2]
 exact cx1 z27 (l,x.toNat,y.toNat) ⟨(q1t (q22 hl)).2.1,h1,h2⟩
theorem z12h {m:Int} (hG:GZ G m) (n:Nat):(zI 12 n fun t x y=>q5Y t.ofL x y).Holds Tryz.prog G:=by
 rintro ⟨t,x,y⟩ ht
 have hz:∃ q,∀ l,t.ofL=some l→SizeOf.sizeOf l < q:=by
  cases h:t.ofL with
  | none=>exact ⟨0,fun l h=>by cases h⟩
  | some l=>exact ⟨SizeOf.sizeOf l+1,fun l' h=>by cases h;exact Nat.lt_succ_self _⟩
 obtain ⟨q,hq⟩:=hz
 refine q0d q0e ((Known.nil (G:=G)).put (z24h hG n) |>.put z26h |>.put (z28h q)).sound (g:=f12) (s:={ zI 12 n (fun t x y=>q5Y t.ofL x y) with ok:=fun a=>a=(t,x,y),inj:=fun a b h1 h2 _=>by rw [h1,h2] }) (fun _ _=>j5b) ?_ (t,x,y) rfl
 rintro _ rfl
 refine ⟨_,j2N _ t t.ofL x y (cx3 (zT 24 n fun t=>oV t.ofL) (show (26:Nat)≠24 by decide) (show (28:Nat)≠24 by decide) t ht) (fun l z _=>cx2 z26 (show (28:Nat)≠26 by decide) (l,z) trivial) fun l hl hx hy=>?_⟩
 obtain ⟨h1,e1⟩:=q8A hx
 obtain ⟨h2,e2⟩:=q8A hy
 rw [e1,e2]
 exact cx1 (z28 q) (l,x.toNat,y.toNat) ⟨q22 hl,hq l hl,h1,h2⟩
end
end Go.Vm
end

section
namespace Go.Vm
set_option maxRecDepth 20000
/- 'sloth/slothref05.Variable' -/
def f73:Fun:=⟨ (.seq (.reg [⟨[],[],[(.bool false)],none,[0],1,[],[],[]⟩]) (.seq (.seq (.reg [⟨[],[(11,(.or (.bin .eql (.sl 0) (.str [])) (.bin .gtr (.len true (.sl 0)) (.int .i64 4096))))],[],none,[0],7,[],[],[]⟩]) (.cond (.sl 11) (.seq (.reg [⟨[],[(2,(.bool false))],[],none,[],1,[],[],[]⟩]) (.seq (.tidy 0 [2]) .ret)) .skip)) (.seq (.reg [⟨[],[(3,(.call 84 (.cons (.ix (.sl 0) (.int .i64 0)) .nil)))],[],none,[0],4,[],[],[]⟩]) (.seq (.reg [⟨[],[(4,(.call 85 (.cons (.sl 0) (.cons (.int .i64 1) .nil))))],[],none,[3],3,[],[],[]⟩]) (.seq (.reg [⟨[],[(2,(.and (.sl 3) (.sl 4)))],[],none,[],5,[],[],[]⟩]) (.seq (.tidy 0 [2]) .ret)))))), [(.sl 2)],false⟩
theorem j4o:q0o Go.Proofs.Tryz.prog 73 0 1 f73=true:=by kernel_rfl
/- 'sloth/slothref05.DataName' -/
def f74_L0:C:= (.seq (.seq (.reg [⟨[],[(16,(.bin .lss (.sl 3) (.len true (.sl 0))))],[],none,[0,3],4,[],[],[]⟩]) (.cond (.sl 16) .skip (.seq (.tidy 0 [0]) (.exit 0)))) (.seq (.block 1 (.seq (.reg [⟨[],[(22,(.bin .eql (.ix (.sl 0) (.sl 3)) (.int .u8 46)))],[],none,[0,3],4,[],[],[]⟩]) (.cond (.sl 22) (.seq (.reg [⟨[],[(4,(.call 86 (.cons (.cut true false true false 0 (.sl 0) .nil (.sl 3) .nil) .nil)))],[],none,[0,3],5,[],[],[]⟩]) (.seq (.reg [⟨[],[(5,(.call 86 (.cons (.cut true true false false 0 (.sl 0) (.bin .add (.sl 3) (.int .i64 1)) .nil .nil) .nil)))],[],none,[4],6,[],[],[]⟩]) (.seq (.reg [⟨[],[(2,(.and (.sl 4) (.sl 5)))],[],none,[],5,[],[],[]⟩]) (.seq (.tidy 0 [2]) .ret)))) .skip))) (.reg [⟨[],[(3,(.bin .add (.sl 3) (.int .i64 1)))],[],none,[0],3,[],[],[]⟩])))
def f74:Fun:=⟨ (.seq (.reg [⟨[],[],[(.bool false)],none,[0],1,[],[],[]⟩]) (.seq (.seq (.reg [⟨[],[(12,(.or (.bin .eql (.sl 0) (.str [73,110,116])) (.bin .gtr (.len true (.sl 0)) (.int .i64 4096))))],[],none,[0],7,[],[],[]⟩]) (.cond (.sl 12) (.seq (.reg [⟨[],[(2,(.bool false))],[],none,[],1,[],[],[]⟩]) (.seq (.tidy 0 [2]) .ret)) .skip)) (.seq (.seq (.reg [⟨[],[(3,(.int .i64 0))],[],none,[0],1,[],[],[]⟩]) (.block 0 (.seq (.tidy 0 [0,3]) (.loop (.seq (.tidy 0 [0,3]) f74_L0))))) (.seq (.reg [⟨[],[(2,(.call 86 (.cons (.sl 0) .nil)))],[],none,[],3,[],[],[]⟩]) (.seq (.tidy 0 [2]) .ret))))), [(.sl 2)],false⟩
theorem j4n:q0o Go.Proofs.Tryz.prog 74 0 1 f74=true:=by kernel_rfl
/- 'sloth/slothref05.small' -/
def f84:Fun:=⟨ (.seq (.reg [⟨[],[],[(.bool false)],none,[0],1,[],[],[]⟩]) (.seq (.reg [⟨[],[(2,(.and (.bin .geq (.sl 0) (.int .u8 97)) (.bin .leq (.sl 0) (.int .u8 122))))],[],none,[],7,[],[],[]⟩]) (.seq (.tidy 0 [2]) .ret))), [(.sl 2)],false⟩
theorem j4h:q0o Go.Proofs.Tryz.prog 84 0 1 f84=true:=by kernel_rfl
/- 'sloth/slothref05.signs' -/
def f85_L0:C:= (.seq (.seq (.reg [⟨[],[(11,(.bin .lss (.sl 5) (.len true (.sl 0))))],[],none,[0,5],4,[],[],[]⟩]) (.cond (.sl 11) .skip (.seq (.tidy 0 []) (.exit 0)))) (.seq (.block 1 (.seq (.reg [⟨[],[(6,(.call 94 (.cons (.ix (.sl 0) (.sl 5)) .nil)))],[],none,[0,5],5,[],[],[]⟩]) (.seq (.reg [⟨[],[(19,(.un .not (.sl 6)))],[],none,[0,5],2,[],[],[]⟩]) (.cond (.sl 19) (.seq (.reg [⟨[],[(4,(.bool false))],[],none,[],1,[],[],[]⟩]) (.seq (.tidy 0 [4]) .ret)) .skip)))) (.reg [⟨[],[(5,(.bin .add (.sl 5) (.int .i64 1)))],[],none,[0],3,[],[],[]⟩])))
def f85:Fun:=⟨ (.seq (.reg [⟨[],[],[(.bool false)],none,[0,1],1,[],[],[]⟩]) (.seq (.seq (.reg [⟨[],[(5,(.sl 1))],[],none,[0],2,[],[],[]⟩]) (.block 0 (.seq (.tidy 0 [0,5]) (.loop (.seq (.tidy 0 [0,5]) f85_L0))))) (.seq (.reg [⟨[],[(4,(.bool true))],[],none,[],1,[],[],[]⟩]) (.seq (.tidy 0 [4]) .ret)))), [(.sl 4)],false⟩
theorem j4g:q0o Go.Proofs.Tryz.prog 85 0 2 f85=true:=by kernel_rfl
/- 'sloth/slothref05.upper' -/
def f86:Fun:=⟨ (.seq (.reg [⟨[],[],[(.bool false)],none,[0],1,[],[],[]⟩]) (.seq (.seq (.reg [⟨[],[(6,(.bin .eql (.sl 0) (.str [])))],[],none,[0],2,[],[],[]⟩]) (.cond (.sl 6) (.seq (.reg [⟨[],[(2,(.bool false))],[],none,[],1,[],[],[]⟩]) (.seq (.tidy 0 [2]) .ret)) .skip)) (.seq (.reg [⟨[],[(3,(.call 95 (.cons (.ix (.sl 0) (.int .i64 0)) .nil)))],[],none,[0],4,[],[],[]⟩]) (.seq (.reg [⟨[],[(4,(.call 85 (.cons (.sl 0) (.cons (.int .i64 1) .nil))))],[],none,[3],3,[],[],[]⟩]) (.seq (.reg [⟨[],[(2,(.and (.sl 3) (.sl 4)))],[],none,[],5,[],[],[]⟩]) (.seq (.tidy 0 [2]) .ret)))))), [(.sl 2)],false⟩
theorem j4f:q0o Go.Proofs.Tryz.prog 86 0 1 f86=true:=by kernel_rfl
/- 'sloth/slothref05.sign' -/
def f94:Fun:=⟨ (.seq (.reg [⟨[],[],[(.bool false)],none,[0],1,[],[],[]⟩]) (.seq (.reg [⟨[],[(3,(.call 84 (.cons (.sl 0) .nil)))],[],none,[0],3,[],[],[]⟩]) (.seq (.reg [⟨[],[(4,(.call 95 (.cons (.sl 0) .nil)))],[],none,[0,3],3,[],[],[]⟩]) (.seq (.reg [⟨[],[(2,(.or (.or (.or (.or (.sl 3) (.sl 4)) (.and (.bin .geq (.sl 0) (.int .u8 48)) (.bin .leq (.sl 0) (.int .u8 57)))) (.bin .eql (.sl 0) (.int .u8 95))) (.bin .eql (.sl 0) (.int .u8 39))))],[],none,[],21,[],[],[]⟩]) (.seq (.tidy 0 [2]) .ret))))), [(.sl 2)],false⟩
theorem j4a:q0o Go.Proofs.Tryz.prog 94 0 1 f94=true:=by kernel_rfl
/- 'sloth/slothref05.capital' -/
def f95:Fun:=⟨ (.seq (.reg [⟨[],[],[(.bool false)],none,[0],1,[],[],[]⟩]) (.seq (.reg [⟨[],[(2,(.and (.bin .geq (.sl 0) (.int .u8 65)) (.bin .leq (.sl 0) (.int .u8 90))))],[],none,[],7,[],[],[]⟩]) (.seq (.tidy 0 [2]) .ret))), [(.sl 2)],false⟩
theorem j39:q0o Go.Proofs.Tryz.prog 95 0 1 f95=true:=by kernel_rfl
theorem z6x(K:Cx)(c:UInt8):q0c K f84 [cV c] []=some (.bool (q1o c),[],[]):=by
  unfold f84 q1o
  simp only[cV]
  simp(disch:=first|decide|omega|(simp only[LN];first|done|omega)) only[SV,SW,q0b]
theorem z01(K:Cx)(c:UInt8):q0c K f95 [cV c] []=some (.bool (capB c),[],[]):=by
  unfold f95 capB
  simp only[cV]
  simp(disch:=first|decide|omega|(simp only[LN];first|done|omega)) only[SV,SW,q0b]
theorem z9u(K:Cx)(h1:∀ c,K.call 84 [cV c]=some (.bool (q1o c),[]))(h2:∀ c,K.call 95 [cV c]=some (.bool (capB c),[]))(c:UInt8):q0c K f94 [cV c] []=some (.bool (q2w c),[],[]):=by
  have w1:=h1 c
  have w2:=h2 c
  unfold f94 q2w
  simp only[cV] at w1 w2 ⊢
  generalize q1o c=p at w1 ⊢
  generalize capB c=q at w2 ⊢
  simp(disch:=first|decide|omega|(simp only[LN];first|done|omega)) only[SV,SW,q0a,w1,Nat.reduceBEq,w2,q0b]
def z1r:Bool→Option (Ex×S)
  |true=>some (.exit 0,⟨[],[],0,[]⟩)
  |false=>some (.ret,⟨[(4,.bool false)],[],0,[]⟩)
theorem z8r(K:Cx)(h:∀ c,K.call 94 [cV c]=some (.bool (q2w c),[]))(s:BY)(hs:s.length≤1099511627776):∀(r:BY)(k:Nat),s.drop k=r→k≤s.length→
    lp K 0 [0,5] f85_L0 ⟨[(0,sV s),(5,.d false (.int .i64 k))],[],0,[]⟩=z1r (q0O r):=by
  intro r
  induction r with
  |nil=>
    intro k hd hk
    have hlen:=congrArg List.length hd
    rw[List.length_drop,List.length_nil] at hlen
    simp only[q0O,List.all_nil,z1r]
    rw[q0p f85_L0.eq_1]
    simp(disch:=first|decide|omega|(simp only[LN];first|done|omega)) only[SV,SW,Nat.reduceBEq]
  |cons c r ih=>
    intro k hd hk
    obtain⟨hn,hl,hd'⟩:=j23 hd
    have ih:=ih (k+1) hd' (by omega)
    have w:=h c
    simp only[cV] at w
    have e:q0O (c :: r)=(q2w c&&q0O r):=rfl
    rw[e]
    rw[q0p f85_L0.eq_1]
    simp only[sV] at ih ⊢
    clear hd hd'
    rcases Bool.eq_false_or_eq_true (q2w c) with hc|hc
    · rw[hc] at w
      simp only[hc,Bool.true_and]
      rw[←ih]
      clear ih
      simp(disch:=first|decide|omega|(simp only[LN];first|done|omega)) only[SV,SW,Nat.reduceBEq,hn,q0a,w,q0U]
    · rw[hc] at w
      simp only[hc,Bool.false_and,z1r]
      clear ih
      simp(disch:=first|decide|omega|(simp only[LN];first|done|omega)) only[SV,SW,Nat.reduceBEq,hn,q0a,w]
theorem z6y(K:Cx)(h:∀ c,K.call 94 [cV c]=some (.bool (q2w c),[]))(s:BY)(hs:s.length≤1099511627776)(k:Nat)(hk:k≤s.length):q0c K f85 [sV s,.d false (.int .i64 k)] []=some (.bool (q0O (s.drop k)),[],[]):=by
  have w:=z8r K h s hs (s.drop k) k rfl hk
  unfold f85
  simp only[sV] at w ⊢
  generalize q0O (s.drop k)=q at w ⊢
  cases q <;> (simp only[z1r] at w;simp(disch:=first|decide|omega|(simp only[LN];first|done|omega)) only[SV,SW,Nat.reduceAdd,Nat.reduceBEq,w,q0b])
theorem j0c{c:UInt8}(h:capB c=true):q2w c=true:=by simp [q2w,h]
theorem z2N{c:UInt8}(h:q1o c=true):q2w c=true:=by simp [q2w,h]
theorem z6w(K:Cx)(h1:∀ c,K.call 95 [cV c]=some (.bool (capB c),[]))(h2:∀ s:BY,s.length≤1099511627776→s≠[]→K.call 85 [sV s,.d false (.int .i64 1)]=some (.bool (q0O (s.drop 1)),[]))(s:BY)(hs:s.length≤1099511627776):q0c K f86 [sV s] []=some (.bool (q04 s),[],[]):=by
  unfold f86
  cases s with
  |nil=>
    simp only[sV,q04]
    simp(disch:=first|decide|omega|(simp only[LN];first|done|omega)) only[SV,SW,q0b]
  |cons c r=>
    have hne:decide (c :: r=([]:BY))=false:=by simp
    have w1:=h1 c
    have w2:=h2 (c :: r) hs (by simp)
    have hn:nth (c :: r) (0:Int)=c:=rfl
    have e:q04 (c :: r)=(capB c&&q0O r):=by
      simp only[q04]
      rcases Bool.eq_false_or_eq_true (capB c) with hc|hc
      · have hs:=j0c hc
        simp [hc,q0O,hs]
      · simp [hc]
    rw[e]
    simp only[cV,sV,List.drop_succ_cons,List.drop_zero] at w1 w2 ⊢
    generalize capB c=p at w1 ⊢
    generalize q0O r=q at w2 ⊢
    simp(disch:=first|decide|omega|(simp only[LN];first|done|omega)) only[SV,SW,reduceCtorEq,Nat.reduceBEq,hn,q0a,w1,w2,q0b]
theorem j2C(K:Cx)(h1:∀ c,K.call 84 [cV c]=some (.bool (q1o c),[]))(h2:∀ s:BY,s.length≤1099511627776→s≠[]→K.call 85 [sV s,.d false (.int .i64 1)]=some (.bool (q0O (s.drop 1)),[]))(s:BY):q0c K f73 [sV s] []=some (.bool (q1Y s),[],[]):=by
  unfold f73
  cases s with
  |nil=>
    simp only[sV,q1Y]
    simp(disch:=first|decide|omega|(simp only[LN];first|done|omega)) only[SV,SW,q0b]
  |cons c r=>
    have hne:decide (c :: r=([]:BY))=false:=by simp
    have hle:decide ((4096:Int)<((r.length+1:Nat):Int)) = !decide ((c :: r).length≤4096):=by
      rw[←decide_not]
      exact decide_eq_decide.2 (by simp only[List.length_cons];omega)
    unfold q1Y
    by_cases hs:(c :: r).length≤4096
    · have w1:=h1 c
      have w2:=h2 (c :: r) (by omega) (by simp)
      have hn:nth (c :: r) (0:Int)=c:=rfl
      have e:(q1o c&&q0O (c :: r))=(q1o c&&q0O r):=by
        rcases Bool.eq_false_or_eq_true (q1o c) with hc|hc
        · have hs:=z2N hc
          simp [hc,q0O,hs]
        · simp [hc]
      have hd:decide ((c :: r).length≤4096)=true:=decide_eq_true hs
      rw[hd] at hle
      simp only[hd,Bool.true_and,e]
      simp only[cV,sV,List.drop_succ_cons,List.drop_zero] at w1 w2 ⊢
      generalize q1o c=p at w1 ⊢
      generalize q0O r=q at w2 ⊢
      simp(disch:=first|decide|omega|(simp only[LN];first|done|omega)) only[SV,SW,reduceCtorEq,hle,Nat.reduceBEq,hn,q0a,w1,w2,q0b]
    · have hd:decide ((c :: r).length≤4096)=false:=decide_eq_false hs
      rw[hd] at hle
      simp only[hd,Bool.false_and]
      simp only[sV]
      simp(disch:=first|decide|omega|(simp only[LN];first|done|omega)) only[SV,SW,reduceCtorEq,hle,q0b]
theorem j5E(H:List (Nat×Blk))(s:BY)(n:Nat)(h:n≤s.length):q3B H true false true false 0 (.d false (.str s)) (.tup []) (.d false (.int .i64 (n:Int))) (.tup [])=some (.d false (.str (s.take n))):=by
  simp [q3B,V.isStr,q5B,q3z,h]
theorem j5D(H:List (Nat×Blk))(s:BY)(n:Nat)(h:n≤s.length):q3B H true true false false 0 (.d false (.str s)) (.d false (.int .i64 (n:Int))) (.tup []) (.tup [])=some (.d false (.str (s.drop n))):=by
  have:(s.drop n).take (s.length - n)=s.drop n:=List.take_of_length_le (by simp)
  simp [q3B,V.isStr,q5B,q3z,h,this]
def dnR(s:BY):Nat→BY→Option Bool
  |_,[]=>none
  |k,c :: r=>if c=46 then some (q04 (s.take k)&&q04 (s.drop (k+1))) else dnR s (k+1) r
def z7l(s:BY):Option Bool→Option (Ex×S)
  |none=>some (.exit 0,⟨[(0,sV s)],[],0,[]⟩)
  |some b=>some (.ret,⟨[(2,.bool b)],[],0,[]⟩)
theorem j25(K:Cx)(h:∀ s:BY,s.length≤1099511627776→K.call 86 [sV s]=some (.bool (q04 s),[]))(s:BY)(hs:s.length≤4096):∀(r:BY)(k:Nat),s.drop k=r→k≤s.length→
    lp K 0 [0,3] f74_L0 ⟨[(0,sV s),(3,.d false (.int .i64 k))],[],0,[]⟩=z7l s (dnR s k r):=by
  intro r
  induction r with
  |nil=>
    intro k hd hk
    have hlen:=congrArg List.length hd
    rw[List.length_drop,List.length_nil] at hlen
    simp only[dnR,z7l]
    rw[q0p f74_L0.eq_1]
    simp(disch:=first|decide|omega|(simp only[LN];first|done|omega)) only[SV,SW,Nat.reduceBEq]
  |cons c r ih=>
    intro k hd hk
    obtain⟨hn,hl,hd'⟩:=j23 hd
    have ih:=ih (k+1) hd' (by omega)
    rw[q0p f74_L0.eq_1]
    simp only[dnR]
    clear hd hd'
    by_cases hc:c=46
    · subst hc
      have w1:=h (s.take k) (by rw[List.length_take];omega)
      have w2:=h (s.drop (k+1)) (by rw[List.length_drop];omega)
      have e46:(((46:UInt8).toNat:Nat):Int)=46:=rfl
      simp only[if_true,z7l]
      simp only[sV] at w1 w2 ⊢
      clear ih h
      generalize q04 (s.take k)=p at w1 ⊢
      generalize q04 (s.drop (k+1))=q at w2 ⊢
      simp(disch:=first|decide|omega|(simp only[LN];first|done|omega)) only[SV,SW,Nat.reduceBEq,hn,e46,j5E,q0a,w1,q0U,j5D,w2]
    · have e46:(((c.toNat:Nat):Int)==46)=false:=by
        rw[beq_eq_false_iff_ne]
        intro e
        apply hc
        have:c.toNat=46:=by omega
        rw[←UInt8.toNat_inj,this]
        rfl
      rw[if_neg hc,←ih]
      simp only[sV]
      clear ih h
      simp(disch:=first|decide|omega|(simp only[LN];first|done|omega)) only[SV,SW,Nat.reduceBEq,hn,e46,q0U]
def dnB(s:BY):Bool:=if s=[73,110,116]∨4096<s.length then false else(dnR s 0 s).getD (q04 s)
theorem z9z(K:Cx)(h:∀ s:BY,s.length≤1099511627776→K.call 86 [sV s]=some (.bool (q04 s),[]))(s:BY):q0c K f74 [sV s] []=some (.bool (dnB s),[],[]):=by
  unfold f74 dnB
  have hle:decide ((4096:Int)<(s.length:Int))=decide (4096<s.length):=decide_eq_decide.2 (by omega)
  by_cases hi:s=[73,110,116]
  · rw[if_pos (.inl hi)]
    subst hi
    simp only[sV]
    simp(disch:=first|decide|omega|(simp only[LN];first|done|omega)) only[SV,SW,Nat.reduceAdd,q0b]
  · have hi':decide (s=[73,110,116])=false:=decide_eq_false hi
    by_cases hl:4096<s.length
    · rw[if_pos (.inr hl)]
      simp only[hl,decide_true] at hle
      simp only[sV]
      simp(disch:=first|decide|omega|(simp only[LN];first|done|omega)) only[SV,SW,hi',q0b]
    · rw[if_neg (by simp [hi,hl])]
      simp only[hl,decide_false] at hle
      have w:=j25 K h s (by omega) s 0 rfl (by omega)
      have w2:=h s (by omega)
      generalize dnR s 0 s=o at w ⊢
      simp only[sV,Int.natCast_zero,Int.ofNat_zero] at w w2 ⊢
      cases o with
      |none=>simp only[z7l,sV] at w;simp only[Option.getD_none];simp(disch:=first|decide|omega|(simp only[LN];first|done|omega)) only[SV,SW,hi',Nat.reduceBEq,w,q0a,w2,q0b]
      |some b=>simp only[z7l] at w;simp only[Option.getD_some];simp(disch:=first|decide|omega|(simp only[LN];first|done|omega)) only[SV,SW,hi',Nat.reduceBEq,w,q0b]
end Go.Vm
end

section
namespace Go.Vm
set_option maxRecDepth 20000
/- 'sloth/slothlaw05.GreatType' -/
def f6:Fun:=⟨ (.seq (.reg [⟨[(1,.box (.sl 0))],[],[(.bool false)],none,[1],2,[],[],[]⟩]) (.seq (.reg [⟨[],[(3,(.call 21 (.cons (.ld 3 true (.sl 1)) (.cons (.int .i64 4194304) (.cons (.int .i64 65536) .nil)))))],[],none,[],3,[],[],[]⟩]) (.seq (.reg [⟨[],[(2,(.bin .lss (.sl 3) (.int .i64 0)))],[],none,[],3,[],[],[]⟩]) (.seq (.tidy 0 [2]) .ret)))), [(.sl 2)],false⟩
theorem f6_ok:q0o Go.Proofs.Tryz.prog 6 0 1 f6=true:=by kernel_rfl
/- 'sloth/slothlaw05.TypeLeft' -/
def f21_L0:C:= (.seq (.seq (.reg [⟨[],[(20,(.and (.bin .lss (.sl 7) (.len false (.ld 1 false (.fa 2 (.sl 3))))) (.bin .geq (.sl 1) (.int .i64 0))))],[],none,[1,2,3,7],9,[],[],[]⟩]) (.cond (.sl 20) .skip (.seq (.tidy 0 [1]) (.exit 0)))) (.seq (.block 1 (.reg [⟨[],[(1,(.call 21 (.cons (.ld 3 true (.ia 3 (.ld 1 false (.fa 2 (.sl 3))) (.sl 7))) (.cons (.sl 1) (.cons (.bin .sub (.sl 2) (.int .i64 1)) .nil)))))],[],none,[2,3,7],10,[],[],[]⟩])) (.reg [⟨[],[(7,(.bin .add (.sl 7) (.int .i64 1)))],[],none,[1,2,3],3,[],[],[]⟩])))
def f21:Fun:=⟨ (.seq (.reg [⟨[(3,.box (.sl 0))],[],[(.int .i64 0)],none,[1,2,3],2,[],[],[]⟩]) (.seq (.seq (.reg [⟨[],[(9,(.bin .lss (.sl 2) (.int .i64 1)))],[],none,[1,2,3],2,[],[],[]⟩]) (.cond (.sl 9) (.seq (.reg [⟨[],[(6,(.int .i64 (-1)))],[],none,[],1,[],[],[]⟩]) (.seq (.tidy 0 [6]) .ret)) .skip)) (.seq (.reg [⟨[],[(1,(.bin .sub (.sl 1) (.int .i64 1)))],[],none,[2,3],3,[],[],[]⟩]) (.seq (.seq (.reg [⟨[],[(7,(.int .i64 0))],[],none,[1,2,3],1,[],[],[]⟩]) (.block 0 (.seq (.tidy 0 [1,2,3,7]) (.loop (.seq (.tidy 0 [1,2,3,7]) f21_L0))))) (.seq (.reg [⟨[],[(6,(.sl 1))],[],none,[],2,[],[],[]⟩]) (.seq (.tidy 0 [6]) .ret)))))), [(.sl 6)],false⟩
theorem j43:q0o Go.Proofs.Tryz.prog 21 0 3 f21=true:=by kernel_rfl
/- 'sloth/slothref05.Wrong' -/
def f40:Fun:=⟨ (.seq (.reg [⟨[(1,.box (.sl 0))],[],[(.int .i64 0)],none,[1],2,[],[],[]⟩]) (.seq (.reg [⟨[],[(3,(.call 56 (.cons (.ld 3 true (.sl 1)) .nil)))],[],none,[1],3,[],[],[]⟩]) (.seq (.seq (.reg [⟨[],[(8,(.un .not (.sl 3)))],[],none,[1],2,[],[],[]⟩]) (.cond (.sl 8) (.seq (.reg [⟨[],[(2,(.int .i64 53))],[],none,[],1,[],[],[]⟩]) (.seq (.tidy 0 [2]) .ret)) .skip)) (.seq (.reg [⟨[],[(4,(.call 57 (.cons (.ld 3 true (.sl 1)) .nil)))],[],none,[],3,[],[],[]⟩]) (.seq (.seq (.reg [⟨[],[(12,(.bin .gtr (.sl 4) (.int .i64 500)))],[],none,[],2,[],[],[]⟩]) (.cond (.sl 12) (.seq (.reg [⟨[],[(2,(.int .i64 4))],[],none,[],1,[],[],[]⟩]) (.seq (.tidy 0 [2]) .ret)) .skip)) (.seq (.reg [⟨[],[(2,(.int .i64 0))],[],none,[],1,[],[],[]⟩]) (.seq (.tidy 0 [2]) .ret))))))), [(.sl 2)],false⟩
theorem j4O:q0o Go.Proofs.Tryz.prog 40 0 1 f40=true:=by kernel_rfl
/- 'sloth/slothref14.closed' -/
def f41_L0:C:= (.seq (.seq (.reg [⟨[],[(12,(.bin .lss (.sl 3) (.len false (.ld 1 false (.fa 2 (.sl 1))))))],[],none,[1,3],5,[],[],[]⟩]) (.cond (.sl 12) .skip (.seq (.tidy 0 []) (.exit 0)))) (.seq (.block 1 (.seq (.reg [⟨[],[(4,(.call 41 (.cons (.ld 3 true (.ia 3 (.ld 1 false (.fa 2 (.sl 1))) (.sl 3))) .nil)))],[],none,[1,3],7,[],[],[]⟩]) (.seq (.reg [⟨[],[(22,(.un .not (.sl 4)))],[],none,[1,3],2,[],[],[]⟩]) (.cond (.sl 22) (.seq (.reg [⟨[],[(2,(.bool false))],[],none,[],1,[],[],[]⟩]) (.seq (.tidy 0 [2]) .ret)) .skip)))) (.reg [⟨[],[(3,(.bin .add (.sl 3) (.int .i64 1)))],[],none,[1],3,[],[],[]⟩])))
def f41:Fun:=⟨ (.seq (.reg [⟨[(1,.box (.sl 0))],[],[(.bool false)],none,[1],2,[],[],[]⟩]) (.seq (.seq (.reg [⟨[],[(7,(.bin .eql (.ld 1 false (.fa 0 (.sl 1))) (.int .i64 2)))],[],none,[1],3,[],[],[]⟩]) (.cond (.sl 7) (.seq (.reg [⟨[],[(2,(.bool false))],[],none,[],1,[],[],[]⟩]) (.seq (.tidy 0 [2]) .ret)) .skip)) (.seq (.seq (.reg [⟨[],[(3,(.int .i64 0))],[],none,[1],1,[],[],[]⟩]) (.block 0 (.seq (.tidy 0 [1,3]) (.loop (.seq (.tidy 0 [1,3]) f41_L0))))) (.seq (.reg [⟨[],[(2,(.bool true))],[],none,[],1,[],[],[]⟩]) (.seq (.tidy 0 [2]) .ret))))), [(.sl 2)],false⟩
theorem j4N:q0o Go.Proofs.Tryz.prog 41 0 1 f41=true:=by kernel_rfl
/- 'sloth/slothref05.form' -/
def f56_L0:C:= (.seq (.seq (.reg [⟨[],[(62,(.and (.bin .lss (.sl 6) (.len false (.ld 1 false (.fa 2 (.sl 1))))) (.sl 3)))],[],none,[1,3,6],8,[],[],[]⟩]) (.cond (.sl 62) .skip (.seq (.tidy 0 [3]) (.exit 1)))) (.seq (.block 2 (.reg [⟨[],[(3,(.call 56 (.cons (.ld 3 true (.ia 3 (.ld 1 false (.fa 2 (.sl 1))) (.sl 6))) .nil)))],[],none,[1,6],7,[],[],[]⟩])) (.reg [⟨[],[(6,(.bin .add (.sl 6) (.int .i64 1)))],[],none,[1,3],3,[],[],[]⟩])))
def f56:Fun:=⟨ (.seq (.reg [⟨[(1,.box (.sl 0))],[],[(.bool false)],none,[1],2,[],[],[]⟩]) (.seq (.reg [⟨[],[(3,(.bool false))],[],none,[1],1,[],[],[]⟩]) (.seq (.seq (.reg [⟨[],[(8,(.ld 1 false (.fa 0 (.sl 1))))],[],none,[1,3],2,[],[],[]⟩]) (.block 0 (.seq (.reg [⟨[],[(9,(.bin .eql (.sl 8) (.int .i64 1)))],[],none,[1,3,8],2,[],[],[]⟩]) (.cond (.sl 9) (.reg [⟨[],[(3,(.and (.bin .eql (.ld 1 false (.fa 1 (.sl 1))) (.str [])) (.bin .eql (.len false (.ld 1 false (.fa 2 (.sl 1)))) (.int .i64 0))))],[],none,[1],10,[],[],[]⟩]) (.seq (.reg [⟨[],[(20,(.bin .eql (.sl 8) (.int .i64 2)))],[],none,[1,3,8],2,[],[],[]⟩]) (.cond (.sl 20) (.seq (.reg [⟨[],[(4,(.call 73 (.cons (.ld 1 false (.fa 1 (.sl 1))) .nil)))],[],none,[1],4,[],[],[]⟩]) (.reg [⟨[],[(3,(.and (.sl 4) (.bin .eql (.len false (.ld 1 false (.fa 2 (.sl 1)))) (.int .i64 0))))],[],none,[1],8,[],[],[]⟩])) (.seq (.reg [⟨[],[(32,(.bin .eql (.sl 8) (.int .i64 3)))],[],none,[1,3,8],2,[],[],[]⟩]) (.cond (.sl 32) (.reg [⟨[],[(3,(.and (.bin .eql (.ld 1 false (.fa 1 (.sl 1))) (.str [])) (.bin .eql (.len false (.ld 1 false (.fa 2 (.sl 1)))) (.int .i64 2))))],[],none,[1],10,[],[],[]⟩]) (.seq (.reg [⟨[],[(43,(.bin .eql (.sl 8) (.int .i64 4)))],[],none,[1,3],2,[],[],[]⟩]) (.cond (.sl 43) (.seq (.reg [⟨[],[(5,(.call 74 (.cons (.ld 1 false (.fa 1 (.sl 1))) .nil)))],[],none,[1],4,[],[],[]⟩]) (.reg [⟨[],[(3,(.and (.sl 5) (.bin .leq (.len false (.ld 1 false (.fa 2 (.sl 1)))) (.int .i64 6))))],[],none,[1],8,[],[],[]⟩])) .skip)))))))))) (.seq (.seq (.reg [⟨[],[(6,(.int .i64 0))],[],none,[1,3],1,[],[],[]⟩]) (.block 1 (.seq (.tidy 0 [1,3,6]) (.loop (.seq (.tidy 0 [1,3,6]) f56_L0))))) (.seq (.reg [⟨[],[(2,(.sl 3))],[],none,[],2,[],[],[]⟩]) (.seq (.tidy 0 [2]) .ret)))))), [(.sl 2)],false⟩
theorem j4B:q0o Go.Proofs.Tryz.prog 56 0 1 f56=true:=by kernel_rfl
/- 'sloth/slothref05.Nodes' -/
def f57_L0:C:= (.seq (.seq (.reg [⟨[],[(10,(.bin .lss (.sl 4) (.len false (.ld 1 false (.fa 2 (.sl 1))))))],[],none,[1,3,4],5,[],[],[]⟩]) (.cond (.sl 10) .skip (.seq (.tidy 0 [3]) (.exit 0)))) (.seq (.block 1 (.seq (.reg [⟨[],[(5,(.call 57 (.cons (.ld 3 true (.ia 3 (.ld 1 false (.fa 2 (.sl 1))) (.sl 4))) .nil)))],[],none,[1,3,4],7,[],[],[]⟩]) (.reg [⟨[],[(3,(.bin .add (.sl 3) (.sl 5)))],[],none,[1,4],4,[],[],[]⟩]))) (.reg [⟨[],[(4,(.bin .add (.sl 4) (.int .i64 1)))],[],none,[1,3],3,[],[],[]⟩])))
def f57:Fun:=⟨ (.seq (.reg [⟨[(1,.box (.sl 0))],[],[(.int .i64 0)],none,[1],2,[],[],[]⟩]) (.seq (.reg [⟨[],[(3,(.int .i64 1))],[],none,[1],1,[],[],[]⟩]) (.seq (.seq (.reg [⟨[],[(4,(.int .i64 0))],[],none,[1,3],1,[],[],[]⟩]) (.block 0 (.seq (.tidy 0 [1,3,4]) (.loop (.seq (.tidy 0 [1,3,4]) f57_L0))))) (.seq (.reg [⟨[],[(2,(.sl 3))],[],none,[],2,[],[],[]⟩]) (.seq (.tidy 0 [2]) .ret))))), [(.sl 2)],false⟩
theorem j4A:q0o Go.Proofs.Tryz.prog 57 0 1 f57=true:=by kernel_rfl
def z9j(b:Bool):Option (Ex×S):=some (.exit 1,⟨[(3,.d false (.bool b))],[],0,[]⟩)
@[reducible] def bxT (k:Int) (n:BY) (l:List Ty):Blk:=.mix 3 [[.d false (.int .i64 k),.d false (.str n),.d false (.sl 3 (l.map Ty.d))]]
theorem j2q(K:Cx)(k0:Int)(n0:BY)(l:List Ty)(hl:l.length≤most)(hg:∀ t∈l,K.call 56 [tyW t]=some (.bool t.mayB,[])):∀(r:List Ty)(k:Nat)(q:Bool),l.drop k=r→k≤l.length→
    lp K 0 [1,3,6] f56_L0 ⟨[(1,.ptr 0 0 0),(3,.d false (.bool q)),(6,.d false (.int .i64 k))],[(0,bxT k0 n0 l)],1,[]⟩=z9j (q&&mayL r):=by
  have hm:most=1099511627776:=rfl
  intro r
  induction r with
  |nil=>
    intro k q hd hk
    have hlen:=congrArg List.length hd
    rw[List.length_drop,List.length_nil] at hlen
    simp only[mayL,Bool.and_true,z9j]
    rw[q0p f56_L0.eq_1]
    clear hg
    cases q <;> simp(disch:=first|decide|omega|(simp only[LN];first|done|omega)) only[SV,SW,Nat.reduceBEq]
  |cons x r ih=>
    intro k q hd hk
    have hl':k<l.length:=by
      rcases Nat.lt_or_ge k l.length with h'|h'
      · exact h'
      · rw[List.drop_eq_nil_of_le h'] at hd;cases hd
    have hdn:=q1i hl'
    rw[hd] at hdn
    simp only[List.cons.injEq] at hdn
    obtain⟨hn,hd'⟩:=hdn
    have hn:=hn.symm
    have ih:=ih (k+1) x.mayB hd'.symm (by omega)
    have w:=hg x (by rw[←List.take_append_drop k l,hd];simp)
    rw[q0p f56_L0.eq_1]
    clear hd hd' hg
    cases q with
    |false=>
      simp only[Bool.false_and,z9j]
      clear ih w
      simp(disch:=first|decide|omega|(simp only[LN];first|done|omega)) only[SV,SW,Nat.reduceBEq]
    |true=>
      simp only[mayL,Bool.true_and]
      rw[←ih]
      clear ih
      generalize x.mayB=b at w ⊢
      obtain⟨k',n',ls⟩:=x
      simp only[tyW] at w
      simp(disch:=first|decide|omega|(simp only[LN];first|done|omega)) only[SV,SW,Nat.reduceBEq,hn,Ty.d,Nat.reduceAdd,q0a,w,q0U]
theorem j2K(K:Cx)(h73:∀ s:BY,K.call 73 [sV s]=some (.bool (q1Y s),[]))(h74:∀ s:BY,K.call 74 [sV s]=some (.bool (q1b s),[]))(k:Int)(n:BY)(l:List Ty)(hl:l.length≤most)(hg:∀ t∈l,K.call 56 [tyW t]=some (.bool t.mayB,[])) :
    q0c K f56 [tyW (.mk k n l)] []=some (.bool (Ty.mk k n l).mayB,[],[]):=by
  have w1:=h73 n
  have w2:=h74 n
  have w:=fun q=>j2q K k n l hl hg l 0 q rfl (by omega)
  have hm:most=1099511627776:=rfl
  clear hg h73 h74
  rw[Ty.mayB]
  unfold f56
  simp only[sV,tyW,q09,bxT,z9j,Int.natCast_zero,Int.ofNat_zero] at w1 w2 w ⊢
  generalize mayL l=m at w ⊢
  have hlen:(l.map Ty.d).length=l.length:=List.length_map ..
  have z0:((l.length:Int)==0)=decide (l.length=0):=by
    by_cases h:l.length=0
    · simp [h]
    · simp [h]
  have z2:((l.length:Int)==2)=decide (l.length=2):=by
    by_cases h:l.length=2
    · simp [h]
    · have:((l.length:Int)==2)=false:=by rw[beq_eq_false_iff_ne];omega
      rw[this];simp [h]
  have z6:decide ((l.length:Int)≤6)=decide (l.length≤6):=decide_eq_decide.2 (by omega)
  by_cases h1:k=1
  · subst h1
    simp only[if_true]
    simp(disch:=first|decide|omega|(simp only[LN];first|done|omega)) only[SV,SW,Nat.reduceAdd,Nat.reduceBEq,z0,w,q0b]
  · have e1:(k==1)=false:=by simpa using h1
    rw[if_neg h1]
    by_cases h2:k=2
    · subst h2
      simp only[if_true]
      generalize q1Y n=p at w1 ⊢
      simp(disch:=first|decide|omega|(simp only[LN];first|done|omega)) only[SV,SW,Nat.reduceAdd,Nat.reduceBEq,q0a,w1,z0,w,q0b]
    · have e2:(k==2)=false:=by simpa using h2
      rw[if_neg h2]
      by_cases h3:k=3
      · subst h3
        simp only[if_true]
        simp(disch:=first|decide|omega|(simp only[LN];first|done|omega)) only[SV,SW,Nat.reduceAdd,Nat.reduceBEq,z2,w,q0b]
      · have e3:(k==3)=false:=by simpa using h3
        rw[if_neg h3]
        by_cases h4:k=4
        · subst h4
          simp only[if_true]
          generalize q1b n=p at w2 ⊢
          simp(disch:=first|decide|omega|(simp only[LN];first|done|omega)) only[SV,SW,Nat.reduceAdd,Nat.reduceBEq,q0a,w2,z6,w,q0b]
        · have e4:(k==4)=false:=by simpa using h4
          rw[if_neg h4]
          simp(disch:=first|decide|omega|(simp only[LN];first|done|omega)) only[SV,SW,Nat.reduceAdd,Nat.reduceBEq,e1,e2,e3,e4,w,q0b]
end Go.Vm
end

section
namespace Go.Vm
set_option maxRecDepth 20000
theorem q7b{l r:List Ty}{x:Ty}{k:Nat}(hd:l.drop k=x :: r):k<l.length∧nth l (k:Int)=x∧l.drop (k+1)=r∧x∈l:=by
 have hl':k<l.length:=by
  rcases Nat.lt_or_ge k l.length with h'|h'
  ·exact h'
  ·rw[List.drop_eq_nil_of_le h'] at hd;cases hd
 have hdn:=q1i hl'
 rw[hd] at hdn
 simp only[List.cons.injEq] at hdn
 exact⟨hl',hdn.1.symm,hdn.2.symm,by rw[←List.take_append_drop k l,hd];simp⟩
theorem z8N(K:Cx)(k0:Int)(n0:BY)(l:List Ty)(hl:l.length≤most)(hg:∀ t∈l,K.call 57 [tyW t]=some (iN t.cnt,[])):∀(r:List Ty)(k n:Nat),l.drop k=r→k≤l.length→n+cntL r≤1000000000→
  lp K 0 [1,3,4] f57_L0 ⟨[(1,.ptr 0 0 0),(3,iN n),(4,iN k)],[(0,bxT k0 n0 l)],1,[]⟩=some (.exit 0,⟨[(3,iN (n+cntL r))],[],0,[]⟩):=by
 have hm:most=1099511627776:=rfl
 intro r
 induction r with
 |nil=>
  intro k n hd hk hb
  have hlen:=congrArg List.length hd
  rw[List.length_drop,List.length_nil] at hlen
  simp only[cntL,Nat.add_zero,iN]
  rw[q0p f57_L0.eq_1]
  clear hg
  simp(disch:=first|decide|omega|(simp only[LN];first|done|omega)) only[SV,SW,Nat.reduceBEq]
 |cons x r ih=>
  intro k n hd hk hb
  obtain⟨hl',hn,hd',hx⟩:=q7b hd
  rw[cntL] at hb
  have ih:=ih (k+1) (n+x.cnt) hd' (by omega) (by omega)
  have w:=hg x hx
  have e:n+cntL (x :: r)=n+x.cnt+cntL r:=by rw[cntL];omega
  rw[e,←ih]
  clear ih hd hd' hg e
  rw[q0p f57_L0.eq_1]
  generalize x.cnt=c at *
  have ec:((n:Int)+(c:Int))=((n+c:Nat):Int):=by omega
  obtain⟨k',n',ls⟩:=x
  simp only[tyW,iN] at w ⊢
  simp(disch:=first|decide|omega|(simp only[LN];first|done|omega)) only[SV,SW,Nat.reduceBEq,hn,Ty.d,Nat.reduceAdd,q0a,w,ec,q0U]
theorem z6z(K:Cx)(k:Int)(n:BY)(l:List Ty)(hl:l.length≤most)(hb:(Ty.mk k n l).cnt≤1000000000)(hg:∀ t∈l,K.call 57 [tyW t]=some (iN t.cnt,[])):q0c K f57 [tyW (.mk k n l)] []=some (iN (Ty.mk k n l).cnt,[],[]):=by
 rw[Ty.cnt] at hb ⊢
 have w:=z8N K k n l hl hg l 0 1 rfl (by omega) hb
 unfold f57
 clear hg
 simp only[tyW,q09,bxT,iN,Int.natCast_zero,Int.ofNat_zero,Int.natCast_one] at w ⊢
 simp(disch:=first|decide|omega|(simp only[LN];first|done|omega)) only[SV,SW,Nat.reduceAdd,Nat.reduceBEq,w,q0b]
theorem z4v(t:Ty):t.wrongI=if t.mayB then(if 500<t.cnt then 4 else 0) else 53:=by
 unfold Ty.wrongI
 have h1:=q5n t
 by_cases h:500<t.nod
 ·rw[if_pos h,if_pos (show 500<t.cnt by omega)]
 ·rw[if_neg h,if_neg (show ¬ 500<t.cnt by rw[q6A t (by omega)];exact h)]
theorem z6v(K:Cx)(t:Ty)(h1:K.call 56 [tyW t]=some (.bool t.mayB,[]))(h2:K.call 57 [tyW t]=some (iN t.cnt,[])):q0c K f40 [tyW t] []=some (iZ t.wrongI,[],[]):=by
 rw[z4v]
 obtain⟨k,n,l⟩:=t
 unfold f40
 simp only[tyW,iN,iZ] at h1 h2 ⊢
 generalize (Ty.mk k n l).cnt=c at *
 generalize (Ty.mk k n l).mayB=p at *
 have e:decide ((500:Int)<(c:Int))=decide (500<c):=decide_eq_decide.2 (by omega)
 cases p with
 |false=>simp(disch:=first|decide|omega|(simp only[LN];first|done|omega)) only[SV,SW,Nat.reduceAdd,Nat.reduceBEq,q0a,h1,q0b]
 |true=>
  by_cases h5:500<c
  ·simp only[h5,decide_true] at e
   simp only[h5,if_true]
   simp(disch:=first|decide|omega|(simp only[LN];first|done|omega)) only[SV,SW,Nat.reduceAdd,Nat.reduceBEq,q0a,h1,h2,q0b]
  ·simp only[h5,decide_false] at e
   simp only[h5,if_true,if_false]
   simp(disch:=first|decide|omega|(simp only[LN];first|done|omega)) only[SV,SW,Nat.reduceAdd,Nat.reduceBEq,q0a,h1,h2,q0b]
def j0a(b:Bool):Option (Ex×S):=if b then some (.ret,⟨[(2,.d false (.bool false))],[],0,[]⟩) else some (.exit 0,⟨[],[],0,[]⟩)
theorem j3b(K:Cx)(k0:Int)(n0:BY)(l:List Ty)(hl:l.length≤most)(hg:∀ t∈l,K.call 41 [tyW t]=some (.bool (!t.varB),[])):∀(r:List Ty)(k:Nat),l.drop k=r→k≤l.length→
  lp K 0 [1,3] f41_L0 ⟨[(1,.ptr 0 0 0),(3,iN k)],[(0,bxT k0 n0 l)],1,[]⟩=j0a (varL r):=by
 have hm:most=1099511627776:=rfl
 intro r
 induction r with
 |nil=>
  intro k hd hk
  have hlen:=congrArg List.length hd
  rw[List.length_drop,List.length_nil] at hlen
  simp only[varL,j0a,iN]
  rw[q0p f41_L0.eq_1]
  clear hg
  simp(disch:=first|decide|omega|(simp only[LN];first|done|omega)) only[SV,SW,Nat.reduceBEq]
 |cons x r ih=>
  intro k hd hk
  obtain⟨hl',hn,hd',hx⟩:=q7b hd
  have ih:=ih (k+1) hd' (by omega)
  have w:=hg x hx
  rw[varL]
  clear hd hd' hg
  rw[q0p f41_L0.eq_1]
  generalize x.varB=c at *
  obtain⟨k',n',ls⟩:=x
  cases c with
  |true=>
   clear ih
   simp only[tyW,iN,j0a,Bool.true_or,if_true] at w ⊢
   simp(disch:=first|decide|omega|(simp only[LN];first|done|omega)) only[SV,SW,Nat.reduceBEq,hn,Ty.d,Nat.reduceAdd,q0a,w]
  |false=>
   simp only[Bool.false_or]
   rw[←ih]
   clear ih
   simp only[tyW,iN] at w ⊢
   simp(disch:=first|decide|omega|(simp only[LN];first|done|omega)) only[SV,SW,Nat.reduceBEq,hn,Ty.d,Nat.reduceAdd,q0a,w,q0U]
theorem z6T(K:Cx)(k:Int)(n:BY)(l:List Ty)(hl:l.length≤most)(hg:∀ t∈l,K.call 41 [tyW t]=some (.bool (!t.varB),[])):q0c K f41 [tyW (.mk k n l)] []=some (.bool (!(Ty.mk k n l).varB),[],[]):=by
 have w:=j3b K k n l hl hg l 0 rfl (by omega)
 rw[Ty.varB]
 unfold f41
 clear hg
 simp only[tyW,q09,bxT,iN,j0a,Int.natCast_zero,Int.ofNat_zero] at w ⊢
 generalize varL l=q at *
 rcases Bool.eq_false_or_eq_true (k==2) with hp|hp
 ·simp only[hp]
  simp(disch:=first|decide|omega|(simp only[LN];first|done|omega)) only[SV,SW,Nat.reduceAdd,Nat.reduceBEq,hp,q0b]
 ·simp only[hp]
  cases q with
  |true=>simp only[if_true] at w;simp(disch:=first|decide|omega|(simp only[LN];first|done|omega)) only[SV,SW,Nat.reduceAdd,Nat.reduceBEq,hp,w,q0b]
  |false=>simp only[Bool.false_eq_true,if_false] at w;simp(disch:=first|decide|omega|(simp only[LN];first|done|omega)) only[SV,SW,Nat.reduceAdd,Nat.reduceBEq,hp,w,q0b]
mutual
def Ty.tl:Ty→Int→Int→Int
 |.mk _ _ l,left,deep=>if deep<1 then -1 else tlL l (left - 1) (deep - 1)
def tlL:List Ty→Int→Int→Int
 |[],left,_=>left
 |t :: r,left,deep=>if left<0 then left else tlL r (t.tl left deep) deep
end
mutual
theorem j1h:∀(t:Ty)(left deep:Int),0≤left→-1≤t.tl left deep∧t.tl left deep≤left - 1
 |.mk k n l,left,deep,h=>by
  rw[Ty.tl]
  split
  ·omega
  ·have:=z4K l (left - 1) (deep - 1) (by omega)
   omega
theorem z4K:∀(l:List Ty)(left deep:Int),-1≤left→-1≤tlL l left deep∧tlL l left deep≤left
 |[],left,deep,h=>by rw[tlL];omega
 |t :: r,left,deep,h=>by
  rw[tlL]
  split
  ·omega
  ·have h1:=j1h t left deep (by omega)
   have h2:=z4K r (t.tl left deep) deep h1.1
   omega
end
mutual
theorem j0t:∀(t:Ty)(left deep:Int),0≤left→0≤t.tl left deep→t.tl left deep=left - t.cnt
 |.mk k n l,left,deep,h,h0=>by
  rw[Ty.tl] at h0 ⊢
  split
  ·rename_i hd;rw[if_pos hd] at h0;omega
  ·rename_i hd
   rw[if_neg hd] at h0
   have:=z4L l (left - 1) (deep - 1) (by omega) h0
   rw[Ty.cnt];omega
theorem z4L:∀(l:List Ty)(left deep:Int),-1≤left→0≤tlL l left deep→tlL l left deep=left - cntL l
 |[],left,deep,h,h0=>by rw[tlL,cntL];omega
 |t :: r,left,deep,h,h0=>by
  rw[tlL] at h0 ⊢
  split
  ·rename_i hd;rw[if_pos hd] at h0;omega
  ·rename_i hd
   rw[if_neg hd] at h0
   have h1:=j1h t left deep (by omega)
   have h2:=z4K r (t.tl left deep) deep h1.1
   have e1:=z4L r (t.tl left deep) deep h1.1 h0
   have e2:=j0t t left deep (by omega) (by omega)
   rw[cntL];omega
end
theorem j1g(K:Cx)(k0:Int)(n0:BY)(l:List Ty)(hl:l.length≤most)(deep:Int)(hd1:1≤deep)(hd2:deep≤65536)(hg:∀ t∈l,∀ left:Int,0≤left→left≤4194304→K.call 21 [tyW t,iZ left,iZ (deep - 1)]=some (iZ (t.tl left (deep - 1)),[])):∀(r:List Ty)(k:Nat)(left:Int),l.drop k=r→k≤l.length→-1≤left→left≤4194304→
  lp K 0 [1,2,3,7] f21_L0 ⟨[(1,iZ left),(2,iZ deep),(3,.ptr 0 0 0),(7,iN k)],[(0,bxT k0 n0 l)],1,[]⟩=some (.exit 0,⟨[(1,iZ (tlL r left (deep - 1)))],[],0,[]⟩):=by
 have hm:most=1099511627776:=rfl
 intro r
 induction r with
 |nil=>
  intro k left hd hk _ _
  have hlen:=congrArg List.length hd
  rw[List.length_drop,List.length_nil] at hlen
  simp only[tlL,iZ,iN]
  rw[q0p f21_L0.eq_1]
  clear hg
  generalize hq:decide ((0:Int)≤left)=q
  simp(disch:=first|decide|omega|(simp only[LN];first|done|omega)) only[SV,SW,Nat.reduceBEq,hq]
 |cons x r ih=>
  intro k left hd hk h1 h2
  obtain⟨hl',hn,hd',hx⟩:=q7b hd
  rw[tlL]
  by_cases hlt:left<0
  ·have e:decide ((0:Int)≤left)=false:=decide_eq_false (by omega)
   rw[if_pos hlt,q0p f21_L0.eq_1]
   clear hg ih hd hd'
   simp only[iZ,iN]
   simp(disch:=first|decide|omega|(simp only[LN];first|done|omega)) only[SV,SW,Nat.reduceBEq]
  ·have e:decide ((0:Int)≤left)=true:=decide_eq_true (by omega)
   rw[if_neg hlt]
   have hb:=j1h x left (deep - 1) (by omega)
   have ih:=ih (k+1) (x.tl left (deep - 1)) hd' (by omega) (by omega) (by omega)
   have w:=hg x hx left (by omega) h2
   rw[←ih]
   clear ih hd hd' hg
   rw[q0p f21_L0.eq_1]
   have hw:IntKind.i64.wrap (deep - 1)=deep - 1:=by
    apply z1k <;> omega
   generalize x.tl left (deep - 1)=z at *
   obtain⟨k',n',ls⟩:=x
   simp only[tyW,iZ,iN] at w ⊢
   simp(disch:=first|decide|omega|(simp only[LN];first|done|omega)) only[SV,SW,Nat.reduceBEq,hn,Ty.d,Nat.reduceAdd,hw,q0a,w,q0U]
theorem j2J(K:Cx)(k:Int)(n:BY)(l:List Ty)(hl:l.length≤most)(left deep:Int)(h0:0≤left)(h1:left≤4194304)(hd0:0≤deep)(hd2:deep≤65536)(hg:1≤deep→∀ t∈l,∀ left:Int,0≤left→left≤4194304→K.call 21 [tyW t,iZ left,iZ (deep - 1)]=some (iZ (t.tl left (deep - 1)),[])) :
  q0c K f21 [tyW (.mk k n l),iZ left,iZ deep] []=some (iZ ((Ty.mk k n l).tl left deep),[],[]):=by
 rw[Ty.tl]
 unfold f21
 by_cases hd:deep<1
 ·have e:decide (deep<1)=true:=decide_eq_true hd
  rw[if_pos hd]
  simp only[tyW,iZ]
  clear hg
  simp(disch:=first|decide|omega|(simp only[LN];first|done|omega)) only[SV,SW,Int.reduceNeg,Nat.reduceAdd,Nat.reduceBEq,q0b]
 ·have e:decide (deep<1)=false:=decide_eq_false hd
  have w:=j1g K k n l hl deep (by omega) hd2 (hg (by omega)) l 0 (left - 1) rfl (by omega) (by omega) (by omega)
  have hw:IntKind.i64.wrap (left - 1)=left - 1:=by
   apply z1k <;> omega
  rw[if_neg hd]
  clear hg
  simp only[tyW,q09,bxT,iZ,iN,Int.natCast_zero,Int.ofNat_zero] at w ⊢
  simp(disch:=first|decide|omega|(simp only[LN];first|done|omega)) only[SV,SW,Int.reduceNeg,Nat.reduceAdd,Nat.reduceBEq,hw,w,q0b]
theorem z9K(K:Cx)(t:Ty)(w:K.call 21 [tyW t,iZ 4194304,iZ 65536]=some (iZ (t.tl 4194304 65536),[])):q0c K f6 [tyW t] []=some (.bool (decide (t.tl 4194304 65536<0)),[],[]):=by
 generalize t.tl 4194304 65536=z at *
 obtain⟨k,n,l⟩:=t
 unfold f6
 simp only[tyW,iZ] at w ⊢
 simp(disch:=first|decide|omega|(simp only[LN];first|done|omega)) only[SV,SW,Nat.reduceAdd,Nat.reduceBEq,q0a,w,q0b]
end Go.Vm
end

section
namespace Go.Vm
set_option maxRecDepth 20000
open Go.Lib
theorem q7F{s:BY}(h:indexByte s 46=-1):split s [46]=[s]:=by
 have h':index s [46]=-1:=by rw[index_one];exact h
 rw[split,count_miss h']
 rfl
theorem q9b{s:BY}{i:Nat}(h:indexByte s 46=i):split s [46]=s.take i :: split (s.drop (i+1)) [46]:=by
 have h':index s [46]=i:=by rw[index_one];exact h
 rw[split,count_hit (by simp) h',Nat.add_comm 1,splitK,h']
 have hne:((i:Int) == -1)=false:=by rw[beq_eq_false_iff_ne];omega
 rw[hne]
 simp [split]
theorem j0S(s:BY):∀(r:BY)(k:Nat),dnR s k r=if indexByte r 46=-1 then none else some (q04 (s.take (k+(indexByte r 46).toNat))&&q04 (s.drop (k+(indexByte r 46).toNat+1)))
 |[],k=>rfl
 |c :: r,k=>by
  rw[dnR,indexByte]
  by_cases hc:c=46
  ·subst hc
   simp
  ·have hc':(c==46)=false:=by simpa using hc
   rw[if_neg hc,j0S s r (k+1),hc']
   have hge:=indexByte_ge r 46
   by_cases h:indexByte r 46=-1
   ·simp [h]
   ·have h2:(indexByte r 46 == -1)=false:=by simpa using h
    have h3:¬(indexByte r 46+1=-1):=by omega
    have e:(indexByte r 46+1).toNat=(indexByte r 46).toNat+1:=by omega
    simp only[h,h2,Bool.false_eq_true,if_false,h3,e]
    have e2:k+((indexByte r 46).toNat+1)=k+1+(indexByte r 46).toNat:=by omega
    rw[e2]
theorem z0B{s:BY}(h:q04 s=true):indexByte s 46=-1:=by
 obtain⟨_,h2⟩:=q3o h
 have hge:=indexByte_ge s 46
 by_cases hi:indexByte s 46=-1
 ·exact hi
 ·obtain⟨i,hi'⟩:∃ i:Nat,indexByte s 46=i:=⟨(indexByte s 46).toNat,by omega⟩
  have:=(indexByte_some hi').1
  exact absurd (h2 46 (List.mem_of_getElem? this)) (by decide)
theorem j26(s:BY):dnB s=q1b s:=by
 unfold dnB q1b
 by_cases hi:s=[73,110,116]
 ·rw[if_pos (.inl hi)]
  simp [hi]
 ·by_cases hl:4096<s.length
  ·rw[if_pos (.inr hl),decide_eq_false (show ¬ s.length≤4096 by omega)]
   simp
  ·rw[if_neg (by simp [hi,hl]),decide_eq_true (show s.length≤4096 by omega),decide_eq_false hi]
   simp only[Bool.not_false,Bool.and_true,Bool.true_and]
   rw[j0S]
   have hge:=indexByte_ge s 46
   by_cases h:indexByte s 46=-1
   ·rw[if_pos h,q7F h]
    simp
   ·rw[if_neg h]
    obtain⟨i,hi'⟩:∃ i:Nat,indexByte s 46=i:=⟨(indexByte s 46).toNat,by omega⟩
    rw[q9b hi',hi']
    simp only[Int.toNat_natCast,Nat.zero_add,Option.getD_some,List.all_cons,List.length_cons]
    generalize s.drop (i+1)=d
    by_cases hd:indexByte d 46=-1
    ·rw[q7F hd]
     simp
    ·have hgd:=indexByte_ge d 46
     obtain⟨j,hj⟩:∃ j:Nat,indexByte d 46=j:=⟨(indexByte d 46).toNat,by omega⟩
     have hp:q04 d=false:=by
      rcases Bool.eq_false_or_eq_true (q04 d) with h|h
      ·exact absurd (z0B h) hd
      ·exact h
     rw[q9b hj,hp]
     have hlen:∀ x:BY,0<(split x [46]).length:=fun x=>by
      unfold split
      cases count x [46] with
      |zero=>simp [splitK]
      |succ k=>
       rw[splitK]
       split <;> simp
     have:=hlen (d.drop (j+1))
     have e:decide ((d.take j :: split (d.drop (j+1)) [46]).length+1≤2)=false:=decide_eq_false (by simp only[List.length_cons];omega)
     rw[e]
     simp
end Go.Vm
end

section
namespace Go.Vm
set_option maxRecDepth 20000
def q3x (n:Nat):List (List Bool):=(List.range n).map fun (a:Nat)=>(List.range n).map fun (b:Nat)=>decide (a≤b)
def Lat.lw:Lat→List (List Bool)
  | .ch n=>q3x n
  | .fn _ _ _ low=>low
def Lat.rws:Lat→List (List Nat)
  | .ch _=>[]
  | .fn _ _ rows _=>rows
theorem q4S {o:Lat} (h:o.wf):o.lw.length=o.sz∧∀ r∈o.lw,r.length=o.sz:=by
  cases o with
  | ch n=>
    simp only [Lat.lw,q3x,Lat.sz,List.length_map,List.length_range,List.mem_map,true_and]
    rintro r ⟨a,_,rfl⟩
    simp
  | fn a b rows low=>exact ⟨h.2.2.2.1,h.2.2.2.2.1⟩
theorem q6D {o:Lat} {x y:Nat} (hx:x < o.sz) (hy:y < o.sz):nth (nth o.lw (x:Int)) (y:Int)=o.le x y:=by
  cases o with
  | ch n=>
    simp only [Lat.sz] at hx hy
    have e:nth (q3x n) (x:Int)=(List.range n).map fun (b:Nat)=>decide (x≤b):=q4h (by rw [q3x,List.getElem?_map,List.getElem?_range hx,Option.map_some])
    simp only [Lat.lw,e,Lat.le]
    exact q4h (by rw [List.getElem?_map,List.getElem?_range hy,Option.map_some])
  | fn a b rows low=>rfl
@[reducible] def rC (o:Lat):List V:=[iN o.sz,.d false (.sl 1 (o.lw.map lowD)),.d false (.sl 1 (o.rws.map rowD))]
@[reducible] def rV (o:Lat):V:=.agg (rC o)
/- 'sloth/slothref14.under' -/
def f76_L0:C:=
 (.seq
  (.seq
   (.reg [⟨[],[(11,(.bin .lss (.sl 7) (.len false (.sl 1))))],[],none,[1,2,3,7],4,[],[],[]⟩])
   (.cond (.sl 11)
    .skip
    (.seq
     (.tidy 0 [])
     (.exit 0))))
  (.seq
   (.block 1
    (.seq
     (.reg [⟨[],[(28,(.un .not (.ld 1 false (.ia 1 (.ld 1 false (.ia 1 (.ld 1 false (.fa 1 (.sl 3))) (.ld 1 false (.ia 1 (.sl 1) (.sl 7))))) (.ld 1 false (.ia 1 (.sl 2) (.sl 7)))))))],[],none,[1,2,3,7],15,[[],[0],[],[],[3,2],[2,3,4],[4,3,2,5,0,1],[1,0,5,2,3,4,6],[],[],[9,8],[8,9,10],[10,9,8,11,6,4,3,2,5,0,1,7],[7,1,0,5,2,3,4,6,11,8,9,10,12],[12,10,9,8,11,6,4,3,2,5,0,1,7,13]],[],[]⟩])
     (.cond (.sl 28)
      (.seq
       (.reg [⟨[],[(6,(.bool false))],[],none,[],1,[],[],[]⟩])
       (.seq
        (.tidy 0 [6])
        .ret))
      .skip)))
   (.reg [⟨[],[(7,(.bin .add (.sl 7) (.int .i64 1)))],[],none,[1,2,3],3,[],[],[]⟩])))
def f76:Fun:=⟨
 (.seq
  (.reg [⟨[(3,.box (.sl 0))],[],[(.bool false)],none,[1,2,3],2,[],[],[]⟩])
  (.seq
   (.seq
    (.reg [⟨[],[(7,(.int .i64 0))],[],none,[1,2,3],1,[],[],[]⟩])
    (.block 0
     (.seq (.tidy 0 [1,2,3,7]) (.loop (.seq (.tidy 0 [1,2,3,7]) f76_L0)))))
   (.seq
    (.reg [⟨[],[(6,(.bool true))],[],none,[],1,[],[],[]⟩])
    (.seq
     (.tidy 0 [6])
     .ret)))),
 [(.sl 6)],false⟩
theorem j4m:q0o Go.Proofs.Tryz.prog 76 0 3 f76=true:=by kernel_rfl
/- 'sloth/slothref14.fits' -/
def f87_L0:C:=
 (.seq
  (.seq
   (.reg [⟨[],[(15,(.bin .lss (.sl 10) (.sl 9)))],[],none,[2,3,4,5,9,10],3,[],[],[]⟩])
   (.cond (.sl 15)
    .skip
    (.seq
     (.tidy 0 [])
     (.exit 0))))
  (.seq
   (.block 1
    (.seq
     (.reg [⟨[],[(39,(.and (.ld 1 false (.ia 1 (.ld 1 false (.ia 1 (.ld 1 false (.fa 1 (.sl 4))) (.sl 10))) (.sl 9))) (.un .not (.ld 1 false (.ia 1 (.ld 1 false (.ia 1 (.ld 1 false (.fa 1 (.sl 5))) (.ld 1 false (.ia 1 (.sl 2) (.sl 10))))) (.sl 3))))))],[],none,[2,3,4,5,9,10],22,[[],[0],[],[2,0,1],[1,0,2,3],[],[5,3,2,0,1,4],[4,1,0,2,3,5,6],[6,5,3,2,0,1,4,7],[7,4,1,0,2,3,5,6,8],[8,6,5,3,2,0,1,4,7,9],[7,4,1,0,2,3,5,6,8],[7,4,1,0,2,3,5,6,8],[12,8,6,5,3,2,0,1,4,7,11],[11,7,4,1,0,2,3,5,6,8,12,13],[13,12,11,14,9,7,4,1,0,2,3,5,6,8,10],[10,8,6,5,3,2,0,1,4,7,9,14,11,12,13,15],[7,4,1,0,2,3,5,6,8],[17,15,13,12,11,14,9,7,4,1,0,2,3,5,6,8,10,16],[16,10,8,6,5,3,2,0,1,4,7,9,14,11,12,13,15,17,18],[18,17,15,13,12,11,14,9,7,4,1,0,2,3,5,6,8,10,16,19],[19,16,10,9,14,11,12,13,15,17,18,20,7,4,1,0,2,3,5,6,8]],[],[]⟩])
     (.cond (.sl 39)
      (.seq
       (.reg [⟨[],[(8,(.bool false))],[],none,[],1,[],[],[]⟩])
       (.seq
        (.tidy 0 [8])
        .ret))
      .skip)))
   (.reg [⟨[],[(10,(.bin .add (.sl 10) (.int .i64 1)))],[],none,[2,3,4,5,9],3,[],[],[]⟩])))
def f87:Fun:=⟨
 (.seq
  (.reg [⟨[(4,.box (.sl 0)),(5,.box (.sl 1))],[],[(.bool false)],none,[2,3,4,5],3,[],[],[]⟩])
  (.seq
   (.reg [⟨[],[(9,(.len false (.sl 2)))],[],none,[2,3,4,5],3,[],[],[]⟩])
   (.seq
    (.seq
     (.reg [⟨[],[(10,(.int .i64 0))],[],none,[2,3,4,5,9],1,[],[],[]⟩])
     (.block 0
      (.seq (.tidy 0 [2,3,4,5,9,10]) (.loop (.seq (.tidy 0 [2,3,4,5,9,10]) f87_L0)))))
    (.seq
     (.reg [⟨[],[(8,(.bool true))],[],none,[],1,[],[],[]⟩])
     (.seq
      (.tidy 0 [8])
      .ret))))),
 [(.sl 8)],false⟩
theorem j4e:q0o Go.Proofs.Tryz.prog 87 0 4 f87=true:=by kernel_rfl
def z4D (b:Bool):Option (Ex×S):=if b then some (.exit 0,⟨[],[],0,[]⟩) else some (.ret,⟨[(6,.d false (.bool false))],[],0,[]⟩)
theorem j1b (K:Cx) (b:Lat) (hb:b.wf) (hb2:b.sz≤1000) (f g:List Nat) (hf:∀ v∈f,v < b.sz) (hg:∀ v∈g,v < b.sz) (hl:f.length=g.length) (h1:f.length≤1000):∀ (m k:Nat),k+m=f.length→
    lp K 0 [1,2,3,7] f76_L0 ⟨[(1,rowV f),(2,rowV g),(3,.ptr 0 0 0),(7,iN k)],[(0,.mix 3 [rC b])],1,[]⟩=z4D (ptwR b f g m k):=by
  obtain ⟨l1,l2⟩:=q4S hb
  intro m
  induction m with
  | zero=>
    intro k hk
    simp only [ptwR,z4D]
    rw [q0p f76_L0.eq_1]
    clear hf hg l2
    simp (disch:=first|decide|omega|(simp only [LN];first|done|omega)) only [SV,SW,Nat.reduceBEq]
  | succ m ih=>
    intro k hk
    have ih:=ih (k+1) (by omega)
    have x1:=hf _ (q0v (show k < f.length by omega))
    have x2:=hg _ (q0v (show k < g.length by omega))
    have e:=q6D x1 x2
    have y1:=l2 _ (q0v (show nth f (k:Int) < b.lw.length by omega))
    rw [ptwR]
    rw [q0p f76_L0.eq_1]
    clear hf hg l2
    generalize b.le (nth f (k:Int)) (nth g (k:Int))=q at *
    simp only [rC,rowV,iN] at ih ⊢
    cases q with
    | false=>
      simp only [Bool.false_and,z4D]
      clear ih
      simp (disch:=first|decide|omega|(simp only [LN];first|done|omega)) only [SV,SW,Nat.reduceBEq,natD,lowD,q1T,e]
    | true=>
      simp only [Bool.true_and]
      rw [← ih]
      clear ih
      simp (disch:=first|decide|omega|(simp only [LN];first|done|omega)) only [SV,SW,Nat.reduceBEq,natD,lowD,q1T,e,q0U]
theorem z9r (K:Cx) (b:Lat) (hb:b.wf) (hb2:b.sz≤1000) (f g:List Nat) (hf:∀ v∈f,v < b.sz) (hg:∀ v∈g,v < b.sz) (hl:f.length=g.length) (h1:f.length≤1000):q0c K f76 [rV b,rowV f,rowV g] []=some (.bool (ptwR b f g f.length 0),[],[]):=by
  have w:=j1b K b hb hb2 f g hf hg hl h1 f.length 0 (by omega)
  unfold f76
  clear hf hg
  simp only [rC,rV,rowV,iN,Int.natCast_zero,Int.ofNat_zero] at w ⊢
  generalize ptwR b f g f.length 0=q at *
  cases q with
  | true=>simp only [z4D,if_true] at w;simp (disch:=first|decide|omega|(simp only [LN];first|done|omega)) only [SV,SW,Nat.reduceAdd,Nat.reduceBEq,w,q0b]
  | false=>simp only [z4D,Bool.false_eq_true,if_false] at w;simp (disch:=first|decide|omega|(simp only [LN];first|done|omega)) only [SV,SW,Nat.reduceAdd,Nat.reduceBEq,w,q0b]
theorem q70 (a b:Lat) (row:List Nat) (v:Nat):∀ m y,fitR a b row v m y false=false
  | 0,_=>rfl
  | m+1,y=>by rw [fitR,Bool.false_and];exact q70 a b row v m (y+1)
def z6i (b:Bool):Option (Ex×S):=if b then some (.exit 0,⟨[],[],0,[]⟩) else some (.ret,⟨[(8,.d false (.bool false))],[],0,[]⟩)
theorem j2v (K:Cx) (a b:Lat) (ha:a.wf) (hb:b.wf) (ha2:a.sz≤1000) (hb2:b.sz≤1000) (row:List Nat) (v:Nat) (hx:row.length < a.sz) (hv:v < b.sz) (hr:∀ u∈row,u < b.sz):∀ (m k:Nat),k+m=row.length→
    lp K 0 [2,3,4,5,9,10] f87_L0 ⟨[(2,rowV row),(3,iN v),(4,.ptr 0 0 0),(5,.ptr 1 0 0),(9,iN row.length),(10,iN k)],[(0,.mix 3 [rC a]),(1,.mix 3 [rC b])],2,[]⟩=z6i (fitR a b row v m k true):=by
  obtain ⟨a1,a2⟩:=q4S ha
  obtain ⟨b1,b2⟩:=q4S hb
  intro m
  induction m with
  | zero=>
    intro k hk
    simp only [fitR,z6i]
    rw [q0p f87_L0.eq_1]
    clear hr a2 b2
    simp (disch:=first|decide|omega|(simp only [LN];first|done|omega)) only [SV,SW,Nat.reduceBEq]
  | succ m ih=>
    intro k hk
    have ih:=ih (k+1) (by omega)
    have x1:=hr _ (q0v (show k < row.length by omega))
    have e1:=q6D (o:=a) (show k < a.sz by omega) hx
    have e2:=q6D (o:=b) x1 hv
    have y1:=a2 _ (q0v (show k < a.lw.length by omega))
    have y2:=b2 _ (q0v (show nth row (k:Int) < b.lw.length by omega))
    rw [fitR]
    rw [q0p f87_L0.eq_1]
    clear hr a2 b2
    generalize a.le k row.length=p at *
    generalize b.le (nth row (k:Int)) v=q at *
    simp only [rC,rowV,iN] at ih ⊢
    cases p with
    | false=>
      simp only [Bool.not_false,Bool.true_or,Bool.and_true]
      rw [← ih]
      clear ih
      simp (disch:=first|decide|omega|(simp only [LN];first|done|omega)) only [SV,SW,Nat.reduceBEq,lowD,q1T,e1,natD,e2,q0U,reduceCtorEq,Nat.reduceAdd]
    | true=>
      cases q with
      | false=>
        simp only [Bool.not_true,Bool.false_or,Bool.and_false,q70,z6i]
        clear ih
        simp (disch:=first|decide|omega|(simp only [LN];first|done|omega)) only [SV,SW,Nat.reduceBEq,lowD,q1T,e1,natD,e2]
      | true=>
        simp only [Bool.not_true,Bool.or_true,Bool.and_true]
        rw [← ih]
        clear ih
        simp (disch:=first|decide|omega|(simp only [LN];first|done|omega)) only [SV,SW,Nat.reduceBEq,lowD,q1T,e1,natD,e2,q0U,reduceCtorEq,Nat.reduceAdd]
theorem j2L (K:Cx) (a b:Lat) (ha:a.wf) (hb:b.wf) (ha2:a.sz≤1000) (hb2:b.sz≤1000) (row:List Nat) (v:Nat) (hx:row.length < a.sz) (hv:v < b.sz) (hr:∀ u∈row,u < b.sz):q0c K f87 [rV a,rV b,rowV row,iN v] []=some (.bool (fitB a b row v),[],[]):=by
  have w:=j2v K a b ha hb ha2 hb2 row v hx hv hr row.length 0 (by omega)
  unfold f87 fitB
  clear hr
  simp only [rC,rV,rowV,iN,Int.natCast_zero,Int.ofNat_zero] at w ⊢
  generalize fitR a b row v row.length 0 true=q at *
  cases q with
  | true=>simp only [z6i,if_true] at w;simp (disch:=first|decide|omega|(simp only [LN];first|done|omega)) only [SV,SW,Nat.reduceAdd,Nat.reduceBEq,reduceCtorEq,w,q0b]
  | false=>simp only [z6i,Bool.false_eq_true,if_false] at w;simp (disch:=first|decide|omega|(simp only [LN];first|done|omega)) only [SV,SW,Nat.reduceAdd,Nat.reduceBEq,reduceCtorEq,w,q0b]
end Go.Vm
end

section
namespace Go.Vm
set_option maxRecDepth 20000
theorem q1m{β:Type}(f:V→V→V→Option β)(a b c:V):o3 f (some a) (some b) (some c)=f a b c:=by
  have h:o3 f (some a) (some b) (some c)=f a b c:=rfl
  rw[h]
/- 'sloth/slothref14.rows' -/
def f75_L0:C:= (.seq (.seq (.reg [⟨[],[(28,(.bin .lss (.sl 9) (.ld 1 false (.fa 0 (.sl 5)))))],[],none,[2,3,4,5,9],4,[],[],[]⟩]) (.cond (.sl 28) .skip (.seq (.tidy 1 [3]) (.exit 0)))) (.seq (.block 1 (.seq (.reg [⟨[],[(10,(.call 87 (.cons (.ld 3 true (.sl 4)) (.cons (.ld 3 true (.sl 5)) (.cons (.sl 2) (.cons (.sl 9) .nil))))))],[],none,[2,3,4,5,9],6,[],[],[]⟩]) (.seq (.reg [⟨[],[(36,(.sl 10))],[],none,[2,3,4,5,9],1,[],[],[]⟩]) (.cond (.sl 36) (.seq (.reg [⟨[(40,.mks 1 (.cons (.int .i64 0) .nil) (.int .i64 0) (.bin .add (.len false (.sl 2)) (.int .i64 1)))],[],[],some (some 42,.app 1 (.sl 40) (.sl 2)),[2,3,4,5,9],6,[],[],[]⟩,⟨[(44,.lits 1 (.cons (.sl 9) .nil))],[],[],some (some 45,.app 1 (.sl 42) (.sl 44)),[2,3,4,5,9],3,[],[],[]⟩,⟨[],[(11,(.sl 45))],[],none,[2,3,4,5,9],1,[],[],[]⟩]) (.regg 1 [(⟨[11],none⟩,⟨[],[],[],some (some 50,.calle 75 (.cons (.ld 3 true (.sl 4)) (.cons (.ld 3 true (.sl 5)) (.cons (.sl 11) (.cons (.sl 3) .nil))))),[2,4,5,9],5,[],[],[]⟩),(⟨[],none⟩,⟨[],[(3,(.sl 50))],[],none,[2,4,5,9],1,[],[],[]⟩)])) .skip)))) (.reg [⟨[],[(9,(.bin .add (.sl 9) (.int .i64 1)))],[],none,[2,3,4,5],3,[],[],[]⟩])))
def f75:Fun:=⟨ (.seq (.reg [⟨[(4,.box (.sl 0)),(5,.box (.sl 1))],[],[(.nilsl 1)],none,[2,3,4,5],3,[],[],[]⟩]) (.seq (.seq (.reg [⟨[],[(14,(.bin .gtr (.len false (.sl 3)) (.int .i64 40)))],[],none,[2,3,4,5],3,[],[],[]⟩]) (.cond (.sl 14) (.seq (.reg [⟨[],[(8,(.sl 3))],[],none,[],2,[],[],[]⟩]) (.seq (.tidy 1 [8]) .ret)) .skip)) (.seq (.seq (.reg [⟨[],[(20,(.bin .eql (.len false (.sl 2)) (.ld 1 false (.fa 0 (.sl 4)))))],[],none,[2,3,4,5],5,[],[],[]⟩]) (.cond (.sl 20) (.seq (.reg [⟨[(23,.lits 1 (.cons (.sl 2) .nil))],[],[],some (some 24,.app 1 (.sl 3) (.sl 23)),[],4,[],[],[]⟩,⟨[],[(8,(.sl 24))],[],none,[],1,[],[],[]⟩]) (.seq (.tidy 1 [8]) .ret)) .skip)) (.seq (.seq (.reg [⟨[],[(9,(.int .i64 0))],[],none,[2,3,4,5],1,[],[],[]⟩]) (.block 0 (.seq (.tidy 1 [2,3,4,5,9]) (.loop (.seq (.tidy 1 [2,3,4,5,9]) f75_L0))))) (.seq (.reg [⟨[],[(8,(.sl 3))],[],none,[],2,[],[],[]⟩]) (.seq (.tidy 1 [8]) .ret)))))), [(.sl 8)],false⟩
theorem z14:q0o Go.Proofs.Tryz.prog 75 1 4 f75=true:=by kernel_rfl
/- 'sloth/slothref14.rows' -/
def f975_L0:C:= (.seq (.seq (.reg [⟨[],[(28,(.bin .lss (.sl 9) (.ld 1 false (.fa 0 (.sl 5)))))],[],none,[2,3,4,5,9],4,[],[],[]⟩]) (.cond (.sl 28) .skip (.seq (.tidy 0 [3]) (.exit 0)))) (.seq (.block 1 (.seq (.reg [⟨[],[(10,(.call 87 (.cons (.ld 3 true (.sl 4)) (.cons (.ld 3 true (.sl 5)) (.cons (.sl 2) (.cons (.sl 9) .nil))))))],[],none,[2,3,4,5,9],6,[],[],[]⟩]) (.seq (.reg [⟨[],[(36,(.sl 10))],[],none,[2,3,4,5,9],1,[],[],[]⟩]) (.cond (.sl 36) (.seq (.reg [⟨[(40,.mks 1 (.cons (.int .i64 0) .nil) (.int .i64 0) (.bin .add (.len false (.sl 2)) (.int .i64 1)))],[],[],some (some 42,.app 1 (.sl 40) (.sl 2)),[2,3,4,5,9],6,[],[],[]⟩,⟨[(44,.lits 1 (.cons (.sl 9) .nil))],[],[],some (some 45,.app 1 (.sl 42) (.sl 44)),[2,3,4,5,9],3,[],[],[]⟩,⟨[],[(11,(.sl 45))],[],none,[2,3,4,5,9],1,[],[],[]⟩]) (.regg 0 [(⟨[11],none⟩,⟨[],[],[],some (some 50,.calle 75 (.cons (.ld 3 true (.sl 4)) (.cons (.ld 3 true (.sl 5)) (.cons (.sl 11) (.cons (.sl 3) .nil))))),[2,4,5,9],5,[],[],[]⟩),(⟨[],none⟩,⟨[],[(3,(.sl 50))],[],none,[2,4,5,9],1,[],[],[]⟩)])) .skip)))) (.reg [⟨[],[(9,(.bin .add (.sl 9) (.int .i64 1)))],[],none,[2,3,4,5],3,[],[],[]⟩])))
def f975:Fun:=⟨ (.seq (.reg [⟨[(4,.box (.sl 0)),(5,.box (.sl 1))],[],[(.nilsl 1)],none,[2,3,4,5],3,[],[],[]⟩]) (.seq (.seq (.reg [⟨[],[(14,(.bin .gtr (.len false (.sl 3)) (.int .i64 40)))],[],none,[2,3,4,5],3,[],[],[]⟩]) (.cond (.sl 14) (.seq (.reg [⟨[],[(8,(.sl 3))],[],none,[],2,[],[],[]⟩]) (.seq (.tidy 0 [8]) .ret)) .skip)) (.seq (.seq (.reg [⟨[],[(20,(.bin .eql (.len false (.sl 2)) (.ld 1 false (.fa 0 (.sl 4)))))],[],none,[2,3,4,5],5,[],[],[]⟩]) (.cond (.sl 20) (.seq (.reg [⟨[(23,.lits 1 (.cons (.sl 2) .nil))],[],[],some (some 24,.app 1 (.sl 3) (.sl 23)),[],4,[],[],[]⟩,⟨[],[(8,(.sl 24))],[],none,[],1,[],[],[]⟩]) (.seq (.tidy 0 [8]) .ret)) .skip)) (.seq (.seq (.reg [⟨[],[(9,(.int .i64 0))],[],none,[2,3,4,5],1,[],[],[]⟩]) (.block 0 (.seq (.tidy 0 [2,3,4,5,9]) (.loop (.seq (.tidy 0 [2,3,4,5,9]) f975_L0))))) (.seq (.reg [⟨[],[(8,(.sl 3))],[],none,[],2,[],[],[]⟩]) (.seq (.tidy 0 [8]) .ret)))))), [(.sl 8)],true⟩
theorem z6j:q0o Go.Proofs.Tryz.prog 75 0 4 f975=true:=by kernel_rfl
def K87(K:Cx)(a b:Lat):Prop:=∀(row:List Nat)(v:Nat),row.length<a.sz→v<b.sz→(∀ u∈row,u<b.sz)→K.call 87 [rV a,rV b,rowV row,iN v]=some (.bool (fitB a b row v),[])
def q1W(F:List Nat→List (List Nat)→List (List Nat))(fit:Nat→Bool)(row:List Nat):Nat→Nat→List (List Nat)→List (List Nat)
  |0,_,found=>found
  |m+1,v,found=>q1W F fit row m (v+1) (if fit v then F (row++[v]) found else found)
def q03(a b:Lat):Nat→List Nat→List (List Nat)→List (List Nat)
  |0,row,found=>if 40<found.length then found else found++[row]
  |k+1,row,found=>if 40<found.length then found else q1W (q03 a b k) (fitB a b row) row b.sz 0 found
def q1H(found:List (List Nat)):V:=if found=[] then .fs false 1 [] else .bsl 0 0 found.length
def q1I(found:List (List Nat)):List Blk:=if found=[] then [] else [resB found]
def RowW(rv:V)(row:List Nat):Prop:=(rv=rowV row∧row≠[])∨(row=[]∧rv=.fs false 1 [])
@[reducible] def mvC:Bool→List Nat
  |true=>[0]
  |false=>[]
def E75(K:Cx)(a b:Lat)(k:Nat):Prop:=∀(row:List Nat)(rv:V)(found:List (List Nat)),RowW rv row→row.length+k=a.sz→(∀ u∈row,u<b.sz)→found.length≤41→
  K.eff 75 [rV a,rV b,rv,q1H found] (q1I found)=some (q1H (q03 a b k row found),q1I (q03 a b k row found),if found=[] then [] else mvC (chg found (q03 a b k row found)))
theorem z9y(K:Cx)(a b:Lat)(row:List Nat)(hz:row.length=a.sz)(h1:a.sz≤1000)(found:List (List Nat))(hf:found.length≤40) :
    q0c K f75 [rV a,rV b,rowV row,.bsl 0 0 found.length] [resB found]=some (.bsl 0 0 (found.length+1),[resB (found++[row])],[0]):=by
  have e:decide ((40:Int)<(found.length:Int))=false:=decide_eq_false (by omega)
  simp only[resB,rowD,List.map_append,List.map_cons,List.map_nil,rC,rV,iN,rowV,hz]
  unfold f75
  simp(disch:=first|decide|omega|(simp only[LN];first|done|omega)) only[SV,SW,Nat.reduceAdd,Nat.reduceBEq,hz,lose,V.forget,V.drop1,V.ref0,q1M,q0b,hNew,V.newR,q0a]
theorem z9x(K:Cx)(a b:Lat)(row:List Nat)(hz:row.length=a.sz)(h1:a.sz≤1000) :
    q0c K f975 [rV a,rV b,rowV row,.fs false 1 []] []=some (.bsl 0 0 1,[resB [row]],[]):=by
  simp only[resB,rowD,List.map_append,List.map_cons,List.map_nil,rC,rV,iN,rowV,hz]
  unfold f975
  simp(disch:=first|decide|omega|(simp only[LN];first|done|omega)) only[SV,SW,Nat.reduceAdd,Nat.reduceBEq,hz,lose,q0b,hNew,V.forget,V.drop1,V.ref0,V.newR,q0a]
theorem z15(K:Cx)(a b:Lat)(row:List Nat)(rv:V)(hrv:RowW rv row)(found:List (List Nat))(hf:found.length=41) :
    q0c K f75 [rV a,rV b,rv,.bsl 0 0 found.length] [resB found]=some (.bsl 0 0 found.length,[resB found],[]):=by
  have e:decide ((40:Int)<(found.length:Int))=true:=decide_eq_true (by omega)
  have e':decide ((40:Int)<((41:Nat):Int))=true:=by decide
  simp only[resB,rC,rV,iN,rowV]
  unfold f75
  rcases hrv with⟨rfl,_⟩|⟨rfl,rfl⟩
  · simp(disch:=first|decide|omega|(simp only[LN];first|done|omega)) only[SV,SW,Nat.reduceAdd,Nat.reduceBEq,q1M,q0b,hNew,V.forget,V.drop1,V.ref0,V.newR,q0a]
  · simp(disch:=first|decide|omega|(simp only[LN];first|done|omega)) only[SV,SW,Nat.reduceAdd,Nat.reduceBEq,q1M,q0b,hNew,V.forget,V.drop1,V.ref0,V.newR,q0a]
theorem q4J{F:List Nat→List (List Nat)→List (List Nat)}(hF:∀ r f,f.length≤41→f.length≤(F r f).length∧(F r f).length≤41) (fit row):∀ m v found,found.length≤41→found.length≤(q1W F fit row m v found).length∧(q1W F fit row m v found).length≤41
  |0,v,found,h=>⟨Nat.le_refl _,h⟩
  |m+1,v,found,h=>by
    simp only[q1W]
    split
    · obtain⟨h1,h2⟩:=hF (row++[v]) found h
      obtain⟨g1,g2⟩:=q4J hF fit row m (v+1) _ h2
      exact⟨Nat.le_trans h1 g1,g2⟩
    · exact q4J hF fit row m (v+1) _ h
theorem q3n(a b:Lat):∀ k r f,f.length≤41→f.length≤(q03 a b k r f).length∧(q03 a b k r f).length≤41
  |0,r,f,h=>by
    simp only[q03]
    split
    · exact⟨Nat.le_refl _,h⟩
    · simp only[List.length_append,List.length_singleton];omega
  |k+1,r,f,h=>by
    simp only[q03]
    split
    · exact⟨Nat.le_refl _,h⟩
    · exact q4J (q3n a b k) _ _ _ _ _ h
theorem j1A(K:Cx)(a b:Lat)(h87:K87 K a b)(ha2:a.sz≤1000)(hb2:b.sz≤1000)(k:Nat)(E:E75 K a b k)(row:List Nat)(rv:V)(hrv:RowW rv row)(hx:row.length+(k+1)=a.sz)(hr:∀ u∈row,u<b.sz):∀(m v:Nat)(found:List (List Nat))(u:Bool),v+m=b.sz→found.length≤41→found≠[]→
    lp K 1 [2,3,4,5,9] f75_L0 ⟨[(2,rv),(3,.bsl 0 0 found.length),(4,.ptr 1 0 0),(5,.ptr 2 0 0),(9,iN v)],[(0,resB found),(1,.mix 3 [rC a]),(2,.mix 3 [rC b])],3,mvC u⟩ =
      some (.exit 0,⟨[(3,.bsl 0 0 (q1W (q03 a b k) (fitB a b row) row m v found).length)],[(0,resB (q1W (q03 a b k) (fitB a b row) row m v found))],1,mvC (u||chg found (q1W (q03 a b k) (fitB a b row) row m v found))⟩):=by
  intro m
  induction m with
  |zero=>
    intro v found u hv hf hne
    have hv:v=b.sz:=by omega
    subst hv
    have hc:chg found found=false:=by simp [chg]
    simp only[q1W,hc,Bool.or_false]
    rw[q0p f75_L0.eq_1]
    clear hr E h87
    rcases hrv with⟨rfl,_⟩|⟨rfl,rfl⟩
    · simp only[iN,rowV,resB,rC]
      cases u <;> (simp only[mvC];simp(disch:=first|decide|omega|(simp only[LN];first|done|omega)) only[SV,SW,Nat.reduceBEq,q1M])
    · simp only[iN,rowV,resB,rC]
      cases u <;> (simp only[mvC];simp(disch:=first|decide|omega|(simp only[LN];first|done|omega)) only[SV,SW,Nat.reduceBEq,q1M])
  |succ m ih=>
    intro v found u hv hf hne
    have w0:=h87 row v (by omega) (by omega) hr
    cases hfit:fitB a b row v with
    |false=>
      have ih:=ih (v+1) found u (by omega) hf hne
      simp only[q1W,hfit,Bool.false_eq_true,if_false]
      rw[←ih]
      clear ih
      rw[hfit] at w0
      rw[q0p f75_L0.eq_1]
      clear hr E h87
      rcases hrv with⟨rfl,_⟩|⟨rfl,rfl⟩
      · simp only[iN,rowV,resB,rC,rV] at w0 ⊢
        cases u <;> (simp only[mvC];simp(disch:=first|decide|omega|(simp only[LN];first|done|omega)) only[SV,SW,Nat.reduceBEq,Nat.reduceAdd,q0a,w0,q1j,q1M,reduceCtorEq,Nat.reduceEqDiff])
      · simp only[iN,rowV,resB,rC,rV,List.map_nil] at w0 ⊢
        cases u <;> (simp only[mvC];simp(disch:=first|decide|omega|(simp only[LN];first|done|omega)) only[SV,SW,Nat.reduceBEq,Nat.reduceAdd,q0a,w0,q1j,q1M,reduceCtorEq,Nat.reduceEqDiff])
    |true=>
      have w:=E (row++[v]) (rowV (row++[v])) found (.inl ⟨rfl,by simp⟩) (by simp;omega) (fun u hu=>by
        rcases List.mem_append.1 hu with h|h
        · exact hr u h
        · simp at h;omega) hf
      obtain⟨l1,l2⟩:=q3n a b k (row++[v]) found hf
      simp only[q1W,hfit,if_true]
      rw[hfit] at w0
      generalize hq:q03 a b k (row++[v]) found=f at w l1 l2 ⊢
      have hfne:f≠[]:=by
        intro h
        subst h
        have:found.length=0:=by simpa using l1
        exact hne (List.eq_nil_of_length_eq_zero this)
      have g:=q4J (q3n a b k) (fitB a b row) row m (v+1) f l2
      have hct:=q92 l1 g.1
      have ih:=ih (v+1) f (u||chg found f) (by omega) l2 hfne
      rw[Bool.or_assoc,hct] at ih
      rw[←ih]
      clear ih hct g
      simp only[q1H,q1I,if_neg hne,if_neg hfne] at w
      have e1:(row++[v]).map natD=row.map natD++[[.int .i64 (v:Int)]]:=by rw[List.map_append];rfl
      rw[q0p f75_L0.eq_1]
      clear hr E h87 hq
      rcases hrv with⟨rfl,_⟩|⟨rfl,rfl⟩
      · simp only[iN,rowV,resB,rC,rV,e1] at w w0 ⊢
        generalize chg found f=ch at w ⊢
        cases u <;> cases ch <;> (simp only[mvC,Bool.or_false,Bool.or_true,Bool.false_or,Bool.true_or] at w⊢;simp(disch:=first|decide|omega|(simp only[LN];first|done|omega)) only[SX,SW,Nat.reduceBEq,Nat.reduceAdd,q0a,w0,q1j,q1m,q3q,Int.toNat_zero,List.replicate_zero,Bool.false_or,lose,V.forget,V.drop1,V.ref0,reduceCtorEq,Nat.reduceEqDiff,forgetH,Blk.forget,mkBlk,q0q,q0i,q0y,q05,q0V,q3c,q0G,q0k,dimL,w,q0W,Nat.reduceSub,q0s,q0x,q1M])
      · simp only[iN,rowV,resB,rC,rV,e1] at w w0 ⊢
        simp only[List.map_nil,List.nil_append] at w w0 ⊢
        generalize chg found f=ch at w ⊢
        cases u <;> cases ch <;> (simp only[mvC,Bool.or_false,Bool.or_true,Bool.false_or,Bool.true_or] at w⊢;simp(disch:=first|decide|omega|(simp only[LN];first|done|omega)) only[SX,SW,Nat.reduceBEq,Nat.reduceAdd,q0a,w0,q1j,q1m,q3q,Int.toNat_zero,List.replicate_zero,q32,lose,V.forget,V.drop1,V.ref0,reduceCtorEq,Nat.reduceEqDiff,forgetH,Blk.forget,mkBlk,q0q,q0i,q0y,q05,q0V,q2U,q0G,q0k,dimL,w,q0W,Nat.reduceSub,q0s,q0x,q1M])
end Go.Vm
end
