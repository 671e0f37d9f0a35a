/-
  Parts of the proof: slices.Clone at an empty slice: an empty slice. Package types: copied. Package types: replaced, by names of variables. Package types: called. The functions of package lattice, as the machine's text. lattice: below and pointwise of an order. lattice: fill, all monotone functions behind a beginning. lattice: fill evaluated. lattice: the contracts of below, pointwise, Clone and fill. lattice.functions: its loops. lattice.functions evaluated. lattice.functions evaluated: whole. lattice.build, get: evaluated. lattice.build evaluated. A type without variables is told by its text. All monotone functions, in order: what fill finds. The functions from one order to another one are an order. A type's order; lattice.build, functions, get: contracts. lattice: has, Equal, IndexFunc, number, join evaluated. lattice: join evaluated. A round of types.Canon's loop. A round of types.Canon's loop, in its memory. types.vars hands back an iterator over a type's variables. The contract of types.Canon at types without variables. The contract of types.Canon at every type. Conditions: none.
-/
import Derived.Test.YtlabpphbiglofaaGreatDoorLatticeMapsUptoCardSaidC
import Derived.Shelf.Abstract
import Derived.Lib.SliceRun
import Derived.Laws.AppendOwn
import Derived.Lib.ItoaLen
import Derived.Lib.IndexLaws
import Derived.Lib.IndexBytes
set_option linter.unusedVariables false
set_option linter.unusedSimpArgs false

section
namespace Go.Vm
open Go.Proofs Go.RowKit
attribute [local go_sem] Oper.semAt_some
set_option maxRecDepth 100000 in
set_option maxHeartbeats 1000000 in
theorem clone66 (a:Option Addr) (cap:Nat) (w:World):Calls Tryz.prog 66 #[.slice a 0 cap] w fun e w'=>∃ a',e=.returned (.slice a' 0 0)∧Below w.heap.size w w':=by
 have q:∀ (w:World) (a:Option Addr) (n c n' c':Nat),(binOp .eql 22 (.slice a n c) (.slice none n' c')).run Tryz.prog w=.ok (.bool a.isNone) w:=fun w a n c n' c'=>Lib.run_eql_slice_nil w _ _ a n c n' c' Tryz.underlying22
 cases a with
 | none=>
  go_enter Tryz.func66,Tryz.ntmps66
  go_wp2
  go_ret
  exact ⟨_,rfl,Below.refl _ _⟩
 | some a=>
  obtain ⟨i,hi⟩:∃ i,Tryz.prog.info? 24=some i:=⟨_,rfl⟩
  have hn:(w.alloc (.cells #[] 24)).heap[w.heap.size]? = some (.cells #[] 24 (0,0)):=by
   show (w.heap.push _)[w.heap.size]? = _
   simp
  have hap:=run_append_room (P:=Tryz.prog) (w.alloc (.cells #[] 24)) 22 22 24 i Tryz.underlying22 hi w.heap.size 0 0 #[] hn a 0 cap [] (by simp) (by simp) (by simp) (Nat.le_refl 0) (by simp)
  go_enter Tryz.func66,Tryz.ntmps66
  go_wp2
  go_ret
  have hb:Below w.heap.size w (w.alloc (.cells #[] 24)):=(Below.refl _ _).alloc (Nat.le_refl _) _
  exact ⟨⟨_,rfl⟩,hb⟩
set_option maxRecDepth 100000 in
set_option maxHeartbeats 1000000 in
theorem clone83 (a:Option Addr) (cap:Nat) (w:World):Calls Tryz.prog 83 #[.slice a 0 cap] w fun e w'=>∃ a',e=.returned (.slice a' 0 0)∧Below w.heap.size w w':=by
 have q:∀ (w:World) (a:Option Addr) (n c n' c':Nat),(binOp .eql 35 (.slice a n c) (.slice none n' c')).run Tryz.prog w=.ok (.bool a.isNone) w:=fun w a n c n' c'=>Lib.run_eql_slice_nil w _ _ a n c n' c' Tryz.underlying35
 cases a with
 | none=>
  go_enter Tryz.func83,Tryz.ntmps83
  go_wp2
  go_ret
  exact ⟨_,rfl,Below.refl _ _⟩
 | some a=>
  obtain ⟨i,hi⟩:∃ i,Tryz.prog.info? 3=some i:=⟨_,rfl⟩
  have hn:(w.alloc (.cells #[] 3)).heap[w.heap.size]? = some (.cells #[] 3 (0,0)):=by
   show (w.heap.push _)[w.heap.size]? = _
   simp
  have hap:=run_append_room (P:=Tryz.prog) (w.alloc (.cells #[] 3)) 35 35 3 i Tryz.underlying35 hi w.heap.size 0 0 #[] hn a 0 cap [] (by simp) (by simp) (by simp) (Nat.le_refl 0) (by simp)
  go_enter Tryz.func83,Tryz.ntmps83
  go_wp2
  go_ret
  have hb:Below w.heap.size w (w.alloc (.cells #[] 3)):=(Below.refl _ _).alloc (Nat.le_refl _) _
  exact ⟨⟨_,rfl⟩,hb⟩
theorem pure_clone66 {G:Nat→Option (List D)} {c:Bool}:PureCall Tryz.prog G 66 [.d c (.sl 3 [])] (.fs true 3 []) []:=by
 intro w F vals hF hG hR
 obtain ⟨l⟩:=vals
 obtain ⟨hsz,hr⟩:=hR
 match l,hsz with
 | [v],_=>
  have hv:=hr 0 v _ rfl rfl
  obtain ⟨a,cap,rfl⟩:∃ a cap,v=.slice a 0 cap:=by
   cases hv with
   | d _ _ _ h=>
    cases h with
    | sl0 a cap k h=>exact ⟨a,cap,rfl⟩
    | sl b o len cap k rows g h1=>exact ⟨_,cap,by rw [← h1];rfl⟩
  refine (clone66 a cap w).mono ?_
  rintro e w' ⟨a',rfl,hb⟩
  exact ⟨_,F,fun _=>none,rfl,hb,fun b h=>.inl h,.fs _ _ _ _ _ (.sl0 _ _ _ (fun _=>rfl)),⟨fun b blk h=>by simp [indexed,look] at h,fun b b' l l' h=>(by cases h),fun b l h=>(by cases h),fun b h=>Nat.lt_of_lt_of_le (hF b h) hb.size⟩⟩
theorem pure_clone83 {G:Nat→Option (List D)} {c:Bool}:PureCall Tryz.prog G 83 [.d c (.sl 1 [])] (.fs true 1 []) []:=by
 intro w F vals hF hG hR
 obtain ⟨l⟩:=vals
 obtain ⟨hsz,hr⟩:=hR
 match l,hsz with
 | [v],_=>
  have hv:=hr 0 v _ rfl rfl
  obtain ⟨a,cap,rfl⟩:∃ a cap,v=.slice a 0 cap:=by
   cases hv with
   | d _ _ _ h=>
    cases h with
    | sl0 a cap k h=>exact ⟨a,cap,rfl⟩
    | sl b o len cap k rows g h1=>exact ⟨_,cap,by rw [← h1];rfl⟩
  refine (clone83 a cap w).mono ?_
  rintro e w' ⟨a',rfl,hb⟩
  exact ⟨_,F,fun _=>none,rfl,hb,fun b h=>.inl h,.fs _ _ _ _ _ (.sl0 _ _ _ (fun _=>rfl)),⟨fun b blk h=>by simp [indexed,look] at h,fun b b' l l' h=>(by cases h),fun b l h=>(by cases h),fun b h=>Nat.lt_of_lt_of_le (hF b h) hb.size⟩⟩
end Go.Vm
end

section
namespace Go.Vm
set_option maxRecDepth 100000
open Go.Proofs Go.RowKit
/- 'sloth/types.copied' -/
def f65_L0:C:=
 (.seq
  (.reg [⟨[],[(12,(.bin .lss (.sl 11) (.sl 10)))],[],none,[1,2,10,11],1,[],[],[]⟩])
  (.seq
   (.cond (.sl 12)
    .skip
    (.seq
     (.tidy 0 [1,2])
     (.exit 0)))
   (.seq
    (.block 1
     (.seq
      (.reg [⟨[],[(3,(.sl 11))],[],none,[1,2,10,11],2,[],[],[]⟩])
      (.reg [⟨[],[],[],some (none,.store 3 (.ia 3 (.ld 1 false (.fa 2 (.sl 1))) (.sl 3)) (.call 65 (.cons (.ld 3 true (.ia 3 (.ld 1 false (.fa 2 (.sl 1))) (.sl 3))) .nil))),[1,2,10,11],11,[[],[0],[],[],[3],[],[5,3,4],[4,3,5,6],[6,5,3,4,7],[8,7,6,5,4,3,2,0,1],[1,0,2,3,4,5,6,7,8,9]],[],[]⟩])))
    (.reg [⟨[],[(11,(.bin .add (.sl 11) (.int .i64 1)))],[],none,[1,2,10],2,[],[],[]⟩]))))
def f65:Fun:=⟨
 (.seq
  (.reg [⟨[(1,.box (.sl 0)),(2,.box (.agg (.cons (.int .i64 0) (.cons (.str []) (.cons (.nilsl 3) .nil)))))],[],[],none,[1,2],2,[],[],[]⟩])
  (.seq
   (.reg [⟨[(6,.callo 66 (.cons (.ld 1 false (.fa 2 (.sl 1))) .nil))],[],[],some (none,.store 1 (.fa 2 (.sl 1)) (.sl 6)),[1,2],5,[],[],[]⟩])
   (.seq
    (.seq
     (.reg [⟨[],[(10,(.len false (.ld 1 false (.fa 2 (.sl 1))))),(11,(.int .i64 0))],[],none,[1,2],4,[],[],[]⟩])
     (.block 0
      (.seq (.tidy 0 [1,2,10,11]) (.loop (.seq (.tidy 0 [1,2,10,11]) f65_L0)))))
    (.seq
     (.reg [⟨[],[],[],some (none,.store 3 (.sl 2) (.ld 3 true (.sl 1))),[2],2,[],[],[]⟩])
     (.seq
      (.tidy 0 [2])
      .ret))))),
 [(.ld 3 true (.sl 2))],false⟩
theorem f65_ok:funOk Go.Proofs.Tryz.prog 65 0 1 f65=true:=by kernel_rfl
/- 'slices.Clone[[]sloth/api.Type,sloth/api.Type]' -/
def f66:Fun:=⟨
 (.seq
  (.reg [⟨[],[],[(.nilsl 3)],none,[0],1,[],[],[]⟩])
  (.seq
   (.seq
    (.reg [⟨[],[(4,(.eqs false false [3] (.sl 0) (.nilsl 3)))],[],none,[0],2,[],[],[]⟩])
    (.cond (.sl 4)
     (.seq
      (.reg [⟨[],[(2,(.nilsl 3))],[],none,[],1,[],[],[]⟩])
      (.seq
       (.tidy 0 [2])
       .ret))
     .skip))
   (.seq
    (.reg [⟨[(5,.lits 3 .nil)],[],[],some (some 7,.app 3 (.sl 5) (.sl 0)),[],3,[],[],[]⟩,⟨[],[(2,(.sl 7))],[],none,[],1,[],[],[]⟩])
    (.seq
     (.tidy 0 [2])
     .ret)))),
 [(.sl 2)],true⟩
theorem f66_ok:funOk Go.Proofs.Tryz.prog 66 0 1 f66=true:=by kernel_rfl
theorem set_same {α:Type}:∀ (l:List α) (k:Nat) (x:α),l[k]? = some x→l.set k x=l
  | [],k,x,h=>by simp at h
  | a :: l,0,x,h=>by simp at h;subst h;rfl
  | a :: l,k+1,x,h=>by simp only [List.getElem?_cons_succ] at h;rw [List.set_cons_succ,set_same l k x h]
theorem nth_memT {α:Type} [Inhabited α] {l:List α} {x:Nat} (h:x < l.length):nth l (x:Int)∈l:=by
  rw [← nth_getElem (n:=(x:Int)) (by simpa using h)];exact List.getElem_mem _
def tyR:Ty→V
  | .mk k n l=>.agg [.d false (.int .i64 k),.d false (.str n),match l with
    | []=>.fs true 3 []
    | _ :: _=>.d false (.sl 3 (dL l))]
def K66 (K:Cx):Prop:=(∀ l:List Ty,l≠[]→l.length≤most→K.call 66 [tlV l]=some (.bsl 0 0 l.length,[.dat false 3 (l.map Ty.d)]))∧K.call 66 [tlV []]=some (.fs true 3 [],[])
def K65 (K:Cx) (t:Ty):Prop:=K.call 65 [tyW t]=some (tyR t,[])
theorem ev_clone66 (K:Cx) (l:List Ty) (h0:l≠[]) (h1:l.length≤most):runFun K f66 [tlV l] []=some (.bsl 0 0 l.length,[.dat false 3 (l.map Ty.d)],[]):=by
  have hm:most=1099511627776:=rfl
  have hni:(V.d false (.sl 3 (l.map Ty.d))).isNilS=some false:=by
    cases l with
    | nil=>exact absurd rfl h0
    | cons x r=>rfl
  have hfl:flatRows (l.map Ty.d)=false:=by
    cases l with
    | nil=>exact absurd rfl h0
    | cons x r=>
      obtain ⟨k,n,ls⟩:=x
      simp [flatRows,Ty.d,D.flat]
  unfold f66
  simp only [tlV]
  simp (disch:=first | decide | omega | (simp only [LN];omega) | (simp only [LN];done) | fail) only [SV,SW,evEqs,cellsEq,cellEq,hni,Nat.reduceBEq,hfl,lose,V.forget,V.drop1,V.ref0,oneOr,hNew,V.newR,viewD]
theorem set_ty (l:List Ty) (i:Nat) (k:Int) (n:BY) (ls:List Ty) (v:V) (hi:i < l.length) (hx:nth l (i:Int)=.mk k n ls) (hv:asD v=some (.sl 3 (dL ls))):(Blk.dat false 3 (l.map Ty.d)).set i 0 [.d false (.int .i64 k),.d false (.str n),v]=some (.dat false 3 (l.map Ty.d)):=by
  rw [set_datm (hi:=hi)]
  have hxi:l[i]? = some (.mk k n ls):=by
    have:=nth_get? (l:=l) (n:=(i:Int)) (by simpa using hi)
    rw [hx] at this
    simpa using this
  have hs:(l.map Ty.d).set i [.int .i64 k,.str n,.sl 3 (dL ls)]=l.map Ty.d:=set_same _ _ _ (by rw [List.getElem?_map,hxi];rfl)
  have hmm:mapO asD [.d false (.int .i64 k),.d false (.str n),v]=some [.int .i64 k,.str n,.sl 3 (dL ls)]:=by
    simp only [mapO]
    rw [hv]
    rfl
  rw [hx,hmm]
  simp [setD,splice,hs,Ty.d]
def tlR:List Ty→V
  | []=>.fs true 3 []
  | t :: r=>.d false (.sl 3 (dL (t :: r)))
theorem tyR_eq (k n l):tyR (.mk k n l)=.agg [.d false (.int .i64 k),.d false (.str n),tlR l]:=by cases l <;> rfl
theorem tlR_as (l:List Ty):asD (tlR l)=some (.sl 3 (dL l)):=by cases l <;> rfl
theorem tlR_cell (l:List Ty):(tlR l).cell=true∧(tlR l).laid=true∧(tlR l).cells=[tlR l]:=by cases l <;> exact ⟨rfl,rfl,rfl⟩
theorem cp_loop (K:Cx) (l:List Ty) (hl:l.length≤most) (hg:∀ t∈l,K65 K t) (k:Int) (n:BY):∀ (m j:Nat),j+m=l.length→
    lp K 0 [1,2,10,11] f65_L0 ⟨[(1,.ptr 0 0 0),(2,.ptr 1 0 0),(10,.d false (.int .i64 l.length)),(11,.d false (.int .i64 j))],[(0,.mix 3 [[.d false (.int .i64 k),.d false (.str n),.bsl 2 0 l.length]]),(1,.mix 3 [[.d false (.int .i64 0),.d false (.str []),.fs true 3 []]]),(2,.dat false 3 (l.map Ty.d))],3,[]⟩ =
      some (.exit 0,⟨[(1,.ptr 0 0 0),(2,.ptr 1 0 0)],[(0,.mix 3 [[.d false (.int .i64 k),.d false (.str n),.bsl 2 0 l.length]]),(1,.mix 3 [[.d false (.int .i64 0),.d false (.str []),.fs true 3 []]]),(2,.dat false 3 (l.map Ty.d))],3,[]⟩):=by
  have hm:most=1099511627776:=rfl
  intro m
  induction m with
  | zero=>
    intro j hj
    obtain rfl:j=l.length:=by omega
    rw [lp_un f65_L0.eq_1]
    clear hg
    simp (disch:=first | decide | omega | (simp only [LN];omega) | (simp only [LN];done) | fail) only [SV,SW,Nat.reduceBEq,reduceCtorEq,Nat.reduceEqDiff,Nat.reduceAdd]
  | succ m ih=>
    intro j hj
    have ih:=ih (j+1) (by omega)
    have hmem:=nth_memT (l:=l) (x:=j) (by omega)
    have w:=hg _ hmem
    rw [lp_un f65_L0.eq_1]
    rw [← ih]
    clear ih hg
    have hset:=fun ls v k n h1 h2=>set_ty l j k n ls v (by omega) h1 h2
    generalize hx:nth l (j:Int)=x at *
    obtain ⟨k',n',ls⟩:=x
    have hset:=hset ls (tlR ls) k' n' rfl (tlR_as ls)
    obtain ⟨q1,q2,q3⟩:=tlR_cell ls
    unfold K65 at w
    rw [tyR_eq] at w
    simp only [tyW] at w
    generalize tlR ls=tv at *
    simp (disch:=first | decide | omega | (simp only [LN];omega) | (simp only [LN];done) | fail) only [SV,SW,Nat.reduceBEq,hx,Ty.d,Nat.reduceAdd,viewD,w,hset,lose,cast1',reduceCtorEq,Nat.reduceEqDiff]
theorem cp_loop0 (K:Cx) (k:Int) (n:BY) :
    lp K 0 [1,2,10,11] f65_L0 ⟨[(1,.ptr 0 0 0),(2,.ptr 1 0 0),(10,.d false (.int .i64 ((0:Nat):Int))),(11,.d false (.int .i64 0))],[(0,.mix 3 [[.d false (.int .i64 k),.d false (.str n),.fs true 3 []]]),(1,.mix 3 [[.d false (.int .i64 0),.d false (.str []),.fs true 3 []]])],2,[]⟩ =
      some (.exit 0,⟨[(1,.ptr 0 0 0),(2,.ptr 1 0 0)],[(0,.mix 3 [[.d false (.int .i64 k),.d false (.str n),.fs true 3 []]]),(1,.mix 3 [[.d false (.int .i64 0),.d false (.str []),.fs true 3 []]])],2,[]⟩):=by
  rw [lp_un f65_L0.eq_1]
  simp (disch:=first | decide | omega | (simp only [LN];omega) | (simp only [LN];done) | fail) only [SV,SW,Nat.reduceBEq,reduceCtorEq,Nat.reduceAdd]
theorem ev_copied (K:Cx) (h66:K66 K) (k:Int) (n:BY) (l:List Ty) (hl:l.length≤most) (hg:∀ t∈l,K65 K t):runFun K f65 [tyW (.mk k n l)] []=some (tyR (.mk k n l),[],[]):=by
  have hm:most=1099511627776:=rfl
  cases l with
  | nil=>
    have w:=h66.2
    have wl:=cp_loop0 K k n
    clear hg
    unfold f65
    simp only [tyW,tyR,tlV,dL,List.map_nil] at w ⊢
    simp (disch:=first | decide | omega | (simp only [LN];omega) | (simp only [LN];done) | fail) only [SV,SW,Nat.reduceAdd,Nat.reduceBEq,viewD,w,V.new2,V.newR,V.shift,lose,reduceCtorEq,wl,oneOr]
  | cons x r=>
    have w:=h66.1 (x :: r) (by simp) hl
    have wl:=cp_loop K (x :: r) hl hg k n (x :: r).length 0 (by omega)
    clear hg
    unfold f65
    simp only [tyW,tyR,tlV,dL_map,Int.natCast_zero,Int.ofNat_zero] at w wl ⊢
    generalize hL:(x :: r).map Ty.d=L at *
    have hlen:L.length=(x :: r).length:=by rw [← hL];simp
    generalize hN:(x :: r).length=N at *
    have hnew:hNew [(0,Blk.mix 3 [[V.d false (.int .i64 k),V.d false (.str n),V.bsl 1 0 N]]),(1,Blk.dat false 3 L)]=false:=by simp [hNew]
    have vd:∀ (m:Nat) (H:List (Nat×Blk)) (b:Nat),look H b=some (.dat false 3 L)→viewD (m+1) H (.bsl b 0 N)=some (.sl 3 L):=fun m H b hb=>by
      simp only [viewD,hb]
      rw [if_pos (by omega)]
      simp [← hlen]
    simp (disch:=first | decide | omega | (simp only [LN];omega) | (simp only [LN];done) | fail) only [SV,SW,Nat.reduceAdd,Nat.reduceBEq,viewD,w,V.new2,V.newR,V.shift,lose,reduceCtorEq,Nat.reduceEqDiff,wl,oneOr,hNew,V.forget,V.drop1,V.ref0]
noncomputable def z66:Sp where
  α:=List Ty
  f:=66
  ok:=fun l=>l.length≤most
  args:=fun l=>[tlV l]
  res:=fun l=>if l=[] then (.fs true 3 [],[]) else (.bsl 0 0 l.length,[.dat false 3 (l.map Ty.d)])
  inj:=by
    intro a b _ _ h
    simp only [List.cons.injEq,and_true] at h
    rw [tlV_inj a b h]
section
variable {G:Nat→Option (List D)}
theorem z66h:z66.Holds Tryz.prog G:=by
  intro l hl
  refine ⟨by kernel_rfl,?_⟩
  simp only [z66]
  split
  · rename_i h
    subst h
    exact pure_clone66
  · rename_i h
    exact (pure_sound mixedZ (Known.nil (G:=G)).sound f66_ok (ev_clone66 _ l h hl)).2
theorem k66_of {L:List Sp} {E:List Se} (h:∀ l,l.length≤most→(cx G L E).call 66 [tlV l]=some (z66.res l)):K66 (cx G L E):=⟨fun l h0 h1=>by
    have:=h l h1
    simp only [z66,if_neg h0] at this
    exact this,by
    have:=h [] (by simp)
    simp only [z66,if_true] at this
    exact this⟩
theorem z65h:∀ n,(zT 65 n tyR).Holds Tryz.prog G
  | 0=>fun t ⟨_,h⟩=>absurd h (Nat.not_lt_zero _)
  | n+1=>by
    refine holds_of mixedZ ((Known.nil (G:=G)).put (z65h n) |>.put z66h).sound (g:=f65) (fun _ _=>f65_ok) ?_
    rintro ⟨k,nm,l⟩ ⟨⟨f1,f2⟩,hs⟩
    refine ⟨_,ev_copied _ ?_ k nm l f1 ?_⟩
    · exact k66_of fun l h=>cx1 z66 l h
    · exact fun t ht=>cx2 (zT 65 n tyR) (show (66:Nat)≠65 by decide) t ⟨fitL_mem l t f2 ht,sz_args hs t ht⟩
end
end Go.Vm
end

section
namespace Go.Vm
set_option maxRecDepth 100000
open Go.Proofs Go.RowKit
def byF:List (BY×BY)→BY→Option BY
  | [],_=>none
  | (m,s) :: r,n=>if n=m then some s else byF r n
def vU (s:BY):V:=.agg [.d false (.int .i64 2),.d false (.str s),.fs false 3 []]
def byE (bs:List (BY×BY)):List (D×V):=bs.map fun q=>(.str q.1,vU q.2)
theorem findE_by (n:BY):∀ bs:List (BY×BY),findE 2 (.str n) (byE bs)=some ((byF bs n).map vU)
  | []=>rfl
  | (m,s) :: r=>by
    have ih:=findE_by n r
    simp only [byE,List.map_cons,findE,keyEq,byF] at ih ⊢
    by_cases h:n=m
    · simp [h]
    · simp only [h,decide_false,if_false]
      exact ih
theorem by_refs (bs:List (BY×BY)):(byE bs).flatMap (fun q=>q.2.refs)=[]:=by
  induction bs with
  | nil=>rfl
  | cons q l ih=>
    simp only [byE,List.map_cons,List.flatMap_cons] at ih ⊢
    rw [ih]
    rfl
theorem by_within (bs:List (BY×BY)) (p:Nat→Bool):(byE bs).all (fun q=>q.2.within p)=true:=by
  simp only [byE,List.all_map,List.all_eq_true]
  intro q _
  rfl
theorem by_ren (bs:List (BY×BY)) (g:Nat→Nat):(byE bs).map (fun q=>(q.1,q.2.ren g))=byE bs:=by
  simp only [byE,List.map_map]
  exact List.map_congr_left fun q _=>rfl
theorem by_dim (bs:List (BY×BY)):(byE bs).map (fun q=>(q.1,q.2.dim))=byE bs:=by
  simp only [byE,List.map_map]
  exact List.map_congr_left fun q _=>rfl
theorem forget_dat (p c k rows):Blk.forget p (.dat c k rows)=.dat c k rows:=rfl
theorem forget_mix (p k rows):Blk.forget p (.mix k rows)=.mix k (rows.map (·.map (V.drop1 p))):=rfl
theorem by_fin (z bs' H) (l:List (BY×BY)):mapO (fun q:D×V=>(finA z bs' H q.2).map fun v=>(q.1,v)) (byE l)=some (byE l):=by
  induction l with
  | nil=>rfl
  | cons q l ih=>
    have h1:finA z bs' H (vU q.2)=some (vU q.2):=rfl
    simp only [byE,List.map_cons,mapO,h1,Option.map_some] at ih ⊢
    rw [ih]
def fbA (z:Bool) (bs:List Nat) (H:List (Nat×Blk)):Option Blk→Option Blk
  | some (.dat c k rows)=>some (.dat c k rows)
  | some (.mix k rows)=>(mapO (mapO (finC z bs H)) rows).map (.mix k)
  | some (.map es)=>(mapO (fun q=>(finA z bs H q.2).map fun v=>(q.1,v)) es).map .map
  | none=>none
theorem finB_eq (z bs H b):finB z bs H b=fbA z bs H (look H b):=by
  unfold finB fbA
  cases look H b with
  | none=>rfl
  | some k=>cases k <;> rfl
theorem fbA_by (z bs' H l):fbA z bs' H (some (.map (byE l)))=some (.map (byE l)):=by
  show (mapO _ (byE l)).map Blk.map=_
  rw [by_fin]
  rfl
mutual
def Ty.sub (bs:List (BY×BY)):Ty→Ty
  | .mk k n l=>if k=2 then (match byF bs n with
    | some s=>.mk 2 s []
    | none=>.mk k n (subL bs l)) else .mk k n (subL bs l)
def subL (bs:List (BY×BY)):List Ty→List Ty
  | []=>[]
  | t :: r=>t.sub bs :: subL bs r
end
theorem subL_map (bs):∀ l:List Ty,subL bs l=l.map (Ty.sub bs)
  | []=>rfl
  | t :: r=>by rw [subL,subL_map bs r];rfl
def E50 (K:Cx) (bs:List (BY×BY)) (t:Ty):Prop:=K.eff 50 [tyW t,.map 0] [.map (byE bs)]=some (tyR (t.sub bs),[.map (byE bs)],[])
/- 'sloth/types.replaced' -/
def f50_L0:C:=
 (.seq
  (.reg [⟨[],[(29,(.bin .lss (.sl 28) (.sl 27)))],[],none,[1,2,4,27,28],1,[],[],[]⟩])
  (.seq
   (.cond (.sl 29)
    .skip
    (.seq
     (.tidy 1 [2,4])
     (.exit 0)))
   (.seq
    (.block 1
     (.seq
      (.reg [⟨[],[(7,(.sl 28))],[],none,[1,2,4,27,28],2,[],[],[]⟩])
      (.reg [⟨[],[(32,(.ld 1 false (.fa 2 (.sl 2)))),(33,(.sl 7))],[],some (some 40,.calle 50 (.cons (.ld 3 true (.ia 3 (.ld 1 false (.fa 2 (.sl 2))) (.sl 7))) (.cons (.sl 1) .nil))),[1,2,4,27,28],10,[[],[0],[],[],[3],[],[5,3,4],[4,3,5,6],[],[8,6,5,3,4,7],[9,8,7,6,5,4,3,2,0,1],[1,0,2,3,4,5,6,7,8,9,10]],[],[(.fa 2 (.sl 2)),(.ld 1 false (.fa 2 (.sl 2))),(.sl 7)]⟩,⟨[],[],[],some (none,.store 3 (.ia 3 (.sl 32) (.sl 33)) (.sl 40)),[1,2,4,27,28],2,[],[],[]⟩])))
    (.reg [⟨[],[(28,(.bin .add (.sl 28) (.int .i64 1)))],[],none,[1,2,4,27],2,[],[],[]⟩]))))
def f50:Fun:=⟨
 (.seq
  (.reg [⟨[(2,.box (.sl 0)),(4,.box (.agg (.cons (.int .i64 0) (.cons (.str []) (.cons (.nilsl 3) .nil)))))],[],[],none,[1,2,4],2,[],[],[]⟩])
  (.seq
   (.seq
    (.reg [⟨[],[(10,(.bin .eql (.ld 1 false (.fa 0 (.sl 2))) (.int .i64 2)))],[],none,[1,2,4],3,[],[],[]⟩])
    (.cond (.sl 10)
     (.seq
      (.reg [⟨[(5,.box (.agg (.cons (.int .i64 0) (.cons (.str []) (.cons (.nilsl 3) .nil)))))],[(17,(.ext 1 (.lkp true 2 (.agg (.cons (.int .i64 0) (.cons (.str []) (.cons (.nilsl 3) .nil)))) (.sl 1) (.ld 1 false (.fa 1 (.sl 2))))))],[],some (none,.store 3 (.sl 5) (.ext 0 (.lkp true 2 (.agg (.cons (.int .i64 0) (.cons (.str []) (.cons (.nilsl 3) .nil)))) (.sl 1) (.ld 1 false (.fa 1 (.sl 2)))))),[1,2,4,5],9,[],[],[]⟩,⟨[],[(6,(.sl 17))],[],none,[1,2,4,5],1,[],[],[]⟩])
      (.seq
       (.reg [⟨[],[(18,(.sl 6))],[],none,[1,2,4,5],1,[],[],[]⟩])
       (.cond (.sl 18)
        (.seq
         (.reg [⟨[],[],[],some (none,.store 3 (.sl 4) (.call 65 (.cons (.ld 3 true (.sl 5)) .nil))),[4],3,[],[],[]⟩])
         (.seq
          (.tidy 1 [4])
          .ret))
        .skip)))
     .skip))
   (.seq
    (.reg [⟨[(23,.callo 66 (.cons (.ld 1 false (.fa 2 (.sl 2))) .nil))],[],[],some (none,.store 1 (.fa 2 (.sl 2)) (.sl 23)),[1,2,4],5,[],[],[]⟩])
    (.seq
     (.seq
      (.reg [⟨[],[(27,(.len false (.ld 1 false (.fa 2 (.sl 2))))),(28,(.int .i64 0))],[],none,[1,2,4],4,[],[],[]⟩])
      (.block 0
       (.seq (.tidy 1 [1,2,4,27,28]) (.loop (.seq (.tidy 1 [1,2,4,27,28]) f50_L0)))))
     (.seq
      (.reg [⟨[],[],[],some (none,.store 3 (.sl 4) (.ld 3 true (.sl 2))),[4],2,[],[],[]⟩])
      (.seq
       (.tidy 1 [4])
       .ret)))))),
 [(.ld 3 true (.sl 4))],false⟩
theorem f50_ok:funOk Go.Proofs.Tryz.prog 50 1 2 f50=true:=by kernel_rfl
theorem ev_repV (K:Cx) (bs:List (BY×BY)) (n s:BY) (l:List Ty) (hs:byF bs n=some s) (h65:K65 K (.mk 2 s [])):runFun K f50 [tyW (.mk 2 n l),.map 0] [.map (byE bs)]=some (tyR (.mk 2 s []),[.map (byE bs)],[]):=by
  have hf:=findE_by n bs
  rw [hs] at hf
  unfold K65 at h65
  unfold f50
  simp only [tyW,tyR,dL,Option.map_some,vU] at h65 hf ⊢
  simp (disch:=first | decide | omega | (simp only [LN];omega) | (simp only [LN];done) | fail) only [runFun_eq,List.length_cons,List.length_nil,Nat.zero_add,startS,List.zipIdx_cons,Nat.reduceAdd,List.zipIdx_nil,List.map_cons,List.map_nil,indexed,exec_seq,exec_reg,evSegs_cons,evSeg_eq,evMks_cons,evMk_box,e_sl,look_cons,beq_self_eq_true,lookB_true,o1_some,mkBox,V.laid,V.cells,if_true,mksA_eq,put_cons,Nat.reduceBEq,putB_false,put_nil,e_agg,e_cons,e_int,e_str,e_nilsl,e_nil,o2_some,consV_tup,aggV_tup,evMks_nil,mksB_eq,List.append_nil,List.cons_append,List.nil_append,segL_eq,wonB_nil,evChk_nil,evLets_nil,segW_none,restrict_cons,lookB_false,resC_some,restrict_nil,addBlks,segs_nil,nrm_some,thn_nrm,evLets_cons,e_bin,e_ld,e_fa,evFa,Nat.add_zero,evLd_ptr,ldB_eq,row_mix,List.getElem?_cons_zero,ldR_eq,List.drop_zero,part_one,evBin,intBin,letC_eq,exec_cond,brn_true,e_ext,e_lkp,List.drop_succ_cons,o3_some,evLkp_map,lkB_map,hf,lkO_someT,evExt,List.getElem?_cons_succ,segW_some,evWr_store,wrStore_ptr,Bool.and_self,stA_eq,set_mix0,Nat.le_refl,splice,List.take_zero,stB_some,putB_true,segO_none,lose,loseH,Lost.ids,segs_cons,e_call,part_true,take_all,callV_tup,evCall_eq,List.any_cons,V.own,V.own1,List.any_nil,Bool.or_self,passes_eq,List.all_cons,V.new,V.new1,D.flat,Bool.or_true,List.all_nil,Bool.and_true,Bool.and_false,V.flatV,V.flat1,Bool.not_false,Bool.false_and,mapO_cons,view,viewDepth,viewD,mapO_nil,mapC_eq,Option.map_some,callA_eq,h65,callR_some,Bool.not_true,Bool.false_eq_true,if_false,exec_tidy,tidyS_a,tidyA_eq,range1,refsL,V.refs,reachB_cons,List.contains_nil,reachC_false,refsO_some,Blk.refs,by_refs,List.contains_cons,List.flatMap_cons,List.flatMap_nil,reachB_nil,tidyB_eq,List.nodup_cons,List.mem_cons,reduceCtorEq,List.not_mem_nil,or_self,not_false_eq_true,List.nodup_nil,and_self,decide_true,List.take_succ_cons,V.within,Bool.or_false,closedB,Blk.within,by_within,withinL,List.idxOf_cons,V.ren,cond_true,cond_false,Blk.ren,List.filterMap_cons,by_ren,renL,List.filterMap_nil,List.filter_cons,List.filter_nil,exec_ret,thn_ret,endF_ret,oneOr,finish,finV,finA,finC,finB_eq,fbA_by]
def segR:Seg:=⟨[],[(32,(.ld 1 false (.fa 2 (.sl 2)))),(33,(.sl 7))],[],some (some 40,.calle 50 (.cons (.ld 3 true (.ia 3 (.ld 1 false (.fa 2 (.sl 2))) (.sl 7))) (.cons (.sl 1) .nil))),[1,2,4,27,28],10,[[],[0],[],[],[3],[],[5,3,4],[4,3,5,6],[],[8,6,5,3,4,7],[9,8,7,6,5,4,3,2,0,1],[1,0,2,3,4,5,6,7,8,9,10]],[],[(.fa 2 (.sl 2)),(.ld 1 false (.fa 2 (.sl 2))),(.sl 7)]⟩
def rpH (bs:List (BY×BY)) (k:Int) (n:BY) (L:List Ty):List (Nat×Blk):=[(0,.map (byE bs)),(1,.mix 3 [[.d false (.int .i64 k),.d false (.str n),.bsl 3 0 L.length]]),(2,.mix 3 [[.d false (.int .i64 0),.d false (.str []),.fs true 3 []]]),(3,.dat false 3 (L.map Ty.d))]
mutual
theorem eqb_refl:∀ x:D,x.eqb x=true
  | .int _ _=>by simp [D.eqb]
  | .bool _=>by simp [D.eqb]
  | .str _=>by simp [D.eqb]
  | .sl _ rows=>by simp [D.eqb,dRows_refl rows]
  | .ptr cs=>by simp [D.eqb,dRow_refl cs]
  | .nilp=>rfl
  | .nilif=>rfl
  | .nilfn=>rfl
  | .nilm=>rfl
  | .nils _=>by simp [D.eqb]
  | .emps _=>by simp [D.eqb]
  | .iface _ cs=>by simp [D.eqb,dRow_refl cs]
theorem dRow_refl:∀ x:List D,dRow x x=true
  | []=>rfl
  | a :: r=>by simp [dRow,eqb_refl a,dRow_refl r]
theorem dRows_refl:∀ x:List (List D),dRows x x=true
  | []=>rfl
  | a :: r=>by simp [dRows,dRow_refl a,dRows_refl r]
end
theorem tyR_ren (t:Ty) (g:Nat→Nat):(tyR t).ren g=tyR t:=by
  obtain ⟨k,n,l⟩:=t
  cases l <;> rfl
theorem callee50 (vs):calleeOf 50 vs=some (50,vs):=rfl
theorem segR_ev (K:Cx) (bs:List (BY×BY)) (k:Int) (n:BY) (L:List Ty) (j:Nat) (hj:j < L.length) (N:V) (x:Ty) (hx:nth L (j:Int)=x) (w:E50 K bs x) :
    evSeg K ⟨[(7,.d false (.int .i64 j)),(1,.map 0),(2,.ptr 1 0 0),(4,.ptr 2 0 0),(27,N),(28,.d false (.int .i64 j))],rpH bs k n L,4,[]⟩ segR =
      some ⟨[(40,tyR (x.sub bs)),(32,.bsl 3 0 L.length),(33,.d false (.int .i64 j)),(1,.map 0),(2,.ptr 1 0 0),(4,.ptr 2 0 0),(27,N),(28,.d false (.int .i64 j))],rpH bs k n L,4,[]⟩:=by
  have hr:=tyR_ren (x.sub bs)
  unfold E50 at w
  obtain ⟨k',n',ls⟩:=x
  generalize tyR ((Ty.mk k' n' ls).sub bs)=R at *
  refine evSeg_lateC ?_ ?_
  · unfold segR rpH
    rw [evSeg0_eq]
    simp only [tyW] at w ⊢
    simp (disch:=first | decide | omega | (simp only [LN];omega) | (simp only [LN];done) | fail) only [evMks_nil,o1_some,segL_eq,wonB_nil,evChk_nil,evLets_cons,e_ld,e_fa,e_sl,look_cons,Nat.reduceBEq,lookB_false,beq_self_eq_true,lookB_true,evFa,Nat.zero_add,evLd_ptr,ldB_eq,row_mix,List.getElem?_cons_zero,ldR_eq,List.drop_succ_cons,List.drop_zero,part_one,evLets_nil,o2_some,letC_eq,segW_some,restrict_cons,resC_some,restrict_nil,List.cons_append,List.nil_append,addBlks,evWr_calle,e_cons,e_ia,evIa_bsl,iaB_dat,Int.toNat_natCast,row_datm,hx,Ty.d,List.map_cons,mkd,D.flat,if_true,Bool.false_eq_true,if_false,List.map_nil,part_true,List.length_cons,List.length_nil,Nat.reduceAdd,Nat.le_refl,take_all,e_nil,consV_tup,wrEff_tup,refsL,V.refs,List.append_nil,reachB_cons,List.contains_nil,reachC_false,refsO_some,Blk.refs,by_refs,reachB_nil,evEff_eq,List.nodup_cons,List.not_mem_nil,not_false_eq_true,List.nodup_nil,and_self,decide_true,List.all_cons,V.within,withinL,Bool.and_self,List.contains_cons,Bool.or_false,List.all_nil,closedB,Blk.within,by_within,handed,Blk.ren,Blk.dim,List.idxOf_cons,mapO_cons,Option.map_some,by_dim,by_ren,mapO_nil,mapC_eq,effA_eq,V.dim,dimL,V.ren,renL,cond_true,w,effR_eq,putAll,loseM,backB_eq,Nat.reduceSub,Nat.add_zero,Option.getD_some,put_cons,putB_true,hr,segO_some,lose,loseH,Lost.ids]
  · unfold segR rpH lateC
    simp only [tyW] at w ⊢
    simp (disch:=first | decide | omega | (simp only [LN];omega) | (simp only [LN];done) | fail) only [List.isEmpty_cons,evMks_nil,clean,cleanV,List.contains_nil,Bool.false_eq_true,if_false,List.map_cons,List.map_nil,lateH,e_cons,e_ld,e_ia,e_fa,e_sl,look_cons,Nat.reduceBEq,lookB_false,beq_self_eq_true,lookB_true,o1_some,evFa,Nat.zero_add,evLd_ptr,ldB_eq,row_mix,List.getElem?_cons_zero,ldR_eq,List.drop_succ_cons,List.drop_zero,part_one,o2_some,evIa_bsl,iaB_dat,Int.toNat_natCast,row_datm,hx,Ty.d,mkd,D.flat,if_true,part_true,List.length_cons,List.length_nil,Nat.reduceAdd,Nat.le_refl,take_all,e_nil,consV_tup,callee50,addBlks,refsL,V.refs,List.append_nil,List.nil_append,reachB_cons,reachC_false,refsO_some,Blk.refs,by_refs,reachB_nil,List.contains_cons,Bool.or_false,List.filter_cons,Bool.not_true,Bool.not_false,List.filter_nil,lateB,Bool.and_true,List.all_cons,Bool.and_self,List.all_nil,Bool.true_and,Bool.false_or]
    simp [V.eqb,V.eqb1,D.eqb]
theorem set_ty2 (L:List Ty) (i:Nat) (k:Int) (n:BY) (ls:List Ty) (v:V) (hi:i < L.length) (hv:asD v=some (.sl 3 (dL ls))):(Blk.dat false 3 (L.map Ty.d)).set i 0 [.d false (.int .i64 k),.d false (.str n),v]=some (.dat false 3 ((L.set i (.mk k n ls)).map Ty.d)):=by
  rw [set_datm (hi:=hi)]
  have hmm:mapO asD [.d false (.int .i64 k),.d false (.str n),v]=some [.int .i64 k,.str n,.sl 3 (dL ls)]:=by
    simp only [mapO]
    rw [hv]
    rfl
  rw [hmm]
  obtain ⟨k',n',l'⟩:=nth L (i:Int)
  simp [setD,splice,Ty.d,List.map_set]
def rpR (bs:List (BY×BY)):Nat→Nat→List Ty→List Ty
  | 0,_,L=>L
  | m+1,j,L=>rpR bs m (j+1) (L.set j ((nth L (j:Int)).sub bs))
theorem nth_set_ne {L:List Ty} {j i:Nat} {x:Ty} (h:j≠i):nth (L.set j x) (i:Int)=nth L (i:Int):=by
  rw [nth_nat,nth_nat,List.getD_eq_getElem?_getD,List.getD_eq_getElem?_getD,List.getElem?_set_ne h]
theorem rp_loop (K:Cx) (bs:List (BY×BY)) (k:Int) (n:BY) (N:Nat) (hN:N≤most):∀ (m j:Nat) (L:List Ty),j+m=N→L.length=N→(∀ i,j≤i→i < N→E50 K bs (nth L (i:Int)))→
    lp K 1 [1,2,4,27,28] f50_L0 ⟨[(1,.map 0),(2,.ptr 1 0 0),(4,.ptr 2 0 0),(27,.d false (.int .i64 N)),(28,.d false (.int .i64 j))],rpH bs k n L,4,[]⟩ =
      some (.exit 0,⟨[(2,.ptr 1 0 0),(4,.ptr 2 0 0)],rpH bs k n (rpR bs m j L),4,[]⟩):=by
  have hm:most=1099511627776:=rfl
  intro m
  induction m with
  | zero=>
    intro j L hj hL _
    obtain rfl:j=N:=by omega
    simp only [rpR]
    rw [lp_un f50_L0.eq_1]
    unfold rpH
    simp (disch:=first | decide | omega | (simp only [LN];omega) | (simp only [LN];done) | fail) only [exec_seq,exec_reg,evSegs_cons,evSeg_eq,evMks_nil,o1_some,segL_eq,wonB_nil,evChk_nil,evLets_cons,e_bin,e_sl,look_cons,Nat.reduceBEq,lookB_false,beq_self_eq_true,lookB_true,o2_some,evBin,intBin,ilt_F,decide_false,if_true,evLets_nil,letC_eq,segW_none,restrict_cons,resC_some,restrict_nil,List.cons_append,List.nil_append,addBlks,segs_nil,nrm_some,thn_nrm,exec_cond,brn_false,exec_tidy,tidyS_a,tidyA_eq,range1,List.map_cons,List.map_nil,refsL,V.refs,List.append_nil,reachB_cons,List.contains_nil,reachC_false,refsO_some,Blk.refs,by_refs,List.contains_cons,Bool.or_self,List.flatMap_cons,List.flatMap_nil,reachB_nil,tidyB_eq,List.nodup_cons,List.mem_cons,reduceCtorEq,List.not_mem_nil,or_self,not_false_eq_true,Nat.reduceEqDiff,List.nodup_nil,and_self,decide_true,List.take_succ_cons,List.take_zero,Bool.and_self,List.all_cons,V.within,Bool.or_false,Bool.or_true,List.all_nil,closedB,Blk.within,by_within,withinL,List.idxOf_cons,V.ren,cond_false,cond_true,Nat.zero_add,Nat.reduceAdd,Blk.ren,List.zipIdx_cons,List.zipIdx_nil,List.filterMap_cons,Option.map_some,by_ren,renL,List.filterMap_nil,List.length_cons,List.length_nil,List.filter_cons,Bool.false_eq_true,List.filter_nil,if_false,exec_exit,thn_exit,lpT_exit]
  | succ m ih=>
    intro j L hj hL hE
    have hw:=hE j (by omega) (by omega)
    have ih:=ih (j+1) (L.set j ((nth L (j:Int)).sub bs)) (by omega) (by simpa using hL) (fun i h1 h2=>by rw [nth_set_ne (by omega)];exact hE i (by omega) h2)
    have hs:=segR_ev K bs k n L j (by omega) (.d false (.int .i64 N)) _ rfl hw
    simp only [rpR]
    rw [← ih]
    clear ih hE hw
    have hset:=fun k n ls v hv=>set_ty2 L j k n ls v (by omega) hv
    generalize (nth L (j:Int)).sub bs=x at *
    obtain ⟨k',n',ls⟩:=x
    have hset:=hset k' n' ls (tlR ls) (tlR_as ls)
    obtain ⟨q1,q2,q3⟩:=tlR_cell ls
    rw [tyR_eq] at hs
    have hlen:(L.set j (Ty.mk k' n' ls)).length=L.length:=by simp
    rw [lp_un f50_L0.eq_1]
    unfold segR at hs
    unfold rpH at hs ⊢
    rw [hlen]
    generalize tlR ls=tv at *
    simp (disch:=first | decide | omega | (simp only [LN];omega) | (simp only [LN];done) | fail) only [exec_seq,exec_reg,evSegs_cons,evSeg_eq,evMks_nil,o1_some,segL_eq,wonB_nil,evChk_nil,evLets_cons,e_bin,e_sl,look_cons,Nat.reduceBEq,lookB_false,beq_self_eq_true,lookB_true,o2_some,evBin,intBin,ilt_T,decide_true,if_true,evLets_nil,letC_eq,segW_none,restrict_cons,resC_some,restrict_nil,List.cons_append,List.nil_append,addBlks,segs_nil,nrm_some,thn_nrm,exec_cond,brn_true,exec_skip,exec_block,hs,segs_cons,segW_some,evWr_store,e_ia,evIa_bsl,iaB_dat,Int.toNat_natCast,Nat.zero_add,wrStore_ptr,V.laid,V.cells,List.length_cons,List.length_nil,Nat.reduceAdd,Bool.and_self,stA_eq,hset,stB_some,put_cons,putB_false,putB_true,segO_none,lose,loseH,Lost.ids,List.append_nil,blk_nrm,e_int,cast1',wrap64,lpT_nrm,tidyS_a,tidyA_eq,range1,List.map_cons,List.map_nil,refsL,V.refs,reachB_cons,List.contains_nil,reachC_false,refsO_some,Blk.refs,by_refs,List.contains_cons,Bool.or_false,reachC_true,Bool.or_self,List.flatMap_cons,List.flatMap_nil,reachB_nil,tidyB_eq,List.nodup_cons,List.mem_cons,reduceCtorEq,List.not_mem_nil,or_self,not_false_eq_true,Nat.reduceEqDiff,List.nodup_nil,and_self,List.take_succ_cons,List.take_zero,List.all_cons,V.within,Bool.or_true,List.all_nil,closedB,Blk.within,by_within,withinL,List.idxOf_cons,V.ren,cond_false,cond_true,Blk.ren,List.zipIdx_cons,List.zipIdx_nil,List.filterMap_cons,Option.map_some,by_ren,renL,List.filterMap_nil,List.filter_cons,Bool.false_eq_true,List.filter_nil,if_false]
theorem rp_loop0 (K:Cx) (bs:List (BY×BY)) (k:Int) (n:BY) :
    lp K 1 [1,2,4,27,28] f50_L0 ⟨[(1,.map 0),(2,.ptr 1 0 0),(4,.ptr 2 0 0),(27,.d false (.int .i64 ((0:Nat):Int))),(28,.d false (.int .i64 0))],[(0,.map (byE bs)),(1,.mix 3 [[.d false (.int .i64 k),.d false (.str n),.fs true 3 []]]),(2,.mix 3 [[.d false (.int .i64 0),.d false (.str []),.fs true 3 []]])],3,[]⟩ =
      some (.exit 0,⟨[(2,.ptr 1 0 0),(4,.ptr 2 0 0)],[(0,.map (byE bs)),(1,.mix 3 [[.d false (.int .i64 k),.d false (.str n),.fs true 3 []]]),(2,.mix 3 [[.d false (.int .i64 0),.d false (.str []),.fs true 3 []]])],3,[]⟩):=by
  rw [lp_un f50_L0.eq_1]
  simp (disch:=first | decide | omega | (simp only [LN];omega) | (simp only [LN];done) | fail) only [exec_seq,exec_reg,evSegs_cons,evSeg_eq,evMks_nil,o1_some,segL_eq,wonB_nil,evChk_nil,evLets_cons,e_bin,e_sl,look_cons,Nat.reduceBEq,lookB_false,beq_self_eq_true,lookB_true,o2_some,evBin,intBin,ilt_F,decide_false,if_true,evLets_nil,letC_eq,segW_none,restrict_cons,resC_some,restrict_nil,List.cons_append,List.nil_append,addBlks,segs_nil,nrm_some,thn_nrm,exec_cond,brn_false,exec_tidy,tidyS_a,tidyA_eq,range1,List.map_cons,List.map_nil,refsL,V.refs,List.append_nil,reachB_cons,List.contains_nil,reachC_false,refsO_some,Blk.refs,by_refs,List.contains_cons,Bool.or_self,List.flatMap_cons,List.flatMap_nil,reachB_nil,tidyB_eq,List.nodup_cons,List.mem_cons,reduceCtorEq,List.not_mem_nil,or_self,not_false_eq_true,Nat.reduceEqDiff,List.nodup_nil,and_self,decide_true,List.take_succ_cons,List.take_zero,Bool.and_self,List.all_cons,V.within,Bool.or_false,Bool.or_true,List.all_nil,closedB,Blk.within,by_within,withinL,List.idxOf_cons,V.ren,cond_false,cond_true,Nat.zero_add,Nat.reduceAdd,Blk.ren,List.zipIdx_cons,List.zipIdx_nil,List.filterMap_cons,Option.map_some,by_ren,renL,List.filterMap_nil,List.length_cons,List.length_nil,List.filter_cons,Bool.false_eq_true,List.filter_nil,if_false,exec_exit,thn_exit,lpT_exit]
theorem rpR_all (bs):∀ (m j:Nat) (L:List Ty),j+m=L.length→rpR bs m j L=L.take j++(L.drop j).map (Ty.sub bs)
  | 0,j,L,h=>by
    rw [rpR,List.drop_eq_nil_of_le (by omega),List.take_of_length_le (by omega)]
    simp
  | m+1,j,L,h=>by
    have hj:j < L.length:=by omega
    have hn:=nth_getElem (l:=L) (n:=(j:Int)) (by simpa using hj)
    simp only [Int.toNat_natCast] at hn
    rw [rpR,rpR_all bs m (j+1) _ (by simp;omega),List.drop_eq_getElem_cons hj,← hn]
    rw [List.take_set,List.drop_set_of_lt (by omega)]
    have h1:List.take (j+1) L=List.take j L++[L[j]]:=List.take_succ_eq_append_getElem hj
    rw [h1]
    rw [List.set_append_right _ _ (by rw [List.length_take];omega)]
    simp [List.length_take,Nat.min_eq_left (Nat.le_of_lt hj)]
    have hd:=List.drop_eq_getElem_cons (l:=L.map (Ty.sub bs)) (i:=j) (by simpa using hj)
    rw [hd]
    simp
theorem ev_rep (K:Cx) (bs:List (BY×BY)) (h66:K66 K) (k:Int) (n:BY) (l:List Ty) (hl:l.length≤most) (hk:k≠2∨byF bs n=none) (hg:∀ t∈l,E50 K bs t):runFun K f50 [tyW (.mk k n l),.map 0] [.map (byE bs)]=some (tyR (.mk k n (subL bs l)),[.map (byE bs)],[]):=by
  have hm:most=1099511627776:=rfl
  have hf:=findE_by n bs
  cases l with
  | nil=>
    have w:=h66.2
    have wl:=rp_loop0 K bs k n
    clear hg
    simp only [subL]
    unfold f50
    simp only [tyW,tyR,tlV,dL,List.map_nil] at w ⊢
    by_cases h2:k=2
    · subst h2
      rw [hk.resolve_left (by simp),Option.map_none] at hf
      simp (disch:=first | decide | omega | (simp only [LN];omega) | (simp only [LN];done) | fail) only [runFun_eq,List.length_cons,List.length_nil,Nat.zero_add,startS,List.zipIdx_cons,Nat.reduceAdd,List.zipIdx_nil,List.map_cons,List.map_nil,indexed,exec_seq,exec_reg,evSegs_cons,evSeg_eq,evMks_cons,evMk_box,e_sl,look_cons,beq_self_eq_true,lookB_true,o1_some,mkBox,V.laid,V.cells,if_true,mksA_eq,put_cons,Nat.reduceBEq,putB_false,put_nil,e_agg,e_cons,e_int,e_str,e_nilsl,e_nil,o2_some,consV_tup,aggV_tup,evMks_nil,mksB_eq,List.append_nil,List.cons_append,List.nil_append,segL_eq,wonB_nil,evChk_nil,evLets_nil,segW_none,restrict_cons,lookB_false,resC_some,restrict_nil,addBlks,segs_nil,nrm_some,thn_nrm,evLets_cons,e_bin,e_ld,e_fa,evFa,Nat.add_zero,evLd_ptr,ldB_eq,row_mix,List.getElem?_cons_zero,ldR_eq,List.drop_zero,part_one,evBin,intBin,letC_eq,exec_cond,brn_true,e_ext,e_lkp,List.drop_succ_cons,o3_some,evLkp_map,lkB_map,hf,lkO_noneT,evExt,List.getElem?_cons_succ,segW_some,evWr_store,wrStore_ptr,Bool.and_self,stA_eq,set_mix0,Nat.le_refl,splice,List.take_zero,stB_some,putB_true,segO_none,lose,loseH,Lost.ids,segs_cons,brn_false,exec_skip,evMk_callo,mkO_tup,List.any_cons,V.own,V.own1,List.any_nil,Bool.or_self,mapO_cons,view,viewDepth,viewD,Option.map_some,mapO_nil,mapC_eq,mkOA_eq,w,mkOR_some,List.all_nil,Bool.not_false,V.new2,V.newR,V.new1,V.shift,V.cell,List.take_succ_cons,e_len,evLen,exec_block,exec_tidy,tidyS_a,tidyA_eq,range1,refsL,V.refs,reachB_cons,List.contains_nil,reachC_false,refsO_some,Blk.refs,by_refs,List.contains_cons,Bool.or_false,reachC_true,List.flatMap_cons,List.flatMap_nil,reachB_nil,tidyB_eq,List.nodup_cons,List.mem_cons,reduceCtorEq,List.not_mem_nil,or_self,not_false_eq_true,Nat.reduceEqDiff,List.nodup_nil,and_self,decide_true,List.all_cons,V.within,Bool.or_true,closedB,Blk.within,by_within,withinL,List.idxOf_cons,V.ren,cond_false,cond_true,Blk.ren,List.filterMap_cons,by_ren,renL,List.filterMap_nil,List.filter_cons,Bool.false_eq_true,List.filter_nil,if_false,exec_loop,wl,blk_exit,part_true,take_all,exec_ret,endF_ret,oneOr,finish,finV,finA,finC,finB_eq,fbA_by]
    · have e2:(k == 2)=false:=by simpa using h2
      simp (disch:=first | decide | omega | (simp only [LN];omega) | (simp only [LN];done) | fail) only [runFun_eq,List.length_cons,List.length_nil,Nat.zero_add,startS,List.zipIdx_cons,Nat.reduceAdd,List.zipIdx_nil,List.map_cons,List.map_nil,indexed,exec_seq,exec_reg,evSegs_cons,evSeg_eq,evMks_cons,evMk_box,e_sl,look_cons,beq_self_eq_true,lookB_true,o1_some,mkBox,V.laid,V.cells,if_true,mksA_eq,put_cons,Nat.reduceBEq,putB_false,put_nil,e_agg,e_cons,e_int,e_str,e_nilsl,e_nil,o2_some,consV_tup,aggV_tup,evMks_nil,mksB_eq,List.append_nil,List.cons_append,List.nil_append,segL_eq,wonB_nil,evChk_nil,evLets_nil,segW_none,restrict_cons,lookB_false,resC_some,restrict_nil,addBlks,segs_nil,nrm_some,thn_nrm,evLets_cons,e_bin,e_ld,e_fa,evFa,Nat.add_zero,evLd_ptr,ldB_eq,row_mix,List.getElem?_cons_zero,ldR_eq,List.drop_zero,part_one,evBin,intBin,e2,letC_eq,exec_cond,brn_false,exec_skip,evMk_callo,List.drop_succ_cons,mkO_tup,List.any_cons,V.own,V.own1,List.any_nil,Bool.or_self,mapO_cons,view,viewDepth,viewD,Option.map_some,mapO_nil,mapC_eq,mkOA_eq,w,mkOR_some,List.all_nil,Bool.not_false,V.new2,V.newR,V.new1,Bool.and_self,V.shift,segW_some,evWr_store,wrStore_ptr,V.cell,stA_eq,set_mix0,Nat.le_refl,splice,List.take_succ_cons,List.take_zero,stB_some,putB_true,segO_none,lose,loseH,Lost.ids,e_len,evLen,exec_block,exec_tidy,tidyS_a,tidyA_eq,range1,refsL,V.refs,reachB_cons,List.contains_nil,reachC_false,refsO_some,Blk.refs,by_refs,List.contains_cons,Bool.or_false,reachC_true,List.flatMap_cons,List.flatMap_nil,reachB_nil,tidyB_eq,List.nodup_cons,List.mem_cons,reduceCtorEq,List.not_mem_nil,or_self,not_false_eq_true,Nat.reduceEqDiff,List.nodup_nil,and_self,decide_true,List.all_cons,V.within,Bool.or_true,closedB,Blk.within,by_within,withinL,List.idxOf_cons,V.ren,cond_false,cond_true,Blk.ren,List.filterMap_cons,by_ren,renL,List.filterMap_nil,List.filter_cons,Bool.false_eq_true,List.filter_nil,if_false,exec_loop,wl,blk_exit,part_true,take_all,exec_ret,endF_ret,oneOr,finish,finV,finA,finC,finB_eq,fbA_by]
  | cons x r=>
    have w:=h66.1 (x :: r) (by simp) hl
    have wl:=rp_loop K bs k n (x :: r).length hl (x :: r).length 0 (x :: r) (by omega) rfl (fun i _ h=>hg _ (nth_memT h))
    have hall:=rpR_all bs (x :: r).length 0 (x :: r) (by omega)
    rw [List.take_zero,List.drop_zero,List.nil_append,← subL_map] at hall
    have hlen:(subL bs (x :: r)).length=(x :: r).length:=by rw [subL_map];simp
    rw [hall] at wl
    clear hg hall
    have hr:tyR (.mk k n (subL bs (x :: r)))=.agg [.d false (.int .i64 k),.d false (.str n),.d false (.sl 3 ((subL bs (x :: r)).map Ty.d))]:=by
      rw [← dL_map]
      rfl
    rw [hr]
    generalize subL bs (x :: r)=L' at *
    unfold rpH at wl
    rw [hlen] at wl
    unfold f50
    simp only [tyW,tlV,dL_map,Int.natCast_zero,Int.ofNat_zero] at w wl ⊢
    have hlen2:(L'.map Ty.d).length=(x :: r).length:=by rw [List.length_map];exact hlen
    generalize hL:(x :: r).map Ty.d=L at *
    generalize hN:(x :: r).length=N at *
    generalize hL2:L'.map Ty.d=L2 at *
    have vd:∀ (m:Nat) (H:List (Nat×Blk)) (b:Nat),look H b=some (.dat false 3 L2)→viewD (m+1) H (.bsl b 0 N)=some (.sl 3 L2):=fun m H b hb=>by
      simp only [viewD,hb]
      rw [if_pos (by omega)]
      simp [← hlen2]
    by_cases h2:k=2
    · subst h2
      rw [hk.resolve_left (by simp),Option.map_none] at hf
      simp (disch:=first | decide | omega | (simp only [LN];omega) | (simp only [LN];done) | fail) only [runFun_eq,List.length_cons,List.length_nil,Nat.zero_add,startS,List.zipIdx_cons,Nat.reduceAdd,List.zipIdx_nil,List.map_cons,List.map_nil,indexed,exec_seq,exec_reg,evSegs_cons,evSeg_eq,evMks_cons,evMk_box,e_sl,look_cons,beq_self_eq_true,lookB_true,o1_some,mkBox,V.laid,V.cells,if_true,mksA_eq,put_cons,Nat.reduceBEq,putB_false,put_nil,e_agg,e_cons,e_int,e_str,e_nilsl,e_nil,o2_some,consV_tup,aggV_tup,evMks_nil,mksB_eq,List.append_nil,List.cons_append,List.nil_append,segL_eq,wonB_nil,evChk_nil,evLets_nil,segW_none,restrict_cons,lookB_false,resC_some,restrict_nil,addBlks,segs_nil,nrm_some,thn_nrm,evLets_cons,e_bin,e_ld,e_fa,evFa,Nat.add_zero,evLd_ptr,ldB_eq,row_mix,List.getElem?_cons_zero,ldR_eq,List.drop_zero,part_one,evBin,intBin,letC_eq,exec_cond,brn_true,e_ext,e_lkp,List.drop_succ_cons,o3_some,evLkp_map,lkB_map,hf,lkO_noneT,evExt,List.getElem?_cons_succ,segW_some,evWr_store,wrStore_ptr,Bool.and_self,stA_eq,set_mix0,Nat.le_refl,splice,List.take_zero,stB_some,putB_true,segO_none,lose,loseH,Lost.ids,segs_cons,brn_false,exec_skip,evMk_callo,mkO_tup,List.any_cons,V.own,V.own1,List.any_nil,Bool.or_self,mapO_cons,view,viewDepth,viewD,Option.map_some,mapO_nil,mapC_eq,mkOA_eq,w,mkOR_some,List.all_cons,Blk.plain,List.all_nil,Bool.not_false,V.new2,V.newR,Blk.new,Bool.and_true,Bool.and_false,Bool.or_false,V.shift,V.cell,List.take_succ_cons,e_len,evLen,exec_block,exec_tidy,tidyS_a,tidyA_eq,range1,refsL,V.refs,reachB_cons,List.contains_nil,reachC_false,refsO_some,Blk.refs,by_refs,List.contains_cons,reachC_true,List.flatMap_cons,List.flatMap_nil,reachB_nil,tidyB_eq,List.nodup_cons,List.mem_cons,reduceCtorEq,List.not_mem_nil,or_self,not_false_eq_true,Nat.reduceEqDiff,List.nodup_nil,and_self,decide_true,V.within,Bool.or_true,closedB,Blk.within,by_within,withinL,List.idxOf_cons,V.ren,cond_false,cond_true,Blk.ren,List.filterMap_cons,by_ren,renL,List.filterMap_nil,List.filter_cons,Bool.false_eq_true,List.filter_nil,if_false,exec_loop,wl,blk_exit,part_true,take_all,exec_ret,endF_ret,oneOr,finish,finV,finA,finC,hNew,restH,forgetH,Bool.not_true,forget_mix,V.drop1,forget_dat,V.new1,D.flat,nle_T,finB_eq,fbA_by]
    · have e2:(k == 2)=false:=by simpa using h2
      simp (disch:=first | decide | omega | (simp only [LN];omega) | (simp only [LN];done) | fail) only [runFun_eq,List.length_cons,List.length_nil,Nat.zero_add,startS,List.zipIdx_cons,Nat.reduceAdd,List.zipIdx_nil,List.map_cons,List.map_nil,indexed,exec_seq,exec_reg,evSegs_cons,evSeg_eq,evMks_cons,evMk_box,e_sl,look_cons,beq_self_eq_true,lookB_true,o1_some,mkBox,V.laid,V.cells,if_true,mksA_eq,put_cons,Nat.reduceBEq,putB_false,put_nil,e_agg,e_cons,e_int,e_str,e_nilsl,e_nil,o2_some,consV_tup,aggV_tup,evMks_nil,mksB_eq,List.append_nil,List.cons_append,List.nil_append,segL_eq,wonB_nil,evChk_nil,evLets_nil,segW_none,restrict_cons,lookB_false,resC_some,restrict_nil,addBlks,segs_nil,nrm_some,thn_nrm,evLets_cons,e_bin,e_ld,e_fa,evFa,Nat.add_zero,evLd_ptr,ldB_eq,row_mix,List.getElem?_cons_zero,ldR_eq,List.drop_zero,part_one,evBin,intBin,e2,letC_eq,exec_cond,brn_false,exec_skip,evMk_callo,List.drop_succ_cons,mkO_tup,List.any_cons,V.own,V.own1,List.any_nil,Bool.or_self,mapO_cons,view,viewDepth,viewD,Option.map_some,mapO_nil,mapC_eq,mkOA_eq,w,mkOR_some,List.all_cons,Blk.plain,List.all_nil,Bool.and_self,Bool.not_false,V.new2,V.newR,Blk.new,Bool.and_true,Bool.and_false,Bool.or_false,V.shift,segW_some,evWr_store,wrStore_ptr,V.cell,stA_eq,set_mix0,Nat.le_refl,splice,List.take_succ_cons,List.take_zero,stB_some,putB_true,segO_none,lose,loseH,Lost.ids,e_len,evLen,exec_block,exec_tidy,tidyS_a,tidyA_eq,range1,refsL,V.refs,reachB_cons,List.contains_nil,reachC_false,refsO_some,Blk.refs,by_refs,List.contains_cons,reachC_true,List.flatMap_cons,List.flatMap_nil,reachB_nil,tidyB_eq,List.nodup_cons,List.mem_cons,reduceCtorEq,List.not_mem_nil,or_self,not_false_eq_true,Nat.reduceEqDiff,List.nodup_nil,and_self,decide_true,V.within,Bool.or_true,closedB,Blk.within,by_within,withinL,List.idxOf_cons,V.ren,cond_false,cond_true,Blk.ren,List.filterMap_cons,by_ren,renL,List.filterMap_nil,List.filter_cons,Bool.false_eq_true,List.filter_nil,if_false,exec_loop,wl,blk_exit,part_true,take_all,exec_ret,endF_ret,oneOr,finish,finV,finA,finC,hNew,restH,forgetH,Bool.not_true,forget_mix,V.drop1,forget_dat,V.new1,D.flat,nle_T,finB_eq,fbA_by]
noncomputable def y50 (n:Nat):Se where
  α:=Ty×List (BY×BY)
  f:=50
  ok:=fun (t,_)=>t.fit∧SizeOf.sizeOf t < n
  args:=fun (t,_)=>[tyW t,.map 0]
  blks:=fun (_,bs)=>[.map (byE bs)]
  res:=fun (t,bs)=>(tyR (t.sub bs),[.map (byE bs)],[])
  inj:=by
    rintro ⟨t,b⟩ ⟨t',b'⟩ _ _ h h'
    simp only [List.cons.injEq,and_true] at h
    obtain rfl:=tyW_inj _ _ h
    simp only [List.cons.injEq,Blk.map.injEq,and_true] at h'
    have:b=b':=by
      have inj:∀ l l':List (BY×BY),byE l=byE l'→l=l':=by
        intro l
        induction l with
        | nil=>intro l' h;cases l' with
          | nil=>rfl
          | cons q l'=>simp [byE] at h
        | cons q l ih=>intro l' h;cases l' with
          | nil=>simp [byE] at h
          | cons q' l'=>
            simp only [byE,List.map_cons,List.cons.injEq,Prod.mk.injEq,D.str.injEq,vU,V.agg.injEq,V.d.injEq,true_and,and_true] at h
            obtain ⟨⟨h1,h2⟩,h3⟩:=h
            have:=ih l' h3
            obtain ⟨a,b⟩:=q
            obtain ⟨a',b'⟩:=q'
            simp only at h1 h2
            rw [h1,h2,this]
      exact inj _ _ h'
    subst this
    rfl
theorem small_fit (s:BY):(Ty.mk 2 s []).fit:=⟨by simp,trivial⟩
section
variable {G:Nat→Option (List D)}
theorem y50h:∀ n,(y50 n).Holds Tryz.prog G
  | 0=>fun ⟨t,b⟩ ⟨_,h⟩=>absurd h (Nat.not_lt_zero _)
  | n+1=>by
    rintro ⟨⟨k,nm,l⟩,bs⟩ ⟨⟨f1,f2⟩,hs⟩
    by_cases hv:k=2∧∃ s,byF bs nm=some s
    · obtain ⟨rfl,s,hs'⟩:=hv
      have:=eff_sound (g:=f50) mixedZ ((Known.nil (G:=G)).put (z65h (SizeOf.sizeOf (Ty.mk 2 s [])+1))).sound f50_ok (ev_repV (cx G [zT 65 (SizeOf.sizeOf (Ty.mk 2 s [])+1) tyR] []) bs nm s l hs' (cx1 (zT 65 (SizeOf.sizeOf (Ty.mk 2 s [])+1) tyR) (.mk 2 s []) ⟨small_fit s,Nat.lt_succ_self _⟩))
      simp only [y50,Ty.sub,if_true,hs']
      exact this
    · have hk:k≠2∨byF bs nm=none:=by
        by_cases h:k=2
        · right
          cases hb:byF bs nm with
          | none=>rfl
          | some s=>exact absurd ⟨h,s,hb⟩ hv
        · exact .inl h
      have hsub:(Ty.mk k nm l).sub bs=.mk k nm (subL bs l):=by
        rw [Ty.sub]
        split
        · rename_i h
          rw [hk.resolve_left (by simpa using h)]
        · rfl
      have:=eff_sound (g:=f50) mixedZ ((Known.nil (G:=G)).put z66h |>.putE (y50h n)).sound f50_ok (ev_rep (cx G [z66] [y50 n]) bs (k66_of fun l h=>cx1 z66 l h) k nm l f1 hk (fun t ht=>ce1 (y50 n) (t,bs) ⟨fitL_mem l t f2 ht,sz_args hs t ht⟩))
      simp only [y50,hsub]
      exact this
end
end Go.Vm
end

section
namespace Go.Vm
set_option maxRecDepth 100000
open Go.Proofs Go.RowKit Go.Shelf Go.Sort
theorem gP10:Tryz.prog.globalNamed "internal/strconv.uint64pow10" = some 0:=by kernel_rfl
theorem repD_int {w:World} {F:Nat→Prop} {v:Value} {k:IntKind} {n:Int} (h:RepD w F v (.int k n)):v=.int k n:=by
  cases h with | int k n=>rfl
theorem tab_of_glob {w:World} {F:Nat→Prop} {G:Nat→Option (List D)} (hG0:G 0=some (Lib.pow10Tab.map fun z=>.int .u64 z)) (h:GlobRel w F G):Lib.TabIs Tryz.prog w "internal/strconv.uint64pow10" .u64 Lib.pow10Tab:=by
  have hx:=h 0 _ hG0
  rw [if_neg (show ¬ isHandle (Lib.pow10Tab.map fun z=>D.int .u64 z)=true from fun e=>Bool.noConfusion (show false=true from e))] at hx
  obtain ⟨h1,cs,t,fz,h2,h3⟩:=hx
  unfold Lib.TabIs World.var?
  rw [gP10]
  show (match w.heap[0]? with | some (.cells cs _ _)=>some cs | _=>none)=_
  rw [h2]
  show some cs=_
  congr 1
  apply Array.ext
  · rw [h3];simp
  · intro j hj1 hj2
    cases h1 with
    | ptr b o cells g hf hc hr=>
      have hj:j < Lib.pow10Tab.length:=by simpa using hj2
      have e:(Lib.pow10Tab.map fun z=>D.int .u64 z)[j]? = some (.int .u64 Lib.pow10Tab[j]):=by simp [hj]
      have hv:=hr j _ e
      have hg:=repD_int hv
      have hcell:=hc j _ e
      rw [hg,Nat.zero_add] at hcell
      have:w.cell? ⟨0,j,none⟩=some cs[j]:=by
        rw [Lib.cell_of_heap h2]
        simp [hj1]
      rw [this] at hcell
      simpa using Option.some.inj hcell
theorem nothing_new {w:World} {F:Nat→Prop} {base:Nat} (hF:∀ b,F b→b < w.heap.size):HeapRel w F (fun _ _=>False) base (fun _=>none) 0 (indexed []):=
  ⟨fun b blk h=>absurd (show look [] b=some blk from h) (by simp [look]),fun b b' l l' h=>(by cases h),fun b l h=>(by cases h),hF⟩
theorem pure_itoa {G:Nat→Option (List D)} (hG0:G 0=some (Lib.pow10Tab.map fun z=>.int .u64 z)) (n:Int) (h0 : -9223372036854775808≤n) (h1:n≤9223372036854775807):PureCall Tryz.prog G 64 [.d false (.int .i64 n)] (.d false (.str (Lib.itoa n))) []:=by
  intro w F vals hF hG hR
  obtain ⟨hsz,hval⟩:=hR
  obtain ⟨l⟩:=vals
  match l,hsz,hval with
  | [v0],hsz,hval=>
    have e0:=(hval 0 v0 _ rfl rfl).int_inv
    subst e0
    refine (Tryz.strconv_Itoa n h0 h1 w (tab_of_glob hG0 hG)).mono ?_
    rintro e w' ⟨rfl,k,os,rfl⟩
    have hsz:(grow (w.drewN k) os).heap.size=w.heap.size+os.size:=by
      show ((w.drewN k).heap++os).size=_
      simp
    refine ⟨_,F,fun _=>none,rfl,⟨rfl,rfl,rfl,by rw [hsz];omega,fun j hj=>?_⟩,fun b h=>.inl h,?_,nothing_new (fun b h=>by rw [hsz];have:=hF b h;omega)⟩
    · show ((w.drewN k).heap++os)[j]? = _
      rw [Array.getElem?_append_left (by simpa using hj)]
      simp
    · exact .d _ _ _ (.str ⟨(Lib.itoa n).toArray⟩)
  | [],hsz,_=>simp at hsz
  | _ :: _ :: _,hsz,_=>simp at hsz
def nameN (n:Nat):BY:=if n < 26 then [UInt8.ofNat (97+n % 26)] else [UInt8.ofNat (97+n % 26)]++Lib.itoa ((n / 26:Nat):Int)
def K64 (K:Cx):Prop:=∀ n:Nat,n≤1000000→K.call 64 [.d false (.int .i64 (n:Int))]=some (.d false (.str (Lib.itoa n)),[])
/- 'sloth/types.called' -/
def f49:Fun:=⟨
 (.seq
  (.reg [⟨[],[],[(.str [])],none,[0],1,[],[],[]⟩])
  (.seq
   (.reg [⟨[],[(3,(.i2s (.conv .i32 (.bin .add (.int .i64 97) (.bin .rem (.sl 0) (.int .i64 26))))))],[],none,[0],6,[],[],[]⟩])
   (.seq
    (.seq
     (.reg [⟨[],[(10,(.bin .lss (.sl 0) (.int .i64 26)))],[],none,[0,3],2,[],[],[]⟩])
     (.cond (.sl 10)
      (.seq
       (.reg [⟨[],[(2,(.sl 3))],[],none,[],2,[],[],[]⟩])
       (.seq
        (.tidy 0 [2])
        .ret))
      .skip))
    (.seq
     (.reg [⟨[],[(2,(.bin .add (.sl 3) (.call 64 (.cons (.bin .quo (.sl 0) (.int .i64 26)) .nil))))],[],none,[],6,[],[],[]⟩])
     (.seq
      (.tidy 0 [2])
      .ret))))),
 [(.sl 2)],false⟩
theorem f49_ok:funOk Go.Proofs.Tryz.prog 49 0 1 f49=true:=by kernel_rfl
theorem enc_small:∀ n:Nat,n < 26→(Utf8.encode ((97+n:Nat):Int)).data.toList=[UInt8.ofNat (97+n)]:=by decide +kernel
theorem enc_wrap:∀ n:Nat,n < 26→IntKind.i32.wrap ((97+n:Nat):Int)=((97+n:Nat):Int):=by decide +kernel
theorem itoa_le (n:Nat) (h:n≤1000000):(Lib.itoa (n:Int)).length≤100:=by
  have:=Lib.itoa_length_le (n:Int) (by omega) (by omega)
  omega
theorem ev_called (K:Cx) (h64:K64 K) (n:Nat) (hn:n≤1000000):runFun K f49 [.d false (.int .i64 (n:Int))] []=some (.d false (.str (nameN n)),[],[]):=by
  have hr:((n:Int)).tmod 26=((n % 26:Nat):Int):=by
    rw [Int.tmod_eq_emod_of_nonneg (by omega)];omega
  have hq:((n:Int)).tdiv 26=((n / 26:Nat):Int):=by
    rw [Int.tdiv_eq_ediv_of_nonneg (by omega)];omega
  have hlt:n % 26 < 26:=Nat.mod_lt _ (by decide)
  have he:=enc_small (n % 26) hlt
  have hwr:=enc_wrap (n % 26) hlt
  have hc:((97:Int)+((n % 26:Nat):Int))=((97+n % 26:Nat):Int):=by omega
  have w:=h64 (n / 26) (by omega)
  have hi:=itoa_le (n / 26) (by omega)
  unfold f49 nameN
  have hlen:([UInt8.ofNat (97+n % 26)]:BY).length+(Lib.itoa ((n / 26:Nat):Int)).length≤4611686018427387904:=by simp only [List.length_singleton];omega
  generalize n % 26=r at *
  by_cases h26:n < 26
  · have e:decide ((n:Int) < 26)=true:=decide_eq_true (by omega)
    simp only [h26,if_true]
    simp (disch:=first | decide | omega | (simp only [LN];omega) | (simp only [LN];done) | fail) only [SV,SW,e_i2s,Int.reduceEq,hr,hc,evConv,hwr,evI2s,he,Nat.reduceBEq,oneOr]
  · have e:decide ((n:Int) < 26)=false:=decide_eq_false (by omega)
    simp only [h26,if_false]
    simp (disch:=first | decide | omega | (simp only [LN];omega) | (simp only [LN];done) | fail) only [SV,SW,e_i2s,Int.reduceEq,hr,hc,evConv,hwr,evI2s,he,Nat.reduceBEq,hq,viewD,w,oneOr]
end Go.Vm
end

section
namespace Go.Vm
set_option maxRecDepth 100000
/- '(*sloth/lattice.order).below' -/
def f27:Fun:=⟨
 (.seq
  (.reg [⟨[],[],[(.bool false)],none,[0,1,2],1,[],[],[]⟩])
  (.seq
   (.seq
    (.reg [⟨[],[(11,(.eqs false false [4] (.ld 1 false (.fa 1 (.fa 0 (.sl 0)))) .nilp))],[],none,[0,1,2],5,[],[],[]⟩])
    (.cond (.sl 11)
     (.seq
      (.reg [⟨[],[(6,(.bin .leq (.sl 1) (.sl 2)))],[],none,[],4,[],[],[]⟩])
      (.seq
       (.tidy 0 [6])
       .ret))
     .skip))
   (.seq
    (.reg [⟨[],[(6,(.ld 1 false (.ia 1 (.ld 1 false (.ia 1 (.ld 1 false (.fa 4 (.fa 0 (.sl 0)))) (.sl 1))) (.sl 2))))],[],none,[],11,[],[],[]⟩])
    (.seq
     (.tidy 0 [6])
     .ret)))),
 [(.sl 6)],false⟩
theorem f27_ok:funOk Go.Proofs.Tryz.prog 27 0 3 f27=true:=by kernel_rfl
/- 'sloth/lattice.functions' -/
def f53_L0:C:=
 (.seq
  (.reg [⟨[],[(61,(.bin .lss (.sl 60) (.sl 59)))],[],none,[7,8,9,47,48,59,60],1,[],[],[]⟩])
  (.seq
   (.cond (.sl 61)
    .skip
    (.seq
     (.tidy 2 [7,9,47,48])
     (.exit 2)))
   (.seq
    (.block 3
     (.seq
      (.reg [⟨[],[(10,(.sl 60))],[],none,[7,8,9,47,48,59,60],2,[],[],[]⟩])
      (.reg [⟨[],[],[],some (none,.store 1 (.ia 1 (.sl 9) (.sl 10)) (.call 72 (.cons (.sl 7) (.cons (.sl 8) (.cons (.sl 10) .nil))))),[7,8,9,47,48,59,60],8,[],[],[]⟩])))
    (.reg [⟨[],[(60,(.bin .add (.sl 60) (.int .i64 1)))],[],none,[7,8,9,47,48,59],2,[],[],[]⟩]))))
def f53_L1:C:=
 (.seq
  (.reg [⟨[],[(49,(.bin .lss (.sl 48) (.sl 47)))],[],none,[7,47,48],1,[],[],[]⟩])
  (.seq
   (.cond (.sl 49)
    .skip
    (.seq
     (.tidy 2 [7])
     (.exit 0)))
   (.seq
    (.block 1
     (.seq
      (.reg [⟨[],[(8,(.sl 48))],[],none,[7,47,48],2,[],[],[]⟩])
      (.seq
       (.reg [⟨[(55,.mks 1 (.cons (.bool false) .nil) (.ld 1 false (.fa 0 (.fa 0 (.sl 7)))) (.ld 1 false (.fa 0 (.fa 0 (.sl 7)))))],[(9,(.sl 55))],[],none,[7,8,47,48],6,[],[],[]⟩])
       (.seq
        (.seq
         (.reg [⟨[],[(59,(.ld 1 false (.fa 0 (.fa 0 (.sl 7))))),(60,(.int .i64 0))],[],none,[7,8,9,47,48],5,[],[],[]⟩])
         (.block 2
          (.seq (.tidy 2 [7,8,9,47,48,59,60]) (.loop (.seq (.tidy 2 [7,8,9,47,48,59,60]) f53_L0)))))
        (.regg 2 [(⟨[9],none⟩,⟨[(77,.lits 1 (.cons (.sl 9) .nil))],[(71,(.sl 7))],[],some (some 78,.app 1 (.ld 1 false (.fa 4 (.fa 0 (.sl 7)))) (.sl 77)),[7,47,48],8,[],[],[]⟩),(⟨[],none⟩,⟨[],[],[],some (none,.store 1 (.fa 4 (.fa 0 (.sl 71))) (.sl 78)),[7,47,48],3,[],[],[]⟩)])))))
    (.reg [⟨[],[(48,(.bin .add (.sl 48) (.int .i64 1)))],[],none,[7,47],2,[],[],[]⟩]))))
def f53:Fun:=⟨
 (.seq
  (.reg [⟨[(2,.box (.sl 0))],[],[.nilp],none,[1,2],2,[],[],[]⟩])
  (.seq
   (.regg 2 [(⟨[2],none⟩,⟨[],[(20,(.ld 3 true (.ia 3 (.ld 1 false (.fa 2 (.sl 2))) (.int .i64 1)))),(21,(.sl 1))],[],some (some 16,.calle 39 (.cons (.ld 3 true (.ia 3 (.ld 1 false (.fa 2 (.sl 2))) (.int .i64 0))) (.cons (.sl 1) .nil))),[],11,[[],[0],[0,1],[1,0,2],[],[4,2,0,1,3],[],[6],[6,7],[7,6,8],[],[3,1,0,2,4,5,10,8,6,7,9],[9,7,6,8,10,11,3,1,0,2,4,5],[12,9,7,6,8,10,5,4,2,0,1,3,11]],[],[(.fa 2 (.sl 2)),(.ld 1 false (.fa 2 (.sl 2))),(.ia 3 (.ld 1 false (.fa 2 (.sl 2))) (.int .i64 1)),(.ld 3 true (.ia 3 (.ld 1 false (.fa 2 (.sl 2))) (.int .i64 1))),(.sl 1)]⟩),(⟨[],none⟩,⟨[],[],[],some (some 22,.calle 39 (.cons (.sl 20) (.cons (.sl 21) .nil))),[16],1,[],[],[]⟩),(⟨[],none⟩,⟨[],[(5,(.sl 16)),(6,(.sl 22))],[],none,[],2,[],[],[]⟩)])
   (.seq
    (.seq
     (.reg [⟨[],[(28,(.or (.eqs false false [4] (.sl 5) .nilp) (.eqs false false [4] (.sl 6) .nilp)))],[],none,[5,6],6,[],[],[]⟩])
     (.cond (.sl 28)
      (.seq
       (.reg [⟨[],[(4,.nilp)],[],none,[],1,[],[],[]⟩])
       (.seq
        (.tidy 2 [4])
        .ret))
      .skip))
    (.seq
     (.reg [⟨[(32,.box (.set 2 1 (.sl 6) (.set 1 1 (.sl 5) (.agg (.cons (.int .i64 0) (.cons .nilp (.cons .nilp (.cons (.nilsl 1) (.cons (.nilsl 1) .nil)))))))))],[(7,(.sl 32))],[],none,[],5,[],[],[]⟩])
     (.seq
      (.seq
       (.seq
        (.ownc 7 3 1)
        (.reg [⟨[],[],[],some (some 34,.calle 71 (.cons (.sl 7) (.cons (.nilsl 1) .nil))),[7],2,[],[],[]⟩,⟨[],[(35,(.un .not (.sl 34)))],[],none,[7],1,[],[],[]⟩]))
       (.cond (.sl 35)
        (.seq
         (.reg [⟨[],[(4,.nilp)],[],none,[],1,[],[],[]⟩])
         (.seq
          (.tidy 2 [4])
          .ret))
        .skip))
      (.seq
       (.reg [⟨[],[],[],some (none,.store 1 (.fa 0 (.fa 0 (.sl 7))) (.len false (.ld 1 false (.fa 3 (.fa 0 (.sl 7)))))),[7],9,[],[],[]⟩])
       (.seq
        (.seq
         (.reg [⟨[],[(47,(.ld 1 false (.fa 0 (.fa 0 (.sl 7))))),(48,(.int .i64 0))],[],none,[7],5,[],[],[]⟩])
         (.block 0
          (.seq (.tidy 2 [7,47,48]) (.loop (.seq (.tidy 2 [7,47,48]) f53_L1)))))
        (.seq
         (.reg [⟨[],[(4,(.sl 7))],[],none,[],2,[],[],[]⟩])
         (.seq
          (.tidy 2 [4])
          .ret))))))))),
 [(.sl 4)],false⟩
theorem f53_ok:funOk Go.Proofs.Tryz.prog 53 2 2 f53=true:=by kernel_rfl
/- '(*sloth/lattice.order).fill' -/
def f71_L0:C:=
 (.seq
  (.reg [⟨[],[(49,(.bin .lss (.sl 48) (.sl 47)))],[],none,[0,1,5,6,7,43,44,47,48],1,[],[],[]⟩])
  (.seq
   (.cond (.sl 49)
    .skip
    (.seq
     (.tidy 2 [0,1,5,6,7,43,44])
     (.exit 2)))
   (.seq
    (.block 3
     (.seq
      (.reg [⟨[],[(8,(.sl 48))],[],none,[0,1,5,6,7,43,44,47,48],2,[],[],[]⟩])
      (.reg [⟨[],[(7,(.and (.sl 7) (.or (.un .not (.call 27 (.cons (.ld 1 false (.fa 1 (.fa 0 (.sl 0)))) (.cons (.sl 8) (.cons (.sl 5) .nil))))) (.call 27 (.cons (.ld 1 false (.fa 2 (.fa 0 (.sl 0)))) (.cons (.ld 1 false (.ia 1 (.sl 1) (.sl 8))) (.cons (.sl 6) .nil)))))))],[],none,[0,1,5,6,43,44,47,48],24,[[],[0],[0,1],[1,0,2],[2,0,1,3],[3,1,0,2,4],[0,1],[0,1],[7,6,4,2,0,1,3,5],[5,3,1,0,2,4,6,7,8],[8,7,6,4,2,0,1,3,5,9],[9,5,3,1,0,2,4,6,7,8,10],[10,8,7,6,4,2,0,1,3,5,9,11],[11,9,5,3,1,0,2,4,6,7,8,10,12],[12,10,8,7,6,4,2,0,1,3,5,9,11,13],[9,5,3,1,0,2,4,6,7,8,10],[9,5,3,1,0,2,4,6,7,8,10],[16,10,8,7,6,4,2,0,1,3,5,9,15],[15,9,5,3,1,0,2,4,6,7,8,10,16,17],[9,5,3,1,0,2,4,6,7,8,10],[19,17,16,15,18,13,11,9,5,3,1,0,2,4,6,7,8,10,12,14],[14,12,11,13,18,15,16,17,19,20,9,5,3,1,0,2,4,6,7,8,10],[10,8,7,6,4,2,3,5,9,20,19,17,16,15,18,13,11,12,14,21,0,1],[1,0,21,14,12,11,13,18,15,16,17,19,20,9,5,3,2,4,6,7,8,10,22]],[],[]⟩])))
    (.reg [⟨[],[(48,(.bin .add (.sl 48) (.int .i64 1)))],[],none,[0,1,5,6,7,43,44,47],2,[],[],[]⟩]))))
def f71_L1:C:=
 (.seq
  (.reg [⟨[],[(45,(.bin .lss (.sl 44) (.sl 43)))],[],none,[0,1,5,43,44],1,[],[],[]⟩])
  (.seq
   (.cond (.sl 45)
    .skip
    (.seq
     (.tidy 2 [])
     (.exit 0)))
   (.seq
    (.block 1
     (.seq
      (.reg [⟨[],[(6,(.sl 44))],[],none,[0,1,5,43,44],2,[],[],[]⟩])
      (.seq
       (.reg [⟨[],[(7,(.bool true))],[],none,[0,1,5,6,43,44],1,[],[],[]⟩])
       (.seq
        (.seq
         (.reg [⟨[],[(47,(.sl 5)),(48,(.int .i64 0))],[],none,[0,1,5,6,7,43,44],2,[],[],[]⟩])
         (.block 2
          (.seq (.tidy 2 [0,1,5,6,7,43,44,47,48]) (.loop (.seq (.tidy 2 [0,1,5,6,7,43,44,47,48]) f71_L0)))))
        (.seq
         (.regg 2 [(⟨[],none⟩,⟨[],[(76,(.sl 7))],[],none,[0,1,5,6,43,44],2,[],[],[]⟩),(⟨[],some (76,true)⟩,⟨[(79,.callo 83 (.cons (.sl 1) .nil)),(81,.lits 1 (.cons (.sl 6) .nil))],[(77,(.sl 0))],[],some (some 82,.app 1 (.sl 79) (.sl 81)),[0,1,5,43,44,76],6,[],[],[]⟩),(⟨[82],some (76,true)⟩,⟨[],[],[],some (some 83,.calle 71 (.cons (.sl 77) (.cons (.sl 82) .nil))),[0,1,5,43,44,76],1,[],[],[]⟩),(⟨[],some (76,true)⟩,⟨[],[(84,(.un .not (.sl 83)))],[],none,[0,1,5,43,44,76],1,[],[],[]⟩),(⟨[],none⟩,⟨[],[(85,(.and (.sl 76) (.sl 84)))],[],none,[0,1,5,43,44],1,[],[],[]⟩)])
         (.cond (.sl 85)
          (.seq
           (.reg [⟨[],[(4,(.bool false))],[],none,[],1,[],[],[]⟩])
           (.seq
            (.tidy 2 [4])
            .ret))
          .skip))))))
    (.reg [⟨[],[(44,(.bin .add (.sl 44) (.int .i64 1)))],[],none,[0,1,5,43],2,[],[],[]⟩]))))
def f71:Fun:=⟨
 (.seq
  (.reg [⟨[],[],[(.bool false)],none,[0,1],1,[],[],[]⟩])
  (.seq
   (.reg [⟨[],[(5,(.len false (.sl 1)))],[],none,[0,1],3,[],[],[]⟩])
   (.seq
    (.seq
     (.reg [⟨[],[(19,(.bin .eql (.sl 5) (.ld 1 false (.fa 0 (.fa 0 (.ld 1 false (.fa 1 (.fa 0 (.sl 0)))))))))],[],none,[0,1,5],9,[],[],[]⟩])
     (.cond (.sl 19)
      (.seq
       (.reg [⟨[(27,.lits 1 (.cons (.call 83 (.cons (.sl 1) .nil)) .nil))],[(20,(.sl 0))],[],some (some 28,.app 1 (.ld 1 false (.fa 3 (.fa 0 (.sl 0)))) (.sl 27)),[0],9,[[],[],[1],[1,2],[2,1,3],[],[5],[5,6],[6,5,7,3,1,2,4],[8,7,6,5,4,3,2,1,0],[0,1,2,3,4,5,6,7,8,9],[9,8,7,6,5,4,3,2,1,0,10]],[],[(.sl 0)]⟩,⟨[],[],[],some (none,.store 1 (.fa 3 (.fa 0 (.sl 20))) (.sl 28)),[0],3,[],[],[]⟩])
       (.seq
        (.reg [⟨[],[(4,(.bin .leq (.len false (.ld 1 false (.fa 3 (.fa 0 (.sl 0))))) (.int .i64 40)))],[],none,[],7,[],[],[]⟩])
        (.seq
         (.tidy 2 [4])
         .ret)))
      .skip))
    (.seq
     (.seq
      (.reg [⟨[],[(43,(.ld 1 false (.fa 0 (.fa 0 (.ld 1 false (.fa 2 (.fa 0 (.sl 0)))))))),(44,(.int .i64 0))],[],none,[0,1,5],8,[],[],[]⟩])
      (.block 0
       (.seq (.tidy 2 [0,1,5,43,44]) (.loop (.seq (.tidy 2 [0,1,5,43,44]) f71_L1)))))
     (.seq
      (.reg [⟨[],[(4,(.bool true))],[],none,[],1,[],[],[]⟩])
      (.seq
       (.tidy 2 [4])
       .ret)))))),
 [(.sl 4)],false⟩
theorem f71_ok:funOk Go.Proofs.Tryz.prog 71 2 2 f71=true:=by kernel_rfl
/- '(*sloth/lattice.order).pointwise' -/
def f72_L0:C:=
 (.seq
  (.reg [⟨[],[(16,(.bin .lss (.sl 15) (.sl 14)))],[],none,[0,1,2,14,15],1,[],[],[]⟩])
  (.seq
   (.cond (.sl 16)
    .skip
    (.seq
     (.tidy 0 [])
     (.exit 0)))
   (.seq
    (.block 1
     (.seq
      (.reg [⟨[],[(7,(.sl 15))],[],none,[0,1,2,14,15],2,[],[],[]⟩])
      (.seq
       (.reg [⟨[],[(43,(.un .not (.call 27 (.cons (.ld 1 false (.fa 2 (.fa 0 (.sl 0)))) (.cons (.ld 1 false (.ia 1 (.ld 1 false (.ia 1 (.ld 1 false (.fa 3 (.fa 0 (.sl 0)))) (.sl 1))) (.sl 7))) (.cons (.ld 1 false (.ia 1 (.ld 1 false (.ia 1 (.ld 1 false (.fa 3 (.fa 0 (.sl 0)))) (.sl 2))) (.sl 7))) .nil))))))],[],none,[0,1,2,14,15],26,[[],[0],[0,1],[1,0,2],[],[4],[4,5],[5,4,6],[],[8,6,4,5,7],[7,5,4,6,8,9],[],[11,9,8,6,4,5,7,10],[10,7,5,4,6,8,9,11,12],[],[14],[14,15],[15,14,16],[],[18,16,14,15,17],[17,15,14,16,18,19],[],[21,19,18,16,14,15,17,20],[20,17,15,14,16,18,19,21,22],[22,21,19,18,16,14,15,17,20,23,12,11,9,8,6,4,5,7,10,13,2,0,1,3],[3,1,0,2,13,10,7,5,4,6,8,9,11,12,23,20,17,15,14,16,18,19,21,22,24]],[],[]⟩])
       (.cond (.sl 43)
        (.seq
         (.reg [⟨[],[(6,(.bool false))],[],none,[],1,[],[],[]⟩])
         (.seq
          (.tidy 0 [6])
          .ret))
        .skip))))
    (.reg [⟨[],[(15,(.bin .add (.sl 15) (.int .i64 1)))],[],none,[0,1,2,14],2,[],[],[]⟩]))))
def f72:Fun:=⟨
 (.seq
  (.reg [⟨[],[],[(.bool false)],none,[0,1,2],1,[],[],[]⟩])
  (.seq
   (.seq
    (.reg [⟨[],[(14,(.ld 1 false (.fa 0 (.fa 0 (.ld 1 false (.fa 1 (.fa 0 (.sl 0)))))))),(15,(.int .i64 0))],[],none,[0,1,2],8,[],[],[]⟩])
    (.block 0
     (.seq (.tidy 0 [0,1,2,14,15]) (.loop (.seq (.tidy 0 [0,1,2,14,15]) f72_L0)))))
   (.seq
    (.reg [⟨[],[(6,(.bool true))],[],none,[],1,[],[],[]⟩])
    (.seq
     (.tidy 0 [6])
     .ret)))),
 [(.sl 6)],false⟩
theorem f72_ok:funOk Go.Proofs.Tryz.prog 72 0 3 f72=true:=by kernel_rfl
/- 'slices.Clone[[]int,int]' -/
def f83:Fun:=⟨
 (.seq
  (.reg [⟨[],[],[(.nilsl 1)],none,[0],1,[],[],[]⟩])
  (.seq
   (.seq
    (.reg [⟨[],[(4,(.eqs false false [3] (.sl 0) (.nilsl 1)))],[],none,[0],2,[],[],[]⟩])
    (.cond (.sl 4)
     (.seq
      (.reg [⟨[],[(2,(.nilsl 1))],[],none,[],1,[],[],[]⟩])
      (.seq
       (.tidy 0 [2])
       .ret))
     .skip))
   (.seq
    (.reg [⟨[(5,.lits 1 .nil)],[],[],some (some 7,.app 1 (.sl 5) (.sl 0)),[],3,[],[],[]⟩,⟨[],[(2,(.sl 7))],[],none,[],1,[],[],[]⟩])
    (.seq
     (.tidy 0 [2])
     .ret)))),
 [(.sl 2)],true⟩
theorem f83_ok:funOk Go.Proofs.Tryz.prog 83 0 1 f83=true:=by kernel_rfl
end Go.Vm
end

section
namespace Go.Vm
set_option maxRecDepth 20000
inductive Lat where
 | ch (n:Nat)
 | fn (a b:Lat) (rows:List (List Nat)) (low:List (List Bool))
def Lat.sz:Lat→Nat
 | .ch n=>n
 | .fn _ _ rows _=>rows.length
def natD (v:Nat):List D:=[.int .i64 (v:Int)]
def boolD (v:Bool):List D:=[.bool v]
def rowD (r:List Nat):List D:=[.sl 1 (r.map natD)]
def lowD (r:List Bool):List D:=[.sl 1 (r.map boolD)]
def Lat.cells:Lat→List D
 | .ch n=>[.int .i64 n,.nilp,.nilp,.sl 1 [],.sl 1 []]
 | .fn a b rows low=>[.int .i64 rows.length,.ptr a.cells,.ptr b.cells,.sl 1 (rows.map rowD),.sl 1 (low.map lowD)]
def Lat.le:Lat→Nat→Nat→Bool
 | .ch _,x,y=>decide (x≤y)
 | .fn _ _ _ low,x,y=>nth (nth low (x:Int)) (y:Int)
def Lat.wf:Lat→Prop
 | .ch n=>n≤1000
 | .fn a b rows low=>a.wf∧b.wf∧rows.length≤1000∧low.length=rows.length∧(∀ r∈low,r.length=rows.length)∧∀ r∈rows,r.length=a.sz∧∀ v∈r,v < b.sz
def pD (l:Lat):V:=.d false (.ptr l.cells)
@[reducible] def iN (n:Nat):V:=.d false (.int .i64 (n:Int))
def K27 (K:Cx):Prop:=∀ (o:Lat) (x y:Nat),o.wf→x < o.sz→y < o.sz→K.call 27 [pD o,iN x,iN y]=some (.bool (o.le x y),[])
theorem ev_below (K:Cx) (o:Lat) (x y:Nat) (hw:o.wf) (hx:x < o.sz) (hy:y < o.sz):runFun K f27 [pD o,iN x,iN y] []=some (.bool (o.le x y),[],[]):=by
 cases o with
 | ch n=>
  have e:((x:Int)≤(y:Int))=(x≤y):=by simp
  unfold f27
  simp only [pD,Lat.cells,Lat.le,iN]
  simp (disch:=first | decide | omega | (simp only [LN];omega) | (simp only [LN];done) | fail) only [SV,SW,Nat.reduceAdd,Nat.reduceBEq,e_nilp,evEqs,cellsEq,cellEq,V.isNilP,e,oneOr]
 | fn a b rows low=>
  obtain ⟨_,_,_,h1,h2,_⟩:=hw
  simp only [Lat.sz] at hx hy
  have hr:nth low (x:Int)∈low:=by rw [← nth_getElem (n:=(x:Int)) (by simpa using (by omega:x < low.length))];exact List.getElem_mem _
  have hl:=h2 _ hr
  unfold f27
  simp only [pD,Lat.cells,Lat.le,iN]
  simp (disch:=first | decide | omega | (simp only [LN];omega) | (simp only [LN];done) | fail) only [SV,SW,Nat.reduceAdd,Nat.reduceBEq,e_nilp,evEqs,cellsEq,cellEq,V.isNilP,lowD,boolD,oneOr]
def Lat.tl:Lat→List D
 | .ch _=>[.nilp,.nilp,.sl 1 [],.sl 1 []]
 | .fn a b rows low=>[.ptr a.cells,.ptr b.cells,.sl 1 (rows.map rowD),.sl 1 (low.map lowD)]
theorem cells_eq (l:Lat):l.cells=.int .i64 (l.sz:Int) :: l.tl:=by cases l <;> rfl
def ptwR (b:Lat) (f g:List Nat):Nat→Nat→Bool
 | 0,_=>true
 | m+1,k=>b.le (nth f (k:Int)) (nth g (k:Int)) && ptwR b f g m (k+1)
def ptw (a b:Lat) (f g:List Nat):Bool:=ptwR b f g a.sz 0
@[reducible] def halfD (s:D) (a b:Lat) (rows:List (List Nat)) (l:D):D:=.ptr [s,.ptr a.cells,.ptr b.cells,.sl 1 (rows.map rowD),l]
def rowsOk (a b:Lat) (rows:List (List Nat)):Prop:=∀ r∈rows,r.length=a.sz∧∀ v∈r,v < b.sz
def K72 (K:Cx):Prop:=∀ (s:D) (a b:Lat) (rows:List (List Nat)) (l:D) (x y:Nat),b.wf→a.sz≤1000→rowsOk a b rows→x < rows.length→y < rows.length→K.call 72 [.d false (halfD s a b rows l),iN x,iN y]=some (.bool (ptw a b (nth rows (x:Int)) (nth rows (y:Int))),[])
theorem cast1 (k:Nat):((k:Int)+1)=((k+1:Nat):Int):=by omega
theorem nth_mem {α:Type} [Inhabited α] {l:List α} {x:Nat} (h:x < l.length):nth l (x:Int)∈l:=by
 rw [← nth_getElem (n:=(x:Int)) (by simpa using h)];exact List.getElem_mem _
def ptOut:Bool→Option (Ex×S)
 | true=>some (.exit 0,⟨[],[],0,[]⟩)
 | false=>some (.ret,⟨[(6,.bool false)],[],0,[]⟩)
theorem pt_loop (K:Cx) (h41:K27 K) (s:D) (a b:Lat) (rows:List (List Nat)) (l:D) (x y:Nat) (hb:b.wf) (ha:a.sz≤1000) (hr:rowsOk a b rows) (hx:x < rows.length) (hy:y < rows.length):∀ (m k:Nat),k+m=a.sz→
  lp K 0 [0,1,2,14,15] f72_L0 ⟨[(0,.d false (halfD s a b rows l)),(1,iN x),(2,iN y),(14,iN a.sz),(15,iN k)],[],0,[]⟩=ptOut (ptwR b (nth rows (x:Int)) (nth rows (y:Int)) m k):=by
 obtain ⟨l1,v1⟩:=hr _ (nth_mem hx)
 obtain ⟨l2,v2⟩:=hr _ (nth_mem hy)
 intro m
 induction m with
 | zero=>
  intro k hk
  simp only [ptwR,ptOut]
  rw [lp_un f72_L0.eq_1]
  clear v1 v2 hr
  simp (disch:=first | decide | omega | (simp only [LN];omega) | (simp only [LN];done) | fail) only [SV,SW,Nat.reduceBEq]
 | succ m ih=>
  intro k hk
  have ih:=ih (k+1) (by omega)
  have w:=h41 b (nth (nth rows (x:Int)) (k:Int)) (nth (nth rows (y:Int)) (k:Int)) hb (v1 _ (nth_mem (by omega))) (v2 _ (nth_mem (by omega)))
  simp only [ptwR]
  rw [lp_un f72_L0.eq_1]
  clear v1 v2 hr
  simp only [pD,iN] at w ih ⊢
  cases hc:b.le (nth (nth rows (x:Int)) (k:Int)) (nth (nth rows (y:Int)) (k:Int)) with
  | false=>
   rw [hc] at w
   simp only [Bool.false_and,ptOut]
   clear ih
   simp (disch:=first | decide | omega | (simp only [LN];omega) | (simp only [LN];done) | fail) only [SV,SW,Nat.reduceBEq,rowD,natD,viewD,w]
  | true=>
   rw [hc] at w
   simp only [Bool.true_and]
   rw [← ih]
   clear ih
   simp (disch:=first | decide | omega | (simp only [LN];omega) | (simp only [LN];done) | fail) only [SV,SW,Nat.reduceBEq,rowD,natD,viewD,w,cast1]
theorem ev_pointwise (K:Cx) (h41:K27 K) (s:D) (a b:Lat) (rows:List (List Nat)) (l:D) (x y:Nat) (hb:b.wf) (ha:a.sz≤1000) (hr:rowsOk a b rows) (hx:x < rows.length) (hy:y < rows.length) :
  runFun K f72 [.d false (halfD s a b rows l),iN x,iN y] []=some (.bool (ptw a b (nth rows (x:Int)) (nth rows (y:Int))),[],[]):=by
 have w:=pt_loop K h41 s a b rows l x y hb ha hr hx hy a.sz 0 (by omega)
 unfold f72 ptw
 generalize ptwR b (nth rows (x:Int)) (nth rows (y:Int)) a.sz 0=q at w
 simp only [iN,halfD,Int.ofNat_zero,Int.natCast_zero] at w
 have e:=cells_eq a
 cases q with
 | true=>
  simp only [ptOut,e] at w
  simp only [e,halfD,iN]
  simp (disch:=first | decide | omega | (simp only [LN];omega) | (simp only [LN];done) | fail) only [SV,SW,Nat.reduceAdd,Nat.reduceBEq,w,oneOr]
 | false=>
  simp only [ptOut,e] at w
  simp only [e,halfD,iN]
  simp (disch:=first | decide | omega | (simp only [LN];omega) | (simp only [LN];done) | fail) only [SV,SW,Nat.reduceAdd,Nat.reduceBEq,w,oneOr]
end Go.Vm
end

section
namespace Go.Vm
set_option maxRecDepth 20000
def fitR (a b:Lat) (row:List Nat) (v:Nat):Nat→Nat→Bool→Bool
 | 0,_,q=>q
 | m+1,y,q=>fitR a b row v m (y+1) (q && (!a.le y row.length || b.le (nth row (y:Int)) v))
def fitB (a b:Lat) (row:List Nat) (v:Nat):Bool:=fitR a b row v row.length 0 true
def fillV (F:List Nat→List (List Nat)→Bool×List (List Nat)) (fit:Nat→Bool) (row:List Nat):Nat→Nat→List (List Nat)→Bool×List (List Nat)
 | 0,_,found=>(true,found)
 | m+1,v,found=>if fit v then (match F (row++[v]) found with
  | (true,f)=>fillV F fit row m (v+1) f
  | (false,f)=>(false,f)) else fillV F fit row m (v+1) found
def fillM (a b:Lat):Nat→List Nat→List (List Nat)→Bool×List (List Nat)
 | 0,row,found=>(decide (found.length+1≤40),found++[row])
 | k+1,row,found=>fillV (fillM a b k) (fitB a b row) row b.sz 0 found
@[reducible] def rowV (row:List Nat):V:=.d false (.sl 1 (row.map natD))
def RowV (rv:V) (row:List Nat):Prop:=rv=rowV row∨(row=[]∧rv=.fs false 1 [])
@[reducible] def box5 (a b:Lat) (n:Nat):Blk:=.mix 5 [[.d false (.int .i64 0),pD a,pD b,.bsl 1 0 n,.fs false 1 []]]
@[reducible] def resB (found:List (List Nat)):Blk:=.dat false 1 (found.map rowD)
@[reducible] def mvB:Bool→List Nat
 | true=>[1]
 | false=>[]
theorem ft_loop (K:Cx) (h41:K27 K) (a b:Lat) (ha:a.wf) (hb:b.wf) (ha2:a.sz≤1000) (row:List Nat) (rv:V) (hrv:RowV rv row) (v:Nat) (hx:row.length < a.sz) (hv:v < b.sz) (hr:∀ u∈row,u < b.sz) (found:List (List Nat)) (u:Bool):∀ (m y:Nat) (q:Bool),y+m=row.length→
  lp K 2 [0,1,5,6,7,43,44,47,48] f71_L0 ⟨[(0,.ptr 0 0 0),(1,rv),(5,iN row.length),(6,iN v),(7,.d false (.bool q)),(43,iN b.sz),(44,iN v),(47,iN row.length),(48,iN y)],[(0,box5 a b found.length),(1,resB found)],2,mvB u⟩ =
   some (.exit 2,⟨[(0,.ptr 0 0 0),(1,rv),(5,iN row.length),(6,iN v),(7,.d false (.bool (fitR a b row v m y q))),(43,iN b.sz),(44,iN v)],[(0,box5 a b found.length),(1,resB found)],2,mvB u⟩):=by
 intro m
 induction m with
 | zero=>
  intro y q hy
  have hy:y=row.length:=by omega
  subst hy
  simp only [fitR]
  rw [lp_un f71_L0.eq_1]
  rcases hrv with rfl | ⟨rfl,rfl⟩
  ·clear hr
   simp only [iN,rowV,box5,resB,pD]
   cases u <;> (simp only [mvB];simp (disch:=first | decide | omega | (simp only [LN];omega) | (simp only [LN];done) | fail) only [SV,SW,Nat.reduceBEq,range2,reduceCtorEq,Nat.reduceAdd])
  ·clear hr
   simp only [iN,rowV,box5,resB,pD]
   cases u <;> (simp only [mvB];simp (disch:=first | decide | omega | (simp only [LN];omega) | (simp only [LN];done) | fail) only [SV,SW,Nat.reduceBEq,range2,reduceCtorEq,Nat.reduceAdd])
 | succ m ih=>
  intro y q hy
  have ih:=ih (y+1) (q && (!a.le y row.length || b.le (nth row (y:Int)) v)) (by omega)
  have w1:=h41 a y row.length ha (by omega) hx
  have w2:=h41 b (nth row (y:Int)) v hb (hr _ (nth_mem (by omega))) hv
  rcases hrv with rfl | ⟨rfl,rfl⟩
  ·simp only [fitR]
   rw [← ih]
   clear ih
   rw [lp_un f71_L0.eq_1]
   clear hr
   simp only [pD,iN,rowV,box5,resB] at w1 w2 ⊢
   generalize a.le y row.length=p1 at w1 ⊢
   generalize b.le (nth row (y:Int)) v=p2 at w2 ⊢
   cases u <;> (simp only [mvB];simp (disch:=first | decide | omega | (simp only [LN];omega) | (simp only [LN];done) | fail) only [SV,SW,Nat.reduceBEq,viewD,w1,natD,w2,cast1,range2,reduceCtorEq,Nat.reduceAdd])
  ·simp at hy
def K83 (K:Cx):Prop:=(∀ row:List Nat,0 < row.length→row.length≤1000→K.call 83 [rowV row]=some (.bsl 0 0 row.length,[.dat true 1 (row.map natD)]))∧K.call 83 [rowV []]=some (.fs true 1 [],[])
def chg (f g:List (List Nat)):Bool:=decide (f.length < g.length)
def E71 (K:Cx) (a b:Lat) (k:Nat):Prop:=∀ (row:List Nat) (rv:V) (found:List (List Nat)),RowV rv row→row.length+k=a.sz→(∀ u∈row,u < b.sz)→found.length≤40→
 K.eff 71 [.ptr 0 0 0,rv] [box5 a b found.length,resB found]=some (.bool (fillM a b k row found).1,[box5 a b (fillM a b k row found).2.length,resB (fillM a b k row found).2],mvB (chg found (fillM a b k row found).2))
theorem fillV_le {F:List Nat→List (List Nat)→Bool×List (List Nat)} (hF:∀ r f,f.length≤(F r f).2.length∧(f.length≤40→(F r f).1=true→(F r f).2.length≤40)) (fit row):∀ m v found,found.length≤(fillV F fit row m v found).2.length∧(found.length≤40→(fillV F fit row m v found).1=true→(fillV F fit row m v found).2.length≤40)
 | 0,v,found=>⟨Nat.le_refl _,fun h _=>h⟩
 | m+1,v,found=>by
  simp only [fillV]
  split
  ·obtain ⟨h1,h2⟩:=hF (row++[v]) found
   split
   ·rename_i f he
    rw [he] at h1 h2
    obtain ⟨g1,g2⟩:=fillV_le hF fit row m (v+1) f
    exact ⟨Nat.le_trans h1 g1,fun hl hr=>g2 (h2 hl rfl) hr⟩
   ·rename_i f he
    rw [he] at h1
    exact ⟨h1,fun _ h=>by cases h⟩
  ·exact fillV_le hF fit row m (v+1) found
theorem fillM_le (a b:Lat):∀ k r f,f.length≤(fillM a b k r f).2.length∧(f.length≤40→(fillM a b k r f).1=true→(fillM a b k r f).2.length≤40)
 | 0,r,f=>by
  simp only [fillM,List.length_append,List.length_singleton,decide_eq_true_eq]
  exact ⟨by omega,fun _ h=>h⟩
 | k+1,r,f=>by
  simp only [fillM]
  exact fillV_le (fillM_le a b k) _ _ _ _ _
theorem chg_trans {f g h:List (List Nat)} (h1:f.length≤g.length) (h2:g.length≤h.length):(chg f g || chg g h)=chg f h:=by
 simp only [chg]
 rw [← Bool.decide_or]
 exact decide_eq_decide.2 (by omega)
def flOut (a b:Lat) (r:Bool×List (List Nat)) (u:Bool):Option (Ex×S):=if r.1 then some (.exit 0,⟨[],[(0,box5 a b r.2.length),(1,resB r.2)],2,mvB u⟩) else some (.ret,⟨[(4,.d false (.bool false))],[(0,box5 a b r.2.length),(1,resB r.2)],2,mvB u⟩)
set_option maxHeartbeats 8000000 in
theorem fl_loop (K:Cx) (h41:K27 K) (h40:K83 K) (a b:Lat) (ha:a.wf) (hb:b.wf) (ha2:a.sz≤1000) (hb2:b.sz≤1000) (k:Nat) (E:E71 K a b k) (row:List Nat) (rv:V) (hrv:RowV rv row) (hx:row.length+(k+1)=a.sz) (hr:∀ u∈row,u < b.sz):∀ (m v:Nat) (found:List (List Nat)) (u:Bool),v+m=b.sz→found.length≤40→
  lp K 2 [0,1,5,43,44] f71_L1 ⟨[(0,.ptr 0 0 0),(1,rv),(5,iN row.length),(43,iN b.sz),(44,iN v)],[(0,box5 a b found.length),(1,resB found)],2,mvB u⟩ =
   flOut a b (fillV (fillM a b k) (fitB a b row) row m v found) (u || chg found (fillV (fillM a b k) (fitB a b row) row m v found).2):=by
 intro m
 induction m with
 | zero=>
  intro v found u hv hf
  have hv:v=b.sz:=by omega
  subst hv
  have hc:chg found found=false:=by simp [chg]
  simp only [fillV,flOut,hc,Bool.or_false,if_true]
  rw [lp_un f71_L1.eq_1]
  clear hr E
  rcases hrv with rfl | ⟨rfl,rfl⟩
  ·simp only [iN,rowV,box5,resB,pD]
   cases u <;> (simp only [mvB];simp (disch:=first | decide | omega | (simp only [LN];omega) | (simp only [LN];done) | fail) only [SV,SW,Nat.reduceBEq,range2,reduceCtorEq,Nat.reduceAdd])
  ·simp only [iN,rowV,box5,resB,pD]
   cases u <;> (simp only [mvB];simp (disch:=first | decide | omega | (simp only [LN];omega) | (simp only [LN];done) | fail) only [SV,SW,Nat.reduceBEq,range2,reduceCtorEq,Nat.reduceAdd])
 | succ m ih=>
  intro v found u hv hf
  have wl:=ft_loop K h41 a b ha hb ha2 row rv hrv v (by omega) (by omega) hr found u row.length 0 true (by omega)
  cases hfit:fitB a b row v with
  | false=>
   have ih:=ih (v+1) found u (by omega) hf
   simp only [fillV,hfit,Bool.false_eq_true,if_false]
   rw [← ih]
   clear ih
   unfold fitB at hfit
   rw [hfit] at wl
   rw [lp_un f71_L1.eq_1]
   clear hr E
   rcases hrv with rfl | ⟨rfl,rfl⟩
   ·simp only [iN,rowV,box5,resB,pD,Int.natCast_zero,Int.ofNat_zero] at wl ⊢
    cases u <;> (simp only [mvB] at wl⊢;simp (disch:=first | decide | omega | (simp only [LN];omega) | (simp only [LN];done) | fail) only [SV,SW,Nat.reduceBEq,range2,reduceCtorEq,Nat.reduceAdd,wl,exec_regg,evSegsG_cons,frzL_nil,evSegG_none,segsG_cons,evSegG_some,sgC_eq,viewD,keepG,skipS_eq,frzL_cons,frzV_eq,frzA_none,segsG_nil,cast1])
   ·simp only [iN,rowV,box5,resB,pD,Int.natCast_zero,Int.ofNat_zero] at wl ⊢
    simp only [List.length_nil] at wl ⊢
    cases u <;> (simp only [mvB] at wl⊢;simp (disch:=first | decide | omega | (simp only [LN];omega) | (simp only [LN];done) | fail) only [SV,SW,Nat.reduceBEq,range2,reduceCtorEq,Nat.reduceAdd,wl,exec_regg,evSegsG_cons,frzL_nil,evSegG_none,segsG_cons,evSegG_some,sgC_eq,viewD,keepG,skipS_eq,frzL_cons,frzV_eq,frzA_none,segsG_nil,cast1])
  | true=>
   have w:=E (row++[v]) (rowV (row++[v])) found (.inl rfl) (by simp;omega) (fun u hu=>by
    rcases List.mem_append.1 hu with h | h
    ·exact hr u h
    ·simp at h;omega) hf
   obtain ⟨le1,le2⟩:=fillM_le a b k (row++[v]) found
   simp only [fillV,hfit,if_true]
   unfold fitB at hfit
   rw [hfit] at wl
   obtain ⟨q1,q2⟩:=h40
   generalize hq:fillM a b k (row++[v]) found=q at w le1 le2 ⊢
   obtain ⟨ok,f⟩:=q
   simp only at w le1 le2
   have e1:(row++[v]).map natD=row.map natD++[[.int .i64 (v:Int)]]:=by rw [List.map_append];rfl
   rw [lp_un f71_L1.eq_1]
   clear hr E hq
   cases ok with
   | false=>
    simp only [flOut,Bool.false_eq_true,if_false]
    clear ih
    rcases hrv with rfl | ⟨rfl,rfl⟩
    ·rcases Nat.eq_zero_or_pos row.length with h0 | h0
     ·obtain rfl:row=[]:=List.eq_nil_of_length_eq_zero h0
      simp only [iN,rowV,box5,resB,pD,Int.natCast_zero,Int.ofNat_zero,e1] at wl w q2 ⊢
      simp only [List.length_nil,List.map_nil,List.nil_append] at wl w q2 ⊢
      generalize chg found f=ch at w ⊢
      cases u <;> cases ch <;> (simp only [mvB,Bool.or_false,Bool.or_true,Bool.false_or,Bool.true_or] at wl w⊢;simp (disch:=first | decide | omega | (simp only [LN];omega) | (simp only [LN];done) | fail) only [SV,SW,Nat.reduceBEq,range2,reduceCtorEq,Nat.reduceAdd,wl,exec_regg,evSegsG_cons,frzL_nil,evSegG_none,segsG_cons,evSegG_some,sgC_eq,viewD,q2,V.new2,V.newR,V.shift,lose,keepG,skipS_eq,frzL_cons,frzV_eq,frzA_bsl,frzD_one,V.forget,V.drop1,V.ref0,dimL,w,loseM,Nat.reduceSub,segsG_nil])
     ·have q1:=q1 row h0 (by omega)
      simp only [iN,rowV,box5,resB,pD,Int.natCast_zero,Int.ofNat_zero,e1] at wl w q1 ⊢
      generalize chg found f=ch at w ⊢
      cases u <;> cases ch <;> (simp only [mvB,Bool.or_false,Bool.or_true,Bool.false_or,Bool.true_or] at wl w⊢;simp (disch:=first | decide | omega | (simp only [LN];omega) | (simp only [LN];done) | fail) only [SV,SW,Nat.reduceBEq,range2,reduceCtorEq,Nat.reduceAdd,wl,exec_regg,evSegsG_cons,frzL_nil,evSegG_none,segsG_cons,evSegG_some,sgC_eq,viewD,q1,V.new2,V.newR,V.shift,lose,V.forget,V.drop1,V.ref0,keepG,skipS_eq,frzL_cons,frzV_eq,frzA_bsl,frzD_snoc,dimL,w,loseM,Nat.reduceSub,segsG_nil])
    ·simp only [iN,rowV,box5,resB,pD,Int.natCast_zero,Int.ofNat_zero,e1] at wl w q2 ⊢
     simp only [List.length_nil,List.map_nil,List.nil_append] at wl w q2 ⊢
     generalize chg found f=ch at w ⊢
     cases u <;> cases ch <;> (simp only [mvB,Bool.or_false,Bool.or_true,Bool.false_or,Bool.true_or] at wl w⊢;simp (disch:=first | decide | omega | (simp only [LN];omega) | (simp only [LN];done) | fail) only [SV,SW,Nat.reduceBEq,range2,reduceCtorEq,Nat.reduceAdd,wl,exec_regg,evSegsG_cons,frzL_nil,evSegG_none,segsG_cons,evSegG_some,sgC_eq,viewD,q2,V.new2,V.newR,V.shift,lose,keepG,skipS_eq,frzL_cons,frzV_eq,frzA_bsl,frzD_one,V.forget,V.drop1,V.ref0,dimL,w,loseM,Nat.reduceSub,segsG_nil])
   | true=>
    simp only
    have g:=fillV_le (fillM_le a b k) (fitB a b row) row m (v+1) f
    have hct:=chg_trans le1 g.1
    have ih:=ih (v+1) f (u || chg found f) (by omega) (le2 hf rfl)
    rw [Bool.or_assoc,hct] at ih
    rw [← ih]
    clear ih hct g
    rcases hrv with rfl | ⟨rfl,rfl⟩
    ·rcases Nat.eq_zero_or_pos row.length with h0 | h0
     ·obtain rfl:row=[]:=List.eq_nil_of_length_eq_zero h0
      simp only [iN,rowV,box5,resB,pD,Int.natCast_zero,Int.ofNat_zero,e1] at wl w q2 ⊢
      simp only [List.length_nil,List.map_nil,List.nil_append] at wl w q2 ⊢
      generalize chg found f=ch at w ⊢
      cases u <;> cases ch <;> (simp only [mvB,Bool.or_false,Bool.or_true,Bool.false_or,Bool.true_or] at wl w⊢;simp (disch:=first | decide | omega | (simp only [LN];omega) | (simp only [LN];done) | fail) only [SV,SW,Nat.reduceBEq,range2,reduceCtorEq,Nat.reduceAdd,wl,exec_regg,evSegsG_cons,frzL_nil,evSegG_none,segsG_cons,evSegG_some,sgC_eq,viewD,q2,V.new2,V.newR,V.shift,lose,keepG,skipS_eq,frzL_cons,frzV_eq,frzA_bsl,frzD_one,V.forget,V.drop1,V.ref0,dimL,w,loseM,Nat.reduceSub,segsG_nil,cast1])
     ·have q1:=q1 row h0 (by omega)
      simp only [iN,rowV,box5,resB,pD,Int.natCast_zero,Int.ofNat_zero,e1] at wl w q1 ⊢
      generalize chg found f=ch at w ⊢
      cases u <;> cases ch <;> (simp only [mvB,Bool.or_false,Bool.or_true,Bool.false_or,Bool.true_or] at wl w⊢;simp (disch:=first | decide | omega | (simp only [LN];omega) | (simp only [LN];done) | fail) only [SV,SW,Nat.reduceBEq,range2,reduceCtorEq,Nat.reduceAdd,wl,exec_regg,evSegsG_cons,frzL_nil,evSegG_none,segsG_cons,evSegG_some,sgC_eq,viewD,q1,V.new2,V.newR,V.shift,lose,V.forget,V.drop1,V.ref0,keepG,skipS_eq,frzL_cons,frzV_eq,frzA_bsl,frzD_snoc,dimL,w,loseM,Nat.reduceSub,segsG_nil,cast1])
    ·simp only [iN,rowV,box5,resB,pD,Int.natCast_zero,Int.ofNat_zero,e1] at wl w q2 ⊢
     simp only [List.length_nil,List.map_nil,List.nil_append] at wl w q2 ⊢
     generalize chg found f=ch at w ⊢
     cases u <;> cases ch <;> (simp only [mvB,Bool.or_false,Bool.or_true,Bool.false_or,Bool.true_or] at wl w⊢;simp (disch:=first | decide | omega | (simp only [LN];omega) | (simp only [LN];done) | fail) only [SV,SW,Nat.reduceBEq,range2,reduceCtorEq,Nat.reduceAdd,wl,exec_regg,evSegsG_cons,frzL_nil,evSegG_none,segsG_cons,evSegG_some,sgC_eq,viewD,q2,V.new2,V.newR,V.shift,lose,keepG,skipS_eq,frzL_cons,frzV_eq,frzA_bsl,frzD_one,V.forget,V.drop1,V.ref0,dimL,w,loseM,Nat.reduceSub,segsG_nil,cast1])
end Go.Vm
end

section
namespace Go.Vm
set_option maxRecDepth 20000
def segA:Seg:=⟨[(27,.lits 1 (.cons (.call 83 (.cons (.sl 1) .nil)) .nil))],[(20,(.sl 0))],[],some (some 28,.app 1 (.ld 1 false (.fa 3 (.fa 0 (.sl 0)))) (.sl 27)),[0],9,[[],[],[1],[1,2],[2,1,3],[],[5],[5,6],[6,5,7,3,1,2,4],[8,7,6,5,4,3,2,1,0],[0,1,2,3,4,5,6,7,8,9],[9,8,7,6,5,4,3,2,1,0,10]],[],[(.sl 0)]⟩
theorem segA_ev (K:Cx) (h40:K83 K) (a b:Lat) (row:List Nat) (h0:0 < row.length) (h1:row.length≤1000) (found:List (List Nat)) (hf:found.length≤40) :
  evSeg K ⟨[(19,.d false (.bool true)),(0,.ptr 0 0 0),(1,rowV row),(5,iN row.length)],[(0,box5 a b found.length),(1,resB found)],2,[]⟩ segA=some ⟨[(28,.bsl 1 0 (found.length+1)),(20,.ptr 0 0 0),(0,.ptr 0 0 0)],
   [(2,.dat false 1 [[.sl 1 (row.map natD)]]),(0,.mix 5 [[.d false (.int .i64 0),pD a,pD b,.junk,.fs false 1 []]]),(1,.dat false 1 (found.map rowD++[[.sl 1 (row.map natD)]]))],3,[1]⟩:=by
 have q1:=h40.1 row h0 h1
 refine evSeg_lateC ?_ ?_
 ·unfold segA
  rw [evSeg0_eq]
  simp only [iN,rowV,box5,resB,pD] at q1 ⊢
  simp (disch:=first | decide | omega | (simp only [LN];omega) | (simp only [LN];done) | fail) only [SV,SW,Nat.reduceBEq,viewD,q1,callR_news,Nat.reduceAdd,lose,V.forget,V.drop1,V.ref0,reduceCtorEq]
 ·unfold segA lateC
  simp only [iN,rowV,box5,resB,pD] at q1 ⊢
  simp (disch:=first | decide | omega | (simp only [LN];omega) | (simp only [LN];done) | fail) only [SV,SW,List.isEmpty_cons,Nat.reduceBEq,viewD,q1,callR_news,Nat.reduceAdd,clean,cleanV,reduceCtorEq,Nat.reduceEqDiff,lateH,lateB]
theorem ev_fill0 (K:Cx) (h40:K83 K) (a b:Lat) (row:List Nat) (rv:V) (hrv:RowV rv row) (h0:0 < row.length) (hz:row.length=a.sz) (h1:a.sz≤1000) (found:List (List Nat)) (hf:found.length≤40) :
  runFun K f71 [.ptr 0 0 0,rv] [box5 a b found.length,resB found]=some (.bool (fillM a b 0 row found).1,[box5 a b (fillM a b 0 row found).2.length,resB (fillM a b 0 row found).2],mvB (chg found (fillM a b 0 row found).2)):=by
 obtain rfl:rv=rowV row:=by
  rcases hrv with h | ⟨h,_⟩
  ·exact h
  ·subst h;simp at h0
 have w:=segA_ev K h40 a b row h0 (by omega) found hf
 have e:=cells_eq a
 have hc:chg found (found++[row])=true:=by simp [chg]
 have hle:((found.length:Int)+1≤40)=(found.length+1≤40):=by simp only [eq_iff_iff];omega
 simp only [fillM,hc,mvB,List.map_append,List.map_cons,List.map_nil,List.length_append,List.length_cons,List.length_nil]
 unfold f71
 unfold segA at w
 simp only [iN,rowV,box5,resB,pD,e,hz,rowD] at w ⊢
 simp (disch:=first | decide | omega | (simp only [LN];omega) | (simp only [LN];done) | fail) only [SV,SW,Nat.reduceAdd,Nat.reduceBEq,hz,w,lose,range2,reduceCtorEq,oneOr,hNew,V.forget,V.drop1,V.ref0,V.newR,viewD,Nat.reduceLeDiff]
 have hd:decide (((found.length+1:Nat):Int)≤40)=decide (found.length≤39):=decide_eq_decide.2 (by omega)
 refine ⟨by rw [hd],?_⟩
 rw [List.map_append]
 rfl
theorem ev_fillS (K:Cx) (h41:K27 K) (h40:K83 K) (a b:Lat) (ha:a.wf) (hb:b.wf) (ha2:a.sz≤1000) (hb2:b.sz≤1000) (k:Nat) (E:E71 K a b k) (row:List Nat) (rv:V) (hrv:RowV rv row) (hx:row.length+(k+1)=a.sz) (hr:∀ u∈row,u < b.sz) (found:List (List Nat)) (hf:found.length≤40) :
  runFun K f71 [.ptr 0 0 0,rv] [box5 a b found.length,resB found]=some (.bool (fillM a b (k+1) row found).1,[box5 a b (fillM a b (k+1) row found).2.length,resB (fillM a b (k+1) row found).2],mvB (chg found (fillM a b (k+1) row found).2)):=by
 have w:=fl_loop K h41 h40 a b ha hb ha2 hb2 k E row rv hrv hx hr b.sz 0 found false (by omega) hf
 have e:=cells_eq a
 have e2:=cells_eq b
 have hne:((row.length:Int) == (a.sz:Int))=false:=by simp;omega
 have hne0:((0:Int) == (a.sz:Int))=false∨0 < row.length:=by
  rcases Nat.eq_zero_or_pos row.length with h | h
  ·exact .inl (by simp;omega)
  ·exact .inr h
 simp only [fillM]
 generalize fillV (fillM a b k) (fitB a b row) row b.sz 0 found=q at w ⊢
 obtain ⟨ok,f⟩:=q
 clear E hr
 unfold f71
 rcases hrv with rfl | ⟨rfl,rfl⟩
 ·simp only [iN,rowV,box5,resB,pD,e,e2,Int.natCast_zero,Int.ofNat_zero,Bool.false_or] at w ⊢
  generalize chg found f=ch at w ⊢
  cases ok <;> cases ch <;> (simp only [flOut,iN,rowV,box5,resB,pD,e,e2,mvB,if_true,if_false,Bool.false_eq_true] at w⊢;simp (disch:=first | decide | omega | (simp only [LN];omega) | (simp only [LN];done) | fail) only [SV,SW,Nat.reduceAdd,Nat.reduceBEq,hne,range2,reduceCtorEq,w,oneOr,hNew,V.forget,V.drop1,V.ref0,V.newR,viewD])
 ·have hne1:((0:Int) == (a.sz:Int))=false:=hne0.resolve_right (by simp)
  simp only [iN,rowV,box5,resB,pD,e,e2,Int.natCast_zero,Int.ofNat_zero,Bool.false_or] at w ⊢
  simp only [List.length_nil] at w ⊢
  generalize chg found f=ch at w ⊢
  cases ok <;> cases ch <;> (simp only [flOut,iN,rowV,box5,resB,pD,e,e2,mvB,if_true,if_false,Bool.false_eq_true] at w⊢;simp (disch:=first | decide | omega | (simp only [LN];omega) | (simp only [LN];done) | fail) only [SV,SW,Nat.reduceAdd,Nat.reduceBEq,range2,reduceCtorEq,w,oneOr,hNew,V.forget,V.drop1,V.ref0,V.newR,viewD])
end Go.Vm
end

section
namespace Go.Vm
set_option maxRecDepth 20000
open Go.Proofs Go.RowKit
theorem map_inj' {α β:Type} {f:α→β} (hf:∀ x y,f x=f y→x=y):∀ l l':List α,l.map f=l'.map f→l=l'
 | [],[],_=>rfl
 | [],_ :: _,h=>by simp at h
 | _ :: _,[],h=>by simp at h
 | a :: l,b :: l',h=>by
  simp only [List.map_cons,List.cons.injEq] at h
  rw [hf a b h.1,map_inj' hf l l' h.2]
theorem natD_inj (x y:Nat) (h:natD x=natD y):x=y:=by
 simp only [natD,List.cons.injEq,D.int.injEq,true_and,and_true] at h
 omega
theorem boolD_inj (x y:Bool) (h:boolD x=boolD y):x=y:=by
 simpa [boolD] using h
theorem rowD_inj (x y:List Nat) (h:rowD x=rowD y):x=y:=by
 simp only [rowD,List.cons.injEq,D.sl.injEq,true_and,and_true] at h
 exact map_inj' natD_inj x y h
theorem lowD_inj (x y:List Bool) (h:lowD x=lowD y):x=y:=by
 simp only [lowD,List.cons.injEq,D.sl.injEq,true_and,and_true] at h
 exact map_inj' boolD_inj x y h
theorem cells_inj:∀ x y:Lat,x.cells=y.cells→x=y
 | .ch n,.ch m,h=>by
  simp only [Lat.cells,List.cons.injEq,D.int.injEq,true_and,and_true] at h
  rw [Int.natCast_inj.1 h]
 | .ch _,.fn _ _ _ _,h=>by simp [Lat.cells] at h
 | .fn _ _ _ _,.ch _,h=>by simp [Lat.cells] at h
 | .fn a b r l,.fn a' b' r' l',h=>by
  simp only [Lat.cells,List.cons.injEq,D.ptr.injEq,D.sl.injEq,true_and,and_true] at h
  obtain ⟨_,h1,h2,h3,h4⟩:=h
  rw [cells_inj a a' h1,cells_inj b b' h2,map_inj' rowD_inj _ _ h3,map_inj' lowD_inj _ _ h4]
noncomputable def z27:Sp where
 α:=Lat×Nat×Nat
 f:=27
 ok:=fun (o,x,y)=>o.wf∧x < o.sz∧y < o.sz
 args:=fun (o,x,y)=>[pD o,iN x,iN y]
 res:=fun (o,x,y)=>(.bool (o.le x y),[])
 inj:=by
  rintro ⟨o,x,y⟩ ⟨o',x',y'⟩ _ _ h
  simp only [pD,iN,List.cons.injEq,V.d.injEq,D.ptr.injEq,D.int.injEq,true_and,and_true,Int.natCast_inj] at h
  obtain ⟨h1,rfl,rfl⟩:=h
  obtain rfl:=cells_inj _ _ h1
  rfl
noncomputable def z83:Sp where
 α:=List Nat
 f:=83
 ok:=fun r=>r.length≤1000
 args:=fun r=>[rowV r]
 res:=fun r=>if r=[] then (.fs true 1 [],[]) else (.bsl 0 0 r.length,[.dat true 1 (r.map natD)])
 inj:=by
  intro r r' _ _ h
  simp only [rowV,List.cons.injEq,V.d.injEq,D.sl.injEq,true_and,and_true] at h
  rw [map_inj' natD_inj r r' h]
noncomputable def z72:Sp where
 α:=D×Lat×Lat×List (List Nat)×D×Nat×Nat
 f:=72
 ok:=fun (_,a,b,rows,_,x,y)=>b.wf∧a.sz≤1000∧rowsOk a b rows∧x < rows.length∧y < rows.length
 args:=fun (s,a,b,rows,l,x,y)=>[.d false (halfD s a b rows l),iN x,iN y]
 res:=fun (_,a,b,rows,_,x,y)=>(.bool (ptw a b (nth rows (x:Int)) (nth rows (y:Int))),[])
 inj:=by
  rintro ⟨s,a,b,rows,l,x,y⟩ ⟨s',a',b',rows',l',x',y'⟩ _ _ h
  simp only [halfD,iN,List.cons.injEq,V.d.injEq,D.ptr.injEq,D.int.injEq,D.sl.injEq,true_and,and_true,Int.natCast_inj] at h
  obtain ⟨⟨rfl,h1,h2,h3,rfl⟩,rfl,rfl⟩:=h
  obtain rfl:=cells_inj _ _ h1
  obtain rfl:=cells_inj _ _ h2
  obtain rfl:=map_inj' rowD_inj _ _ h3
  rfl
noncomputable def y71 (a b:Lat) (k:Nat):Se where
 α:=List Nat×V×List (List Nat)
 f:=71
 ok:=fun (row,rv,found)=>RowV rv row∧row.length+k=a.sz∧(∀ u∈row,u < b.sz)∧found.length≤40
 args:=fun (_,rv,_)=>[.ptr 0 0 0,rv]
 blks:=fun (_,_,found)=>[box5 a b found.length,resB found]
 res:=fun (row,_,found)=>(.bool (fillM a b k row found).1,[box5 a b (fillM a b k row found).2.length,resB (fillM a b k row found).2],mvB (chg found (fillM a b k row found).2))
 inj:=by
  rintro ⟨row,rv,found⟩ ⟨row',rv',found'⟩ ⟨h1,_⟩ ⟨h2,_⟩ h h'
  simp only [List.cons.injEq,true_and,and_true] at h
  subst h
  simp only [resB,List.cons.injEq,Blk.dat.injEq,true_and,and_true] at h'
  obtain rfl:=map_inj' rowD_inj _ _ h'.2
  have:row=row':=by
   rcases h1 with rfl | ⟨rfl,rfl⟩
   ·rcases h2 with h | ⟨rfl,h⟩
    ·simp only [rowV,V.d.injEq,D.sl.injEq,true_and] at h
     exact map_inj' natD_inj _ _ h
    ·simp [rowV] at h
   ·rcases h2 with h | ⟨rfl,_⟩
    ·simp [rowV] at h
    ·rfl
  subst this
  rfl
theorem ev_clone83 (K:Cx) (r:List Nat) (h0:0 < r.length) (h1:r.length≤1000):runFun K f83 [rowV r] []=some (.bsl 0 0 r.length,[.dat true 1 (r.map natD)],[]):=by
 have hne:r.map natD≠[]:=by
  intro h
  have:=congrArg List.length h
  simp at this
  subst this
  simp at h0
 have hni:(V.d false (.sl 1 (r.map natD))).isNilS=some false:=by
  cases r with
  | nil=>simp at h0
  | cons x r=>rfl
 have hfl:flatRows (r.map natD)=true:=flatRows_map r natD (fun x=>rfl)
 unfold f83
 simp only [rowV]
 simp (disch:=first | decide | omega | (simp only [LN];omega) | (simp only [LN];done) | fail) only [SV,SW,evEqs,cellsEq,cellEq,hni,Nat.reduceBEq,hfl,lose,V.forget,V.drop1,V.ref0,oneOr,hNew,V.newR,viewD]
theorem hasE_nil {s:Se} {L':List Se}:HasE (s :: L') s:=hasE_head s L'
theorem k27_of {G L E} (h:Has L z27):K27 (cx G L E):=fun o x y h1 h2 h3=>h (o,x,y) ⟨h1,h2,h3⟩
theorem k83_of {G L E} (h:Has L z83):K83 (cx G L E):=⟨fun r h1 h2=>by
  have:=h r h2
  have hne:r≠[]:=by rintro rfl;simp at h1
  simp only [z83,if_neg hne] at this
  exact this,by
  have:=h [] (by simp [z83])
  simp only [z83,if_true] at this
  exact this⟩
theorem e71_of {G L E a b k} (h:HasE E (y71 a b k)):E71 (cx G L E) a b k:=fun row rv found h1 h2 h3 h4=>h (row,rv,found) ⟨h1,h2,h3,h4⟩
theorem known1 (G:Nat→Option (List D)):Known Tryz.prog G [z83,z27] []:=by
 refine Known.put (Known.add (s:=z27) Known.nil mixedZ (g:=f27) (fun a _=>f27_ok) fun ⟨o,x,y⟩ ⟨h1,h2,h3⟩=>⟨_,ev_below _ o x y h1 h2 h3⟩) ?_
 intro r hr
 refine ⟨by kernel_rfl,?_⟩
 simp only [z83]
 split
 ·rename_i h
  subst h
  exact pure_clone83
 ·rename_i h
  exact (pure_sound mixedZ (Known.nil (G:=G)).sound f83_ok (ev_clone83 _ r (List.length_pos_iff.2 h) hr)).2
theorem h40':Has [z83,z27] z83:=has_head _ _
theorem h41':Has [z83,z27] z27:=has_tail (has_head _ _) (by decide)
theorem z72h (G:Nat→Option (List D)):z72.Holds Tryz.prog G:=
 holds_of mixedZ (known1 G).sound (g:=f72) (fun a _=>f72_ok) fun ⟨s,a,b,rows,l,x,y⟩ ⟨h1,h2,h3,h4,h5⟩=>⟨_,ev_pointwise _ (k27_of h41') s a b rows l x y h1 h2 h3 h4 h5⟩
theorem y71h (G:Nat→Option (List D)) (a b:Lat) (ha:a.wf) (hb:b.wf) (ha2:a.sz≤1000) (hb2:b.sz≤1000) (h0:0 < a.sz):∀ k,(y71 a b k).Holds Tryz.prog G
 | 0=>holdsE_of mixedZ (known1 G).sound (g:=f71) (fun x _=>f71_ok) fun ⟨row,rv,found⟩ ⟨h1,h2,h3,h4⟩=>ev_fill0 _ (k83_of h40') a b row rv h1 (by omega) (by omega) ha2 found h4
 | k+1=>holdsE_of mixedZ ((known1 G).putE (y71h G a b ha hb ha2 hb2 h0 k)).sound (g:=f71) (fun x _=>f71_ok) fun ⟨row,rv,found⟩ ⟨h1,h2,h3,h4⟩=>ev_fillS _ (k27_of h41') (k83_of h40') a b ha hb ha2 hb2 k (e71_of hasE_nil) row rv h1 (by omega) h3 found h4
end Go.Vm
end

section
namespace Go.Vm
set_option maxRecDepth 20000
def oV:Option Lat→V
 | some l=>pD l
 | none=>.d false .nilp
def keptE (l:List (List UInt8×Option Lat)):List (D×V):=l.map fun q=>(.str q.1,oV q.2)
theorem oV_refs (o:Option Lat):(oV o).refs=[]:=by cases o <;> rfl
theorem kept_refs (l:List (List UInt8×Option Lat)):(keptE l).flatMap (fun q=>q.2.refs)=[]:=by
 induction l with
 | nil=>rfl
 | cons q l ih=>
  simp only [keptE,List.map_cons,List.flatMap_cons,oV_refs,List.nil_append]
  exact ih
theorem kept_within (l:List (List UInt8×Option Lat)) (p:Nat→Bool):(keptE l).all (fun q=>q.2.within p)=true:=by
 simp only [keptE,List.all_map,List.all_eq_true]
 intro q _
 cases h:q.2 <;> simp [h,oV,pD,V.within]
theorem kept_ren (l:List (List UInt8×Option Lat)) (g:Nat→Nat):(keptE l).map (fun q=>(q.1,q.2.ren g))=keptE l:=by
 simp only [keptE,List.map_map]
 refine List.map_congr_left fun q _=>?_
 cases h:q.2 <;> simp [h,oV,pD,V.ren]
theorem kept_dim (l:List (List UInt8×Option Lat)):(keptE l).map (fun q=>(q.1,q.2.dim))=keptE l:=by
 simp only [keptE,List.map_map]
 refine List.map_congr_left fun q _=>?_
 cases h:q.2 <;> simp [h,oV,pD,V.dim]
theorem kept_forget (l:List (List UInt8×Option Lat)) (p:Nat→Bool):Blk.forget p (.map (keptE l))=.map (keptE l):=by
 simp only [Blk.forget,keptE,List.map_map]
 congr 1
 refine List.map_congr_left fun q _=>?_
 cases h:q.2 <;> simp [h,oV,pD,V.forget,V.drop1]
def rowR (p:Nat→Bool):Nat→Nat→List Bool→List Bool
 | 0,_,l=>l
 | m+1,j,l=>rowR p m (j+1) (l.set j (p j))
theorem rowR_len (p):∀ m j l,(rowR p m j l).length=l.length
 | 0,_,_=>rfl
 | m+1,j,l=>by rw [rowR,rowR_len p m];simp
def lowC (b:Nat):List (List Bool)→V
 | []=>.fs false 1 []
 | x :: l=>.bsl b 0 (l.length+1)
def lowH (b:Nat):List (List Bool)→List (Nat×Blk)
 | []=>[]
 | x :: l=>[(b,.dat true 1 ((x :: l).map lowD))]
def lowN:List (List Bool)→Nat
 | []=>0
 | _ :: _=>1
def fnH (a b:Lat) (f:List (List Nat)) (es:List (List UInt8×Option Lat)) (low:List (List Bool)):List (Nat×Blk):=
 [(0,.mix 1 [[.map 1]]),(1,.map (keptE es)),(2,.mix 5 [[iN f.length,pD a,pD b,.bsl 3 0 f.length,lowC 4 low]]),(3,resB f)]++lowH 4 low
def fnI (a b:Lat) (f:List (List Nat)) (es:List (List UInt8×Option Lat)) (low:List (List Bool)) (l:List Bool):List (Nat×Blk):=
 [(0,.mix 1 [[.map 1]]),(1,.map (keptE es)),(2,.mix 5 [[iN f.length,pD a,pD b,.bsl 4 0 f.length,lowC 5 low]]),(3,.dat true 1 (l.map boolD)),(4,resB f)]++lowH 5 low
theorem set_bool (c:Bool) (l:List Bool) (j:Nat) (v:Bool) (hj:j < l.length):(Blk.dat c 1 (l.map boolD)).set j 0 [.d false (.bool v)]=some (.dat c 1 ((l.set j v).map boolD)):=by
 rw [set_datm (hi:=hj)]
 simp [boolD,mapO,asD,setD,splice,V.new1,D.flat,List.map_set]
theorem in_loop (K:Cx) (h33:K72 K) (a b:Lat) (hb:b.wf) (ha:a.sz≤1000) (f:List (List Nat)) (hf:rowsOk a b f) (hn:f.length≤1000) (es:List (List UInt8×Option Lat)) (low:List (List Bool)) (x:Nat) (hx:x < f.length):∀ (m j:Nat) (l:List Bool),j+m=f.length→l.length=f.length→
  lp K 2 [7,8,9,47,48,59,60] f53_L0 ⟨[(7,.ptr 2 0 0),(8,iN x),(9,.bsl 3 0 f.length),(47,iN f.length),(48,iN x),(59,iN f.length),(60,iN j)],fnI a b f es low l,5+lowN low,[]⟩ =
   some (.exit 2,⟨[(7,.ptr 2 0 0),(9,.bsl 3 0 f.length),(47,iN f.length),(48,iN x)],fnI a b f es low (rowR (fun y=>ptw a b (nth f (x:Int)) (nth f (y:Int))) m j l),5+lowN low,[]⟩):=by
 intro m
 induction m with
 | zero=>
  intro j l hj hl
  obtain rfl:j=f.length:=by omega
  simp only [rowR]
  rw [lp_un f53_L0.eq_1]
  clear hf
  cases low with
  | nil=>
   simp only [fnI,lowH,lowC,lowN,iN,pD,resB,List.append_nil,List.cons_append,List.nil_append]
   simp (disch:=first | decide | omega | (simp only [LN];omega) | (simp only [LN];done) | fail) only [Nat.add_zero,exec_seq,exec_reg,evSegs_cons,evSeg_eq,evMks_nil,o1_some,segL_eq,wonB_nil,evChk_nil,evLets_cons,e_bin,e_sl,look_cons,Nat.reduceBEq,lookB_false,beq_self_eq_true,lookB_true,o2_some,evBin,intBin,ilt_F,decide_false,if_true,evLets_nil,letC_eq,segW_none,restrict_cons,resC_some,restrict_nil,List.cons_append,List.nil_append,addBlks,segs_nil,nrm_some,thn_nrm,exec_cond,brn_false,exec_tidy,tidyS_a,tidyA_eq,range2,List.map_cons,List.map_nil,refsL,V.refs,List.append_nil,reachB_cons,List.contains_nil,reachC_false,refsO_some,Blk.refs,List.flatMap_cons,List.flatMap_nil,List.contains_cons,Bool.or_self,kept_refs,Bool.or_false,Bool.or_true,reachC_true,reachB_nil,tidyB_eq,List.nodup_cons,List.mem_cons,reduceCtorEq,List.not_mem_nil,or_self,not_false_eq_true,Nat.reduceEqDiff,List.nodup_nil,and_self,decide_true,List.take_succ_cons,List.take_zero,Bool.and_self,List.all_cons,V.within,List.all_nil,closedB,Blk.within,withinL,kept_within,List.idxOf_cons,V.ren,cond_false,cond_true,Nat.zero_add,Nat.reduceAdd,Blk.ren,List.zipIdx_cons,List.zipIdx_nil,List.filterMap_cons,Option.map_some,renL,kept_ren,List.filterMap_nil,List.length_cons,List.length_nil,List.filter_cons,Bool.false_eq_true,List.filter_nil,if_false,exec_exit,thn_exit,lpT_exit]
  | cons y low=>
   simp only [fnI,lowH,lowC,lowN,iN,pD,resB,List.append_nil,List.cons_append,List.nil_append]
   simp (disch:=first | decide | omega | (simp only [LN];omega) | (simp only [LN];done) | fail) only [List.map_cons,Nat.reduceAdd,exec_seq,exec_reg,evSegs_cons,evSeg_eq,evMks_nil,o1_some,segL_eq,wonB_nil,evChk_nil,evLets_cons,e_bin,e_sl,look_cons,Nat.reduceBEq,lookB_false,beq_self_eq_true,lookB_true,o2_some,evBin,intBin,ilt_F,decide_false,if_true,evLets_nil,letC_eq,segW_none,restrict_cons,resC_some,restrict_nil,List.cons_append,List.nil_append,addBlks,segs_nil,nrm_some,thn_nrm,exec_cond,brn_false,exec_tidy,tidyS_a,tidyA_eq,range2,List.map_nil,refsL,V.refs,List.append_nil,reachB_cons,List.contains_nil,reachC_false,refsO_some,Blk.refs,List.flatMap_cons,List.flatMap_nil,List.contains_cons,Bool.or_self,kept_refs,Bool.or_false,Bool.or_true,reachC_true,reachB_nil,tidyB_eq,List.nodup_cons,List.mem_cons,reduceCtorEq,List.not_mem_nil,or_self,not_false_eq_true,Nat.reduceEqDiff,List.nodup_nil,and_self,decide_true,List.take_succ_cons,List.take_zero,Bool.and_self,List.all_cons,V.within,List.all_nil,closedB,Blk.within,withinL,kept_within,List.idxOf_cons,V.ren,cond_false,cond_true,Nat.zero_add,Blk.ren,List.zipIdx_cons,List.zipIdx_nil,List.filterMap_cons,Option.map_some,renL,kept_ren,List.filterMap_nil,List.length_cons,List.length_nil,List.filter_cons,Bool.false_eq_true,List.filter_nil,if_false,exec_exit,thn_exit,lpT_exit]
 | succ m ih=>
  intro j l hj hl
  have ih:=ih (j+1) (l.set j (ptw a b (nth f (x:Int)) (nth f (j:Int)))) (by omega) (by simpa using hl)
  have hset:=fun c=>set_bool c l j (ptw a b (nth f (x:Int)) (nth f (j:Int))) (by omega)
  simp only [rowR]
  rw [← ih]
  clear ih
  rw [lp_un f53_L0.eq_1]
  cases low with
  | nil=>
   have w:=h33 (.int .i64 f.length) a b f (.sl 1 []) x j hb ha hf hx (by omega)
   clear hf
   simp only [halfD,iN] at w
   simp only [fnI,lowH,lowC,lowN,iN,pD,resB,List.append_nil,List.cons_append,List.nil_append]
   generalize ptw a b (nth f (x:Int)) (nth f (j:Int))=q at *
   simp (disch:=first | decide | omega | (simp only [LN];omega) | (simp only [LN];done) | fail) only [Nat.add_zero,exec_seq,exec_reg,evSegs_cons,evSeg_eq,evMks_nil,o1_some,segL_eq,wonB_nil,evChk_nil,evLets_cons,e_bin,e_sl,look_cons,Nat.reduceBEq,lookB_false,beq_self_eq_true,lookB_true,o2_some,evBin,intBin,ilt_T,decide_true,if_true,evLets_nil,letC_eq,segW_none,restrict_cons,resC_some,restrict_nil,List.cons_append,List.nil_append,addBlks,segs_nil,nrm_some,thn_nrm,exec_cond,brn_true,exec_skip,exec_block,segW_some,evWr_store,e_ia,evIa_bsl,iaB_dat,Int.toNat_natCast,Nat.zero_add,e_call,e_cons,e_nil,consV_tup,callV_tup,evCall_eq,List.any_cons,V.own,V.own1,List.any_nil,Bool.or_self,Bool.or_false,passes_eq,List.all_cons,V.new,V.new1,D.flat,Bool.or_true,List.all_nil,Bool.and_self,Bool.and_true,V.flatV,V.flat1,Bool.not_false,Bool.false_and,mapO_cons,view,viewDepth,viewD,row_mix,List.getElem?_cons_zero,List.drop_zero,List.length_map,Nat.le_refl,take_all,mapO_nil,mapC_eq,Option.map_some,callA_eq,w,callR_some,Bool.not_true,Bool.and_false,Bool.false_eq_true,if_false,wrStore_ptr,V.laid,V.cell,V.cells,List.length_cons,List.length_nil,stA_eq,hset,stB_some,put_cons,putB_false,putB_true,segO_none,lose,loseH,Lost.ids,List.append_nil,blk_nrm,e_int,cast1,wrap64,lpT_nrm,tidyS_a,tidyA_eq,range2,List.map_cons,List.map_nil,refsL,V.refs,reachB_cons,List.contains_nil,reachC_false,refsO_some,Blk.refs,List.flatMap_cons,List.flatMap_nil,List.contains_cons,kept_refs,reachC_true,reachB_nil,tidyB_eq,List.nodup_cons,List.mem_cons,reduceCtorEq,List.not_mem_nil,or_self,not_false_eq_true,Nat.reduceEqDiff,List.nodup_nil,and_self,List.take_succ_cons,List.take_zero,V.within,closedB,Blk.within,withinL,kept_within,List.idxOf_cons,V.ren,cond_false,cond_true,Nat.reduceAdd,Blk.ren,List.zipIdx_cons,List.zipIdx_nil,List.filterMap_cons,renL,kept_ren,List.filterMap_nil,List.filter_cons,List.filter_nil]
  | cons y low=>
   have w:=h33 (.int .i64 f.length) a b f (.sl 1 ((y :: low).map lowD)) x j hb ha hf hx (by omega)
   clear hf
   simp only [halfD,iN,List.map_cons] at w
   simp only [fnI,lowH,lowC,lowN,iN,pD,resB,List.append_nil,List.cons_append,List.nil_append]
   generalize ptw a b (nth f (x:Int)) (nth f (j:Int))=q at *
   simp (disch:=first | decide | omega | (simp only [LN];omega) | (simp only [LN];done) | fail) only [List.map_cons,Nat.reduceAdd,exec_seq,exec_reg,evSegs_cons,evSeg_eq,evMks_nil,o1_some,segL_eq,wonB_nil,evChk_nil,evLets_cons,e_bin,e_sl,look_cons,Nat.reduceBEq,lookB_false,beq_self_eq_true,lookB_true,o2_some,evBin,intBin,ilt_T,decide_true,if_true,evLets_nil,letC_eq,segW_none,restrict_cons,resC_some,restrict_nil,List.cons_append,List.nil_append,addBlks,segs_nil,nrm_some,thn_nrm,exec_cond,brn_true,exec_skip,exec_block,segW_some,evWr_store,e_ia,evIa_bsl,iaB_dat,Int.toNat_natCast,Nat.zero_add,e_call,e_cons,e_nil,consV_tup,callV_tup,evCall_eq,List.any_cons,V.own,V.own1,List.any_nil,Bool.or_self,Bool.or_false,passes_eq,List.all_cons,V.new,V.new1,D.flat,Bool.or_true,List.all_nil,Bool.and_self,Bool.and_true,V.flatV,V.flat1,Bool.not_false,Bool.false_and,mapO_cons,view,viewDepth,viewD,row_mix,List.getElem?_cons_zero,List.drop_zero,List.length_map,Nat.le_refl,take_all,List.length_cons,mapO_nil,mapC_eq,Option.map_some,callA_eq,w,callR_some,Bool.not_true,Bool.and_false,Bool.false_eq_true,if_false,wrStore_ptr,V.laid,V.cell,V.cells,List.length_nil,stA_eq,hset,stB_some,put_cons,putB_false,putB_true,segO_none,lose,loseH,Lost.ids,List.append_nil,blk_nrm,e_int,cast1,wrap64,lpT_nrm,tidyS_a,tidyA_eq,range2,List.map_nil,refsL,V.refs,reachB_cons,List.contains_nil,reachC_false,refsO_some,Blk.refs,List.flatMap_cons,List.flatMap_nil,List.contains_cons,kept_refs,reachC_true,reachB_nil,tidyB_eq,List.nodup_cons,List.mem_cons,reduceCtorEq,List.not_mem_nil,or_self,not_false_eq_true,Nat.reduceEqDiff,List.nodup_nil,and_self,List.take_succ_cons,List.take_zero,V.within,closedB,Blk.within,withinL,kept_within,List.idxOf_cons,V.ren,cond_false,cond_true,Blk.ren,List.zipIdx_cons,List.zipIdx_nil,List.filterMap_cons,renL,kept_ren,List.filterMap_nil,List.filter_cons,List.filter_nil]
def rowOf (a b:Lat) (f:List (List Nat)) (x:Nat):List Bool:=rowR (fun y=>ptw a b (nth f (x:Int)) (nth f (y:Int))) f.length 0 (List.replicate f.length false)
def lowR (a b:Lat) (f:List (List Nat)):Nat→Nat→List (List Bool)→List (List Bool)
 | 0,_,low=>low
 | m+1,k,low=>lowR a b f m (k+1) (low++[rowOf a b f k])
theorem rowOf_len (a b f x):(rowOf a b f x).length=f.length:=by rw [rowOf,rowR_len];simp
set_option maxHeartbeats 2000000 in
theorem out_loop (K:Cx) (h33:K72 K) (a b:Lat) (hb:b.wf) (ha:a.sz≤1000) (f:List (List Nat)) (hf:rowsOk a b f) (hn:f.length≤1000) (es:List (List UInt8×Option Lat)):∀ (m k:Nat) (low:List (List Bool)),k+m=f.length→low.length=k→
  lp K 2 [7,47,48] f53_L1 ⟨[(7,.ptr 2 0 0),(47,iN f.length),(48,iN k)],fnH a b f es low,4+lowN low,[]⟩ =
   some (.exit 0,⟨[(7,.ptr 2 0 0)],fnH a b f es (lowR a b f m k low),4+lowN (lowR a b f m k low),[]⟩):=by
 intro m
 induction m with
 | zero=>
  intro k low hk hl
  obtain rfl:k=f.length:=by omega
  simp only [lowR]
  rw [lp_un f53_L1.eq_1]
  clear hf
  cases low with
  | nil=>
   simp only [fnH,lowH,lowC,lowN,iN,pD,resB,List.append_nil,List.cons_append,List.nil_append]
   simp (disch:=first | decide | omega | (simp only [LN];omega) | (simp only [LN];done) | fail) only [Nat.add_zero,exec_seq,exec_reg,evSegs_cons,evSeg_eq,evMks_nil,o1_some,segL_eq,wonB_nil,evChk_nil,evLets_cons,e_bin,e_sl,look_cons,Nat.reduceBEq,lookB_false,beq_self_eq_true,lookB_true,o2_some,evBin,intBin,ilt_F,decide_false,if_true,evLets_nil,letC_eq,segW_none,restrict_cons,resC_some,restrict_nil,List.cons_append,List.nil_append,addBlks,segs_nil,nrm_some,thn_nrm,exec_cond,brn_false,exec_tidy,tidyS_a,tidyA_eq,range2,List.map_cons,List.map_nil,refsL,V.refs,List.append_nil,reachB_cons,List.contains_nil,reachC_false,refsO_some,Blk.refs,List.flatMap_cons,List.flatMap_nil,List.contains_cons,Bool.or_self,kept_refs,Bool.or_false,Bool.or_true,reachC_true,reachB_nil,tidyB_eq,List.nodup_cons,List.mem_cons,reduceCtorEq,List.not_mem_nil,or_self,not_false_eq_true,Nat.reduceEqDiff,List.nodup_nil,and_self,decide_true,List.take_succ_cons,List.take_zero,Bool.and_self,List.all_cons,V.within,List.all_nil,closedB,Blk.within,withinL,kept_within,List.idxOf_cons,V.ren,cond_false,cond_true,Nat.zero_add,Nat.reduceAdd,Blk.ren,List.zipIdx_cons,List.zipIdx_nil,List.filterMap_cons,Option.map_some,renL,kept_ren,List.filterMap_nil,List.length_cons,List.length_nil,List.filter_cons,Bool.false_eq_true,List.filter_nil,if_false,exec_exit,thn_exit,lpT_exit]
  | cons y low=>
   simp only [fnH,lowH,lowC,lowN,iN,pD,resB,List.append_nil,List.cons_append,List.nil_append]
   simp (disch:=first | decide | omega | (simp only [LN];omega) | (simp only [LN];done) | fail) only [List.map_cons,Nat.reduceAdd,exec_seq,exec_reg,evSegs_cons,evSeg_eq,evMks_nil,o1_some,segL_eq,wonB_nil,evChk_nil,evLets_cons,e_bin,e_sl,look_cons,Nat.reduceBEq,lookB_false,beq_self_eq_true,lookB_true,o2_some,evBin,intBin,ilt_F,decide_false,if_true,evLets_nil,letC_eq,segW_none,restrict_cons,resC_some,restrict_nil,List.cons_append,List.nil_append,addBlks,segs_nil,nrm_some,thn_nrm,exec_cond,brn_false,exec_tidy,tidyS_a,tidyA_eq,range2,List.map_nil,refsL,V.refs,List.append_nil,reachB_cons,List.contains_nil,reachC_false,refsO_some,Blk.refs,List.flatMap_cons,List.flatMap_nil,List.contains_cons,Bool.or_self,kept_refs,Bool.or_false,Bool.or_true,reachC_true,reachB_nil,tidyB_eq,List.nodup_cons,List.mem_cons,reduceCtorEq,List.not_mem_nil,or_self,not_false_eq_true,Nat.reduceEqDiff,List.nodup_nil,and_self,decide_true,List.take_succ_cons,List.take_zero,Bool.and_self,List.all_cons,V.within,List.all_nil,closedB,Blk.within,withinL,kept_within,List.idxOf_cons,V.ren,cond_false,cond_true,Nat.zero_add,Blk.ren,List.zipIdx_cons,List.zipIdx_nil,List.filterMap_cons,Option.map_some,renL,kept_ren,List.filterMap_nil,List.length_cons,List.length_nil,List.filter_cons,Bool.false_eq_true,List.filter_nil,if_false,exec_exit,thn_exit,lpT_exit]
 | succ m ih=>
  intro k low hk hl
  have ih:=ih (k+1) (low++[rowOf a b f k]) (by omega) (by simp [hl])
  have wl:=in_loop K h33 a b hb ha f hf hn es low k (by omega) f.length 0 (List.replicate f.length false) (by omega) (by simp)
  have hR:=rowOf_len a b f k
  change lp K 2 _ _ _=some (.exit 2,⟨_,fnI a b f es low (rowOf a b f k),_,_⟩) at wl
  simp only [lowR]
  rw [← ih]
  clear ih hf
  generalize rowOf a b f k=R at *
  rw [lp_un f53_L1.eq_1]
  cases low with
  | nil=>
   simp only [fnI,fnH,lowH,lowC,lowN,iN,pD,resB,List.append_nil,List.cons_append,List.nil_append,List.map_replicate,boolD,List.length_nil,Int.natCast_zero,Int.ofNat_zero] at wl ⊢
   simp (disch:=first | decide | omega | (simp only [LN];omega) | (simp only [LN];done) | fail) only [Nat.add_zero,exec_seq,exec_reg,evSegs_cons,evSeg_eq,evMks_nil,o1_some,segL_eq,wonB_nil,evChk_nil,evLets_cons,e_bin,e_sl,look_cons,Nat.reduceBEq,lookB_false,beq_self_eq_true,lookB_true,o2_some,evBin,intBin,ilt_T,decide_true,if_true,evLets_nil,letC_eq,segW_none,restrict_cons,resC_some,restrict_nil,List.cons_append,List.nil_append,addBlks,segs_nil,nrm_some,thn_nrm,exec_cond,brn_true,exec_skip,exec_block,evMks_cons,evMk_mks,e_cons,e_bool,e_nil,consV_tup,e_ld,e_fa,evFa,evLd_ptr,ldB_eq,row_mix,List.getElem?_cons_zero,ldR_eq,List.drop_zero,part_one,o3_some,mkMks,mapO_cons,asD,mapO_nil,mapC_eq,ile_T,most_eq,List.length_cons,List.length_nil,Nat.zero_add,nlt_T,List.all_cons,D.flat,List.all_nil,Bool.and_self,and_self,Int.toNat_natCast,mksA_eq,put_cons,putB_false,put_nil,Nat.reduceAdd,mksB_eq,List.append_nil,e_int,exec_tidy,tidyS_a,tidyA_eq,range2,List.map_cons,List.map_nil,refsL,V.refs,reachB_cons,List.contains_nil,reachC_false,refsO_some,Blk.refs,List.flatMap_cons,List.flatMap_nil,List.contains_cons,Bool.or_self,kept_refs,Bool.or_false,Bool.or_true,reachC_true,reachB_nil,tidyB_eq,List.nodup_cons,List.mem_cons,reduceCtorEq,List.not_mem_nil,or_self,not_false_eq_true,Nat.reduceEqDiff,List.nodup_nil,List.take_succ_cons,List.take_zero,V.within,closedB,Blk.within,withinL,kept_within,List.idxOf_cons,V.ren,cond_false,cond_true,Blk.ren,List.zipIdx_cons,List.zipIdx_nil,List.filterMap_cons,Option.map_some,renL,kept_ren,List.filterMap_nil,List.filter_cons,Bool.false_eq_true,List.filter_nil,if_false,exec_loop,wl,blk_exit,exec_regg,evSegsG_cons,frzL_cons,frzV_eq,frzA_bsl,frzD_dat,forgetR,V.forget,V.drop1,beq_iff_eq,V.ref0,putB_true,forgetH,forget_mix,kept_forget,forget_dat,frzL_nil,evSegG_none,evMk_lits,mkLits_tup,V.laid,V.cell,V.cells,mkBlk,V.new1,segW_some,evWr_app,List.drop_succ_cons,rows_bsl,rwB_dat,Nat.le_refl,flatRows_cons,Bool.and_true,flatRows_nil,take_all,wrApp_fs,Rows.blk,Rows.n,segO_some,lose,loseH,Lost.ids,segsG_cons,evWr_store,wrStore_ptr,stA_eq,set_mix0,splice,stB_some,segO_none,segsG_nil,blk_nrm,cast1,wrap64,lpT_nrm,lowD]
  | cons y low=>
   simp only [fnI,fnH,lowH,lowC,lowN,iN,pD,resB,List.append_nil,List.cons_append,List.nil_append,List.map_replicate,boolD,List.length_nil,Int.natCast_zero,Int.ofNat_zero,List.map_cons,List.map_append,List.map_nil,List.length_append,List.length_cons,Nat.zero_add,lowD] at wl ⊢
   simp only [List.length_cons] at hl
   simp (disch:=first | decide | omega | (simp only [LN];omega) | (simp only [LN];done) | fail) only [Nat.reduceAdd,exec_seq,exec_reg,evSegs_cons,evSeg_eq,evMks_nil,o1_some,segL_eq,wonB_nil,evChk_nil,evLets_cons,e_bin,e_sl,look_cons,Nat.reduceBEq,lookB_false,beq_self_eq_true,lookB_true,o2_some,evBin,intBin,ilt_T,decide_true,if_true,evLets_nil,letC_eq,segW_none,restrict_cons,resC_some,restrict_nil,List.cons_append,List.nil_append,addBlks,segs_nil,nrm_some,thn_nrm,exec_cond,brn_true,exec_skip,exec_block,evMks_cons,evMk_mks,e_cons,e_bool,e_nil,consV_tup,e_ld,e_fa,evFa,Nat.add_zero,evLd_ptr,ldB_eq,row_mix,List.getElem?_cons_zero,ldR_eq,List.drop_zero,part_one,o3_some,mkMks,mapO_cons,asD,mapO_nil,mapC_eq,ile_T,most_eq,List.length_cons,List.length_nil,Nat.zero_add,nlt_T,List.all_cons,D.flat,List.all_nil,Bool.and_self,and_self,Int.toNat_natCast,mksA_eq,put_cons,putB_false,put_nil,mksB_eq,List.append_nil,e_int,exec_tidy,tidyS_a,tidyA_eq,range2,List.map_cons,List.map_nil,refsL,V.refs,reachB_cons,List.contains_nil,reachC_false,refsO_some,Blk.refs,List.flatMap_cons,List.flatMap_nil,List.contains_cons,Bool.or_self,kept_refs,Bool.or_false,Bool.or_true,reachC_true,reachB_nil,tidyB_eq,List.nodup_cons,List.mem_cons,reduceCtorEq,List.not_mem_nil,or_self,not_false_eq_true,Nat.reduceEqDiff,List.nodup_nil,List.take_succ_cons,List.take_zero,V.within,closedB,Blk.within,withinL,kept_within,List.idxOf_cons,V.ren,cond_false,cond_true,Blk.ren,List.zipIdx_cons,List.zipIdx_nil,List.filterMap_cons,Option.map_some,renL,kept_ren,List.filterMap_nil,List.filter_cons,Bool.false_eq_true,List.filter_nil,if_false,exec_loop,wl,blk_exit,exec_regg,evSegsG_cons,frzL_cons,frzV_eq,frzA_bsl,frzD_dat,forgetR,V.forget,V.drop1,beq_iff_eq,V.ref0,putB_true,forgetH,forget_mix,kept_forget,forget_dat,frzL_nil,evSegG_none,evMk_lits,mkLits_tup,V.laid,V.cell,V.cells,mkBlk,V.new1,segW_some,evWr_app,List.drop_succ_cons,rows_bsl,rwB_dat,Nat.le_refl,flatRows_cons,Bool.and_true,flatRows_nil,take_all,wrApp_bsl,apA_dat,Blk.app,Rows.n,segO_some,lose,loseH,Lost.ids,segsG_cons,evWr_store,wrStore_ptr,stA_eq,set_mix0,splice,stB_some,segO_none,segsG_nil,blk_nrm,cast1,wrap64,lpT_nrm]
end Go.Vm
end

section
namespace Go.Vm
set_option maxRecDepth 20000
theorem frzV_ptr {m t:Nat} {s:S} {b k:Nat} {row:List V} {ds:List D} (h:look s.rho t=some (.ptr b 0 0)) (hb:look s.heap b=some (.mix k [row])) (hr:mapO asD row=some ds) (h1:m≤b) (h2:0 < ds.length) :
  frzV m t s=⟨put (forgetR (·== b) s.rho) t (.d (row.all V.new1) (.ptr ds)),put (forgetH (·== b) s.heap) b (.dat true k []),s.nx,s.mv⟩:=by
 unfold frzV
 rw [h]
 simp only
 rw [hb]
 simp only
 rw [hr]
 exact if_pos ⟨h1,h2⟩
theorem ia_two0 (H k c r0 r1):evIa H k (.d c (.sl k [r0,r1])) (.int .i64 0)=some (.d c (.ptr r0)):=by simp [evIa]
theorem ia_two1 (H k c r0 r1):evIa H k (.d c (.sl k [r0,r1])) (.int .i64 1)=some (.d c (.ptr r1)):=by simp [evIa]
def segB:Seg:=⟨[],[(20,(.ld 3 true (.ia 3 (.ld 1 false (.fa 2 (.sl 2))) (.int .i64 1)))),(21,(.sl 1))],[],some (some 16,.calle 39 (.cons (.ld 3 true (.ia 3 (.ld 1 false (.fa 2 (.sl 2))) (.int .i64 0))) (.cons (.sl 1) .nil))),[],11,[[],[0],[0,1],[1,0,2],[],[4,2,0,1,3],[],[6],[6,7],[7,6,8],[],[3,1,0,2,4,5,10,8,6,7,9],[9,7,6,8,10,11,3,1,0,2,4,5],[12,9,7,6,8,10,5,4,2,0,1,3,11]],[],[(.fa 2 (.sl 2)),(.ld 1 false (.fa 2 (.sl 2))),(.ia 3 (.ld 1 false (.fa 2 (.sl 2))) (.int .i64 1)),(.ld 3 true (.ia 3 (.ld 1 false (.fa 2 (.sl 2))) (.int .i64 1))),(.sl 1)]⟩
def regA:List (Pre×Seg):=[(⟨[2],none⟩,⟨[],[(20,(.ld 3 true (.ia 3 (.ld 1 false (.fa 2 (.sl 2))) (.int .i64 1)))),(21,(.sl 1))],[],some (some 16,.calle 39 (.cons (.ld 3 true (.ia 3 (.ld 1 false (.fa 2 (.sl 2))) (.int .i64 0))) (.cons (.sl 1) .nil))),[],11,[[],[0],[0,1],[1,0,2],[],[4,2,0,1,3],[],[6],[6,7],[7,6,8],[],[3,1,0,2,4,5,10,8,6,7,9],[9,7,6,8,10,11,3,1,0,2,4,5],[12,9,7,6,8,10,5,4,2,0,1,3,11]],[],[(.fa 2 (.sl 2)),(.ld 1 false (.fa 2 (.sl 2))),(.ia 3 (.ld 1 false (.fa 2 (.sl 2))) (.int .i64 1)),(.ld 3 true (.ia 3 (.ld 1 false (.fa 2 (.sl 2))) (.int .i64 1))),(.sl 1)]⟩),(⟨[],none⟩,⟨[],[],[],some (some 22,.calle 39 (.cons (.sl 20) (.cons (.sl 21) .nil))),[16],1,[],[],[]⟩),(⟨[],none⟩,⟨[],[(5,(.sl 16)),(6,(.sl 22))],[],none,[],2,[],[],[]⟩)]
def tyV (k:Int) (n:List UInt8) (r:List (List D)):V:=.agg [.d false (.int .i64 k),.d false (.str n),.d false (.sl 3 r)]
def tyL (k:Int) (n:List UInt8) (r:List (List D)):List D:=[.int .i64 k,.str n,.sl 3 r]
def E39 (K:Cx) (k:Int) (n:List UInt8) (r:List (List D)) (es:List (List UInt8×Option Lat)) (o:Option Lat) (es':List (List UInt8×Option Lat)):Prop:=
 K.eff 39 [tyV k n r,.ptr 0 0 0] [.mix 1 [[.map 1]],.map (keptE es)]=some (oV o,[.mix 1 [[.map 1]],.map (keptE es')],[])
theorem segB_ev (K:Cx) (k0 k1:Int) (n0 n1:List UInt8) (r0 r1:List (List D)) (nm:List UInt8) (es es1:List (List UInt8×Option Lat)) (o:Option Lat) (w:E39 K k0 n0 r0 es o es1) :
  evSeg K ⟨[(1,.ptr 0 0 0),(2,.d false (.ptr [.int .i64 3,.str nm,.sl 3 [tyL k0 n0 r0,tyL k1 n1 r1]]))],[(2,.dat true 3 []),(0,.mix 1 [[.map 1]]),(1,.map (keptE es))],3,[]⟩ segB=some ⟨[(16,oV o),(20,tyV k1 n1 r1),(21,.ptr 0 0 0)],[(2,.dat true 3 []),(0,.mix 1 [[.map 1]]),(1,.map (keptE es1))],3,[]⟩:=by
 have hd:=kept_dim es
 have ho:∀ g,(oV o).ren g=oV o:=fun g=>by cases o <;> rfl
 refine evSeg_lateC ?_ ?_
 ·unfold segB
  rw [evSeg0_eq]
  simp only [E39,tyV,tyL] at w ⊢
  simp (disch:=first | decide | omega | (simp only [LN];omega) | (simp only [LN];done) | fail) only [evMks_nil,o1_some,segL_eq,wonB_nil,evChk_nil,evLets_cons,e_ld,e_ia,e_fa,e_sl,look_cons,Nat.reduceBEq,lookB_false,beq_self_eq_true,lookB_true,evFa,List.drop_succ_cons,List.drop_zero,evLd_d,List.map_cons,mkd,D.flat,Bool.false_eq_true,if_false,List.map_nil,part_one,e_int,o2_some,ia_two1,if_true,part_true,List.length_cons,List.length_nil,Nat.zero_add,Nat.reduceAdd,Nat.le_refl,take_all,evLets_nil,letC_eq,segW_some,restrict_nil,List.append_nil,addBlks,evWr_calle,e_cons,ia_two0,e_nil,consV_tup,wrEff_tup,refsL,V.refs,List.nil_append,reachB_cons,List.contains_nil,reachC_false,refsO_some,Blk.refs,List.flatMap_cons,List.flatMap_nil,List.contains_cons,Bool.or_self,List.cons_append,kept_refs,reachB_nil,evEff_eq,List.nodup_cons,List.mem_cons,reduceCtorEq,List.not_mem_nil,or_self,not_false_eq_true,List.nodup_nil,and_self,decide_true,List.all_cons,V.within,withinL,Bool.and_self,Bool.or_false,List.all_nil,closedB,Blk.within,Bool.or_true,kept_within,handed,Blk.ren,Blk.dim,List.idxOf_cons,mapO_cons,Option.map_some,dimL,V.dim,renL,V.ren,cond_true,cond_false,hd,kept_ren,mapO_nil,mapC_eq,effA_eq,w,effR_eq,putAll,loseM,backB_eq,List.getElem?_cons_zero,Nat.reduceSub,Nat.add_zero,Option.getD_some,List.getElem?_cons_succ,put_cons,putB_false,putB_true,ho,segO_some,lose,loseH,Lost.ids]
 ·unfold segB lateC
  simp only [E39,tyV,tyL] at w ⊢
  simp (disch:=first | decide | omega | (simp only [LN];omega) | (simp only [LN];done) | fail) only [List.isEmpty_cons,evMks_nil,clean,cleanV,List.contains_nil,Bool.false_eq_true,if_false,List.map_cons,List.map_nil,lateH,e_cons,e_ld,e_ia,e_fa,e_sl,look_cons,Nat.reduceBEq,lookB_false,beq_self_eq_true,lookB_true,o1_some,evFa,List.drop_succ_cons,List.drop_zero,evLd_d,mkd,D.flat,part_one,e_int,o2_some,ia_two0,if_true,part_true,List.length_cons,List.length_nil,Nat.zero_add,Nat.reduceAdd,Nat.le_refl,take_all,e_nil,consV_tup,calleeOf,beq_iff_eq,addBlks,List.filter_cons,List.filter_nil,lateB,Bool.not_false,Bool.and_true,List.all_cons,ia_two1,Bool.and_self,List.all_nil,Bool.false_or]
  simp [V.eqb,V.eqb1,vRow,D.eqb,dRow,dRows,eqb_refl,dRow_refl,dRows_refl]
theorem kept_fin (z bs H) (l:List (List UInt8×Option Lat)):mapO (fun q:D×V=>(finA z bs H q.2).map fun v=>(q.1,v)) (keptE l)=some (keptE l):=by
 induction l with
 | nil=>rfl
 | cons q l ih=>
  have h1:finA z bs H (oV q.2)=some (oV q.2):=by cases q.2 <;> rfl
  simp only [keptE,List.map_cons,mapO,h1,Option.map_some] at ih ⊢
  rw [ih]
def owC (k:Nat) (s:S) (b k0 j:Nat) (row:List V):Option V→S
 | some (.fs _ k' [])=>if k'=k then ⟨s.rho,(s.nx,.dat true k []) :: put s.heap b (.mix k0 [row.set j (.bsl s.nx 0 0)]),s.nx+1,s.mv⟩ else s
 | _=>s
theorem owC_fs (k s b k0 j row c):owC k s b k0 j row (some (.fs c k []))=⟨s.rho,(s.nx,.dat true k []) :: put s.heap b (.mix k0 [row.set j (.bsl s.nx 0 0)]),s.nx+1,s.mv⟩:=if_pos rfl
def owB (j k:Nat) (s:S) (b:Nat):Option Blk→S
 | some (.mix k0 [row])=>owC k s b k0 j row (row[j]?)
 | _=>s
theorem owB_mix (j k s b k0 row):owB j k s b (some (.mix k0 [row]))=owC k s b k0 j row (row[j]?):=rfl
def owA (j k:Nat) (s:S):Option V→S
 | some (.ptr b 0 0)=>owB j k s b (look s.heap b)
 | _=>s
theorem owA_ptr (j k s b):owA j k s (some (.ptr b 0 0))=owB j k s b (look s.heap b):=rfl
theorem exec_ownc (K t j k s):exec K (.ownc t j k) s=some (.nrm,owA j k s (look s.rho t)):=by
 have:owncS t j k s=owA j k s (look s.rho t):=by
  unfold owncS owA
  cases look s.rho t with
  | none=>rfl
  | some v=>
   cases v with
   | ptr b i j'=>
    cases i with
    | zero=>cases j' with
     | zero=>
      simp only [owB]
      cases look s.heap b with
      | none=>rfl
      | some x=>
       cases x with
       | mix k0 rows=>cases rows with
        | nil=>rfl
        | cons row rest=>cases rest with
         | nil=>rfl
         | cons _ _=>rfl
       | _=>rfl
     | succ _=>rfl
    | succ _=>rfl
   | _=>rfl
 simp only [exec,this]
theorem fbA_mix (z bs H k rows):fbA z bs H (some (.mix k rows))=(mapO (mapO (finC z bs H)) rows).map (.mix k):=rfl
theorem fbA_map (z bs H l):fbA z bs H (some (.map (keptE l)))=some (.map (keptE l)):=by
 show (mapO _ (keptE l)).map Blk.map=_
 rw [kept_fin]
 rfl
theorem regA_ev (K:Cx) (k0 k1:Int) (n0 n1:List UInt8) (r0 r1:List (List D)) (nm:List UInt8) (es es1 es2:List (List UInt8×Option Lat)) (o o':Option Lat) (w:E39 K k0 n0 r0 es o es1) (w':E39 K k1 n1 r1 es1 o' es2) :
  evSegsG 2 K ⟨[(1,.ptr 0 0 0),(2,.ptr 2 0 0)],[(2,.mix 3 [[.d false (.int .i64 3),.d false (.str nm),.d false (.sl 3 [tyL k0 n0 r0,tyL k1 n1 r1])]]),(0,.mix 1 [[.map 1]]),(1,.map (keptE es))],3,[]⟩ regA =
   some ⟨[(5,oV o),(6,oV o')],[(2,.dat true 3 []),(0,.mix 1 [[.map 1]]),(1,.map (keptE es2))],3,[]⟩:=by
 have hs:=segB_ev K k0 k1 n0 n1 r0 r1 nm es es1 o w
 have hd:=kept_dim es1
 have ho:∀ g (o:Option Lat),(oV o).ren g=oV o:=fun g o=>by cases o <;> rfl
 have hfz:frzL 2 [2] ⟨[(1,.ptr 0 0 0),(2,.ptr 2 0 0)],[(2,.mix 3 [[.d false (.int .i64 3),.d false (.str nm),.d false (.sl 3 [tyL k0 n0 r0,tyL k1 n1 r1])]]),(0,.mix 1 [[.map 1]]),(1,.map (keptE es))],3,[]⟩ =
   ⟨[(1,.ptr 0 0 0),(2,.d false (.ptr [.int .i64 3,.str nm,.sl 3 [tyL k0 n0 r0,tyL k1 n1 r1]]))],[(2,.dat true 3 []),(0,.mix 1 [[.map 1]]),(1,.map (keptE es))],3,[]⟩:=by
  rw [frzL_cons,frzL_nil,frzV_ptr (b:=2) (k:=3) (row:=[.d false (.int .i64 3),.d false (.str nm),.d false (.sl 3 [tyL k0 n0 r0,tyL k1 n1 r1])]) (ds:=[.int .i64 3,.str nm,.sl 3 [tyL k0 n0 r0,tyL k1 n1 r1]]) rfl rfl rfl (Nat.le_refl _) (by simp)]
  simp (disch:=first | decide | omega | (simp only [LN];omega) | (simp only [LN];done) | fail) only [forgetR,V.forget,V.drop1,beq_iff_eq,V.ref0,List.map_cons,reduceCtorEq,if_false,if_true,List.map_nil,List.all_cons,V.new1,D.flat,Bool.or_true,Bool.or_self,List.all_nil,Bool.and_true,Bool.and_false,put_cons,Nat.reduceBEq,putB_false,beq_self_eq_true,putB_true,forgetH,forget_mix,Bool.false_eq_true,kept_forget]
 unfold regA
 rw [evSegsG_cons,hfz,evSegG_none]
 unfold segB at hs
 rw [hs]
 simp only [E39,tyV,tyL] at w' ⊢
 have hl:∀ (b:Nat),loseV (.some b) (oV o)=oV o:=fun b=>by cases o <;> rfl
 simp (disch:=first | decide | omega | (simp only [LN];omega) | (simp only [LN];done) | fail) only [o1_some,segsG_cons,frzL_nil,evSegG_none,evSeg_eq,evMks_nil,segL_eq,wonB_nil,evChk_nil,evLets_nil,segW_some,restrict_cons,look_cons,beq_self_eq_true,lookB_true,resC_some,restrict_nil,List.nil_append,addBlks,evWr_calle,e_cons,e_sl,Nat.reduceBEq,lookB_false,e_nil,o2_some,consV_tup,wrEff_tup,refsL,V.refs,List.append_nil,reachB_cons,List.contains_nil,reachC_false,refsO_some,Blk.refs,List.flatMap_cons,List.flatMap_nil,List.contains_cons,Bool.or_self,List.cons_append,kept_refs,reachB_nil,evEff_eq,List.nodup_cons,List.mem_cons,reduceCtorEq,List.not_mem_nil,or_self,not_false_eq_true,List.nodup_nil,and_self,decide_true,List.all_cons,V.within,withinL,Bool.and_self,Bool.or_false,List.all_nil,closedB,Blk.within,Bool.or_true,kept_within,handed,Blk.ren,Blk.dim,List.idxOf_cons,mapO_cons,Option.map_some,List.map_cons,dimL,V.dim,List.map_nil,renL,V.ren,cond_true,Nat.zero_add,cond_false,hd,kept_ren,mapO_nil,mapC_eq,effA_eq,w',effR_eq,List.length_cons,List.length_nil,Nat.reduceAdd,Nat.le_refl,putAll,loseM,backB_eq,List.getElem?_cons_zero,Nat.reduceSub,Nat.add_zero,Option.getD_some,List.getElem?_cons_succ,put_cons,putB_false,putB_true,ho,if_true,segO_some,lose,loseH,Lost.ids,evLets_cons,letC_eq,segW_none,segsG_nil]
end Go.Vm
end

section
namespace Go.Vm
set_option maxRecDepth 20000
def lowM (a b:Lat) (f:List (List Nat)):List (List Bool):=lowR a b f f.length 0 []
def fnsM (a b:Lat):Option Lat:=if (fillM a b a.sz [] []).1 then some (.fn a b (fillM a b a.sz [] []).2 (lowM a b (fillM a b a.sz [] []).2)) else none
def F71 (K:Cx) (a b:Lat):Prop:=K.eff 71 [.ptr 0 0 0,.fs false 1 []] [box5 a b 0,resB []]=some (.bool (fillM a b a.sz [] []).1,[box5 a b (fillM a b a.sz [] []).2.length,resB (fillM a b a.sz [] []).2],mvB (chg [] (fillM a b a.sz [] []).2))
theorem ev_functions0 (K:Cx) (k0 k1:Int) (n0 n1:List UInt8) (r0 r1:List (List D)) (nm:List UInt8) (es es1 es2:List (List UInt8×Option Lat)) (o o':Option Lat) (w:E39 K k0 n0 r0 es o es1) (w':E39 K k1 n1 r1 es1 o' es2) (hn:o=none∨o'=none) :
  runFun K f53 [tyV 3 nm [tyL k0 n0 r0,tyL k1 n1 r1],.ptr 0 0 0] [.mix 1 [[.map 1]],.map (keptE es)]=some (oV none,[.mix 1 [[.map 1]],.map (keptE es2)],[]):=by
 have h1:=regA_ev K k0 k1 n0 n1 r0 r1 nm es es1 es2 o o' w w'
 unfold f53
 unfold regA at h1
 simp only [tyV,tyL] at h1 ⊢
 cases o with
 | none=>
  cases o' with
  | none=>
   simp only [oV,pD] at h1 ⊢
   simp (disch:=first | decide | omega | (simp only [LN];omega) | (simp only [LN];done) | fail) only [runFun_eq,List.length_cons,List.length_nil,Nat.zero_add,Nat.reduceAdd,startS,List.zipIdx_cons,List.zipIdx_nil,List.map_cons,List.map_nil,indexed,exec_seq,exec_reg,evSegs_cons,evSeg_eq,evMks_cons,evMk_box,e_sl,look_cons,beq_self_eq_true,lookB_true,o1_some,mkBox,V.laid,V.cells,if_true,mksA_eq,put_cons,Nat.reduceBEq,putB_false,put_nil,evMks_nil,mksB_eq,List.append_nil,segL_eq,wonB_nil,evChk_cons,e_nilp,Option.isSome_some,evChk_nil,Bool.and_self,evLets_nil,segW_none,restrict_cons,lookB_false,resC_some,restrict_nil,List.nil_append,addBlks,segs_nil,nrm_some,thn_nrm,exec_regg,h1,evLets_cons,e_or,e_eqs,o2_some,evEqs,Bool.false_eq_true,cellsEq,cellEq,V.isNilP,Bool.not_true,if_false,orV_some,Bool.or_self,letC_eq,List.cons_append,exec_cond,brn_true,exec_tidy,tidyS_a,tidyA_eq,range2,refsL,V.refs,reachB_cons,List.contains_nil,reachC_false,refsO_some,Blk.refs,List.flatMap_cons,List.flatMap_nil,List.contains_cons,kept_refs,Bool.or_false,Bool.or_true,reachC_true,reachB_nil,tidyB_eq,List.nodup_cons,List.mem_cons,reduceCtorEq,List.not_mem_nil,or_self,not_false_eq_true,List.nodup_nil,and_self,decide_true,take_all,List.all_cons,V.within,List.all_nil,closedB,Blk.within,withinL,kept_within,List.idxOf_cons,V.ren,Blk.ren,List.filterMap_cons,Option.map_some,renL,cond_true,cond_false,kept_ren,List.filterMap_nil,List.filter_cons,List.filter_nil,exec_ret,thn_ret,endF_ret,mapO_cons,mapO_nil,mapC_eq,oneOr,finish,finV,finA,finC,finB_eq,fbA_mix,fbA_map]
  | some l=>
   simp only [oV,pD] at h1 ⊢
   simp (disch:=first | decide | omega | (simp only [LN];omega) | (simp only [LN];done) | fail) only [runFun_eq,List.length_cons,List.length_nil,Nat.zero_add,Nat.reduceAdd,startS,List.zipIdx_cons,List.zipIdx_nil,List.map_cons,List.map_nil,indexed,exec_seq,exec_reg,evSegs_cons,evSeg_eq,evMks_cons,evMk_box,e_sl,look_cons,beq_self_eq_true,lookB_true,o1_some,mkBox,V.laid,V.cells,if_true,mksA_eq,put_cons,Nat.reduceBEq,putB_false,put_nil,evMks_nil,mksB_eq,List.append_nil,segL_eq,wonB_nil,evChk_cons,e_nilp,Option.isSome_some,evChk_nil,Bool.and_self,evLets_nil,segW_none,restrict_cons,lookB_false,resC_some,restrict_nil,List.nil_append,addBlks,segs_nil,nrm_some,thn_nrm,exec_regg,h1,evLets_cons,e_or,e_eqs,o2_some,evEqs,Bool.false_eq_true,cellsEq,cellEq,V.isNilP,Bool.not_true,if_false,Bool.and_true,Bool.not_false,orV_some,Bool.or_false,letC_eq,List.cons_append,exec_cond,brn_true,exec_tidy,tidyS_a,tidyA_eq,range2,refsL,V.refs,reachB_cons,List.contains_nil,reachC_false,refsO_some,Blk.refs,List.flatMap_cons,List.flatMap_nil,List.contains_cons,Bool.or_self,kept_refs,Bool.or_true,reachC_true,reachB_nil,tidyB_eq,List.nodup_cons,List.mem_cons,reduceCtorEq,List.not_mem_nil,or_self,not_false_eq_true,List.nodup_nil,and_self,decide_true,take_all,List.all_cons,V.within,List.all_nil,closedB,Blk.within,withinL,kept_within,List.idxOf_cons,V.ren,Blk.ren,List.filterMap_cons,Option.map_some,renL,cond_true,cond_false,kept_ren,List.filterMap_nil,List.filter_cons,List.filter_nil,exec_ret,thn_ret,endF_ret,mapO_cons,mapO_nil,mapC_eq,oneOr,finish,finV,finA,finC,finB_eq,fbA_mix,fbA_map]
 | some l=>
  obtain rfl:o'=none:=hn.resolve_left (by simp)
  simp only [oV,pD] at h1 ⊢
  simp (disch:=first | decide | omega | (simp only [LN];omega) | (simp only [LN];done) | fail) only [runFun_eq,List.length_cons,List.length_nil,Nat.zero_add,Nat.reduceAdd,startS,List.zipIdx_cons,List.zipIdx_nil,List.map_cons,List.map_nil,indexed,exec_seq,exec_reg,evSegs_cons,evSeg_eq,evMks_cons,evMk_box,e_sl,look_cons,beq_self_eq_true,lookB_true,o1_some,mkBox,V.laid,V.cells,if_true,mksA_eq,put_cons,Nat.reduceBEq,putB_false,put_nil,evMks_nil,mksB_eq,List.append_nil,segL_eq,wonB_nil,evChk_cons,e_nilp,Option.isSome_some,evChk_nil,Bool.and_self,evLets_nil,segW_none,restrict_cons,lookB_false,resC_some,restrict_nil,List.nil_append,addBlks,segs_nil,nrm_some,thn_nrm,exec_regg,h1,evLets_cons,e_or,e_eqs,o2_some,evEqs,Bool.false_eq_true,cellsEq,cellEq,V.isNilP,Bool.and_true,Bool.not_false,if_false,Bool.not_true,orV_some,Bool.or_true,letC_eq,List.cons_append,exec_cond,brn_true,exec_tidy,tidyS_a,tidyA_eq,range2,refsL,V.refs,reachB_cons,List.contains_nil,reachC_false,refsO_some,Blk.refs,List.flatMap_cons,List.flatMap_nil,List.contains_cons,Bool.or_self,kept_refs,Bool.or_false,reachC_true,reachB_nil,tidyB_eq,List.nodup_cons,List.mem_cons,reduceCtorEq,List.not_mem_nil,or_self,not_false_eq_true,List.nodup_nil,and_self,decide_true,take_all,List.all_cons,V.within,List.all_nil,closedB,Blk.within,withinL,kept_within,List.idxOf_cons,V.ren,Blk.ren,List.filterMap_cons,Option.map_some,renL,cond_true,cond_false,kept_ren,List.filterMap_nil,List.filter_cons,List.filter_nil,exec_ret,thn_ret,endF_ret,mapO_cons,mapO_nil,mapC_eq,oneOr,finish,finV,finA,finC,finB_eq,fbA_mix,fbA_map]
set_option maxHeartbeats 1000000 in
theorem ev_functions (K:Cx) (h33:K72 K) (k0 k1:Int) (n0 n1:List UInt8) (r0 r1:List (List D)) (nm:List UInt8) (es es1 es2:List (List UInt8×Option Lat)) (a b:Lat) (w:E39 K k0 n0 r0 es (some a) es1) (w':E39 K k1 n1 r1 es1 (some b) es2)
  (hb:b.wf) (ha:a.sz≤1000) (w32:F71 K a b) (hf:rowsOk a b (fillM a b a.sz [] []).2) :
  runFun K f53 [tyV 3 nm [tyL k0 n0 r0,tyL k1 n1 r1],.ptr 0 0 0] [.mix 1 [[.map 1]],.map (keptE es)]=some (oV (fnsM a b),[.mix 1 [[.map 1]],.map (keptE es2)],[]):=by
 have h1:=regA_ev K k0 k1 n0 n1 r0 r1 nm es es1 es2 _ _ w w'
 have hle:=(fillM_le a b a.sz [] []).2 (by simp)
 unfold fnsM
 unfold F71 at w32
 generalize hq:fillM a b a.sz [] []=q at w32 hf hle ⊢
 obtain ⟨ok,f⟩:=q
 simp only at w32 hf hle ⊢
 unfold f53
 unfold regA at h1
 simp only [tyV,tyL,oV,pD] at h1 ⊢
 cases ok with
 | false=>
  clear hf hle hq
  generalize chg [] f=ch at w32
  simp only [box5,resB,pD,List.map_nil,Bool.false_eq_true,if_false] at w32 ⊢
  cases ch <;> (simp only [mvB] at w32;simp (disch:=first | decide | omega | (simp only [LN];omega) | (simp only [LN];done) | fail) only [runFun_eq,List.length_cons,List.length_nil,Nat.zero_add,Nat.reduceAdd,startS,List.zipIdx_cons,List.zipIdx_nil,List.map_cons,List.map_nil,indexed,exec_seq,exec_reg,evSegs_cons,evSeg_eq,evMks_cons,evMk_box,e_sl,look_cons,beq_self_eq_true,lookB_true,o1_some,mkBox,V.laid,V.cells,if_true,mksA_eq,put_cons,Nat.reduceBEq,putB_false,put_nil,evMks_nil,mksB_eq,List.append_nil,segL_eq,wonB_nil,evChk_cons,e_nilp,Option.isSome_some,evChk_nil,Bool.and_self,evLets_nil,segW_none,restrict_cons,lookB_false,resC_some,restrict_nil,List.nil_append,addBlks,segs_nil,nrm_some,thn_nrm,exec_regg,h1,evLets_cons,e_or,e_eqs,o2_some,evEqs,Bool.false_eq_true,cellsEq,cellEq,V.isNilP,Bool.and_true,Bool.not_false,if_false,orV_some,Bool.or_self,letC_eq,List.cons_append,exec_cond,brn_false,exec_skip,e_set,e_agg,e_cons,e_int,e_nilsl,e_nil,consV_tup,aggV_tup,evSet,V.cell,nle_T,decide_true,splice,List.take_succ_cons,List.take_zero,List.drop_succ_cons,List.drop_zero,exec_ownc,owA_ptr,owB_mix,List.getElem?_cons_succ,List.getElem?_cons_zero,owC_fs,List.set_cons_succ,List.set_cons_zero,putB_true,segW_some,evWr_calle,wrEff_tup,refsL,V.refs,reachB_cons,List.contains_nil,reachC_false,refsO_some,Blk.refs,List.flatMap_cons,List.flatMap_nil,List.contains_cons,reachB_nil,evEff_eq,List.nodup_cons,List.mem_cons,Nat.reduceEqDiff,List.not_mem_nil,or_self,not_false_eq_true,List.nodup_nil,and_self,List.all_cons,V.within,Bool.or_false,List.all_nil,closedB,Blk.within,withinL,Bool.or_true,handed,Blk.ren,Blk.dim,List.idxOf_cons,mapO_cons,Option.map_some,dimL,V.dim,renL,V.ren,cond_true,cond_false,mapO_nil,mapC_eq,effA_eq,w32,effR_eq,Nat.le_refl,putAll,loseM,backB_eq,Nat.reduceSub,Nat.add_zero,Option.getD_some,segO_some,lose,loseH,Lost.ids,segs_cons,e_un,evUn,brn_true,exec_tidy,tidyS_a,tidyA_eq,range2,kept_refs,reachC_true,tidyB_eq,reduceCtorEq,take_all,kept_within,List.filterMap_cons,kept_ren,List.filterMap_nil,List.filter_cons,List.filter_nil,exec_ret,thn_ret,endF_ret,oneOr,finish,finV,finA,finC,finB_eq,fbA_mix,fbA_map,forgetH,forget_dat,forget_mix,V.drop1,kept_forget,forgetR,V.forget,beq_iff_eq,V.ref0])
 | true=>
  have hl:=out_loop K h33 a b hb ha f hf (by have:=hle rfl;omega) es2 f.length 0 [] (by omega) rfl
  have hlow:lowM a b f=lowR a b f f.length 0 []:=rfl
  rw [hlow]
  clear hf hle hq hlow
  generalize lowR a b f f.length 0 []=low at hl ⊢
  generalize chg [] f=ch at w32
  simp only [box5,resB,pD,List.map_nil,if_true,fnH,lowH,lowC,lowN,iN,List.append_nil,List.cons_append,List.nil_append,Int.natCast_zero,Int.ofNat_zero,Nat.add_zero] at w32 hl ⊢
  cases low with
  | nil=>
   simp only [lowH,lowC,lowN,List.append_nil,Nat.add_zero] at hl
   cases ch <;> (simp only [mvB] at w32;simp (disch:=first | decide | omega | (simp only [LN];omega) | (simp only [LN];done) | fail) only [runFun_eq,List.length_cons,List.length_nil,Nat.zero_add,Nat.reduceAdd,startS,List.zipIdx_cons,List.zipIdx_nil,List.map_cons,List.map_nil,indexed,exec_seq,exec_reg,evSegs_cons,evSeg_eq,evMks_cons,evMk_box,e_sl,look_cons,beq_self_eq_true,lookB_true,o1_some,mkBox,V.laid,V.cells,if_true,mksA_eq,put_cons,Nat.reduceBEq,putB_false,put_nil,evMks_nil,mksB_eq,List.append_nil,segL_eq,wonB_nil,evChk_cons,e_nilp,Option.isSome_some,evChk_nil,Bool.and_self,evLets_nil,segW_none,restrict_cons,lookB_false,resC_some,restrict_nil,List.nil_append,addBlks,segs_nil,nrm_some,thn_nrm,exec_regg,h1,evLets_cons,e_or,e_eqs,o2_some,evEqs,Bool.false_eq_true,cellsEq,cellEq,V.isNilP,Bool.and_true,Bool.not_false,if_false,orV_some,Bool.or_self,letC_eq,List.cons_append,exec_cond,brn_false,exec_skip,e_set,e_agg,e_cons,e_int,e_nilsl,e_nil,consV_tup,aggV_tup,evSet,V.cell,nle_T,decide_true,splice,List.take_succ_cons,List.take_zero,List.drop_succ_cons,List.drop_zero,exec_ownc,owA_ptr,owB_mix,List.getElem?_cons_succ,List.getElem?_cons_zero,owC_fs,List.set_cons_succ,List.set_cons_zero,putB_true,segW_some,evWr_calle,wrEff_tup,refsL,V.refs,reachB_cons,List.contains_nil,reachC_false,refsO_some,Blk.refs,List.flatMap_cons,List.flatMap_nil,List.contains_cons,reachB_nil,evEff_eq,List.nodup_cons,List.mem_cons,Nat.reduceEqDiff,List.not_mem_nil,or_self,not_false_eq_true,List.nodup_nil,and_self,List.all_cons,V.within,Bool.or_false,List.all_nil,closedB,Blk.within,withinL,Bool.or_true,handed,Blk.ren,Blk.dim,List.idxOf_cons,mapO_cons,Option.map_some,dimL,V.dim,renL,V.ren,cond_true,cond_false,mapO_nil,mapC_eq,effA_eq,w32,effR_eq,Nat.le_refl,putAll,loseM,backB_eq,Nat.reduceSub,Nat.add_zero,Option.getD_some,segO_some,lose,loseH,Lost.ids,segs_cons,e_un,evUn,Bool.not_true,evWr_store,e_fa,evFa,e_len,e_ld,evLd_ptr,ldB_eq,row_mix,ldR_eq,part_one,evLen,wrStore_ptr,stA_eq,set_mix0,stB_some,segO_none,exec_block,exec_tidy,tidyS_a,tidyA_eq,range2,kept_refs,reachC_true,tidyB_eq,reduceCtorEq,kept_within,List.filterMap_cons,kept_ren,List.filterMap_nil,List.filter_cons,List.filter_nil,exec_loop,hl,blk_exit,exec_ret,endF_ret,oneOr,finish,take_all,finV,finA,finC,hNew,restH,forgetH,forget_mix,V.drop1,forget_dat,V.newR,V.new1,D.flat,Bool.and_false,viewDepth,viewD,List.length_map,finB_eq,fbA_mix,fbA_map,Lat.cells,kept_forget,forgetR,V.forget,beq_iff_eq,V.ref0])
  | cons y low=>
   simp only [lowH,lowC,lowN,List.cons_append,List.nil_append,List.map_cons] at hl
   cases ch <;> (simp only [mvB] at w32;simp (disch:=first | decide | omega | (simp only [LN];omega) | (simp only [LN];done) | fail) only [runFun_eq,List.length_cons,List.length_nil,Nat.zero_add,Nat.reduceAdd,startS,List.zipIdx_cons,List.zipIdx_nil,List.map_cons,List.map_nil,indexed,exec_seq,exec_reg,evSegs_cons,evSeg_eq,evMks_cons,evMk_box,e_sl,look_cons,beq_self_eq_true,lookB_true,o1_some,mkBox,V.laid,V.cells,if_true,mksA_eq,put_cons,Nat.reduceBEq,putB_false,put_nil,evMks_nil,mksB_eq,List.append_nil,segL_eq,wonB_nil,evChk_cons,e_nilp,Option.isSome_some,evChk_nil,Bool.and_self,evLets_nil,segW_none,restrict_cons,lookB_false,resC_some,restrict_nil,List.nil_append,addBlks,segs_nil,nrm_some,thn_nrm,exec_regg,h1,evLets_cons,e_or,e_eqs,o2_some,evEqs,Bool.false_eq_true,cellsEq,cellEq,V.isNilP,Bool.and_true,Bool.not_false,if_false,orV_some,Bool.or_self,letC_eq,List.cons_append,exec_cond,brn_false,exec_skip,e_set,e_agg,e_cons,e_int,e_nilsl,e_nil,consV_tup,aggV_tup,evSet,V.cell,nle_T,decide_true,splice,List.take_succ_cons,List.take_zero,List.drop_succ_cons,List.drop_zero,exec_ownc,owA_ptr,owB_mix,List.getElem?_cons_succ,List.getElem?_cons_zero,owC_fs,List.set_cons_succ,List.set_cons_zero,putB_true,segW_some,evWr_calle,wrEff_tup,refsL,V.refs,reachB_cons,List.contains_nil,reachC_false,refsO_some,Blk.refs,List.flatMap_cons,List.flatMap_nil,List.contains_cons,reachB_nil,evEff_eq,List.nodup_cons,List.mem_cons,Nat.reduceEqDiff,List.not_mem_nil,or_self,not_false_eq_true,List.nodup_nil,and_self,List.all_cons,V.within,Bool.or_false,List.all_nil,closedB,Blk.within,withinL,Bool.or_true,handed,Blk.ren,Blk.dim,List.idxOf_cons,mapO_cons,Option.map_some,dimL,V.dim,renL,V.ren,cond_true,cond_false,mapO_nil,mapC_eq,effA_eq,w32,effR_eq,Nat.le_refl,putAll,loseM,backB_eq,Nat.reduceSub,Nat.add_zero,Option.getD_some,segO_some,lose,loseH,Lost.ids,segs_cons,e_un,evUn,Bool.not_true,evWr_store,e_fa,evFa,e_len,e_ld,evLd_ptr,ldB_eq,row_mix,ldR_eq,part_one,evLen,wrStore_ptr,stA_eq,set_mix0,stB_some,segO_none,exec_block,exec_tidy,tidyS_a,tidyA_eq,range2,kept_refs,reachC_true,tidyB_eq,reduceCtorEq,kept_within,List.filterMap_cons,kept_ren,List.filterMap_nil,List.filter_cons,List.filter_nil,exec_loop,hl,blk_exit,exec_ret,endF_ret,oneOr,finish,take_all,finV,finA,finC,hNew,restH,forgetH,forget_mix,V.drop1,forget_dat,V.newR,V.new1,D.flat,Bool.and_false,viewDepth,viewD,List.length_map,finB_eq,fbA_mix,fbA_map,Lat.cells,kept_forget,forgetR,V.forget,beq_iff_eq,V.ref0])
end Go.Vm
end

section
namespace Go.Vm
set_option maxRecDepth 100000
/- 'sloth/lattice.build' -/
def f39:Fun:=⟨
 (.seq
  (.reg [⟨[(2,.box (.sl 0)),(3,.box (.sl 1))],[],[.nilp],none,[2,3],3,[],[],[]⟩])
  (.seq
   (.block 0
    (.seq
     (.reg [⟨[],[(7,(.and (.bin .eql (.ld 1 false (.fa 0 (.sl 2))) (.int .i64 4)) (.bin .eql (.ld 1 false (.fa 1 (.sl 2))) (.str [76,105,115,116]))))],[],none,[2,3],9,[],[],[]⟩])
     (.cond (.sl 7)
      (.seq
       (.seq
        (.reg [⟨[],[(19,(.bin .neq (.len false (.ld 1 false (.fa 2 (.sl 2)))) (.int .i64 1)))],[],none,[],4,[],[],[]⟩])
        (.cond (.sl 19)
         (.seq
          (.reg [⟨[],[(4,.nilp)],[],none,[],1,[],[],[]⟩])
          (.seq
           (.tidy 2 [4])
           .ret))
         .skip))
       (.seq
        (.reg [⟨[(21,.box (.set 0 1 (.int .i64 4) (.agg (.cons (.int .i64 0) (.cons .nilp (.cons .nilp (.cons (.nilsl 1) (.cons (.nilsl 1) .nil))))))))],[(4,(.sl 21))],[],none,[],3,[],[],[]⟩])
        (.seq
         (.tidy 2 [4])
         .ret)))
      (.seq
       (.reg [⟨[],[(22,(.bin .neq (.ld 1 false (.fa 0 (.sl 2))) (.int .i64 3)))],[],none,[2,3],4,[],[],[]⟩])
       (.cond (.sl 22)
        (.seq
         (.reg [⟨[(27,.box (.set 0 1 (.int .i64 2) (.agg (.cons (.int .i64 0) (.cons .nilp (.cons .nilp (.cons (.nilsl 1) (.cons (.nilsl 1) .nil))))))))],[(4,(.sl 27))],[],none,[],3,[],[],[]⟩])
         (.seq
          (.tidy 2 [4])
          .ret))
        .skip)))))
   (.seq
    (.reg [⟨[],[(5,(.ext 0 (.call 52 (.cons (.ld 3 true (.sl 2)) .nil))))],[(.ext 1 (.call 52 (.cons (.ld 3 true (.sl 2)) .nil)))],none,[2,3],7,[],[],[]⟩])
    (.seq
     (.seq
      (.reg [⟨[],[(34,(.bin .eql (.sl 5) (.str [])))],[],none,[2,3,5],2,[],[],[]⟩])
      (.cond (.sl 34)
       (.seq
        (.reg [⟨[],[],[],some (some 37,.calle 53 (.cons (.ld 3 true (.sl 2)) (.cons (.ld 1 false (.sl 3)) .nil))),[],3,[],[],[]⟩,⟨[],[(4,(.sl 37))],[],none,[],1,[],[],[]⟩])
        (.seq
         (.tidy 2 [4])
         .ret))
       .skip))
     (.seq
      (.reg [⟨[],[],[],some (some 41,.calle 54 (.cons (.ld 1 false (.sl 3)) (.cons (.sl 5) (.cons (.mkf 55 (.cons (.sl 2) (.cons (.sl 3) .nil))) .nil)))),[],4,[],[],[]⟩,⟨[],[(4,(.sl 41))],[],none,[],1,[],[],[]⟩])
      (.seq
       (.tidy 2 [4])
       .ret)))))),
 [(.sl 4)],false⟩
theorem f39_ok:funOk Go.Proofs.Tryz.prog 39 2 2 f39=true:=by kernel_rfl
/- '(*sloth/lattice.kept[string, *sloth/lattice.order]).get' -/
def f54:Fun:=⟨
 (.seq
  (.reg [⟨[],[],[.nilp],none,[0,1,2],1,[],[],[]⟩])
  (.seq
   (.seq
    (.reg [⟨[],[(7,(.ext 0 (.lkp true 2 .nilp (.ld 1 false (.fa 0 (.fa 0 (.sl 0)))) (.sl 1)))),(8,(.ext 1 (.lkp true 2 .nilp (.ld 1 false (.fa 0 (.fa 0 (.sl 0)))) (.sl 1))))],[],none,[0,1,2],11,[],[],[]⟩])
    (.seq
     (.reg [⟨[],[(19,(.sl 8))],[],none,[0,1,2,7],1,[],[],[]⟩])
     (.cond (.sl 19)
      (.seq
       (.reg [⟨[],[(6,(.sl 7))],[],none,[],2,[],[],[]⟩])
       (.seq
        (.tidy 4 [6])
        .ret))
      .skip)))
   (.seq
    (.reg [⟨[],[],[],some (some 22,.calle 4294967295 (.cons (.sl 2) .nil)),[0,1],2,[],[],[]⟩,⟨[],[(9,(.sl 22))],[],none,[0,1],1,[],[],[]⟩])
    (.seq
     (.reg [⟨[],[],[],some (none,.mset 2 (.ld 1 false (.fa 0 (.fa 0 (.sl 0)))) (.sl 1) (.sl 9)),[9],7,[],[],[]⟩])
     (.seq
      (.reg [⟨[],[(6,(.sl 9))],[],none,[],2,[],[],[]⟩])
      (.seq
       (.tidy 4 [6])
       .ret)))))),
 [(.sl 6)],false⟩
theorem f54_ok:funOk Go.Proofs.Tryz.prog 54 4 3 f54=true:=by kernel_rfl
/- 'sloth/lattice.build$1' -/
def f55:Fun:=⟨
 (.seq
  (.reg [⟨[],[],[.nilp],none,[0,1],1,[],[],[]⟩])
  (.seq
   (.reg [⟨[],[],[],some (some 5,.calle 53 (.cons (.ld 3 true (.sl 0)) (.cons (.ld 1 false (.sl 1)) .nil))),[],3,[],[],[]⟩,⟨[],[(2,(.sl 5))],[],none,[],1,[],[],[]⟩])
   (.seq
    (.tidy 4 [2])
    .ret))),
 [(.sl 2)],false⟩
theorem f55_ok:funOk Go.Proofs.Tryz.prog 55 4 2 f55=true:=by kernel_rfl
abbrev Kpt:=List (BY×Option Lat)
theorem rng4:List.range 4=[0,1,2,3]:=rfl
def lookK (x:BY):Kpt→Option (Option Lat)
  | []=>none
  | (m,o) :: r=>if x=m then some o else lookK x r
def setK (x:BY) (o:Option Lat):Kpt→Kpt
  | []=>[(x,o)]
  | (m,p) :: r=>if x=m then (m,o) :: r else (m,p) :: setK x o r
theorem findE_kept (x:BY):∀ es:Kpt,findE 2 (.str x) (keptE es)=some ((lookK x es).map oV)
  | []=>rfl
  | (m,o) :: r=>by
    have ih:=findE_kept x r
    simp only [keptE,List.map_cons,findE,keyEq,lookK] at ih ⊢
    by_cases h:x=m
    · simp [h]
    · simp only [h,decide_false,if_false]
      exact ih
theorem setE_kept (x:BY) (o:Option Lat):∀ es:Kpt,setE 2 (.str x) (oV o) (keptE es)=some (keptE (setK x o es))
  | []=>by simp [keptE,setE,keyEq,setK]
  | (m,p) :: r=>by
    have ih:=setE_kept x o r
    simp only [keptE,List.map_cons,setE,keyEq,setK] at ih ⊢
    by_cases h:x=m
    · simp [h]
    · simp only [h,decide_false,if_false,ih,List.map_cons]
@[reducible] def kp (es:Kpt):List Blk:=[.mix 1 [[.map 1]],.map (keptE es)]
def tyR3 (k:Int) (n:BY) (r:List (List D)):List V:=[.d false (.int .i64 k),.d false (.str n),.d false (.sl 3 r)]
def E53 (K:Cx) (k:Int) (n:BY) (r:List (List D)) (es:Kpt) (o:Option Lat) (es':Kpt):Prop:=
  K.eff 53 [tyV k n r,.ptr 0 0 0] (kp es)=some (oV o,kp es',[])
def E55 (K:Cx) (k:Int) (n:BY) (r:List (List D)) (es:Kpt) (o:Option Lat) (es':Kpt):Prop:=
  K.eff 55 [.ptr 0 0 0,.ptr 1 0 0] [.mix 3 [tyR3 k n r],.mix 1 [[.ptr 2 0 0]],.mix 1 [[.map 3]],.map (keptE es)]=some (oV o,[.mix 3 [tyR3 k n r],.mix 1 [[.ptr 2 0 0]],.mix 1 [[.map 3]],.map (keptE es')],[])
def E54 (K:Cx) (x:BY) (k:Int) (n:BY) (r:List (List D)) (es:Kpt) (o:Option Lat) (es':Kpt):Prop:=
  K.eff 54 [.ptr 0 0 0,.d false (.str x),.fn 55 [.ptr 1 0 0,.ptr 2 0 0]] [.mix 1 [[.map 3]],.mix 3 [tyR3 k n r],.mix 1 [[.ptr 0 0 0]],.map (keptE es)]=some (oV o,[.mix 1 [[.map 3]],.mix 3 [tyR3 k n r],.mix 1 [[.ptr 0 0 0]],.map (keptE es')],[])
theorem ev_55 (K:Cx) (k:Int) (n:BY) (r:List (List D)) (es es':Kpt) (o:Option Lat) (w:E53 K k n r es o es') :
    runFun K f55 [.ptr 0 0 0,.ptr 1 0 0] [.mix 3 [tyR3 k n r],.mix 1 [[.ptr 2 0 0]],.mix 1 [[.map 3]],.map (keptE es)]=some (oV o,[.mix 3 [tyR3 k n r],.mix 1 [[.ptr 2 0 0]],.mix 1 [[.map 3]],.map (keptE es')],[]):=by
  have hd:=kept_dim es
  unfold f55
  simp only [E53,tyV,tyR3,kp] at w ⊢
  cases o with
  | none=>
    simp only [oV] at w ⊢
    simp (disch:=first | decide | omega | (simp only [LN];omega) | (simp only [LN];done) | fail) only [runFun_eq,List.length_cons,List.length_nil,Nat.zero_add,Nat.reduceAdd,startS,List.zipIdx_cons,List.zipIdx_nil,List.map_cons,List.map_nil,indexed,exec_seq,exec_reg,evSegs_cons,evSeg_eq,evMks_nil,o1_some,segL_eq,wonB_nil,evChk_cons,e_nilp,Option.isSome_some,evChk_nil,Bool.and_self,evLets_nil,segW_none,restrict_cons,look_cons,beq_self_eq_true,lookB_true,resC_some,Nat.reduceBEq,lookB_false,restrict_nil,List.nil_append,addBlks,segs_nil,nrm_some,thn_nrm,segW_some,List.append_nil,evWr_calle,e_cons,e_ld,e_sl,evLd_ptr,ldB_eq,row_mix,List.getElem?_cons_zero,ldR_eq,List.drop_zero,part_true,Nat.le_refl,take_all,if_true,part_one,e_nil,o2_some,consV_tup,wrEff_tup,refsL,V.refs,reachB_cons,List.contains_nil,reachC_false,refsO_some,Blk.refs,List.flatMap_cons,List.flatMap_nil,List.contains_cons,Bool.or_self,List.cons_append,kept_refs,reachB_nil,evEff_eq,List.nodup_cons,List.mem_cons,Nat.reduceEqDiff,List.not_mem_nil,or_self,not_false_eq_true,List.nodup_nil,and_self,decide_true,List.all_cons,V.within,withinL,Bool.or_false,List.all_nil,closedB,Blk.within,Bool.or_true,kept_within,handed,Blk.ren,Blk.dim,List.idxOf_cons,mapO_cons,Option.map_some,dimL,V.dim,renL,V.ren,cond_true,cond_false,hd,kept_ren,mapO_nil,mapC_eq,effA_eq,w,effR_eq,putAll,loseM,backB_eq,Nat.reduceSub,Nat.add_zero,Option.getD_some,List.getElem?_cons_succ,put_cons,putB_false,putB_true,segO_some,lose,loseH,Lost.ids,segs_cons,evLets_cons,letC_eq,exec_tidy,tidyS_a,tidyA_eq,rng4,reachC_true,tidyB_eq,reduceCtorEq,List.filterMap_cons,List.filterMap_nil,List.filter_cons,Bool.false_eq_true,List.filter_nil,if_false,exec_ret,endF_ret,oneOr,finish,finV,finA,finC,finB_eq,fbA_mix,hNew,restH,forgetH,Bool.not_true,V.newR,V.new1,D.flat,Bool.and_true,viewDepth,viewD,look_nil,Option.map_none,fbA_map]
  | some l=>
    simp only [oV,pD] at w ⊢
    simp (disch:=first | decide | omega | (simp only [LN];omega) | (simp only [LN];done) | fail) only [runFun_eq,List.length_cons,List.length_nil,Nat.zero_add,Nat.reduceAdd,startS,List.zipIdx_cons,List.zipIdx_nil,List.map_cons,List.map_nil,indexed,exec_seq,exec_reg,evSegs_cons,evSeg_eq,evMks_nil,o1_some,segL_eq,wonB_nil,evChk_cons,e_nilp,Option.isSome_some,evChk_nil,Bool.and_self,evLets_nil,segW_none,restrict_cons,look_cons,beq_self_eq_true,lookB_true,resC_some,Nat.reduceBEq,lookB_false,restrict_nil,List.nil_append,addBlks,segs_nil,nrm_some,thn_nrm,segW_some,List.append_nil,evWr_calle,e_cons,e_ld,e_sl,evLd_ptr,ldB_eq,row_mix,List.getElem?_cons_zero,ldR_eq,List.drop_zero,part_true,Nat.le_refl,take_all,if_true,part_one,e_nil,o2_some,consV_tup,wrEff_tup,refsL,V.refs,reachB_cons,List.contains_nil,reachC_false,refsO_some,Blk.refs,List.flatMap_cons,List.flatMap_nil,List.contains_cons,Bool.or_self,List.cons_append,kept_refs,reachB_nil,evEff_eq,List.nodup_cons,List.mem_cons,Nat.reduceEqDiff,List.not_mem_nil,or_self,not_false_eq_true,List.nodup_nil,and_self,decide_true,List.all_cons,V.within,withinL,Bool.or_false,List.all_nil,closedB,Blk.within,Bool.or_true,kept_within,handed,Blk.ren,Blk.dim,List.idxOf_cons,mapO_cons,Option.map_some,dimL,V.dim,renL,V.ren,cond_true,cond_false,hd,kept_ren,mapO_nil,mapC_eq,effA_eq,w,effR_eq,putAll,loseM,backB_eq,Nat.reduceSub,Nat.add_zero,Option.getD_some,List.getElem?_cons_succ,put_cons,putB_false,putB_true,segO_some,lose,loseH,Lost.ids,segs_cons,evLets_cons,letC_eq,exec_tidy,tidyS_a,tidyA_eq,rng4,reachC_true,tidyB_eq,reduceCtorEq,List.filterMap_cons,List.filterMap_nil,List.filter_cons,Bool.false_eq_true,List.filter_nil,if_false,exec_ret,endF_ret,oneOr,finish,finV,finA,finC,finB_eq,fbA_mix,hNew,restH,forgetH,Bool.not_true,V.newR,V.new1,D.flat,Bool.and_true,viewDepth,viewD,look_nil,Option.map_none,fbA_map]
theorem ev_54a (K:Cx) (x:BY) (k:Int) (n:BY) (r:List (List D)) (es:Kpt) (o:Option Lat) (h:lookK x es=some o) :
    runFun K f54 [.ptr 0 0 0,.d false (.str x),.fn 55 [.ptr 1 0 0,.ptr 2 0 0]] [.mix 1 [[.map 3]],.mix 3 [tyR3 k n r],.mix 1 [[.ptr 0 0 0]],.map (keptE es)]=some (oV o,[.mix 1 [[.map 3]],.mix 3 [tyR3 k n r],.mix 1 [[.ptr 0 0 0]],.map (keptE es)],[]):=by
  have hf:=findE_kept x es
  rw [h,Option.map_some] at hf
  unfold f54
  simp only [tyR3] at hf ⊢
  cases o with
  | none=>
    simp only [oV] at hf ⊢
    simp (disch:=first | decide | omega | (simp only [LN];omega) | (simp only [LN];done) | fail) only [runFun_eq,List.length_cons,List.length_nil,Nat.zero_add,Nat.reduceAdd,startS,List.zipIdx_cons,List.zipIdx_nil,List.map_cons,List.map_nil,indexed,exec_seq,exec_reg,evSegs_cons,evSeg_eq,evMks_nil,o1_some,segL_eq,wonB_nil,evChk_cons,e_nilp,Option.isSome_some,evChk_nil,Bool.and_self,evLets_nil,segW_none,restrict_cons,look_cons,beq_self_eq_true,lookB_true,resC_some,Nat.reduceBEq,lookB_false,restrict_nil,List.nil_append,addBlks,segs_nil,nrm_some,thn_nrm,evLets_cons,e_ext,e_lkp,e_ld,e_fa,e_sl,evFa,Nat.add_zero,evLd_ptr,ldB_eq,row_mix,List.getElem?_cons_zero,ldR_eq,List.drop_zero,part_one,o3_some,evLkp_map,lkB_map,hf,lkO_someT,evExt,List.getElem?_cons_succ,o2_some,letC_eq,List.cons_append,exec_cond,brn_true,List.append_nil,exec_tidy,tidyS_a,tidyA_eq,rng4,refsL,V.refs,reachB_cons,List.contains_nil,reachC_false,refsO_some,Blk.refs,List.flatMap_cons,List.flatMap_nil,List.contains_cons,Bool.or_self,kept_refs,Bool.or_false,Bool.or_true,reachC_true,reachB_nil,tidyB_eq,List.nodup_cons,List.mem_cons,reduceCtorEq,List.not_mem_nil,or_self,not_false_eq_true,Nat.reduceEqDiff,List.nodup_nil,and_self,decide_true,take_all,List.all_cons,V.within,List.all_nil,closedB,Blk.within,withinL,kept_within,List.idxOf_cons,V.ren,Blk.ren,List.filterMap_cons,Option.map_some,renL,cond_true,cond_false,kept_ren,List.filterMap_nil,List.filter_cons,Bool.false_eq_true,List.filter_nil,if_false,if_true,exec_ret,thn_ret,endF_ret,mapO_cons,mapO_nil,mapC_eq,oneOr,finish,finV,finA,finC,finB_eq,fbA_mix,hNew,restH,forgetH,Bool.not_true,V.newR,V.new1,D.flat,Bool.and_true,viewDepth,viewD,look_nil,Option.map_none,fbA_map]
  | some l=>
    simp only [oV,pD] at hf ⊢
    simp (disch:=first | decide | omega | (simp only [LN];omega) | (simp only [LN];done) | fail) only [runFun_eq,List.length_cons,List.length_nil,Nat.zero_add,Nat.reduceAdd,startS,List.zipIdx_cons,List.zipIdx_nil,List.map_cons,List.map_nil,indexed,exec_seq,exec_reg,evSegs_cons,evSeg_eq,evMks_nil,o1_some,segL_eq,wonB_nil,evChk_cons,e_nilp,Option.isSome_some,evChk_nil,Bool.and_self,evLets_nil,segW_none,restrict_cons,look_cons,beq_self_eq_true,lookB_true,resC_some,Nat.reduceBEq,lookB_false,restrict_nil,List.nil_append,addBlks,segs_nil,nrm_some,thn_nrm,evLets_cons,e_ext,e_lkp,e_ld,e_fa,e_sl,evFa,Nat.add_zero,evLd_ptr,ldB_eq,row_mix,List.getElem?_cons_zero,ldR_eq,List.drop_zero,part_one,o3_some,evLkp_map,lkB_map,hf,lkO_someT,evExt,List.getElem?_cons_succ,o2_some,letC_eq,List.cons_append,exec_cond,brn_true,List.append_nil,exec_tidy,tidyS_a,tidyA_eq,rng4,refsL,V.refs,reachB_cons,List.contains_nil,reachC_false,refsO_some,Blk.refs,List.flatMap_cons,List.flatMap_nil,List.contains_cons,Bool.or_self,kept_refs,Bool.or_false,Bool.or_true,reachC_true,reachB_nil,tidyB_eq,List.nodup_cons,List.mem_cons,reduceCtorEq,List.not_mem_nil,or_self,not_false_eq_true,Nat.reduceEqDiff,List.nodup_nil,and_self,decide_true,take_all,List.all_cons,V.within,List.all_nil,closedB,Blk.within,withinL,kept_within,List.idxOf_cons,V.ren,Blk.ren,List.filterMap_cons,Option.map_some,renL,cond_true,cond_false,kept_ren,List.filterMap_nil,List.filter_cons,Bool.false_eq_true,List.filter_nil,if_false,if_true,exec_ret,thn_ret,endF_ret,mapO_cons,mapO_nil,mapC_eq,oneOr,finish,finV,finA,finC,finB_eq,fbA_mix,hNew,restH,forgetH,Bool.not_true,V.newR,V.new1,D.flat,Bool.and_true,viewDepth,viewD,look_nil,Option.map_none,fbA_map]
theorem ev_54b (K:Cx) (x:BY) (k:Int) (n:BY) (r:List (List D)) (es es':Kpt) (o:Option Lat) (h:lookK x es=none) (w:E55 K k n r es o es') :
    runFun K f54 [.ptr 0 0 0,.d false (.str x),.fn 55 [.ptr 1 0 0,.ptr 2 0 0]] [.mix 1 [[.map 3]],.mix 3 [tyR3 k n r],.mix 1 [[.ptr 0 0 0]],.map (keptE es)]=some (oV o,[.mix 1 [[.map 3]],.mix 3 [tyR3 k n r],.mix 1 [[.ptr 0 0 0]],.map (keptE (setK x o es'))],[]):=by
  have hf:=findE_kept x es
  rw [h,Option.map_none] at hf
  have hs:=setE_kept x o es'
  have hd:=kept_dim es
  have hd':=kept_dim es'
  unfold f54
  simp only [E55,tyR3] at w ⊢
  cases o with
  | none=>
    simp only [oV] at w hs ⊢
    simp (disch:=first | decide | omega | (simp only [LN];omega) | (simp only [LN];done) | fail) only [runFun_eq,List.length_cons,List.length_nil,Nat.zero_add,Nat.reduceAdd,startS,List.zipIdx_cons,List.zipIdx_nil,List.map_cons,List.map_nil,indexed,exec_seq,exec_reg,evSegs_cons,evSeg_eq,evMks_nil,o1_some,segL_eq,wonB_nil,evChk_cons,e_nilp,Option.isSome_some,evChk_nil,Bool.and_self,evLets_nil,segW_none,restrict_cons,look_cons,beq_self_eq_true,lookB_true,resC_some,Nat.reduceBEq,lookB_false,restrict_nil,List.nil_append,addBlks,segs_nil,nrm_some,thn_nrm,evLets_cons,e_ext,e_lkp,e_ld,e_fa,e_sl,evFa,Nat.add_zero,evLd_ptr,ldB_eq,row_mix,List.getElem?_cons_zero,ldR_eq,List.drop_zero,part_one,o3_some,evLkp_map,lkB_map,hf,lkO_noneT,evExt,List.getElem?_cons_succ,o2_some,letC_eq,List.cons_append,exec_cond,brn_false,exec_skip,segW_some,evWr_calle,e_cons,e_nil,consV_tup,wrEff_dyn,refsL,V.refs,List.append_nil,reachB_cons,List.contains_nil,reachC_false,refsO_some,Blk.refs,List.flatMap_cons,List.flatMap_nil,List.contains_cons,Bool.or_self,kept_refs,reachB_nil,evEff_eq,List.nodup_cons,List.mem_cons,Nat.reduceEqDiff,reduceCtorEq,List.not_mem_nil,or_self,not_false_eq_true,List.nodup_nil,and_self,decide_true,List.all_cons,V.within,Bool.or_false,Bool.or_true,List.all_nil,closedB,Blk.within,withinL,kept_within,handed,Blk.ren,Blk.dim,List.idxOf_cons,mapO_cons,Option.map_some,dimL,V.dim,renL,V.ren,cond_false,cond_true,hd,kept_ren,mapO_nil,mapC_eq,effA_eq,w,effR_eq,Nat.le_refl,putAll,loseM,backB_eq,Nat.reduceSub,Option.getD_some,put_cons,putB_false,putB_true,if_true,segO_some,lose,loseH,Lost.ids,segs_cons,evWr_mset,wrMset_map,V.laid,V.cell,msB_map,hs,stM_some,segO_none,exec_tidy,tidyS_a,tidyA_eq,rng4,reachC_true,tidyB_eq,take_all,List.filterMap_cons,List.filterMap_nil,List.filter_cons,Bool.false_eq_true,List.filter_nil,if_false,exec_ret,endF_ret,oneOr,finish,finV,finA,finC,finB_eq,fbA_mix,hNew,restH,forgetH,Bool.not_true,V.newR,V.new1,D.flat,Bool.and_true,viewDepth,viewD,look_nil,Option.map_none,fbA_map]
  | some l=>
    simp only [oV,pD] at w hs ⊢
    simp (disch:=first | decide | omega | (simp only [LN];omega) | (simp only [LN];done) | fail) only [runFun_eq,List.length_cons,List.length_nil,Nat.zero_add,Nat.reduceAdd,startS,List.zipIdx_cons,List.zipIdx_nil,List.map_cons,List.map_nil,indexed,exec_seq,exec_reg,evSegs_cons,evSeg_eq,evMks_nil,o1_some,segL_eq,wonB_nil,evChk_cons,e_nilp,Option.isSome_some,evChk_nil,Bool.and_self,evLets_nil,segW_none,restrict_cons,look_cons,beq_self_eq_true,lookB_true,resC_some,Nat.reduceBEq,lookB_false,restrict_nil,List.nil_append,addBlks,segs_nil,nrm_some,thn_nrm,evLets_cons,e_ext,e_lkp,e_ld,e_fa,e_sl,evFa,Nat.add_zero,evLd_ptr,ldB_eq,row_mix,List.getElem?_cons_zero,ldR_eq,List.drop_zero,part_one,o3_some,evLkp_map,lkB_map,hf,lkO_noneT,evExt,List.getElem?_cons_succ,o2_some,letC_eq,List.cons_append,exec_cond,brn_false,exec_skip,segW_some,evWr_calle,e_cons,e_nil,consV_tup,wrEff_dyn,refsL,V.refs,List.append_nil,reachB_cons,List.contains_nil,reachC_false,refsO_some,Blk.refs,List.flatMap_cons,List.flatMap_nil,List.contains_cons,Bool.or_self,kept_refs,reachB_nil,evEff_eq,List.nodup_cons,List.mem_cons,Nat.reduceEqDiff,reduceCtorEq,List.not_mem_nil,or_self,not_false_eq_true,List.nodup_nil,and_self,decide_true,List.all_cons,V.within,Bool.or_false,Bool.or_true,List.all_nil,closedB,Blk.within,withinL,kept_within,handed,Blk.ren,Blk.dim,List.idxOf_cons,mapO_cons,Option.map_some,dimL,V.dim,renL,V.ren,cond_false,cond_true,hd,kept_ren,mapO_nil,mapC_eq,effA_eq,w,effR_eq,Nat.le_refl,putAll,loseM,backB_eq,Nat.reduceSub,Option.getD_some,put_cons,putB_false,putB_true,if_true,segO_some,lose,loseH,Lost.ids,segs_cons,evWr_mset,wrMset_map,V.laid,V.cell,msB_map,hs,stM_some,segO_none,exec_tidy,tidyS_a,tidyA_eq,rng4,reachC_true,tidyB_eq,take_all,List.filterMap_cons,List.filterMap_nil,List.filter_cons,Bool.false_eq_true,List.filter_nil,if_false,exec_ret,endF_ret,oneOr,finish,finV,finA,finC,finB_eq,fbA_mix,hNew,restH,forgetH,Bool.not_true,V.newR,V.new1,D.flat,Bool.and_true,viewDepth,viewD,look_nil,Option.map_none,fbA_map]
end Go.Vm
end

section
namespace Go.Vm
set_option maxRecDepth 100000
theorem pD_ch (n:Nat):pD (.ch n)=.d false (.ptr [.int .i64 n,.nilp,.nilp,.sl 1 [],.sl 1 []]):=rfl
theorem ev_buildL (K:Cx) (r:List (List D)) (es:Kpt):runFun K f39 [tyV 4 [76,105,115,116] r,.ptr 0 0 0] (kp es)=some (oV (if r.length=1 then some (.ch 4) else none),kp es,[]):=by
 by_cases h:r.length=1
 ·have e:((r.length:Int) != 1)=false:=by simp;omega
  simp only [h,if_true]
  unfold f39
  simp only [tyV,oV,pD_ch,kp]
  rw [show ((4:Nat):Int)=4 from rfl]
  simp (disch:=first | decide | omega | (simp only [LN];omega) | (simp only [LN];done) | fail) only [runFun_eq,List.length_cons,List.length_nil,Nat.zero_add,Nat.reduceAdd,startS,List.zipIdx_cons,List.zipIdx_nil,List.map_cons,List.map_nil,indexed,exec_seq,exec_reg,evSegs_cons,evSeg_eq,evMks_cons,evMk_box,e_sl,look_cons,beq_self_eq_true,lookB_true,o1_some,mkBox,V.laid,V.cells,if_true,mksA_eq,put_cons,Nat.reduceBEq,putB_false,put_nil,lookB_false,V.cell,evMks_nil,mksB_eq,List.append_nil,List.cons_append,List.nil_append,segL_eq,wonB_nil,evChk_cons,e_nilp,Option.isSome_some,evChk_nil,Bool.and_self,evLets_nil,segW_none,restrict_cons,resC_some,restrict_nil,addBlks,segs_nil,nrm_some,thn_nrm,exec_block,evLets_cons,e_and,e_bin,e_ld,e_fa,evFa,Nat.add_zero,evLd_ptr,ldB_eq,row_mix,List.getElem?_cons_zero,ldR_eq,List.drop_zero,part_one,e_int,o2_some,evBin,intBin,List.drop_succ_cons,e_str,strBin,decide_true,andV_some,letC_eq,exec_cond,brn_true,e_len,evLen,e,brn_false,exec_skip,e_set,e_agg,e_cons,e_nilsl,e_nil,consV_tup,aggV_tup,evSet,nle_T,splice,List.take_zero,exec_tidy,tidyS_a,tidyA_eq,range2,refsL,V.refs,reachB_cons,List.contains_nil,reachC_false,refsO_some,Blk.refs,List.flatMap_cons,List.flatMap_nil,List.contains_cons,Bool.or_self,kept_refs,Bool.or_false,Bool.or_true,reachC_true,reachB_nil,tidyB_eq,List.nodup_cons,List.mem_cons,reduceCtorEq,List.not_mem_nil,or_self,not_false_eq_true,Nat.reduceEqDiff,List.nodup_nil,and_self,List.take_succ_cons,List.all_cons,V.within,List.all_nil,closedB,Blk.within,withinL,kept_within,List.idxOf_cons,V.ren,cond_true,cond_false,Blk.ren,List.filterMap_cons,Option.map_some,renL,kept_ren,List.filterMap_nil,List.filter_cons,Bool.false_eq_true,List.filter_nil,if_false,exec_ret,blk_ret,thn_ret,endF_ret,mapO_cons,mapO_nil,mapC_eq,oneOr,finish,take_all,finV,finA,finC,hNew,restH,forgetH,Bool.not_true,Bool.not_false,forget_mix,V.drop1,V.newR,V.new1,D.flat,Bool.and_true,viewDepth,viewD,finB_eq,fbA_mix,fbA_map]
 ·have e:((r.length:Int) != 1)=true:=by simp;omega
  simp only [h,if_false]
  unfold f39
  simp only [tyV,oV,kp]
  simp (disch:=first | decide | omega | (simp only [LN];omega) | (simp only [LN];done) | fail) only [runFun_eq,List.length_cons,List.length_nil,Nat.zero_add,Nat.reduceAdd,startS,List.zipIdx_cons,List.zipIdx_nil,List.map_cons,List.map_nil,indexed,exec_seq,exec_reg,evSegs_cons,evSeg_eq,evMks_cons,evMk_box,e_sl,look_cons,beq_self_eq_true,lookB_true,o1_some,mkBox,V.laid,V.cells,if_true,mksA_eq,put_cons,Nat.reduceBEq,putB_false,put_nil,lookB_false,V.cell,evMks_nil,mksB_eq,List.append_nil,List.cons_append,List.nil_append,segL_eq,wonB_nil,evChk_cons,e_nilp,Option.isSome_some,evChk_nil,Bool.and_self,evLets_nil,segW_none,restrict_cons,resC_some,restrict_nil,addBlks,segs_nil,nrm_some,thn_nrm,exec_block,evLets_cons,e_and,e_bin,e_ld,e_fa,evFa,Nat.add_zero,evLd_ptr,ldB_eq,row_mix,List.getElem?_cons_zero,ldR_eq,List.drop_zero,part_one,e_int,o2_some,evBin,intBin,List.drop_succ_cons,e_str,strBin,decide_true,andV_some,letC_eq,exec_cond,brn_true,e_len,evLen,e,exec_tidy,tidyS_a,tidyA_eq,range2,refsL,V.refs,reachB_cons,List.contains_nil,reachC_false,refsO_some,Blk.refs,List.flatMap_cons,List.flatMap_nil,List.contains_cons,Bool.or_self,kept_refs,Bool.or_false,Bool.or_true,reachC_true,reachB_nil,tidyB_eq,List.nodup_cons,List.mem_cons,reduceCtorEq,List.not_mem_nil,or_self,not_false_eq_true,List.nodup_nil,and_self,take_all,List.all_cons,V.within,List.all_nil,closedB,Blk.within,withinL,kept_within,List.idxOf_cons,V.ren,Blk.ren,List.filterMap_cons,Option.map_some,renL,cond_true,cond_false,kept_ren,List.filterMap_nil,List.filter_cons,Bool.false_eq_true,List.filter_nil,if_false,exec_ret,thn_ret,blk_ret,endF_ret,mapO_cons,mapO_nil,mapC_eq,oneOr,finish,finV,finA,finC,finB_eq,fbA_mix,fbA_map]
theorem ev_buildO (K:Cx) (k:Int) (n:BY) (r:List (List D)) (es:Kpt) (h:(k == 4 && decide (n=[76,105,115,116]))=false) (h3:k≠3):runFun K f39 [tyV k n r,.ptr 0 0 0] (kp es)=some (oV (some (.ch 2)),kp es,[]):=by
 have e:(k != 3)=true:=by simpa using h3
 unfold f39
 simp only [tyV,oV,pD_ch,kp]
 rw [show ((2:Nat):Int)=2 from rfl]
 simp (disch:=first | decide | omega | (simp only [LN];omega) | (simp only [LN];done) | fail) only [runFun_eq,List.length_cons,List.length_nil,Nat.zero_add,Nat.reduceAdd,startS,List.zipIdx_cons,List.zipIdx_nil,List.map_cons,List.map_nil,indexed,exec_seq,exec_reg,evSegs_cons,evSeg_eq,evMks_cons,evMk_box,e_sl,look_cons,beq_self_eq_true,lookB_true,o1_some,mkBox,V.laid,V.cells,if_true,mksA_eq,put_cons,Nat.reduceBEq,putB_false,put_nil,lookB_false,V.cell,evMks_nil,mksB_eq,List.append_nil,List.cons_append,List.nil_append,segL_eq,wonB_nil,evChk_cons,e_nilp,Option.isSome_some,evChk_nil,Bool.and_self,evLets_nil,segW_none,restrict_cons,resC_some,restrict_nil,addBlks,segs_nil,nrm_some,thn_nrm,exec_block,evLets_cons,e_and,e_bin,e_ld,e_fa,evFa,Nat.add_zero,evLd_ptr,ldB_eq,row_mix,List.getElem?_cons_zero,ldR_eq,List.drop_zero,part_one,e_int,o2_some,evBin,intBin,List.drop_succ_cons,e_str,strBin,andV_some,h,letC_eq,exec_cond,brn_false,e,brn_true,e_set,e_agg,e_cons,e_nilsl,e_nil,consV_tup,aggV_tup,evSet,nle_T,decide_true,splice,List.take_zero,exec_tidy,tidyS_a,tidyA_eq,range2,refsL,V.refs,reachB_cons,List.contains_nil,reachC_false,refsO_some,Blk.refs,List.flatMap_cons,List.flatMap_nil,List.contains_cons,Bool.or_self,kept_refs,Bool.or_false,Bool.or_true,reachC_true,reachB_nil,tidyB_eq,List.nodup_cons,List.mem_cons,reduceCtorEq,List.not_mem_nil,or_self,not_false_eq_true,Nat.reduceEqDiff,List.nodup_nil,and_self,List.take_succ_cons,List.all_cons,V.within,List.all_nil,closedB,Blk.within,withinL,kept_within,List.idxOf_cons,V.ren,cond_true,cond_false,Blk.ren,List.filterMap_cons,Option.map_some,renL,kept_ren,List.filterMap_nil,List.filter_cons,Bool.false_eq_true,List.filter_nil,if_false,exec_ret,blk_ret,thn_ret,endF_ret,mapO_cons,mapO_nil,mapC_eq,oneOr,finish,take_all,finV,finA,finC,hNew,restH,forgetH,Bool.not_true,Bool.not_false,forget_mix,V.drop1,V.newR,V.new1,D.flat,Bool.and_true,viewDepth,viewD,finB_eq,fbA_mix,fbA_map]
theorem ev_buildF (K:Cx) (n:BY) (r:List (List D)) (es es':Kpt) (o:Option Lat) (x:BY) (hx:x≠[]) (wp:K.call 52 [tyV 3 n r]=some (.tup [.d false (.str x),.d false (.int .i64 0)],[])) (w:E54 K x 3 n r es o es'):runFun K f39 [tyV 3 n r,.ptr 0 0 0] (kp es)=some (oV o,kp es',[]):=by
 have hd:=kept_dim es
 have e:decide (x=[])=false:=decide_eq_false hx
 unfold f39
 simp only [E54,tyV,tyR3,kp] at w wp ⊢
 cases o with
 | none=>
  simp only [oV] at w ⊢
  simp (disch:=first | decide | omega | (simp only [LN];omega) | (simp only [LN];done) | fail) only [runFun_eq,List.length_cons,List.length_nil,Nat.zero_add,Nat.reduceAdd,startS,List.zipIdx_cons,List.zipIdx_nil,List.map_cons,List.map_nil,indexed,exec_seq,exec_reg,evSegs_cons,evSeg_eq,evMks_cons,evMk_box,e_sl,look_cons,beq_self_eq_true,lookB_true,o1_some,mkBox,V.laid,V.cells,if_true,mksA_eq,put_cons,Nat.reduceBEq,putB_false,put_nil,lookB_false,V.cell,evMks_nil,mksB_eq,List.append_nil,List.cons_append,List.nil_append,segL_eq,wonB_nil,evChk_cons,e_nilp,Option.isSome_some,evChk_nil,Bool.and_self,evLets_nil,segW_none,restrict_cons,resC_some,restrict_nil,addBlks,segs_nil,nrm_some,thn_nrm,exec_block,evLets_cons,e_and,e_bin,e_ld,e_fa,evFa,Nat.add_zero,evLd_ptr,ldB_eq,row_mix,List.getElem?_cons_zero,ldR_eq,List.drop_zero,part_one,e_int,o2_some,evBin,intBin,eq_f,List.drop_succ_cons,e_str,strBin,andV_some,Bool.false_and,letC_eq,exec_cond,brn_false,bne_self_eq_false,exec_skip,blk_nrm,e_ext,e_call,e_cons,part_true,Nat.le_refl,take_all,e_nil,consV_tup,callV_tup,evCall_eq,List.any_cons,V.own,V.own1,List.any_nil,Bool.or_self,passes_eq,List.all_cons,V.new,V.new1,D.flat,Bool.or_true,List.all_nil,Bool.and_true,Bool.and_false,V.flatV,V.flat1,Bool.not_false,mapO_cons,view,viewDepth,viewD,mapO_nil,mapC_eq,Option.map_some,callA_eq,wp,callR_some,Bool.not_true,Bool.false_eq_true,if_false,evExt,List.getElem?_cons_succ,e,segW_some,evWr_calle,e_mkf,mkfV_tup,wrEff_tup,refsL,V.refs,reachB_cons,List.contains_nil,reachC_false,refsO_some,Blk.refs,List.flatMap_cons,List.flatMap_nil,List.contains_cons,kept_refs,Bool.or_false,reachC_true,reachB_nil,evEff_eq,List.nodup_cons,List.mem_cons,reduceCtorEq,List.not_mem_nil,or_self,not_false_eq_true,Nat.reduceEqDiff,List.nodup_nil,and_self,decide_true,V.within,withinL,closedB,Blk.within,kept_within,handed,Blk.ren,Blk.dim,List.idxOf_cons,dimL,V.dim,renL,V.ren,cond_true,cond_false,hd,kept_ren,effA_eq,w,effR_eq,putAll,loseM,backB_eq,Nat.reduceSub,Option.getD_some,putB_true,segO_some,lose,loseH,Lost.ids,segs_cons,exec_tidy,tidyS_a,tidyA_eq,range2,tidyB_eq,List.filterMap_cons,List.filterMap_nil,List.filter_cons,List.filter_nil,exec_ret,endF_ret,oneOr,finish,finV,finA,finC,finB_eq,fbA_mix,fbA_map]
 | some l=>
  simp only [oV,pD] at w ⊢
  simp (disch:=first | decide | omega | (simp only [LN];omega) | (simp only [LN];done) | fail) only [runFun_eq,List.length_cons,List.length_nil,Nat.zero_add,Nat.reduceAdd,startS,List.zipIdx_cons,List.zipIdx_nil,List.map_cons,List.map_nil,indexed,exec_seq,exec_reg,evSegs_cons,evSeg_eq,evMks_cons,evMk_box,e_sl,look_cons,beq_self_eq_true,lookB_true,o1_some,mkBox,V.laid,V.cells,if_true,mksA_eq,put_cons,Nat.reduceBEq,putB_false,put_nil,lookB_false,V.cell,evMks_nil,mksB_eq,List.append_nil,List.cons_append,List.nil_append,segL_eq,wonB_nil,evChk_cons,e_nilp,Option.isSome_some,evChk_nil,Bool.and_self,evLets_nil,segW_none,restrict_cons,resC_some,restrict_nil,addBlks,segs_nil,nrm_some,thn_nrm,exec_block,evLets_cons,e_and,e_bin,e_ld,e_fa,evFa,Nat.add_zero,evLd_ptr,ldB_eq,row_mix,List.getElem?_cons_zero,ldR_eq,List.drop_zero,part_one,e_int,o2_some,evBin,intBin,eq_f,List.drop_succ_cons,e_str,strBin,andV_some,Bool.false_and,letC_eq,exec_cond,brn_false,bne_self_eq_false,exec_skip,blk_nrm,e_ext,e_call,e_cons,part_true,Nat.le_refl,take_all,e_nil,consV_tup,callV_tup,evCall_eq,List.any_cons,V.own,V.own1,List.any_nil,Bool.or_self,passes_eq,List.all_cons,V.new,V.new1,D.flat,Bool.or_true,List.all_nil,Bool.and_true,Bool.and_false,V.flatV,V.flat1,Bool.not_false,mapO_cons,view,viewDepth,viewD,mapO_nil,mapC_eq,Option.map_some,callA_eq,wp,callR_some,Bool.not_true,Bool.false_eq_true,if_false,evExt,List.getElem?_cons_succ,e,segW_some,evWr_calle,e_mkf,mkfV_tup,wrEff_tup,refsL,V.refs,reachB_cons,List.contains_nil,reachC_false,refsO_some,Blk.refs,List.flatMap_cons,List.flatMap_nil,List.contains_cons,kept_refs,Bool.or_false,reachC_true,reachB_nil,evEff_eq,List.nodup_cons,List.mem_cons,reduceCtorEq,List.not_mem_nil,or_self,not_false_eq_true,Nat.reduceEqDiff,List.nodup_nil,and_self,decide_true,V.within,withinL,closedB,Blk.within,kept_within,handed,Blk.ren,Blk.dim,List.idxOf_cons,dimL,V.dim,renL,V.ren,cond_true,cond_false,hd,kept_ren,effA_eq,w,effR_eq,putAll,loseM,backB_eq,Nat.reduceSub,Option.getD_some,putB_true,segO_some,lose,loseH,Lost.ids,segs_cons,exec_tidy,tidyS_a,tidyA_eq,range2,tidyB_eq,List.filterMap_cons,List.filterMap_nil,List.filter_cons,List.filter_nil,exec_ret,endF_ret,oneOr,finish,finV,finA,finC,finB_eq,fbA_mix,fbA_map]
theorem ev_buildG (K:Cx) (n:BY) (r:List (List D)) (es es':Kpt) (o:Option Lat) (wp:K.call 52 [tyV 3 n r]=some (.tup [.d false (.str []),.d false (.int .i64 4)],[])) (w:E53 K 3 n r es o es'):runFun K f39 [tyV 3 n r,.ptr 0 0 0] (kp es)=some (oV o,kp es',[]):=by
 have hd:=kept_dim es
 unfold f39
 simp only [E53,tyV,tyR3,kp] at w wp ⊢
 cases o with
 | none=>
  simp only [oV] at w ⊢
  simp (disch:=first | decide | omega | (simp only [LN];omega) | (simp only [LN];done) | fail) only [runFun_eq,List.length_cons,List.length_nil,Nat.zero_add,Nat.reduceAdd,startS,List.zipIdx_cons,List.zipIdx_nil,List.map_cons,List.map_nil,indexed,exec_seq,exec_reg,evSegs_cons,evSeg_eq,evMks_cons,evMk_box,e_sl,look_cons,beq_self_eq_true,lookB_true,o1_some,mkBox,V.laid,V.cells,if_true,mksA_eq,put_cons,Nat.reduceBEq,putB_false,put_nil,lookB_false,V.cell,evMks_nil,mksB_eq,List.append_nil,List.cons_append,List.nil_append,segL_eq,wonB_nil,evChk_cons,e_nilp,Option.isSome_some,evChk_nil,Bool.and_self,evLets_nil,segW_none,restrict_cons,resC_some,restrict_nil,addBlks,segs_nil,nrm_some,thn_nrm,exec_block,evLets_cons,e_and,e_bin,e_ld,e_fa,evFa,Nat.add_zero,evLd_ptr,ldB_eq,row_mix,List.getElem?_cons_zero,ldR_eq,List.drop_zero,part_one,e_int,o2_some,evBin,intBin,eq_f,List.drop_succ_cons,e_str,strBin,andV_some,Bool.false_and,letC_eq,exec_cond,brn_false,bne_self_eq_false,exec_skip,blk_nrm,e_ext,e_call,e_cons,part_true,Nat.le_refl,take_all,e_nil,consV_tup,callV_tup,evCall_eq,List.any_cons,V.own,V.own1,List.any_nil,Bool.or_self,passes_eq,List.all_cons,V.new,V.new1,D.flat,Bool.or_true,List.all_nil,Bool.and_true,Bool.and_false,V.flatV,V.flat1,Bool.not_false,mapO_cons,view,viewDepth,viewD,mapO_nil,mapC_eq,Option.map_some,callA_eq,wp,callR_some,Bool.not_true,Bool.false_eq_true,if_false,evExt,List.getElem?_cons_succ,decide_true,brn_true,segW_some,evWr_calle,wrEff_tup,refsL,V.refs,reachB_cons,List.contains_nil,reachC_false,refsO_some,Blk.refs,List.flatMap_cons,List.flatMap_nil,List.contains_cons,kept_refs,reachB_nil,evEff_eq,List.nodup_cons,List.mem_cons,reduceCtorEq,List.not_mem_nil,or_self,not_false_eq_true,List.nodup_nil,and_self,V.within,withinL,Bool.or_false,closedB,Blk.within,kept_within,handed,Blk.ren,Blk.dim,List.idxOf_cons,dimL,V.dim,renL,V.ren,cond_true,cond_false,hd,kept_ren,effA_eq,w,effR_eq,putAll,loseM,backB_eq,Nat.reduceSub,Option.getD_some,putB_true,segO_some,lose,loseH,Lost.ids,segs_cons,exec_tidy,tidyS_a,tidyA_eq,range2,reachC_true,tidyB_eq,List.filterMap_cons,List.filterMap_nil,List.filter_cons,List.filter_nil,exec_ret,thn_ret,endF_ret,oneOr,finish,finV,finA,finC,finB_eq,fbA_mix,fbA_map]
 | some l=>
  simp only [oV,pD] at w ⊢
  simp (disch:=first | decide | omega | (simp only [LN];omega) | (simp only [LN];done) | fail) only [runFun_eq,List.length_cons,List.length_nil,Nat.zero_add,Nat.reduceAdd,startS,List.zipIdx_cons,List.zipIdx_nil,List.map_cons,List.map_nil,indexed,exec_seq,exec_reg,evSegs_cons,evSeg_eq,evMks_cons,evMk_box,e_sl,look_cons,beq_self_eq_true,lookB_true,o1_some,mkBox,V.laid,V.cells,if_true,mksA_eq,put_cons,Nat.reduceBEq,putB_false,put_nil,lookB_false,V.cell,evMks_nil,mksB_eq,List.append_nil,List.cons_append,List.nil_append,segL_eq,wonB_nil,evChk_cons,e_nilp,Option.isSome_some,evChk_nil,Bool.and_self,evLets_nil,segW_none,restrict_cons,resC_some,restrict_nil,addBlks,segs_nil,nrm_some,thn_nrm,exec_block,evLets_cons,e_and,e_bin,e_ld,e_fa,evFa,Nat.add_zero,evLd_ptr,ldB_eq,row_mix,List.getElem?_cons_zero,ldR_eq,List.drop_zero,part_one,e_int,o2_some,evBin,intBin,eq_f,List.drop_succ_cons,e_str,strBin,andV_some,Bool.false_and,letC_eq,exec_cond,brn_false,bne_self_eq_false,exec_skip,blk_nrm,e_ext,e_call,e_cons,part_true,Nat.le_refl,take_all,e_nil,consV_tup,callV_tup,evCall_eq,List.any_cons,V.own,V.own1,List.any_nil,Bool.or_self,passes_eq,List.all_cons,V.new,V.new1,D.flat,Bool.or_true,List.all_nil,Bool.and_true,Bool.and_false,V.flatV,V.flat1,Bool.not_false,mapO_cons,view,viewDepth,viewD,mapO_nil,mapC_eq,Option.map_some,callA_eq,wp,callR_some,Bool.not_true,Bool.false_eq_true,if_false,evExt,List.getElem?_cons_succ,decide_true,brn_true,segW_some,evWr_calle,wrEff_tup,refsL,V.refs,reachB_cons,List.contains_nil,reachC_false,refsO_some,Blk.refs,List.flatMap_cons,List.flatMap_nil,List.contains_cons,kept_refs,reachB_nil,evEff_eq,List.nodup_cons,List.mem_cons,reduceCtorEq,List.not_mem_nil,or_self,not_false_eq_true,List.nodup_nil,and_self,V.within,withinL,Bool.or_false,closedB,Blk.within,kept_within,handed,Blk.ren,Blk.dim,List.idxOf_cons,dimL,V.dim,renL,V.ren,cond_true,cond_false,hd,kept_ren,effA_eq,w,effR_eq,putAll,loseM,backB_eq,Nat.reduceSub,Option.getD_some,putB_true,segO_some,lose,loseH,Lost.ids,segs_cons,exec_tidy,tidyS_a,tidyA_eq,range2,reachC_true,tidyB_eq,List.filterMap_cons,List.filterMap_nil,List.filter_cons,List.filter_nil,exec_ret,thn_ret,endF_ret,oneOr,finish,finV,finA,finC,finB_eq,fbA_mix,fbA_map]
end Go.Vm
end

section
namespace Go.Vm
set_option maxRecDepth 20000
def wordB (c:UInt8):Bool:=signB c || c == 46
theorem word_not {c:UInt8} (h:wordB c=true):c≠40∧c≠41∧c≠32:=by
 refine ⟨?_,?_,?_⟩ <;> rintro rfl <;> exact absurd h (by decide)
theorem signs_all {s:BY} (h:signsB s=true):∀ c∈s,signB c=true:=by
 unfold signsB at h
 exact List.all_eq_true.1 h
theorem piece_facts {s:BY} (h:pieceB s=true):s≠[]∧∀ c∈s,signB c=true:=by
 cases s with
 | nil=>cases h
 | cons c r=>
  simp only [pieceB,Bool.and_eq_true] at h
  exact ⟨by simp,signs_all h.2⟩
theorem split_words:∀ (k:Nat) (s:BY),(Go.Lib.splitK [46] 0 k s).all pieceB=true→s≠[]∧∀ c∈s,wordB c=true
 | 0,s,h=>by
  simp only [Go.Lib.splitK,List.all_cons,List.all_nil,Bool.and_true] at h
  obtain ⟨h1,h2⟩:=piece_facts h
  exact ⟨h1,fun c hc=>by simp [wordB,h2 c hc]⟩
 | k+1,s,h=>by
  rw [Go.Lib.splitK] at h
  split at h
  ·simp only [List.all_cons,List.all_nil,Bool.and_true] at h
   obtain ⟨h1,h2⟩:=piece_facts h
   exact ⟨h1,fun c hc=>by simp [wordB,h2 c hc]⟩
  ·rename_i hi
   simp only [List.all_cons,Bool.and_eq_true,Nat.add_zero,List.length_singleton] at h
   rw [Go.Lib.index_one] at h hi
   have hge:=Go.Lib.indexByte_ge s 46
   have hne:Go.Lib.indexByte s 46≠-1:=by simpa using hi
   obtain ⟨i,hi'⟩:∃ i:Nat,Go.Lib.indexByte s 46=i:=⟨(Go.Lib.indexByte s 46).toNat,by omega⟩
   obtain ⟨hs,_⟩:=Go.Lib.indexByte_some hi'
   rw [hi',Int.toNat_natCast] at h
   obtain ⟨p1,p2⟩:=piece_facts h.1
   obtain ⟨_,q2⟩:=split_words k (s.drop (i+1)) h.2
   have hlt:=(List.getElem?_eq_some_iff.1 hs).1
   refine ⟨by rintro rfl;simp at hlt,fun c hc=>?_⟩
   have e:s=s.take i++(46 :: s.drop (i+1)):=by
    have h1:=List.take_append_drop i s
    rw [List.drop_eq_getElem_cons hlt] at h1
    rw [(List.getElem?_eq_some_iff.1 hs).2] at h1
    exact h1.symm
   rw [e] at hc
   simp only [List.mem_append,List.mem_cons] at hc
   rcases hc with hc | rfl | hc
   ·simp [wordB,p2 c hc]
   ·rfl
   ·exact q2 c hc
theorem data_words {n:BY} (h:isDataB n=true):n≠[]∧(∀ c∈n,wordB c=true)∧n≠[73,110,116]:=by
 simp only [isDataB,Bool.and_eq_true,Bool.not_eq_true',decide_eq_false_iff_not,decide_eq_true_eq] at h
 obtain ⟨⟨⟨_,h2⟩,h3⟩,_⟩:=h
 obtain ⟨q1,q2⟩:=split_words _ n h3
 exact ⟨q1,q2,h2⟩
def Stop (r:BY):Prop:=∀ c r',r=c :: r'→c=32∨c=41
theorem stop_cons {c:UInt8} {r:BY} (h:c=32∨c=41):Stop (c :: r):=by
 intro c' r' e
 cases e
 exact h
theorem word_same:∀ (n n' r r':BY),(∀ c∈n,wordB c=true)→(∀ c∈n',wordB c=true)→Stop r→Stop r'→n++r=n'++r'→n=n'∧r=r'
 | [],[],r,r',_,_,_,_,h=>⟨rfl,h⟩
 | [],c :: n',r,r',_,h2,h3,_,h=>by
  have:=word_not (h2 c (by simp))
  rcases h3 c (n'++r') (by simpa using h) with e | e
  ·exact absurd e this.2.2
  ·exact absurd e this.2.1
 | c :: n,[],r,r',h1,_,_,h4,h=>by
  have:=word_not (h1 c (by simp))
  rcases h4 c (n++r) (by simpa using h.symm) with e | e
  ·exact absurd e this.2.2
  ·exact absurd e this.2.1
 | c :: n,c' :: n',r,r',h1,h2,h3,h4,h=>by
  simp only [List.cons_append,List.cons.injEq] at h
  obtain ⟨rfl,h⟩:=h
  obtain ⟨e1,e2⟩:=word_same n n' r r' (fun c hc=>h1 c (by simp [hc])) (fun c hc=>h2 c (by simp [hc])) h3 h4 h
  exact ⟨by rw [e1],e2⟩
def Clear (t:Ty):Prop:=t.mayB=true∧t.varB=false
inductive Form:Ty→Prop
 | atom (k:Int) (n w:BY):w≠[]→(∀ c∈w,wordB c=true)→(Ty.mk k n []).txt=w→(k=1∧n=[]∧w=[73,110,116]∨k=4∧n=w∧w≠[73,110,116])→Form (.mk k n [])
 | fn (a b:Ty):Clear a→Clear b→Form (.mk 3 [] [a,b])
 | data (n:BY) (l:List Ty):l≠[]→n≠[]→(∀ c∈n,wordB c=true)→(∀ t∈l,Clear t)→Form (.mk 4 n l)
theorem varL_mem:∀ (l:List Ty) (t:Ty),varL l=false→t∈l→t.varB=false
 | [],t,_,h=>by simp at h
 | u :: r,t,hm,h=>by
  rw [varL,Bool.or_eq_false_iff] at hm
  rcases List.mem_cons.1 h with rfl | h
  ·exact hm.1
  ·exact varL_mem r t hm.2 h
theorem clear_form {t:Ty} (h:Clear t):Form t:=by
 obtain ⟨k,n,l⟩:=t
 obtain ⟨h1,h2⟩:=h
 obtain ⟨m1,_,hc⟩:=may_cases h1
 rw [Ty.varB,Bool.or_eq_false_iff] at h2
 obtain ⟨v1,v2⟩:=h2
 rcases hc with ⟨rfl,rfl,rfl⟩ | ⟨rfl,_,rfl⟩ | ⟨rfl,rfl,a,b,rfl⟩ | ⟨rfl,hd,_⟩
 ·exact .atom 1 [] [73,110,116] (by simp) (by decide) (by simp [Ty.txt]) (.inl ⟨rfl,rfl,rfl⟩)
 ·cases v1
 ·exact .fn a b ⟨mayL_mem _ a m1 (by simp),varL_mem _ a v2 (by simp)⟩ ⟨mayL_mem _ b m1 (by simp),varL_mem _ b v2 (by simp)⟩
 ·obtain ⟨d1,d2,d3⟩:=data_words hd
  by_cases hl:l=[]
  ·subst hl
   exact .atom 4 n n d1 d2 (by simp [Ty.txt]) (.inr ⟨rfl,rfl,d3⟩)
  ·exact .data n l hl d1 d2 fun t ht=>⟨mayL_mem _ t m1 ht,varL_mem _ t v2 ht⟩
theorem txt_fn (a b:Ty) (r:BY):(Ty.mk 3 [] [a,b]).txt++r=40 :: (a.txt++32 :: 45 :: 62 :: 32 :: (b.txt++41 :: r)):=by
 simp [Ty.txt,txtF,txtG]
theorem txt_data (n:BY) (l:List Ty) (hl:l≠[]) (r:BY):(Ty.mk 4 n l).txt++r=40 :: (n++(txtL l++41 :: r)):=by
 simp [Ty.txt,hl]
theorem txtL_stop (l:List Ty) (r:BY):Stop (txtL l++41 :: r):=by
 cases l with
 | nil=>exact stop_cons (.inr rfl)
 | cons t l=>exact stop_cons (.inl rfl)
theorem atom_head {w:BY} (h0:w≠[]) (h:∀ c∈w,wordB c=true) {r x:BY} (e:w++r=40 :: x):False:=by
 cases w with
 | nil=>exact h0 rfl
 | cons c w=>
  simp only [List.cons_append,List.cons.injEq] at e
  exact (word_not (h c (by simp))).1 e.1
theorem txt_head {t:Ty} (h:Clear t) (r:BY):∃ c x,t.txt++r=c :: x∧c≠45:=by
 cases clear_form h with
 | atom k n w h0 hw he _=>
  rw [he]
  cases w with
  | nil=>exact absurd rfl h0
  | cons c w=>
   refine ⟨c,w++r,rfl,?_⟩
   rintro rfl
   exact absurd (hw 45 (by simp)) (by decide)
 | fn a b _ _=>exact ⟨40,_,txt_fn a b r,by decide⟩
 | data n l hl _ _ _=>exact ⟨40,_,txt_data n l hl r,by decide⟩
theorem txt_det:∀ (m:Nat) (t u:Ty) (r r':BY),SizeOf.sizeOf t < m→Clear t→Clear u→Stop r→Stop r'→t.txt++r=u.txt++r'→t=u∧r=r'
 | 0,t,u,r,r',h,_,_,_,_,_=>absurd h (Nat.not_lt_zero _)
 | m+1,t,u,r,r',hm,ht,hu,hr,hr',h=>by
  have ih:=txt_det m
  have lst:∀ (l l':List Ty) (r r':BY),(∀ t∈l,SizeOf.sizeOf t < m∧Clear t)→(∀ t∈l',Clear t)→txtL l++41 :: r=txtL l'++41 :: r'→l=l'∧r=r':=by
   intro l
   induction l with
   | nil=>
    intro l' r r' _ _ h
    cases l' with
    | nil=>simp only [txtL,List.nil_append,List.cons.injEq,true_and] at h;exact ⟨rfl,h⟩
    | cons t l'=>simp [txtL] at h
   | cons t l ihl=>
    intro l' r r' h1 h2 h
    cases l' with
    | nil=>simp [txtL] at h
    | cons t' l'=>
     simp only [txtL,List.cons_append,List.cons.injEq,true_and,List.append_assoc] at h
     obtain ⟨h1a,h1b⟩:=h1 t (by simp)
     obtain ⟨rfl,e⟩:=ih t t' _ _ h1a h1b (h2 t' (by simp)) (txtL_stop l r) (txtL_stop l' r') h
     obtain ⟨rfl,e2⟩:=ihl l' r r' (fun t ht=>h1 t (by simp [ht])) (fun t ht=>h2 t (by simp [ht])) e
     exact ⟨rfl,e2⟩
  -- a function type against a data type
  have fd:∀ (a b:Ty) (n:BY) (l:List Ty) (r r':BY),Clear a→n≠[]→(∀ c∈n,wordB c=true)→l≠[]→(∀ t∈l,Clear t)→a.txt++32 :: 45 :: 62 :: 32 :: (b.txt++41 :: r)=n++(txtL l++41 :: r')→False:=by
   intro a b n l r r' ha hn hw hl hc h
   cases clear_form ha with
   | atom k n' w h0 hw' he _=>
    rw [he] at h
    obtain ⟨_,e⟩:=word_same w n _ _ hw' hw (stop_cons (.inl rfl)) (txtL_stop l r') h
    cases l with
    | nil=>exact hl rfl
    | cons t l=>
     simp only [txtL,List.cons_append,List.cons.injEq,true_and,List.append_assoc] at e
     obtain ⟨c,x,e2,h45⟩:=txt_head (hc t (by simp)) (txtL l++41 :: r')
     rw [e2] at e
     simp only [List.cons.injEq] at e
     exact h45 e.1.symm
   | fn a' b' _ _=>rw [txt_fn] at h;exact atom_head hn hw h.symm
   | data n' l' hl' _ _ _=>rw [txt_data _ _ hl'] at h;exact atom_head hn hw h.symm
  cases clear_form ht with
  | atom k n w h0 hw he hk=>
   rw [he] at h
   cases clear_form hu with
   | atom k' n' w' h0' hw' he' hk'=>
    rw [he'] at h
    obtain ⟨rfl,e⟩:=word_same w w' r r' hw hw' hr hr' h
    refine ⟨?_,e⟩
    rcases hk with ⟨rfl,rfl,hx⟩ | ⟨rfl,rfl,hx⟩
    ·rcases hk' with ⟨rfl,rfl,_⟩ | ⟨_,_,hy⟩
     ·rfl
     ·exact absurd hx hy
    ·rcases hk' with ⟨_,_,hy⟩ | ⟨rfl,rfl,_⟩
     ·exact absurd hy hx
     ·rfl
   | fn a b _ _=>rw [txt_fn] at h;exact (atom_head h0 hw h).elim
   | data n' l' hl' _ _ _=>rw [txt_data _ _ hl'] at h;exact (atom_head h0 hw h).elim
  | fn a b ca cb=>
   rw [txt_fn] at h
   cases clear_form hu with
   | atom k' n' w' h0' hw' he' hk'=>rw [he'] at h;exact (atom_head h0' hw' h.symm).elim
   | fn a' b' ca' cb'=>
    rw [txt_fn] at h
    simp only [List.cons.injEq,true_and] at h
    simp only [Ty.mk.sizeOf_spec,List.cons.sizeOf_spec,List.nil.sizeOf_spec] at hm
    obtain ⟨rfl,e⟩:=ih a a' _ _ (by omega) ca ca' (stop_cons (.inl rfl)) (stop_cons (.inl rfl)) h
    simp only [List.cons.injEq,true_and] at e
    obtain ⟨rfl,e2⟩:=ih b b' _ _ (by omega) cb cb' (stop_cons (.inr rfl)) (stop_cons (.inr rfl)) e
    simp only [List.cons.injEq,true_and] at e2
    exact ⟨rfl,e2⟩
   | data n' l' hl' hn' hw' hc'=>
    rw [txt_data _ _ hl'] at h
    simp only [List.cons.injEq,true_and] at h
    exact (fd a b n' l' r r' ca hn' hw' hl' hc' h).elim
  | data n l hl hn hw hc=>
   rw [txt_data _ _ hl] at h
   cases clear_form hu with
   | atom k' n' w' h0' hw' he' hk'=>rw [he'] at h;exact (atom_head h0' hw' h.symm).elim
   | fn a' b' ca' cb'=>
    rw [txt_fn] at h
    simp only [List.cons.injEq,true_and] at h
    exact (fd a' b' n l r' r ca' hn hw hl hc h.symm).elim
   | data n' l' hl' hn' hw' hc'=>
    rw [txt_data _ _ hl'] at h
    simp only [List.cons.injEq,true_and] at h
    obtain ⟨rfl,e⟩:=word_same n n' _ _ hw hw' (txtL_stop l r) (txtL_stop l' r') h
    obtain ⟨rfl,e2⟩:=lst l l' r r' (fun t ht=>⟨by
     have:=List.sizeOf_lt_of_mem ht
     simp only [Ty.mk.sizeOf_spec] at hm
     omega,hc t ht⟩) hc' e
    exact ⟨rfl,e2⟩
theorem txt_inj {t u:Ty} (ht:Clear t) (hu:Clear u) (h:t.txt=u.txt):t=u:=
 (txt_det _ t u [] [] (Nat.lt_succ_self _) ht hu (fun _ _ h=>by cases h) (fun _ _ h=>by cases h) (by rw [h])).1
end Go.Vm
end

section
namespace Go.Vm
def cat (P:Nat→List (List Nat)):Nat→Nat→List (List Nat)
 | 0,_=>[]
 | m+1,v=>P v++cat P m (v+1)
def enum (a b:Lat):Nat→List Nat→List (List Nat)
 | 0,row=>[row]
 | k+1,row=>cat (fun v=>if fitB a b row v then enum a b k (row++[v]) else []) b.sz 0
def Filled (found:List (List Nat)) (L:List (List Nat)) (r:Bool×List (List Nat)):Prop:=
 (found.length+L.length≤40→r=(true,found++L))∧(¬ found.length+L.length≤40→r.1=false)
theorem fillV_cat {F:List Nat→List (List Nat)→Bool×List (List Nat)} {P:Nat→List (List Nat)} (fit:Nat→Bool) (row:List Nat)
  (hF:∀ v found,fit v=true→found.length≤40→Filled found (P v) (F (row++[v]) found)) (hP:∀ v,fit v=false→P v=[]):∀ m v found,found.length≤40→Filled found (cat P m v) (fillV F fit row m v found)
 | 0,v,found,h=>by simp [fillV,cat,Filled,h]
 | m+1,v,found,h=>by
  simp only [fillV,cat]
  cases hf:fit v with
  | false=>
   simp only [Bool.false_eq_true,if_false,hP v hf,List.nil_append]
   exact fillV_cat fit row hF hP m (v+1) found h
  | true=>
   simp only [if_true]
   obtain ⟨h1,h2⟩:=hF v found hf h
   by_cases hl:found.length+(P v).length≤40
   ·rw [h1 hl]
    simp only
    obtain ⟨g1,g2⟩:=fillV_cat fit row hF hP m (v+1) (found++P v) (by rw [List.length_append];exact hl)
    simp only [List.length_append,List.append_assoc] at g1 g2
    refine ⟨fun hh=>?_,fun hh=>?_⟩
    ·rw [List.length_append] at hh
     rw [g1 (by omega)]
    ·rw [List.length_append] at hh
     exact g2 (by omega)
   ·have e:=h2 hl
    generalize F (row++[v]) found=q at e ⊢
    obtain ⟨ok,f⟩:=q
    simp only at e
    subst e
    simp only
    refine ⟨fun hh=>?_,fun _=>rfl⟩
    rw [List.length_append] at hh
    omega
theorem fillM_enum (a b:Lat):∀ k row found,found.length≤40→Filled found (enum a b k row) (fillM a b k row found)
 | 0,row,found,h=>by
  simp only [fillM,enum,Filled,List.length_singleton]
  refine ⟨fun hh=>by simp [hh],fun hh=>by simpa using hh⟩
 | k+1,row,found,h=>by
  simp only [fillM,enum]
  refine fillV_cat _ row (fun v found hv hf=>?_) (fun v hv=>by simp [hv]) b.sz 0 found h
  simp only [hv,if_true]
  exact fillM_enum a b k (row++[v]) found hf
theorem mem_cat (P:Nat→List (List Nat)) (r:List Nat):∀ m v,r∈cat P m v↔∃ u,v≤u∧u < v+m∧r∈P u
 | 0,v=>by simp [cat];intro u h1 h2;omega
 | m+1,v=>by
  simp only [cat,List.mem_append,mem_cat P r m (v+1)]
  constructor
  ·rintro (h | ⟨u,h1,h2,h3⟩)
   ·exact ⟨v,Nat.le_refl _,by omega,h⟩
   ·exact ⟨u,by omega,by omega,h3⟩
  ·rintro ⟨u,h1,h2,h3⟩
   by_cases hu:u=v
   ·subst hu;exact .inl h3
   ·exact .inr ⟨u,by omega,by omega,h3⟩
def Fits (a b:Lat) (n:Nat) (r:List Nat):Prop:=∀ j,n≤j→(h:j < r.length)→r[j] < b.sz∧fitB a b (r.take j) r[j]=true
theorem mem_enum (a b:Lat):∀ k row r,r∈enum a b k row↔r.length=row.length+k∧r.take row.length=row∧Fits a b row.length r
 | 0,row,r=>by
  simp only [enum,List.mem_singleton,Nat.add_zero]
  constructor
  ·rintro rfl
   exact ⟨rfl,List.take_length,fun j h1 h2=>by omega⟩
  ·rintro ⟨h1,h2,_⟩
   rw [← h1,List.take_length] at h2
   exact h2
 | k+1,row,r=>by
  simp only [enum,mem_cat]
  constructor
  ·rintro ⟨u,_,h2,h3⟩
   rw [Nat.zero_add] at h2
   split at h3
   ·rename_i hf
    obtain ⟨g1,g2,g3⟩:=(mem_enum a b k (row++[u]) r).1 h3
    simp only [List.length_append,List.length_singleton] at g1 g2 g3
    have hlt:row.length < r.length:=by omega
    have t1:r.take row.length=row:=by
     have:=congrArg (List.take row.length) g2
     rw [List.take_take,Nat.min_eq_left (by omega)] at this
     simpa using this
    have t2:r[row.length]=u:=by
     have h:=List.getElem?_take_of_lt (l:=r) (i:=row.length) (j:=row.length+1) (by omega)
     rw [g2] at h
     simp only [List.getElem?_append_right (Nat.le_refl _),Nat.sub_self,List.getElem?_cons_zero] at h
     rw [List.getElem?_eq_getElem hlt] at h
     exact (Option.some.inj h).symm
    refine ⟨by omega,t1,fun j h1 hj=>?_⟩
    by_cases hj2:j=row.length
    ·subst hj2
     rw [t2,t1]
     exact ⟨h2,hf⟩
    ·exact g3 j (by omega) hj
   ·simp at h3
  ·rintro ⟨h1,h2,h3⟩
   have hlt:row.length < r.length:=by omega
   obtain ⟨g1,g2⟩:=h3 row.length (Nat.le_refl _) hlt
   rw [h2] at g2
   refine ⟨r[row.length],Nat.zero_le _,by omega,?_⟩
   rw [if_pos g2]
   refine (mem_enum a b k _ r).2 ⟨by simp;omega,?_,fun j hj1 hj2=>h3 j (by simp at hj1;omega) hj2⟩
   simp only [List.length_append,List.length_singleton]
   rw [List.take_succ_eq_append_getElem hlt,h2]
theorem fitR_iff (a b:Lat) (row:List Nat) (v:Nat):∀ m y q,fitR a b row v m y q=true↔q=true∧∀ j,y≤j→j < y+m→a.le j row.length=true→b.le (nth row (j:Int)) v=true
 | 0,y,q=>by simp [fitR];intro _ j h1 h2;omega
 | m+1,y,q=>by
  rw [fitR,fitR_iff a b row v m]
  simp only [Bool.and_eq_true,Bool.or_eq_true,Bool.not_eq_true']
  constructor
  ·rintro ⟨⟨h1,h2⟩,h3⟩
   refine ⟨h1,fun j hj1 hj2 hle=>?_⟩
   by_cases hj:j=y
   ·subst hj
    rcases h2 with h2 | h2
    ·rw [hle] at h2;cases h2
    ·exact h2
   ·exact h3 j (by omega) (by omega) hle
  ·rintro ⟨h1,h2⟩
   refine ⟨⟨h1,?_⟩,fun j hj1 hj2 hle=>h2 j (by omega) (by omega) hle⟩
   cases hle:a.le y row.length with
   | false=>exact .inl rfl
   | true=>exact .inr (h2 y (Nat.le_refl _) (by omega) hle)
theorem fitB_iff (a b:Lat) (row:List Nat) (v:Nat):fitB a b row v=true↔∀ j,j < row.length→a.le j row.length=true→b.le (nth row (j:Int)) v=true:=by
 rw [fitB,fitR_iff]
 constructor
 ·rintro ⟨_,h⟩ j hj
  exact h j (Nat.zero_le _) (by omega)
 ·intro h
  exact ⟨rfl,fun j _ hj=>h j (by omega)⟩
def Mono (a b:Lat) (r:List Nat):Prop:=r.length=a.sz∧(∀ j,(h:j < r.length)→r[j] < b.sz)∧∀ i j,(h:i < j)→(hj:j < r.length)→a.le i j=true→b.le (r[i]'(by omega)) r[j]=true
theorem mem_all (a b:Lat) (r:List Nat):r∈enum a b a.sz []↔Mono a b r:=by
 rw [mem_enum]
 simp only [List.length_nil,Nat.zero_add,List.take_zero,true_and,Fits,Mono]
 constructor
 ·rintro ⟨h1,h2⟩
  refine ⟨h1,fun j h=>(h2 j (Nat.zero_le _) h).1,fun i j h hj hle=>?_⟩
  have hf:=(fitB_iff a b _ _).1 (h2 j (Nat.zero_le _) hj).2 i (by simp;omega)
  rw [List.length_take,Nat.min_eq_left (by omega)] at hf
  have:=hf hle
  have e:nth (r.take j) (i:Int)=r[i]:=nth_of (by rw [List.getElem?_take_of_lt h,List.getElem?_eq_getElem])
  rwa [e] at this
 ·rintro ⟨h1,h2,h3⟩
  refine ⟨h1,fun j _ hj=>⟨h2 j hj,(fitB_iff a b _ _).2 fun i hi hle=>?_⟩⟩
  rw [List.length_take,Nat.min_eq_left (by omega)] at hi hle
  have e:nth (r.take j) (i:Int)=r[i]:=nth_of (by rw [List.getElem?_take_of_lt hi,List.getElem?_eq_getElem])
  rw [e]
  exact h3 i j hi hj hle
def Ahead (f g:List Nat):Prop:=∃ i,∃ (h:i < f.length) (h':i < g.length),f.take i=g.take i∧f[i] < g[i]
theorem cat_sorted {R:List Nat→List Nat→Prop} (P:Nat→List (List Nat)) (h1:∀ v,(P v).Pairwise R) (h2:∀ u v,u < v→∀ x∈P u,∀ y∈P v,R x y):∀ m v,(cat P m v).Pairwise R
 | 0,v=>.nil
 | m+1,v=>by
  rw [cat,List.pairwise_append]
  refine ⟨h1 v,cat_sorted P h1 h2 m (v+1),fun x hx y hy=>?_⟩
  obtain ⟨u,hu1,_,hu3⟩:=(mem_cat P y m (v+1)).1 hy
  exact h2 v u (by omega) x hx y hu3
theorem enum_sorted (a b:Lat):∀ k row,(enum a b k row).Pairwise Ahead
 | 0,row=>by simp [enum]
 | k+1,row=>by
  rw [enum]
  refine cat_sorted _ (fun v=>?_) (fun u v huv x hx y hy=>?_) _ _
  ·show List.Pairwise Ahead (if fitB a b row v then enum a b k (row++[v]) else [])
   split
   ·exact enum_sorted a b k _
   ·exact .nil
  ·replace hx:x∈(if fitB a b row u then enum a b k (row++[u]) else []):=hx
   replace hy:y∈(if fitB a b row v then enum a b k (row++[v]) else []):=hy
   split at hx
   ·split at hy
    ·obtain ⟨x1,x2,_⟩:=(mem_enum a b k _ x).1 hx
     obtain ⟨y1,y2,_⟩:=(mem_enum a b k _ y).1 hy
     simp only [List.length_append,List.length_singleton] at x1 x2 y1 y2
     have key:∀ (r:List Nat) (u:Nat) (hl:row.length < r.length),r.take (row.length+1)=row++[u]→r.take row.length=row∧r[row.length]=u:=by
      intro r u hl h
      constructor
      ·have:=congrArg (List.take row.length) h
       rw [List.take_take,Nat.min_eq_left (by omega)] at this
       simpa using this
      ·have h':=List.getElem?_take_of_lt (l:=r) (i:=row.length) (j:=row.length+1) (by omega)
       rw [h] at h'
       simp only [List.getElem?_append_right (Nat.le_refl _),Nat.sub_self,List.getElem?_cons_zero] at h'
       rw [List.getElem?_eq_getElem hl] at h'
       exact (Option.some.inj h').symm
     obtain ⟨a1,a2⟩:=key x u (by omega) x2
     obtain ⟨b1,b2⟩:=key y v (by omega) y2
     exact ⟨row.length,by omega,by omega,by rw [a1,b1],by rw [a2,b2];exact huv⟩
    ·simp at hy
   ·simp at hx
end Go.Vm
end

section
namespace Go.Vm
theorem nth_lt {α:Type} [Inhabited α] {l:List α} {i:Nat} (h:i < l.length):nth l (i:Int)=l[i]:=nth_of (List.getElem?_eq_getElem h)
theorem rowR_get (p:Nat→Bool) (i:Nat):∀ (m k:Nat) (l:List Bool),k+m≤l.length→i < l.length→(rowR p m k l)[i]? = if k≤i∧i < k+m then some (p i) else l[i]?
 | 0,k,l,_,_=>by rw [rowR,if_neg (by omega)]
 | m+1,k,l,h,hi=>by
  rw [rowR,rowR_get p i m (k+1) _ (by simp;omega) (by simpa using hi)]
  by_cases h1:k+1≤i∧i < k+1+m
  ·rw [if_pos h1,if_pos (by omega)]
  ·rw [if_neg h1]
   by_cases h2:i=k
   ·subst h2
    rw [if_pos (by omega),List.getElem?_set_self hi]
   ·rw [if_neg (by omega),List.getElem?_set_ne (by omega)]
theorem rowOf_get (a b:Lat) (f:List (List Nat)) (x i:Nat) (hi:i < f.length):nth (rowOf a b f x) (i:Int)=ptw a b (nth f (x:Int)) (nth f (i:Int)):=by
 refine nth_of ?_
 rw [rowOf,rowR_get _ i _ _ _ (by simp) (by simpa using hi),if_pos (by omega)]
theorem lowR_eq (a b:Lat) (f:List (List Nat)):∀ m k low,lowR a b f m k low=low++(List.range' k m).map (rowOf a b f)
 | 0,k,low=>by simp [lowR]
 | m+1,k,low=>by rw [lowR,lowR_eq a b f m];simp [List.range'_succ]
theorem lowM_eq (a b:Lat) (f:List (List Nat)):lowM a b f=(List.range f.length).map (rowOf a b f):=by
 rw [lowM,lowR_eq,List.nil_append,List.range_eq_range']
theorem lowM_get (a b:Lat) (f:List (List Nat)) (x y:Nat) (hx:x < f.length) (hy:y < f.length):nth (nth (lowM a b f) (x:Int)) (y:Int)=ptw a b (nth f (x:Int)) (nth f (y:Int)):=by
 have e:nth (lowM a b f) (x:Int)=rowOf a b f x:=nth_of (by rw [lowM_eq,List.getElem?_map,List.getElem?_range hx,Option.map_some])
 rw [e,rowOf_get a b f x y hy]
theorem ptwR_iff (b:Lat) (f g:List Nat):∀ m k,ptwR b f g m k=true↔∀ x,k≤x→x < k+m→b.le (nth f (x:Int)) (nth g (x:Int))=true
 | 0,k=>by simp [ptwR];intro x h1 h2;omega
 | m+1,k=>by
  rw [ptwR,Bool.and_eq_true,ptwR_iff b f g m]
  constructor
  ·rintro ⟨h1,h2⟩ x hx1 hx2
   by_cases h:x=k
   ·subst h;exact h1
   ·exact h2 x (by omega) (by omega)
  ·intro h
   exact ⟨h k (Nat.le_refl _) (by omega),fun x hx1 hx2=>h x (by omega) (by omega)⟩
theorem ptw_iff (a b:Lat) (f g:List Nat):ptw a b f g=true↔∀ x,x < a.sz→b.le (nth f (x:Int)) (nth g (x:Int))=true:=by
 rw [ptw,ptwR_iff]
 constructor
 ·intro h x hx;exact h x (Nat.zero_le _) (by omega)
 ·intro h x _ hx;exact h x (by omega)
def Lat.jn:Lat→Nat→Nat→Nat
 | .ch _,x,y=>max x y
 | .fn a b rows _,x,y=>rows.findIdx fun r=>decide (r=(List.range a.sz).map fun (i:Nat)=>b.jn (nth (nth rows (x:Int)) (i:Int)) (nth (nth rows (y:Int)) (i:Int)))
structure Ord (o:Lat):Prop where
 pos:0 < o.sz
 refl:∀ x,x < o.sz→o.le x x=true
 trans:∀ x y z,x < o.sz→y < o.sz→z < o.sz→o.le x y=true→o.le y z=true→o.le x z=true
 num:∀ x y,x < o.sz→y < o.sz→o.le x y=true→x≤y
 bot:∀ x,x < o.sz→o.le 0 x=true
 top:∀ x,x < o.sz→o.le x (o.sz - 1)=true
 jlt:∀ x y,x < o.sz→y < o.sz→o.jn x y < o.sz
 jl:∀ x y,x < o.sz→y < o.sz→o.le x (o.jn x y)=true
 jr:∀ x y,x < o.sz→y < o.sz→o.le y (o.jn x y)=true
 jlub:∀ x y z,x < o.sz→y < o.sz→z < o.sz→o.le x z=true→o.le y z=true→o.le (o.jn x y) z=true
theorem ord_ch (n:Nat) (h:0 < n):Ord (.ch n):=by
 have e:∀ x y,(Lat.ch n).le x y=true↔x≤y:=fun x y=>decide_eq_true_iff
 have j:∀ x y,(Lat.ch n).jn x y=max x y:=fun x y=>rfl
 have z:(Lat.ch n).sz=n:=rfl
 refine ⟨h,fun x hx=>(e _ _).2 (Nat.le_refl _),fun x y z _ _ _ h1 h2=>(e _ _).2 (Nat.le_trans ((e _ _).1 h1) ((e _ _).1 h2)),fun x y _ _ h=>(e _ _).1 h,fun x _=>(e _ _).2 (Nat.zero_le _),fun x hx=>(e _ _).2 ?_,fun x y hx hy=>?_,fun x y _ _=>(e _ _).2 ?_,fun x y _ _=>(e _ _).2 ?_,fun x y z _ _ _ h1 h2=>(e _ _).2 ?_⟩
 ·rw [z] at hx⊢;omega
 ·rw [z] at hx hy⊢;rw [j];omega
 ·rw [j];omega
 ·rw [j];omega
 ·have:=(e _ _).1 h1
  have:=(e _ _).1 h2
  rw [j];omega
def Lat.fns (a b:Lat):Lat:=.fn a b (enum a b a.sz []) (lowM a b (enum a b a.sz []))
theorem fnsM_eq (a b:Lat):fnsM a b=if (enum a b a.sz []).length≤40 then some (Lat.fns a b) else none:=by
 obtain ⟨h1,h2⟩:=fillM_enum a b a.sz [] [] (by simp)
 simp only [List.length_nil,Nat.zero_add,List.nil_append] at h1 h2
 unfold fnsM Lat.fns
 by_cases h:(enum a b a.sz []).length≤40
 ·rw [h1 h]
  simp only [if_true,if_pos h]
 ·rw [if_neg h,h2 h]
  simp
section
variable {a b:Lat} (ha:Ord a) (hb:Ord b)
abbrev Rw (a b:Lat):List (List Nat):=enum a b a.sz []
theorem row_mono {i:Nat} (h:i < (Rw a b).length):Mono a b (nth (Rw a b) (i:Int)):=by
 rw [nth_lt h]
 exact (mem_all a b _).1 (List.getElem_mem h)
theorem row_ahead {i j:Nat} (h:i < j) (hj:j < (Rw a b).length):Ahead (nth (Rw a b) (i:Int)) (nth (Rw a b) (j:Int)):=by
 rw [nth_lt hj,nth_lt (Nat.lt_trans h hj)]
 exact List.pairwise_iff_getElem.1 (enum_sorted a b a.sz []) i j (Nat.lt_trans h hj) hj h
theorem row_of {r:List Nat} (h:Mono a b r):∃ i,i < (Rw a b).length∧nth (Rw a b) (i:Int)=r:=by
 obtain ⟨i,hi,e⟩:=List.getElem_of_mem ((mem_all a b r).2 h)
 exact ⟨i,hi,by rw [nth_lt hi,e]⟩
theorem fns_le (x y:Nat) (hx:x < (Lat.fns a b).sz) (hy:y < (Lat.fns a b).sz):(Lat.fns a b).le x y=true↔∀ i,i < a.sz→b.le (nth (nth (Rw a b) (x:Int)) (i:Int)) (nth (nth (Rw a b) (y:Int)) (i:Int))=true:=by
 rw [← ptw_iff]
 simp only [Lat.fns,Lat.le]
 rw [lowM_get a b _ x y hx hy]
theorem row_lt {i x:Nat} (h:i < (Rw a b).length) (hx:x < a.sz):nth (nth (Rw a b) (i:Int)) (x:Int) < b.sz:=by
 obtain ⟨h1,h2,_⟩:=row_mono h
 rw [nth_lt (by omega)]
 exact h2 _ _
theorem mono_nth {r:List Nat} (h:Mono a b r) {i j:Nat} (hij:i < j) (hj:j < a.sz) (hle:a.le i j=true):b.le (nth r (i:Int)) (nth r (j:Int))=true:=by
 obtain ⟨h1,_,h3⟩:=h
 rw [nth_lt (by omega:i < r.length),nth_lt (by omega:j < r.length)]
 exact h3 i j hij (by omega) hle
include hb in
theorem mono_const (v:Nat) (hv:v < b.sz):Mono a b (List.replicate a.sz v):=by
 refine ⟨by simp,fun j h=>by simpa using hv,fun i j h hj _=>?_⟩
 rw [List.getElem_replicate,List.getElem_replicate]
 exact hb.refl v hv
include hb in
theorem fns_num (x y:Nat) (hx:x < (Lat.fns a b).sz) (hy:y < (Lat.fns a b).sz) (h:(Lat.fns a b).le x y=true):x≤y:=by
 rcases Nat.lt_or_ge y x with hlt | hge
 ·obtain ⟨p,h1,h2,_,h4⟩:=row_ahead (a:=a) (b:=b) hlt hx
  have m1:=row_mono (a:=a) (b:=b) hx
  have m2:=row_mono (a:=a) (b:=b) hy
  have hp:p < a.sz:=by have:=m1.1;omega
  have hl:=(fns_le x y hx hy).1 h p hp
  have:=hb.num _ _ (row_lt hx hp) (row_lt hy hp) hl
  rw [nth_lt (by omega:p < (nth (Rw a b) (x:Int)).length),nth_lt (by omega:p < (nth (Rw a b) (y:Int)).length)] at this
  omega
 ·exact hge
def jrow (a b:Lat) (x y:Nat):List Nat:=(List.range a.sz).map fun (i:Nat)=>b.jn (nth (nth (Rw a b) (x:Int)) (i:Int)) (nth (nth (Rw a b) (y:Int)) (i:Int))
theorem jrow_nth (x y i:Nat) (hi:i < a.sz):nth (jrow a b x y) (i:Int)=b.jn (nth (nth (Rw a b) (x:Int)) (i:Int)) (nth (nth (Rw a b) (y:Int)) (i:Int)):=by
 refine nth_of ?_
 rw [jrow,List.getElem?_map,List.getElem?_range hi,Option.map_some]
include hb in
theorem jrow_mono (x y:Nat) (hx:x < (Rw a b).length) (hy:y < (Rw a b).length):Mono a b (jrow a b x y):=by
 have hl:(jrow a b x y).length=a.sz:=by simp [jrow]
 refine ⟨hl,fun j h=>?_,fun i j h hj hle=>?_⟩
 ·rw [← nth_lt h,jrow_nth x y j (by omega)]
  exact hb.jlt _ _ (row_lt hx (by omega)) (row_lt hy (by omega))
 ·have hja:j < a.sz:=by omega
  have hia:i < a.sz:=by omega
  rw [← nth_lt hj,← nth_lt (show i < (jrow a b x y).length by omega),jrow_nth x y j hja,jrow_nth x y i hia]
  have q1:=row_lt hx hia
  have q2:=row_lt hy hia
  have q3:=row_lt hx hja
  have q4:=row_lt hy hja
  have q5:=hb.jlt _ _ q3 q4
  refine hb.jlub _ _ _ q1 q2 q5 (hb.trans _ _ _ q1 q3 q5 ?_ (hb.jl _ _ q3 q4)) (hb.trans _ _ _ q2 q4 q5 ?_ (hb.jr _ _ q3 q4))
  ·exact mono_nth (row_mono hx) h hja hle
  ·exact mono_nth (row_mono hy) h hja hle
include hb in
theorem fns_jn (x y:Nat) (hx:x < (Rw a b).length) (hy:y < (Rw a b).length):(Lat.fns a b).jn x y < (Rw a b).length∧nth (Rw a b) (((Lat.fns a b).jn x y:Nat):Int)=jrow a b x y:=by
 obtain ⟨i,hi,e⟩:=row_of (jrow_mono hb x y hx hy)
 have hj:(Lat.fns a b).jn x y=(Rw a b).findIdx fun r=>decide (r=jrow a b x y):=rfl
 rw [hj]
 have hlt:((Rw a b).findIdx fun r=>decide (r=jrow a b x y)) < (Rw a b).length:=by
  refine List.findIdx_lt_length_of_exists ⟨jrow a b x y,?_,by simp⟩
  rw [← e,nth_lt hi]
  exact List.getElem_mem hi
 refine ⟨hlt,?_⟩
 rw [nth_lt hlt]
 have:=List.findIdx_getElem (w:=hlt)
 simpa using this
include hb in
theorem ord_fns:Ord (Lat.fns a b):=by
 have hsz:(Lat.fns a b).sz=(Rw a b).length:=rfl
 have hpos:0 < (Rw a b).length:=by
  obtain ⟨i,hi,_⟩:=row_of (mono_const (a:=a) hb 0 hb.pos)
  omega
 refine ⟨hpos,fun x hx=>?_,fun x y z hx hy hz h1 h2=>?_,fns_num hb,fun x hx=>?_,fun x hx=>?_,fun x y hx hy=>(fns_jn hb x y hx hy).1,fun x y hx hy=>?_,fun x y hx hy=>?_,fun x y z hx hy hz h1 h2=>?_⟩
 ·exact (fns_le x x hx hx).2 fun i hi=>hb.refl _ (row_lt hx hi)
 ·exact (fns_le x z hx hz).2 fun i hi=>hb.trans _ _ _ (row_lt hx hi) (row_lt hy hi) (row_lt hz hi) ((fns_le x y hx hy).1 h1 i hi) ((fns_le y z hy hz).1 h2 i hi)
 ·obtain ⟨k,hk,e⟩:=row_of (mono_const (a:=a) hb 0 hb.pos)
  have hk0:k=0:=by
   rcases Nat.eq_zero_or_pos k with h | h
   ·exact h
   ·obtain ⟨p,h1,h2,_,h4⟩:=row_ahead (a:=a) (b:=b) h hk
    have:(nth (Rw a b) (k:Int))[p]=0:=by
     simp only [e]
     exact List.getElem_replicate _
    omega
  subst hk0
  refine (fns_le 0 x hpos hx).2 fun i hi=>?_
  rw [e]
  have:nth (List.replicate a.sz 0) (i:Int)=0:=nth_of (by simp [hi])
  rw [this]
  exact hb.bot _ (row_lt hx hi)
 ·obtain ⟨k,hk,e⟩:=row_of (mono_const (a:=a) hb (b.sz - 1) (by have:=hb.pos;omega))
  have hk0:k=(Rw a b).length - 1:=by
   rcases Nat.lt_or_ge k ((Rw a b).length - 1) with h | h
   ·obtain ⟨p,h1,h2,_,h4⟩:=row_ahead (a:=a) (b:=b) h (by omega)
    have e2:(nth (Rw a b) (k:Int))[p]=b.sz - 1:=by
     simp only [e]
     exact List.getElem_replicate _
    have m:=(row_mono (a:=a) (b:=b) (show (Rw a b).length - 1 < (Rw a b).length by omega)).2.1 p h2
    omega
   ·omega
  have ht:(Lat.fns a b).sz - 1 < (Lat.fns a b).sz:=by omega
  refine (fns_le x _ hx ht).2 fun i hi=>?_
  rw [hsz,← hk0,e]
  have:nth (List.replicate a.sz (b.sz - 1)) (i:Int)=b.sz - 1:=nth_of (by simp [hi])
  rw [this]
  exact hb.top _ (row_lt hx hi)
 ·obtain ⟨j1,j2⟩:=fns_jn hb x y hx hy
  refine (fns_le x _ hx j1).2 fun i hi=>?_
  rw [j2,jrow_nth x y i hi]
  exact hb.jl _ _ (row_lt hx hi) (row_lt hy hi)
 ·obtain ⟨j1,j2⟩:=fns_jn hb x y hx hy
  refine (fns_le y _ hy j1).2 fun i hi=>?_
  rw [j2,jrow_nth x y i hi]
  exact hb.jr _ _ (row_lt hx hi) (row_lt hy hi)
 ·obtain ⟨j1,j2⟩:=fns_jn hb x y hx hy
  refine (fns_le _ z j1 hz).2 fun i hi=>?_
  rw [j2,jrow_nth x y i hi]
  exact hb.jlub _ _ _ (row_lt hx hi) (row_lt hy hi) (row_lt hz hi) ((fns_le x z hx hz).1 h1 i hi) ((fns_le y z hy hz).1 h2 i hi)
end
theorem wf_fns {a b:Lat} (ha:a.wf) (hb:b.wf) (h:(enum a b a.sz []).length≤40):(Lat.fns a b).wf:=by
 refine ⟨ha,hb,by omega,by rw [lowM_eq];simp,fun r hr=>?_,fun r hr=>?_⟩
 ·rw [lowM_eq,List.mem_map] at hr
  obtain ⟨x,_,rfl⟩:=hr
  exact rowOf_len a b _ x
 ·obtain ⟨h1,h2,_⟩:=(mem_all a b r).1 hr
  refine ⟨h1,fun v hv=>?_⟩
  obtain ⟨i,hi,rfl⟩:=List.getElem_of_mem hv
  exact h2 i hi
end Go.Vm
end

section
namespace Go.Vm
set_option maxRecDepth 100000
open Go.Proofs Go.RowKit
def listN:BY:=[76,105,115,116]
def latF:List (Option Lat)→Option Lat
 | [some a,some b]=>fnsM a b
 | _=>none
mutual
def Ty.lat:Ty→Option Lat
 | .mk k n l=>if (k == 4 && decide (n=listN))=true then (if l.length=1 then some (.ch 4) else none) else if k≠3 then some (.ch 2) else latF (latL l)
def latL:List Ty→List (Option Lat)
 | []=>[]
 | t :: r=>t.lat :: latL r
end
mutual
def Ty.kpt:Ty→Kpt→Kpt
 | .mk k n l,es=>if k=3 then (if (Ty.mk k n l).txt.length≤65536 then (if (lookK (Ty.mk k n l).txt es).isSome then es else setK (Ty.mk k n l).txt (Ty.mk k n l).lat (kptL l es)) else kptL l es) else es
def kptL:List Ty→Kpt→Kpt
 | [],es=>es
 | t :: r,es=>kptL r (t.kpt es)
end
def Fine (o:Lat):Prop:=Ord o∧o.wf∧o.sz≤40
theorem fine_ch {n:Nat} (h0:0 < n) (h:n≤40):Fine (.ch n):=⟨ord_ch n h0,by show n≤1000;omega,h⟩
theorem fine_fns {a b o:Lat} (ha:Fine a) (hb:Fine b) (h:fnsM a b=some o):Fine o:=by
 rw [fnsM_eq] at h
 split at h
 ·rename_i hl
  cases h
  exact ⟨ord_fns hb.1,wf_fns ha.2.1 hb.2.1 hl,hl⟩
 ·cases h
mutual
theorem lat_fine:∀ (t:Ty) (o:Lat),t.lat=some o→Fine o
 | .mk k n l,o,h=>by
  rw [Ty.lat] at h
  split at h
  ·split at h
   ·cases h;exact fine_ch (by decide) (by decide)
   ·cases h
  ·split at h
   ·cases h;exact fine_ch (by decide) (by decide)
   ·have hl:=latL_fine l
    generalize latL l=q at h hl
    unfold latF at h
    split at h
    ·exact fine_fns (hl _ (by simp)) (hl _ (by simp)) h
    ·cases h
theorem latL_fine:∀ (l:List Ty) (o:Lat),some o∈latL l→Fine o
 | [],o,h=>by simp [latL] at h
 | t :: r,o,h=>by
  rw [latL,List.mem_cons] at h
  rcases h with h | h
  ·exact lat_fine t o h.symm
  ·exact latL_fine r o h
end
def KG (es:Kpt):Prop:=∀ x o,lookK x es=some o→∀ t,Clear t→t.txt=x→t.lat=o
theorem kg_nil:KG []:=fun x o h=>by cases h
theorem look_set (y x:BY) (o:Option Lat):∀ es:Kpt,lookK y (setK x o es)=if y=x then some o else lookK y es
 | []=>by simp [setK,lookK]
 | (m,p) :: r=>by
  rw [setK]
  by_cases h:x=m
  ·subst h
   simp only [if_true,lookK]
   split <;> rfl
  ·rw [if_neg h,lookK,lookK,look_set y x o r]
   by_cases h2:y=m
   ·subst h2
    rw [if_pos rfl,if_pos rfl,if_neg (Ne.symm h)]
   ·rw [if_neg h2,if_neg h2]
theorem kg_set {es:Kpt} (h:KG es) {t:Ty} (ht:Clear t):KG (setK t.txt t.lat es):=by
 intro x o hl u hu hx
 rw [look_set] at hl
 split at hl
 ·rename_i e
  rw [txt_inj hu ht (hx.trans e)]
  exact Option.some.inj hl
 ·exact h x o hl u hu hx
theorem clear_args {k:Int} {n:BY} {l:List Ty} (h:Clear (.mk k n l)):∀ t∈l,Clear t:=by
 obtain ⟨m1,_,_⟩:=may_cases h.1
 have h2:=h.2
 rw [Ty.varB,Bool.or_eq_false_iff] at h2
 exact fun t ht=>⟨mayL_mem _ t m1 ht,varL_mem _ t h2.2 ht⟩
mutual
theorem kg_kpt:∀ (t:Ty) (es:Kpt),Clear t→KG es→KG (t.kpt es)
 | .mk k n l,es,ht,h=>by
  have hl:=kg_kptL l es (clear_args ht) h
  rw [Ty.kpt]
  split
  ·split
   ·split
    ·exact h
    ·exact kg_set hl ht
   ·exact hl
  ·exact h
theorem kg_kptL:∀ (l:List Ty) (es:Kpt),(∀ t∈l,Clear t)→KG es→KG (kptL l es)
 | [],es,_,h=>h
 | t :: r,es,ht,h=>kg_kptL r (t.kpt es) (fun u hu=>ht u (by simp [hu])) (kg_kpt t es (ht t (by simp)) h)
end
theorem cntL_mem:∀ (l:List Ty) (t:Ty),t∈l→t.cnt≤cntL l
 | [],t,h=>by simp at h
 | u :: r,t,h=>by
  rw [cntL]
  rcases List.mem_cons.1 h with rfl | h
  ·omega
  ·have:=cntL_mem r t h;omega
mutual
theorem nod_le_cnt:∀ t:Ty,t.nod≤t.cnt
 | .mk k n l=>by
  have:=nodL_le_cnt l 1
  rw [Ty.nod,Ty.cnt]
  omega
theorem nodL_le_cnt:∀ (l:List Ty) (n:Nat),nodL n l≤n+cntL l
 | [],n=>by simp [nodL]
 | t :: r,n=>by
  rw [nodL,cntL]
  split
  ·omega
  ·have h1:=nodL_le_cnt r (n+t.nod)
   have h2:=nod_le_cnt t
   omega
end
theorem wrong_args {k:Int} {n:BY} {l:List Ty} (h:(Ty.mk k n l).wrongI=0):∀ t∈l,t.wrongI=0:=by
 obtain ⟨h1,h2⟩:=wrong_ok h
 intro t ht
 have m1:=(may_cases h1).1
 have hc:=nod_cnt _ h2
 have hn:nodL 1 l≤500:=by
  rw [Ty.nod] at h2;omega
 have h3:t.nod≤500:=by
  have hx:=nodL_cnt l 1 hn
  have hm:=cntL_mem l t ht
  have hle:=nod_le_cnt t
  omega
 unfold Ty.wrongI
 rw [if_pos (mayL_mem l t m1 ht),if_neg (by omega)]
theorem wrong_clear {t:Ty} (h:t.wrongI=0) (hv:t.varB=false):Clear t:=⟨(wrong_ok h).1,hv⟩
theorem oV_inj {o o':Option Lat} (h:oV o=oV o'):o=o':=by
 cases o with
 | none=>cases o' with
  | none=>rfl
  | some l=>simp [oV,pD] at h
 | some l=>cases o' with
  | none=>simp [oV,pD] at h
  | some l'=>
   simp only [oV,pD,V.d.injEq,D.ptr.injEq,true_and] at h
   rw [cells_inj _ _ h]
theorem kept_inj:∀ es es':Kpt,keptE es=keptE es'→es=es'
 | [],[],_=>rfl
 | [],_ :: _,h=>by simp [keptE] at h
 | _ :: _,[],h=>by simp [keptE] at h
 | (x,o) :: es,(x',o') :: es',h=>by
  simp only [keptE,List.map_cons,List.cons.injEq,Prod.mk.injEq,D.str.injEq] at h
  obtain ⟨⟨rfl,h1⟩,h2⟩:=h
  rw [oV_inj h1,kept_inj es es' h2]
theorem fillV_mem {F:List Nat→List (List Nat)→Bool×List (List Nat)} {P:Nat→List (List Nat)} (fit:Nat→Bool) (row:List Nat)
  (hF:∀ v found,fit v=true→∀ r∈(F (row++[v]) found).2,r∈found∨r∈P v):∀ m v found,∀ r∈(fillV F fit row m v found).2,r∈found∨r∈cat P m v
 | 0,v,found,r,h=>.inl h
 | m+1,v,found,r,h=>by
  simp only [fillV] at h
  simp only [cat,List.mem_append]
  cases hf:fit v with
  | false=>
   simp only [hf,Bool.false_eq_true,if_false] at h
   exact (fillV_mem fit row hF m (v+1) found r h).imp id .inr
  | true=>
   have q:=hF v found hf
   simp only [hf,if_true] at h
   generalize F (row++[v]) found=z at q h
   obtain ⟨ok,f⟩:=z
   simp only at q
   cases ok with
   | false=>
    simp only at h
    exact (q r h).imp id .inl
   | true=>
    simp only at h
    rcases fillV_mem fit row hF m (v+1) f r h with h | h
    ·exact (q r h).imp id .inl
    ·exact .inr (.inr h)
theorem fillM_mem (a b:Lat):∀ k row found,∀ r∈(fillM a b k row found).2,r∈found∨r∈enum a b k row
 | 0,row,found,r,h=>by
  simp only [fillM,List.mem_append,enum] at h ⊢
  exact h
 | k+1,row,found,r,h=>by
  simp only [fillM,enum] at h ⊢
  refine fillV_mem _ row (fun v found hv r hr=>?_) b.sz 0 found r h
  simp only [hv,if_true]
  exact fillM_mem a b k (row++[v]) found r hr
theorem rows_fill (a b:Lat):rowsOk a b (fillM a b a.sz [] []).2:=by
 intro r hr
 rcases fillM_mem a b a.sz [] [] r hr with h | h
 ·simp at h
 ·obtain ⟨h1,h2,_⟩:=(mem_all a b r).1 h
  refine ⟨h1,fun v hv=>?_⟩
  obtain ⟨i,hi,rfl⟩:=List.getElem_of_mem hv
  exact h2 i hi
def Asked (n:Nat) (t:Ty) (es:Kpt):Prop:=t.fit∧SizeOf.sizeOf t < n∧t.wrongI=0∧t.varB=false∧KG es
noncomputable def y39 (n:Nat):Se where
 α:=Ty×Kpt
 f:=39
 ok:=fun (t,es)=>Asked n t es
 args:=fun (t,_)=>[tyW t,.ptr 0 0 0]
 blks:=fun (_,es)=>kp es
 res:=fun (t,es)=>(oV t.lat,kp (t.kpt es),[])
 inj:=by
  rintro ⟨t,es⟩ ⟨t',es'⟩ _ _ h h'
  simp only [List.cons.injEq,and_true] at h
  obtain rfl:=tyW_inj _ _ h
  simp only [kp,List.cons.injEq,Blk.map.injEq,true_and,and_true] at h'
  obtain rfl:=kept_inj _ _ h'
  rfl
def AskedF (n:Nat) (t:Ty) (es:Kpt):Prop:=Asked n t es∧∃ a b,t=.mk 3 [] [a,b]
def Ty.argsOf:Ty→List Ty
 | .mk _ _ l=>l
noncomputable def y53 (n:Nat):Se where
 α:=Ty×Kpt
 f:=53
 ok:=fun (t,es)=>AskedF n t es
 args:=fun (t,_)=>[tyW t,.ptr 0 0 0]
 blks:=fun (_,es)=>kp es
 res:=fun (t,es)=>(oV t.lat,kp (kptL t.argsOf es),[])
 inj:=by
  rintro ⟨t,es⟩ ⟨t',es'⟩ _ _ h h'
  simp only [List.cons.injEq,and_true] at h
  obtain rfl:=tyW_inj _ _ h
  simp only [kp,List.cons.injEq,Blk.map.injEq,true_and,and_true] at h'
  obtain rfl:=kept_inj _ _ h'
  rfl
@[reducible] def tyB (t:Ty):Blk:=.mix 3 [t.d.map (V.d false)]
theorem tyB_inj {t u:Ty} (h:tyB t=tyB u):t=u:=by
 obtain ⟨k,n,l⟩:=t
 obtain ⟨k',n',l'⟩:=u
 simp only [tyB,Ty.d,List.map_cons,List.map_nil,Blk.mix.injEq,List.cons.injEq,V.d.injEq,D.int.injEq,D.str.injEq,D.sl.injEq,true_and,and_true] at h
 rw [h.1,h.2.1,dl_inj l l' h.2.2]
noncomputable def y55 (n:Nat):Se where
 α:=Ty×Kpt
 f:=55
 ok:=fun (t,es)=>AskedF n t es
 args:=fun _=>[.ptr 0 0 0,.ptr 1 0 0]
 blks:=fun (t,es)=>[tyB t,.mix 1 [[.ptr 2 0 0]],.mix 1 [[.map 3]],.map (keptE es)]
 res:=fun (t,es)=>(oV t.lat,[tyB t,.mix 1 [[.ptr 2 0 0]],.mix 1 [[.map 3]],.map (keptE (kptL t.argsOf es))],[])
 inj:=by
  rintro ⟨t,es⟩ ⟨t',es'⟩ _ _ h h'
  simp only [List.cons.injEq,Blk.map.injEq,true_and,and_true] at h'
  obtain ⟨h1,h2⟩:=h'
  obtain rfl:=tyB_inj h1
  obtain rfl:=kept_inj _ _ h2
  rfl
noncomputable def y54 (n:Nat):Se where
 α:=Ty×Kpt
 f:=54
 ok:=fun (t,es)=>AskedF n t es
 args:=fun (t,_)=>[.ptr 0 0 0,.d false (.str t.txt),.fn 55 [.ptr 1 0 0,.ptr 2 0 0]]
 blks:=fun (t,es)=>[.mix 1 [[.map 3]],tyB t,.mix 1 [[.ptr 0 0 0]],.map (keptE es)]
 res:=fun (t,es)=>(oV t.lat,[.mix 1 [[.map 3]],tyB t,.mix 1 [[.ptr 0 0 0]],.map (keptE (if (lookK t.txt es).isSome then es else setK t.txt t.lat (kptL t.argsOf es)))],[])
 inj:=by
  rintro ⟨t,es⟩ ⟨t',es'⟩ _ _ h h'
  simp only [List.cons.injEq,Blk.map.injEq,true_and,and_true] at h'
  obtain ⟨h1,h2⟩:=h'
  obtain rfl:=tyB_inj h1
  obtain rfl:=kept_inj _ _ h2
  rfl
section
variable {G:Nat→Option (List D)}
theorem sz_fn {a b:Ty} {m:Nat} (h:SizeOf.sizeOf (Ty.mk 3 [] [a,b]) < m+1):SizeOf.sizeOf a < m∧SizeOf.sizeOf b < m:=by
 simp only [Ty.mk.sizeOf_spec,List.cons.sizeOf_spec,List.nil.sizeOf_spec] at h
 omega
theorem y53h (n:Nat) (hy:(y39 n).Holds Tryz.prog G):(y53 (n+1)).Holds Tryz.prog G:=by
 rintro ⟨t,es⟩ ⟨⟨hf,hs,hw,hv,hk⟩,a,b,rfl⟩
 obtain ⟨s1,s2⟩:=sz_fn hs
 obtain ⟨_,f1,f2,_⟩:=hf
 have wa:=wrong_args hw
 have hcl:=wrong_clear hw hv
 have ca:=clear_args hcl
 have qa:Asked n a es:=⟨f1,s1,wa a (by simp),(ca a (by simp)).2,hk⟩
 have qb:Asked n b (a.kpt es):=⟨f2,s2,wa b (by simp),(ca b (by simp)).2,kg_kpt a es (ca a (by simp)) hk⟩
 have hlat:(Ty.mk 3 [] [a,b]).lat=latF [a.lat,b.lat]:=by simp [Ty.lat,latL]
 have hfa:=lat_fine a
 have hfb:=lat_fine b
 by_cases hn:a.lat=none∨b.lat=none
 ·have hl:(Ty.mk 3 [] [a,b]).lat=none:=by
   rw [hlat]
   rcases hn with h | h
   ·rw [h];rfl
   ·rw [h];cases a.lat <;> rfl
  have ea:(cx G [] [y39 n]).eff 39 [tyW a,.ptr 0 0 0] (kp es)=some (oV a.lat,kp (a.kpt es),[]):=ce1 (y39 n) (a,es) qa
  have eb:(cx G [] [y39 n]).eff 39 [tyW b,.ptr 0 0 0] (kp (a.kpt es))=some (oV b.lat,kp (b.kpt (a.kpt es)),[]):=ce1 (y39 n) (b,a.kpt es) qb
  simp only [y53,hl]
  refine eff_sound (g:=f53) mixedZ ((Known.nil (G:=G)).putE hy).sound f53_ok ?_
  obtain ⟨ka,na,la⟩:=a
  obtain ⟨kb,nb,lb⟩:=b
  exact ev_functions0 _ ka kb na nb (dL la) (dL lb) [] es _ _ _ _ ea eb hn
 ·obtain ⟨x,hx⟩:∃ x,a.lat=some x:=by
   cases h:a.lat with
   | none=>exact absurd (.inl h) hn
   | some x=>exact ⟨x,rfl⟩
  obtain ⟨y,hy'⟩:∃ y,b.lat=some y:=by
   cases h:b.lat with
   | none=>exact absurd (.inr h) hn
   | some y=>exact ⟨y,rfl⟩
  obtain ⟨ox,wx,zx⟩:=hfa x hx
  obtain ⟨oy,wy,zy⟩:=hfb y hy'
  have hl:(Ty.mk 3 [] [a,b]).lat=fnsM x y:=by rw [hlat,hx,hy'];rfl
  have ea:(cx G [z72] [y71 x y x.sz,y39 n]).eff 39 [tyW a,.ptr 0 0 0] (kp es)=some (oV (some x),kp (a.kpt es),[]):=by
   rw [← hx];exact ce2 (y39 n) (show (71:Nat)≠39 by decide) (a,es) qa
  have eb:(cx G [z72] [y71 x y x.sz,y39 n]).eff 39 [tyW b,.ptr 0 0 0] (kp (a.kpt es))=some (oV (some y),kp (b.kpt (a.kpt es)),[]):=by
   rw [← hy'];exact ce2 (y39 n) (show (71:Nat)≠39 by decide) (b,a.kpt es) qb
  have ef:F71 (cx G [z72] [y71 x y x.sz,y39 n]) x y:=ce1 (y71 x y x.sz) ([],.fs false 1 [],[]) ⟨.inr ⟨rfl,rfl⟩,by simp,by simp,by simp⟩
  have hr:=rows_fill x y
  simp only [y53,hl]
  refine eff_sound (g:=f53) mixedZ ((Known.nil (G:=G)).put (z72h G) |>.putE hy |>.putE (y71h G x y wx wy (by omega) (by omega) ox.pos x.sz)).sound f53_ok ?_
  obtain ⟨ka,na,la⟩:=a
  obtain ⟨kb,nb,lb⟩:=b
  exact ev_functions _ (fun s a b rows l x y h1 h2 h3 h4 h5=>cx1 z72 (s,a,b,rows,l,x,y) ⟨h1,h2,h3,h4,h5⟩) ka kb na nb (dL la) (dL lb) [] es _ _ x y ea eb wy (by omega) ef hr
theorem y55h (n:Nat) (hy:(y53 n).Holds Tryz.prog G):(y55 n).Holds Tryz.prog G:=by
 rintro ⟨t,es⟩ hq
 have e:(cx G [] [y53 n]).eff 53 [tyW t,.ptr 0 0 0] (kp es)=some (oV t.lat,kp (kptL t.argsOf es),[]):=ce1 (y53 n) (t,es) hq
 refine eff_sound (g:=f55) mixedZ ((Known.nil (G:=G)).putE hy).sound f55_ok ?_
 obtain ⟨k,nm,l⟩:=t
 exact ev_55 _ k nm (dL l) es _ _ e
theorem y54h (n:Nat) (hy:(y55 n).Holds Tryz.prog G):(y54 n).Holds Tryz.prog G:=by
 rintro ⟨t,es⟩ hq
 have e:(cx G [] [y55 n]).eff 55 [.ptr 0 0 0,.ptr 1 0 0] [tyB t,.mix 1 [[.ptr 2 0 0]],.mix 1 [[.map 3]],.map (keptE es)]=some (oV t.lat,[tyB t,.mix 1 [[.ptr 2 0 0]],.mix 1 [[.map 3]],.map (keptE (kptL t.argsOf es))],[]):=ce1 (y55 n) (t,es) hq
 refine eff_sound (g:=f54) mixedZ ((Known.nil (G:=G)).putE hy).sound f54_ok ?_
 have hg:=hq.1.2.2.2.2
 have hc:=wrong_clear hq.1.2.2.1 hq.1.2.2.2.1
 cases hl:lookK t.txt es with
 | some o=>
  have ho:=hg _ _ hl t hc rfl
  simp only [y54,hl,Option.isSome_some,if_true,ho]
  obtain ⟨k,nm,l⟩:=t
  exact ev_54a _ _ k nm (dL l) es o hl
 | none=>
  simp only [y54,hl,Option.isSome_none,Bool.false_eq_true,if_false]
  obtain ⟨k,nm,l⟩:=t
  exact ev_54b _ _ k nm (dL l) es _ _ hl e
theorem y39h {m:Int} (hG:G 1=some [.int .i64 m]):∀ n,(y39 n).Holds Tryz.prog G
 | 0=>fun ⟨t,es⟩ ⟨_,h,_⟩=>absurd h (Nat.not_lt_zero _)
 | n+1=>by
  have h53:=y53h n (y39h hG n)
  have h54:=y54h (n+1) (y55h (n+1) h53)
  refine holdsE_of mixedZ ((Known.nil (G:=G)).put (z52h hG (n+1)) |>.putE h53 |>.putE h54).sound (g:=f39) (fun _ _=>f39_ok) ?_
  rintro ⟨⟨k,nm,l⟩,es⟩ ⟨hf,hs,hw,hv,hk⟩
  have h52:(cx G [zT 52 (n+1) fun t=>t.prtV] [y54 (n+1),y53 (n+1)]).call 52 [tyW (.mk k nm l)]=some ((Ty.mk k nm l).prtV,[]):=cx1 (zT 52 (n+1) fun t=>t.prtV) (.mk k nm l) ⟨hf,hs⟩
  simp only [y39]
  by_cases hL:(k == 4 && decide (nm=listN))=true
  ·have hk4:k=4∧nm=listN:=by simpa using hL
   obtain ⟨rfl,rfl⟩:=hk4
   have e1:(Ty.mk 4 listN l).lat=if (dL l).length=1 then some (.ch 4) else none:=by rw [Ty.lat,if_pos hL,dL_len]
   have e2:(Ty.mk 4 listN l).kpt es=es:=by rw [Ty.kpt,if_neg (by decide)]
   rw [e1,e2]
   exact ev_buildL _ (dL l) es
  ·by_cases h3:k=3
   ·subst h3
    have e2:(Ty.mk 3 nm l).kpt es=if (Ty.mk 3 nm l).txt.length≤65536 then (if (lookK (Ty.mk 3 nm l).txt es).isSome then es else setK (Ty.mk 3 nm l).txt (Ty.mk 3 nm l).lat (kptL l es)) else kptL l es:=by rw [Ty.kpt,if_pos rfl]
    obtain ⟨_,_,hc⟩:=may_cases (wrong_ok hw).1
    obtain ⟨rfl,a,b,rfl⟩:nm=[]∧∃ a b,l=[a,b]:=by
     rcases hc with ⟨h,_⟩ | ⟨h,_⟩ | ⟨_,h⟩ | ⟨h,_⟩
     ·cases h
     ·cases h
     ·exact h
     ·cases h
    have hq:AskedF (n+1) (.mk 3 [] [a,b]) es:=⟨⟨hf,hs,hw,hv,hk⟩,a,b,rfl⟩
    rw [e2]
    by_cases hb:(Ty.mk 3 [] [a,b]).txt.length≤65536
    ·rw [if_pos hb]
     have w:=ce1 (G:=G) (L:=[zT 52 (n+1) fun t=>t.prtV]) (E:=[y53 (n+1)]) (y54 (n+1)) (.mk 3 [] [a,b],es) hq
     simp only [Ty.prtV,if_pos hw,if_pos hb] at h52
     exact ev_buildF _ [] (dL [a,b]) es _ _ _ (by simp [Ty.txt]) h52 w
    ·rw [if_neg hb]
     have w:=ce2 (G:=G) (L:=[zT 52 (n+1) fun t=>t.prtV]) (E:=[]) (t:=y54 (n+1)) (y53 (n+1)) (show (54:Nat)≠53 by decide) (.mk 3 [] [a,b],es) hq
     simp only [Ty.prtV,if_pos hw,if_neg hb] at h52
     exact ev_buildG _ [] (dL [a,b]) es _ _ h52 w
   ·have e1:(Ty.mk k nm l).lat=some (.ch 2):=by rw [Ty.lat,if_neg hL,if_pos h3]
    have e2:(Ty.mk k nm l).kpt es=es:=by rw [Ty.kpt,if_neg h3]
    rw [e1,e2]
    exact ev_buildO _ k nm (dL l) es (Bool.eq_false_iff.2 hL) h3
end
end Go.Vm
end

section
namespace Go.Vm
set_option maxRecDepth 20000
def intD (z:Int):List D:=[.int .i64 z]
@[reducible] def ilV (l:List Int):V:=.d false (.sl 1 (l.map intD))
def natI (r:List Nat):List Int:=r.map fun (v:Nat)=>(v:Int)
theorem rows_int (r:List Nat):r.map natD=(natI r).map intD:=by simp [natI,natD,intD]
/- '(*sloth/lattice.order).has' -/
def f26:Fun:=⟨
 (.seq
  (.reg [⟨[],[],[(.bool false)],none,[0,1],1,[],[],[]⟩])
  (.seq
   (.reg [⟨[],[(4,(.and (.bin .geq (.sl 1) (.int .i64 0)) (.bin .lss (.sl 1) (.ld 1 false (.fa 0 (.fa 0 (.sl 0)))))))],[],none,[],11,[],[],[]⟩])
   (.seq
    (.tidy 0 [4])
    .ret))),
 [(.sl 4)],false⟩
theorem f26_ok:funOk Go.Proofs.Tryz.prog 26 0 2 f26=true:=by kernel_rfl
/- '(*sloth/lattice.order).join' -/
def f28_L0:C:=
 (.seq
  (.reg [⟨[],[(25,(.bin .lss (.sl 24) (.sl 23)))],[],none,[0,1,2,7,23,24],1,[],[],[]⟩])
  (.seq
   (.cond (.sl 25)
    .skip
    (.seq
     (.tidy 0 [0,7])
     (.exit 0)))
   (.seq
    (.block 1
     (.seq
      (.reg [⟨[],[(8,(.sl 24))],[],none,[0,1,2,7,23,24],2,[],[],[]⟩])
      (.reg [⟨[(53,.lits 1 (.cons (.call 28 (.cons (.ld 1 false (.fa 2 (.fa 0 (.sl 0)))) (.cons (.ld 1 false (.ia 1 (.ld 1 false (.ia 1 (.ld 1 false (.fa 3 (.fa 0 (.sl 0)))) (.sl 1))) (.sl 8))) (.cons (.ld 1 false (.ia 1 (.ld 1 false (.ia 1 (.ld 1 false (.fa 3 (.fa 0 (.sl 0)))) (.sl 2))) (.sl 8))) .nil)))) .nil))],[],[],some (some 54,.app 1 (.sl 7) (.sl 53)),[0,1,2,23,24],28,[[],[],[1],[1,2],[2,1,3],[],[5],[5,6],[6,5,7],[],[9,7,5,6,8],[8,6,5,7,9,10],[],[12,10,9,7,5,6,8,11],[11,8,6,5,7,9,10,12,13],[],[15],[15,16],[16,15,17],[],[19,17,15,16,18],[18,16,15,17,19,20],[],[22,20,19,17,15,16,18,21],[21,18,16,15,17,19,20,22,23],[23,22,20,19,17,15,16,18,21,24,13,12,10,9,7,5,6,8,11,14,3,1,2,4],[4,2,1,3,14,11,8,6,5,7,9,10,12,13,24,21,18,16,15,17,19,20,22,23,25],[25,23,22,20,19,17,15,16,18,21,24,13,12,10,9,7,5,6,8,11,14,3,1,2,4,26,0],[0,26,4,2,1,3,14,11,8,6,5,7,9,10,12,13,24,21,18,16,15,17,19,20,22,23,25,27]],[],[]⟩,⟨[],[(7,(.sl 54))],[],none,[0,1,2,23,24],1,[],[],[]⟩])))
    (.reg [⟨[],[(24,(.bin .add (.sl 24) (.int .i64 1)))],[],none,[0,1,2,7,23],2,[],[],[]⟩]))))
def f28:Fun:=⟨
 (.seq
  (.reg [⟨[],[],[(.int .i64 0)],none,[0,1,2],1,[],[],[]⟩])
  (.seq
   (.seq
    (.reg [⟨[],[(13,(.eqs false false [4] (.ld 1 false (.fa 1 (.fa 0 (.sl 0)))) .nilp))],[],none,[0,1,2],5,[],[],[]⟩])
    (.cond (.sl 13)
     (.seq
      (.reg [⟨[],[(6,(.cond (.and (.bin .eql (.bin .and (.sl 2) (.int .i64 0)) (.bin .and (.sl 2) (.int .i64 0))) (.bin .gtr (.sl 2) (.sl 1))) (.sl 2) (.sl 1)))],[(.sl 1)],none,[],4,[],[],[]⟩])
      (.seq
       (.tidy 0 [6])
       .ret))
     .skip))
   (.seq
    (.reg [⟨[],[(7,(.nilsl 1))],[],none,[0,1,2],1,[],[],[]⟩])
    (.seq
     (.seq
      (.reg [⟨[],[(23,(.ld 1 false (.fa 0 (.fa 0 (.ld 1 false (.fa 1 (.fa 0 (.sl 0)))))))),(24,(.int .i64 0))],[],none,[0,1,2,7],8,[],[],[]⟩])
      (.block 0
       (.seq (.tidy 0 [0,1,2,7,23,24]) (.loop (.seq (.tidy 0 [0,1,2,7,23,24]) f28_L0)))))
     (.seq
      (.reg [⟨[],[(6,(.call 33 (.cons (.sl 0) (.cons (.sl 7) .nil))))],[],none,[],4,[],[],[]⟩])
      (.seq
       (.tidy 0 [6])
       .ret)))))),
 [(.sl 6)],false⟩
theorem f28_ok:funOk Go.Proofs.Tryz.prog 28 0 3 f28=true:=by kernel_rfl
/- '(*sloth/lattice.order).number' -/
def f33:Fun:=⟨
 (.seq
  (.reg [⟨[(3,.box (.sl 1))],[],[(.int .i64 0)],none,[0,3],2,[],[],[]⟩])
  (.seq
   (.reg [⟨[],[(4,(.call 44 (.cons (.ld 1 false (.fa 3 (.fa 0 (.sl 0)))) (.cons (.mkf 45 (.cons (.sl 3) .nil)) .nil))))],[],none,[],7,[],[],[]⟩])
   (.seq
    (.tidy 0 [4])
    .ret))),
 [(.sl 4)],false⟩
theorem f33_ok:funOk Go.Proofs.Tryz.prog 33 0 2 f33=true:=by kernel_rfl
/- 'slices.IndexFunc[[][]int,[]int]' -/
def f44_L0:C:=
 (.seq
  (.reg [⟨[],[(9,(.bin .lss (.sl 8) (.sl 7)))],[],none,[0,1,7,8],1,[],[],[]⟩])
  (.seq
   (.cond (.sl 9)
    .skip
    (.seq
     (.tidy 0 [])
     (.exit 0)))
   (.seq
    (.block 1
     (.seq
      (.reg [⟨[],[(5,(.sl 8))],[],none,[0,1,7,8],2,[],[],[]⟩])
      (.seq
       (.reg [⟨[],[(16,(.callv (.sl 1) (.cons (.ld 1 false (.ia 1 (.sl 0) (.sl 5))) .nil)))],[],none,[0,1,5,7,8],6,[],[],[]⟩])
       (.cond (.sl 16)
        (.seq
         (.reg [⟨[],[(4,(.sl 5))],[],none,[],2,[],[],[]⟩])
         (.seq
          (.tidy 0 [4])
          .ret))
        .skip))))
    (.reg [⟨[],[(8,(.bin .add (.sl 8) (.int .i64 1)))],[],none,[0,1,7],2,[],[],[]⟩]))))
def f44:Fun:=⟨
 (.seq
  (.reg [⟨[],[],[(.int .i64 0)],none,[0,1],1,[],[],[]⟩])
  (.seq
   (.seq
    (.reg [⟨[],[(7,(.len false (.sl 0))),(8,(.int .i64 0))],[],none,[0,1],3,[],[],[]⟩])
    (.block 0
     (.seq (.tidy 0 [0,1,7,8]) (.loop (.seq (.tidy 0 [0,1,7,8]) f44_L0)))))
   (.seq
    (.reg [⟨[],[(4,(.int .i64 (-1)))],[],none,[],1,[],[],[]⟩])
    (.seq
     (.tidy 0 [4])
     .ret)))),
 [(.sl 4)],false⟩
theorem f44_ok:funOk Go.Proofs.Tryz.prog 44 0 2 f44=true:=by kernel_rfl
/- '(*sloth/lattice.order).number$1' -/
def f45:Fun:=⟨
 (.seq
  (.reg [⟨[],[],[(.bool false)],none,[0,1],1,[],[],[]⟩])
  (.seq
   (.reg [⟨[],[(3,(.call 46 (.cons (.sl 0) (.cons (.ld 1 false (.sl 1)) .nil))))],[],none,[],4,[],[],[]⟩])
   (.seq
    (.tidy 0 [3])
    .ret))),
 [(.sl 3)],false⟩
theorem f45_ok:funOk Go.Proofs.Tryz.prog 45 0 2 f45=true:=by kernel_rfl
/- 'slices.Equal[[]int,int]' -/
def f46_L0:C:=
 (.seq
  (.reg [⟨[],[(14,(.bin .lss (.sl 13) (.sl 12)))],[],none,[0,1,12,13],1,[],[],[]⟩])
  (.seq
   (.cond (.sl 14)
    .skip
    (.seq
     (.tidy 0 [])
     (.exit 0)))
   (.seq
    (.block 1
     (.seq
      (.reg [⟨[],[(5,(.sl 13))],[],none,[0,1,12,13],2,[],[],[]⟩])
      (.seq
       (.reg [⟨[],[(24,(.bin .neq (.ld 1 false (.ia 1 (.sl 0) (.sl 5))) (.ld 1 false (.ia 1 (.sl 1) (.sl 5)))))],[],none,[0,1,12,13],9,[[],[],[1,0],[0,1,2],[],[],[5,4],[4,5,6],[6,5,4,7,2,1,0,3]],[],[]⟩])
       (.cond (.sl 24)
        (.seq
         (.reg [⟨[],[(4,(.bool false))],[],none,[],1,[],[],[]⟩])
         (.seq
          (.tidy 0 [4])
          .ret))
        .skip))))
    (.reg [⟨[],[(13,(.bin .add (.sl 13) (.int .i64 1)))],[],none,[0,1,12],2,[],[],[]⟩]))))
def f46:Fun:=⟨
 (.seq
  (.reg [⟨[],[],[(.bool false)],none,[0,1],1,[],[],[]⟩])
  (.seq
   (.seq
    (.reg [⟨[],[(10,(.bin .neq (.len false (.sl 0)) (.len false (.sl 1))))],[],none,[0,1],5,[],[],[]⟩])
    (.cond (.sl 10)
     (.seq
      (.reg [⟨[],[(4,(.bool false))],[],none,[],1,[],[],[]⟩])
      (.seq
       (.tidy 0 [4])
       .ret))
     .skip))
   (.seq
    (.seq
     (.reg [⟨[],[(12,(.len false (.sl 0))),(13,(.int .i64 0))],[],none,[0,1],3,[],[],[]⟩])
     (.block 0
      (.seq (.tidy 0 [0,1,12,13]) (.loop (.seq (.tidy 0 [0,1,12,13]) f46_L0)))))
    (.seq
     (.reg [⟨[],[(4,(.bool true))],[],none,[],1,[],[],[]⟩])
     (.seq
      (.tidy 0 [4])
      .ret))))),
 [(.sl 4)],false⟩
theorem f46_ok:funOk Go.Proofs.Tryz.prog 46 0 2 f46=true:=by kernel_rfl
theorem ev_has (K:Cx) (o:Lat) (x:Int):runFun K f26 [pD o,.d false (.int .i64 x)] []=some (.bool (decide (0≤x) && decide (x < (o.sz:Int))),[],[]):=by
  have e:=cells_eq o
  unfold f26
  simp only [pD,e]
  simp (disch:=first | decide | omega | (simp only [LN];omega) | (simp only [LN];done) | fail) only [SV,SW,Nat.reduceAdd,Nat.reduceBEq,oneOr]
theorem eq_loop (K:Cx) (a b:List Int) (hl:a.length=b.length) (ha:a.length≤1099511627776):∀ (r:List Int) (k:Nat),a.drop k=r→k≤a.length→
    lp K 0 [0,1,12,13] f46_L0 ⟨[(0,ilV a),(1,ilV b),(12,.d false (.int .i64 a.length)),(13,.d false (.int .i64 k))],[],0,[]⟩ =
      if decide (r=b.drop k) then some (.exit 0,⟨[],[],0,[]⟩) else some (.ret,⟨[(4,.d false (.bool false))],[],0,[]⟩):=by
  intro r
  induction r with
  | nil=>
    intro k hd hk
    have hlen:=congrArg List.length hd
    rw [List.length_drop,List.length_nil] at hlen
    have e:decide (([]:List Int)=b.drop k)=true:=by
      rw [List.drop_eq_nil_of_le (by omega)];rfl
    rw [e,if_pos rfl]
    rw [lp_un f46_L0.eq_1]
    simp (disch:=first | decide | omega | (simp only [LN];omega) | (simp only [LN];done) | fail) only [SV,SW,Nat.reduceBEq]
  | cons x r ih=>
    intro k hd hk
    have hl':k < a.length:=by
      rcases Nat.lt_or_ge k a.length with h' | h'
      · exact h'
      · rw [List.drop_eq_nil_of_le h'] at hd;cases hd
    have hdn:=drop_nth hl'
    rw [hd] at hdn
    simp only [List.cons.injEq] at hdn
    obtain ⟨hn,hd'⟩:=hdn
    have hn:=hn.symm
    have ih:=ih (k+1) hd'.symm (by omega)
    have hb:=drop_nth (show k < b.length by omega)
    rw [hb]
    generalize hy:nth b (k:Int)=y at *
    clear hd hd' hb
    rw [lp_un f46_L0.eq_1]
    simp only [ilV] at ih ⊢
    by_cases hxy:x=y
    · subst hxy
      simp only [List.cons.injEq,true_and]
      rw [← ih]
      clear ih
      simp (disch:=first | decide | omega | (simp only [LN];omega) | (simp only [LN];done) | fail) only [SV,SW,Nat.reduceBEq,intD,hn,hy,cast1']
    · have e:decide (x :: r=y :: b.drop (k+1))=false:=by simp [hxy]
      have e2:(x != y)=true:=by simp [hxy]
      rw [e]
      simp only [Bool.false_eq_true,if_false]
      clear ih e
      simp (disch:=first | decide | omega | (simp only [LN];omega) | (simp only [LN];done) | fail) only [SV,SW,Nat.reduceBEq,intD,hn,hy,e2]
theorem ev_equal (K:Cx) (a b:List Int) (ha:a.length≤1099511627776) (hb:b.length≤1099511627776):runFun K f46 [ilV a,ilV b] []=some (.bool (decide (a=b)),[],[]):=by
  by_cases hl:a.length=b.length
  · have w:=eq_loop K a b hl ha a 0 rfl (by omega)
    have e:((a.length:Int) != (b.length:Int))=false:=by simp [hl]
    unfold f46
    simp only [ilV,List.drop_zero,Int.natCast_zero,Int.ofNat_zero] at w ⊢
    by_cases h:a=b
    · subst h
      simp only [decide_true,if_true] at w
      simp (disch:=first | decide | omega | (simp only [LN];omega) | (simp only [LN];done) | fail) only [SV,SW,Nat.reduceAdd,Nat.reduceBEq,w,oneOr]
    · simp only [h,decide_false,Bool.false_eq_true,if_false] at w
      simp (disch:=first | decide | omega | (simp only [LN];omega) | (simp only [LN];done) | fail) only [SV,SW,Nat.reduceAdd,Nat.reduceBEq,e,w,oneOr,h]
  · have e:((a.length:Int) != (b.length:Int))=true:=by simp;omega
    have e2:decide (a=b)=false:=decide_eq_false fun h=>hl (congrArg List.length h)
    rw [e2]
    unfold f46
    simp only [ilV]
    simp (disch:=first | decide | omega | (simp only [LN];omega) | (simp only [LN];done) | fail) only [SV,SW,Nat.reduceAdd,Nat.reduceBEq,e,oneOr]
theorem ev_numb (K:Cx) (a b:List Int) (w:K.call 46 [ilV a,ilV b]=some (.bool (decide (a=b)),[])):runFun K f45 [ilV a,.d false (.ptr [.sl 1 (b.map intD)])] []=some (.bool (decide (a=b)),[],[]):=by
  unfold f45
  simp only [ilV] at w ⊢
  simp (disch:=first | decide | omega | (simp only [LN];omega) | (simp only [LN];done) | fail) only [SV,SW,Nat.reduceAdd,Nat.reduceBEq,viewD,w,oneOr]
def rowIx (l:List Int):Nat→List (List Nat)→Int
  | _,[]=>-1
  | k,t :: r=>if natI t=l then (k:Int) else rowIx l (k+1) r
@[reducible] def fnV (l:List Int):V:=.fn 45 [.d false (.ptr [.sl 1 (l.map intD)])]
theorem ix_loop (K:Cx) (q:List Int) (l:List (List Nat)) (hl:l.length≤1000) (hg:∀ t∈l,K.call 45 [ilV (natI t),.d false (.ptr [.sl 1 (q.map intD)])]=some (.bool (decide (natI t=q)),[])):∀ (r:List (List Nat)) (k:Nat),l.drop k=r→k≤l.length→
    lp K 0 [0,1,7,8] f44_L0 ⟨[(0,.d false (.sl 1 (l.map rowD))),(1,fnV q),(7,.d false (.int .i64 l.length)),(8,.d false (.int .i64 k))],[],0,[]⟩ =
      if r.any (fun t=>decide (natI t=q)) then some (.ret,⟨[(4,.d false (.int .i64 (rowIx q k r)))],[],0,[]⟩) else some (.exit 0,⟨[],[],0,[]⟩):=by
  intro r
  induction r with
  | nil=>
    intro k hd hk
    have hlen:=congrArg List.length hd
    rw [List.length_drop,List.length_nil] at hlen
    simp only [List.any_nil,Bool.false_eq_true,if_false]
    rw [lp_un f44_L0.eq_1]
    clear hg
    simp (disch:=first | decide | omega | (simp only [LN];omega) | (simp only [LN];done) | fail) only [SV,SW,Nat.reduceBEq]
  | cons x r ih=>
    intro k hd hk
    have hl':k < l.length:=by
      rcases Nat.lt_or_ge k l.length with h' | h'
      · exact h'
      · rw [List.drop_eq_nil_of_le h'] at hd;cases hd
    have hdn:=drop_nth hl'
    rw [hd] at hdn
    simp only [List.cons.injEq] at hdn
    obtain ⟨hn,hd'⟩:=hdn
    have hn:=hn.symm
    have ih:=ih (k+1) hd'.symm (by omega)
    have w:=hg x (by rw [← List.take_append_drop k l,hd];simp)
    have hr:=rows_int x
    rw [lp_un f44_L0.eq_1]
    clear hd hd' hg
    simp only [List.any_cons,rowIx]
    simp only [ilV,fnV] at w ih ⊢
    by_cases hp:natI x=q
    · simp only [hp,decide_true] at w
      simp only [hp,decide_true,Bool.true_or,if_true]
      rw [hp] at hr
      clear ih
      simp (disch:=first | decide | omega | (simp only [LN];omega) | (simp only [LN];done) | fail) only [SV,SW,Nat.reduceBEq,rowD,hn,hr,viewD,w]
    · simp only [hp,decide_false] at w
      simp only [hp,decide_false,Bool.false_or,if_false]
      rw [← ih]
      clear ih
      simp (disch:=first | decide | omega | (simp only [LN];omega) | (simp only [LN];done) | fail) only [SV,SW,Nat.reduceBEq,rowD,hn,hr,viewD,w,cast1']
theorem ix_none (q:List Int):∀ (l:List (List Nat)) (k:Nat),l.any (fun t=>decide (natI t=q))=false→rowIx q k l=-1
  | [],k,_=>rfl
  | t :: r,k,h=>by
    simp only [List.any_cons,Bool.or_eq_false_iff,decide_eq_false_iff_not] at h
    rw [rowIx,if_neg h.1]
    exact ix_none q r (k+1) h.2
theorem ev_ixf (K:Cx) (q:List Int) (l:List (List Nat)) (hl:l.length≤1000) (hg:∀ t∈l,K.call 45 [ilV (natI t),.d false (.ptr [.sl 1 (q.map intD)])]=some (.bool (decide (natI t=q)),[])):runFun K f44 [.d false (.sl 1 (l.map rowD)),fnV q] []=some (.d false (.int .i64 (rowIx q 0 l)),[],[]):=by
  have w:=ix_loop K q l hl hg l 0 rfl (by omega)
  have hn:=ix_none q l 0
  generalize l.any (fun t=>decide (natI t=q))=c at w hn
  unfold f44
  clear hg
  simp only [fnV,Int.natCast_zero,Int.ofNat_zero] at w ⊢
  cases c with
  | true=>simp only [if_true] at w;clear hn;simp (disch:=first | decide | omega | (simp only [LN];omega) | (simp only [LN];done) | fail) only [SV,SW,Int.reduceNeg,Nat.reduceAdd,Nat.reduceBEq,w,oneOr]
  | false=>simp only [Bool.false_eq_true,if_false] at w;rw [hn rfl];clear hn;simp (disch:=first | decide | omega | (simp only [LN];omega) | (simp only [LN];done) | fail) only [SV,SW,Int.reduceNeg,Nat.reduceAdd,Nat.reduceBEq,w,oneOr]
theorem ev_number (K:Cx) (a b:Lat) (rows:List (List Nat)) (low:List (List Bool)) (q:List Int) (w:K.call 44 [.d false (.sl 1 (rows.map rowD)),fnV q]=some (.d false (.int .i64 (rowIx q 0 rows)),[])):runFun K f33 [pD (.fn a b rows low),ilV q] []=some (.d false (.int .i64 (rowIx q 0 rows)),[],[]):=by
  unfold f33
  simp only [pD,Lat.cells,ilV,fnV] at w ⊢
  simp (disch:=first | decide | omega | (simp only [LN];omega) | (simp only [LN];done) | fail) only [SV,SW,Nat.reduceAdd,Nat.reduceBEq,e_mkf,mkfV_tup,viewD,w,oneOr]
end Go.Vm
end

section
namespace Go.Vm
set_option maxRecDepth 20000
def jV:List Nat→V
 | []=>.fs true 1 []
 | x :: l=>.bsl 0 0 (l.length+1)
def jH:List Nat→List (Nat×Blk)
 | []=>[]
 | x :: l=>[(0,.dat true 1 ((x :: l).map natD))]
def jN:List Nat→Nat
 | []=>0
 | _ :: _=>1
def joins (b:Lat) (f g:List Nat):Nat→Nat→List Nat
 | 0,_=>[]
 | m+1,k=>b.jn (nth f (k:Int)) (nth g (k:Int)) :: joins b f g m (k+1)
def KJ (K:Cx) (b:Lat):Prop:=∀ u v,u < b.sz→v < b.sz→K.call 28 [pD b,iN u,iN v]=some (iN (b.jn u v),[])
theorem jn_loop (K:Cx) (a b:Lat) (rows:List (List Nat)) (low:List (List Bool)) (x y:Nat) (hr:rowsOk a b rows) (ha:a.sz≤1000) (hj:KJ K b) (hx:x < rows.length) (hy:y < rows.length):∀ (m k:Nat) (l:List Nat),k+m=a.sz→l.length=k→
  lp K 0 [0,1,2,7,23,24] f28_L0 ⟨[(0,pD (.fn a b rows low)),(1,iN x),(2,iN y),(7,jV l),(23,iN a.sz),(24,iN k)],jH l,jN l,[]⟩ =
   some (.exit 0,⟨[(0,pD (.fn a b rows low)),(7,jV (l++joins b (nth rows (x:Int)) (nth rows (y:Int)) m k))],jH (l++joins b (nth rows (x:Int)) (nth rows (y:Int)) m k),jN (l++joins b (nth rows (x:Int)) (nth rows (y:Int)) m k),[]⟩):=by
 obtain ⟨l1,v1⟩:=hr _ (nth_mem hx)
 obtain ⟨l2,v2⟩:=hr _ (nth_mem hy)
 intro m
 induction m with
 | zero=>
  intro k l hk hl
  simp only [joins,List.append_nil]
  rw [lp_un f28_L0.eq_1]
  clear v1 v2 hr hj
  simp only [pD,iN]
  cases l with
  | nil=>simp only [jV,jH,jN];simp (disch:=first | decide | omega | (simp only [LN];omega) | (simp only [LN];done) | fail) only [SV,SW,Nat.reduceBEq]
  | cons z l=>simp only [jV,jH,jN,List.length_cons,List.map_cons] at hl⊢;simp (disch:=first | decide | omega | (simp only [LN];omega) | (simp only [LN];done) | fail) only [SV,SW,Nat.reduceBEq]
 | succ m ih=>
  intro k l hk hl
  have ih:=ih (k+1) (l++[b.jn (nth (nth rows (x:Int)) (k:Int)) (nth (nth rows (y:Int)) (k:Int))]) (by omega) (by simp [hl])
  have w:=hj (nth (nth rows (x:Int)) (k:Int)) (nth (nth rows (y:Int)) (k:Int)) (v1 _ (nth_mem (by omega))) (v2 _ (nth_mem (by omega)))
  simp only [joins]
  simp only [List.append_assoc,List.singleton_append] at ih
  rw [← ih]
  clear ih v1 v2 hr hj
  rw [lp_un f28_L0.eq_1]
  generalize b.jn (nth (nth rows (x:Int)) (k:Int)) (nth (nth rows (y:Int)) (k:Int))=J at *
  simp only [pD,iN,Lat.cells] at w ⊢
  cases l with
  | nil=>
   simp only [jV,jH,jN,List.nil_append,List.map_cons,List.map_nil,List.length_nil] at hl ⊢
   simp (disch:=first | decide | omega | (simp only [LN];omega) | (simp only [LN];done) | fail) only [SV,SW,Nat.reduceBEq,rowD,natD,viewD,w,Nat.reduceAdd,lose,cast1]
  | cons z l=>
   simp only [jV,jH,jN,List.length_cons,List.map_cons,List.cons_append,List.map_append,List.map_nil,List.length_append,List.length_nil] at hl ⊢
   simp (disch:=first | decide | omega | (simp only [LN];omega) | (simp only [LN];done) | fail) only [SV,SW,natD,Nat.reduceBEq,rowD,viewD,w,Nat.reduceAdd,lose,V.forget,V.drop1,V.ref0,cast1]
theorem bits_zero (x:Nat):bits .and .i64 (x:Int) 0=0:=by
 unfold bits
 simp
 rfl
theorem ev_joinC (K:Cx) (n x y:Nat) (hx:x < n) (hy:y < n) (hn:n≤1000):runFun K f28 [pD (.ch n),iN x,iN y] []=some (iN (max x y),[],[]):=by
 have b0:=bits_zero y
 have hle:decide ((y:Int)≤(x:Int))=decide (y≤x):=decide_eq_decide.2 (by omega)
 have hlt:decide ((x:Int) < (y:Int))=decide (x < y):=decide_eq_decide.2 (by omega)
 unfold f28
 simp only [pD,Lat.cells,iN]
 by_cases h:x < y
 ·have e:max x y=y:=by omega
  simp only [h,decide_true] at hlt
  rw [e]
  simp (disch:=first | decide | omega | (simp only [LN];omega) | (simp only [LN];done) | fail) only [SV,SW,Nat.reduceAdd,Nat.reduceBEq,e_nilp,evEqs,cellsEq,cellEq,V.isNilP,b0,oneOr]
 ·have e:max x y=x:=by omega
  simp only [h,decide_false] at hlt
  rw [e]
  simp (disch:=first | decide | omega | (simp only [LN];omega) | (simp only [LN];done) | fail) only [SV,SW,Nat.reduceAdd,Nat.reduceBEq,e_nilp,evEqs,cellsEq,cellEq,V.isNilP,b0,oneOr]
theorem joins_len (b:Lat) (f g:List Nat):∀ m k,(joins b f g m k).length=m
 | 0,_=>rfl
 | m+1,k=>by rw [joins,List.length_cons,joins_len b f g m]
theorem ev_joinF (K:Cx) (a b:Lat) (rows:List (List Nat)) (low:List (List Bool)) (x y:Nat) (hr:rowsOk a b rows) (ha:a.sz≤1000) (h0:0 < a.sz) (hj:KJ K b) (hx:x < rows.length) (hy:y < rows.length) (z:Int)
  (w:K.call 33 [pD (.fn a b rows low),ilV (natI (joins b (nth rows (x:Int)) (nth rows (y:Int)) a.sz 0))]=some (.d false (.int .i64 z),[])):runFun K f28 [pD (.fn a b rows low),iN x,iN y] []=some (.d false (.int .i64 z),[],[]):=by
 have wl:=jn_loop K a b rows low x y hr ha hj hx hy a.sz 0 [] (by omega) rfl
 have hlen:=joins_len b (nth rows (x:Int)) (nth rows (y:Int)) a.sz 0
 have hri:=rows_int (joins b (nth rows (x:Int)) (nth rows (y:Int)) a.sz 0)
 have e:=cells_eq a
 simp only [List.nil_append] at wl
 generalize joins b (nth rows (x:Int)) (nth rows (y:Int)) a.sz 0=J at *
 unfold f28
 clear hr hj
 cases J with
 | nil=>simp at hlen;omega
 | cons j J=>
  simp only [ilV,← hri,pD,iN,jV,jH,jN,Lat.cells,e,Int.natCast_zero,Int.ofNat_zero,List.map_cons,List.length_cons] at w wl ⊢
  simp (disch:=first | decide | omega | (simp only [LN];omega) | (simp only [LN];done) | fail) only [SV,SW,Nat.reduceAdd,Nat.reduceBEq,e_nilp,evEqs,cellsEq,cellEq,V.isNilP,wl,viewD,w,oneOr]
end Go.Vm
end

section
namespace Go.Vm
set_option maxRecDepth 100000
open Go.Proofs Go.RowKit Go.Shelf
def dealt:List BY→List (BY×BY)→List (BY×BY)
 | [],bs=>bs
 | x :: r,bs=>dealt r (if (byF bs x).isSome then bs else bs++[(x,nameN bs.length)])
theorem dealt_snoc (x:BY):∀ (l:List BY) (bs:List (BY×BY)),dealt (l++[x]) bs=if (byF (dealt l bs) x).isSome then dealt l bs else dealt l bs++[(x,nameN (dealt l bs).length)]
 | [],bs=>rfl
 | y :: l,bs=>dealt_snoc x l _
theorem dealt_len:∀ (l:List BY) (bs:List (BY×BY)),(dealt l bs).length≤bs.length+l.length
 | [],bs=>by simp [dealt]
 | x :: l,bs=>by
  have:=dealt_len l (if (byF bs x).isSome then bs else bs++[(x,nameN bs.length)])
  rw [dealt]
  refine Nat.le_trans this ?_
  split <;> simp <;> omega
def vU' (s:BY):V:=.agg [.d false (.int .i64 2),.d false (.str s),.fs true 3 []]
theorem setE_by (x:BY) (v:V):∀ bs:List (BY×BY),byF bs x=none→setE 2 (.str x) v (byE bs)=some (byE bs++[(.str x,v)])
 | [],_=>by simp [byE,setE,keyEq]
 | (m,s) :: r,h=>by
  rw [byF] at h
  by_cases hx:x=m
  ·rw [if_pos hx] at h;cases h
  ·rw [if_neg hx] at h
   have ih:=setE_by x v r h
   simp only [byE,List.map_cons,setE,keyEq,hx,decide_false,List.cons_append] at ih ⊢
   rw [ih]
theorem by_tagged (bs:List (BY×BY)):tagged (byE bs)=false:=by cases bs <;> rfl
theorem by_len (bs:List (BY×BY)):(byE bs).length=bs.length:=by simp [byE]
abbrev zeroT:E:=.agg (.cons (.int .i64 0) (.cons (.str []) (.cons (.nilsl 3) .nil)))
def canonBody:C:=.block 1 (.seq
 (.reg [⟨[(7,.box zeroT)],[(24,(.ext 1 (.lkp true 2 zeroT (.ld 1 false (.sl 5)) (.sl 6))))],[],some (none,.store 3 (.sl 7) (.ext 0 (.lkp true 2 zeroT (.ld 1 false (.sl 5)) (.sl 6)))),[5,6],8,[],[],[]⟩,⟨[],[(8,.sl 24)],[],none,[5,6],1,[],[],[]⟩])
 (.seq (.reg [⟨[],[(26,.un .not (.sl 8))],[],none,[5,6],2,[],[],[]⟩])
  (.cond (.sl 26) (.reg [⟨[],[],[],some (none,.mset 2 (.ld 1 false (.sl 5)) (.sl 6) (.set 1 1 (.call 49 (.cons (.mlen (.ld 1 false (.sl 5))) .nil)) (.set 0 1 (.int .i64 2) zeroT))),[5,6],7,[[],[],[],[2],[3,2],[4,3,2],[0,1,5,4,3,2]],[],[]⟩]) .skip)))
def K49 (K:Cx):Prop:=∀ n:Nat,n≤1000000→K.call 49 [.d false (.int .i64 (n:Int))]=some (.d false (.str (nameN n)),[])
def canonS (bs:List (BY×BY)) (x:BY):S:=⟨[(5,.ptr 1 0 0),(6,.d false (.str x))],[(0,.map (byE bs)),(1,.mix 1 [[.map 0]])],2,[]⟩
def seen (r:Option (Ex×S)):Option (Ex×Option Blk×Option Blk×List Nat×Nat):=r.map fun r=>(r.1,look r.2.heap 0,look r.2.heap 1,r.2.mv,r.2.nx)
theorem seen_some (e s):seen (some (e,s))=some (e,look s.heap 0,look s.heap 1,s.mv,s.nx):=rfl
theorem round_had (K:Cx) (bs:List (BY×BY)) (x:BY) (s:BY) (h:byF bs x=some s):seen (exec K canonBody (canonS bs x))=some (.nrm,some (.map (byE bs)),some (.mix 1 [[.map 0]]),[],3):=by
 have hf:=findE_by x bs
 rw [h,Option.map_some] at hf
 unfold canonBody canonS zeroT
 simp only [vU] at hf
 simp (disch:=first | decide | omega | (simp only [LN];omega) | (simp only [LN];done) | fail) only [SV,SW,Nat.reduceAdd,Nat.reduceBEq,hf,lkO_someT,lose,seen_some]
theorem round_new (K:Cx) (h49:K49 K) (bs:List (BY×BY)) (hl:bs.length≤1000000) (x:BY) (h:byF bs x=none):seen (exec K canonBody (canonS bs x))=some (.nrm,some (.map (byE bs++[(.str x,vU' (nameN bs.length))])),some (.mix 1 [[.map 0]]),[],3):=by
 have hf:=findE_by x bs
 rw [h,Option.map_none] at hf
 have hs:=setE_by x (vU' (nameN bs.length)) bs h
 have w:=h49 bs.length hl
 have ht:=by_tagged bs
 have hln:=by_len bs
 unfold canonBody canonS zeroT
 simp only [vU'] at hs ⊢
 have hm:∀ H:List (Nat×Blk),look H 0=some (.map (byE bs))→evMlen H (.map 0)=some (.d false (.int .i64 (bs.length:Int))):=fun H h=>by simp [evMlen,h,Blk.entries,ht,hln]
 have hm2:=hm [(2,Blk.mix 3 [[V.int IntKind.i64 0,V.str [],V.fs true 3 []]]),(0,Blk.map (byE bs)),(1,Blk.mix 1 [[V.map 0]])] rfl
 simp (disch:=first | decide | omega | (simp only [LN];omega) | (simp only [LN];done) | fail) only [SV,SW,Nat.reduceAdd,Nat.reduceBEq,hf,lkO_noneT,lose,evWr_mset,e_mlen,hm2,viewD,w,wrMset_map,msB_map,hs,stM_some,seen_some]
end Go.Vm
end

section
namespace Go.Vm
set_option maxRecDepth 100000
open Go.Proofs Go.RowKit Go.Shelf
def HeldN (mb tb:Nat) (bs:List (BY×BY)) (W:World):Prop:=
 (∃ es ck,W.heap[mb]? = some (.map es ck)∧MapRel W (fun _=>False) 0 (fun _=>none) es (byE bs))∧∃ T,W.heap[tb]? = some (.cells #[.map (some mb)] T (0,0))
def SG (mb tb:Nat):Nat→Option Loc:=fun b=>if b=0 then some ⟨mb,0,0⟩ else if b=1 then some ⟨tb,1,1⟩ else none
def XG (mb tb:Nat):Nat→Nat→Prop:=fun b k=>(b=0∧k=mb)∨(b=1∧k=tb)
theorem repv_name {w w':World} {F F':Nat→Prop} {base base':Nat} {σ σ':Nat→Option Loc} {v:Value} {s:BY} (h:RepV w F base σ v (vU s)∨RepV w F base σ v (vU' s)):RepV w' F' base' σ' v (vU s):=by
 have key:∃ a,v=.agg #[.int .i64 2,.string ⟨s.toArray⟩,.slice a 0 0]∧RepD w F (.slice a 0 0) (.sl 3 []):=by
  have col_F:∀ {c:Bool} {b:Nat},col F base c b→F b:=fun {c b} h=>by
   cases c with
   | false=>exact h
   | true=>exact h.1
  have gen:∀ c:Bool,RepV w F base σ v (.agg [.d false (.int .i64 2),.d false (.str s),.fs c 3 []])→∃ a,v=.agg #[.int .i64 2,.string ⟨s.toArray⟩,.slice a 0 0]∧RepD w F (.slice a 0 0) (.sl 3 []):=by
   intro c h
   cases h with
   | agg cs _ h1 h2 h3=>
    obtain ⟨l⟩:=cs
    match l,h1 with
    | [x,y,z],_=>
     have e0:=(h2 0 x _ rfl rfl).int_inv
     obtain ⟨t,e1,e2⟩:=(h2 1 y _ rfl rfl).str_inv
     have r2:=h2 2 z _ rfl rfl
     subst e0;subst e1
     have ht:t=⟨s.toArray⟩:=by
      cases t
      simp only at e2
      rw [e2]
     subst ht
     cases r2 with
     | fs c a len k rows h=>
      have h':=h.mono (w':=w) (F':=F) (fun b hb=>⟨col_F hb,rfl⟩)
      have:len=0:=by
       generalize hd:D.sl 3 []=d at h'
       generalize hv:Value.slice a len len=v at h'
       cases h' with
       | sl0 a cap k hc=>cases hv;rfl
       | sl b o n cap k rows g h1=>cases hv;cases hd;exact h1.symm
       | _=>cases hv <;> rfl
      subst this
      exact ⟨a,rfl,h'⟩
  rcases h with h | h
  ·exact gen false h
  ·exact gen true h
 clear h
 obtain ⟨a,rfl,hq⟩:=key
 have h':RepD w' F' (.slice a 0 0) (.sl 3 []):=by
  generalize hd:D.sl 3 []=d at hq
  cases hq with
  | sl0 a cap k hc=>cases hd;exact .sl0 _ _ _ hc
  | sl b o len cap k rows g h1 h2 h3 h4 h5 h6=>cases hd;exact .sl0 _ _ _ (fun e=>by cases e)
  | _=>cases hd
 refine .agg _ _ rfl (fun j v x hv hx=>?_) (fun v hv=>?_)
 ·match j,hv,hx with
  | 0,hv,hx=>simp at hv hx;subst hv;subst hx;exact .int
  | 1,hv,hx=>simp at hv hx;subst hv;subst hx;exact .str (s:=⟨s.toArray⟩)
  | 2,hv,hx=>simp at hv hx;subst hv;subst hx;exact .fs _ _ _ _ _ h'
  | j+3,hv,hx=>simp at hv
 ·simp only [List.mem_toArray,List.mem_cons,List.not_mem_nil,or_false] at hv
  rcases hv with rfl | rfl | rfl <;> rfl
theorem maprel_names {w w':World} {F F':Nat→Prop} {base base':Nat} {σ σ':Nat→Option Loc} {es:Array MapEntry} {bs:List (BY×BY)} (h:MapRel w F base σ es (byE bs)):MapRel w' F' base' σ' es (byE bs):=by
 refine ⟨h.1,fun i e p he hp=>?_⟩
 obtain ⟨h1,h2,h3⟩:=h.2 i e p he hp
 refine ⟨h1,h2.flat h1,?_⟩
 simp only [byE,List.getElem?_map,Option.map_eq_some_iff] at hp
 obtain ⟨q,_,rfl⟩:=hp
 exact repv_name (.inl h3)
theorem maprel_more {w w':World} {F F':Nat→Prop} {base base':Nat} {σ σ':Nat→Option Loc} {es:Array MapEntry} {bs:List (BY×BY)} {x s:BY} (h:MapRel w F base σ es (byE bs++[(.str x,vU' s)])):MapRel w' F' base' σ' es (byE (bs++[(x,s)])):=by
 have e:byE (bs++[(x,s)])=byE bs++[(.str x,vU s)]:=by simp [byE]
 rw [e]
 refine ⟨by simpa using h.1,fun i e p he hp=>?_⟩
 by_cases hi:i < (byE bs).length
 ·rw [List.getElem?_append_left hi] at hp
  have hp':(byE bs++[(D.str x,vU' s)])[i]? = some p:=by rw [List.getElem?_append_left hi];exact hp
  obtain ⟨h1,h2,h3⟩:=h.2 i e p he hp'
  refine ⟨h1,h2.flat h1,?_⟩
  simp only [byE,List.getElem?_map,Option.map_eq_some_iff] at hp
  obtain ⟨q,_,rfl⟩:=hp
  exact repv_name (.inl h3)
 ·have hi2:i=(byE bs).length:=by
   have:=(List.getElem?_eq_some_iff.1 hp).1
   simp at this hi ⊢
   omega
  subst hi2
  simp only [List.getElem?_append_right (Nat.le_refl _),Nat.sub_self,List.getElem?_cons_zero,Option.some.injEq] at hp
  subst hp
  obtain ⟨h1,h2,h3⟩:=h.2 (byE bs).length e (.str x,vU' s) he (by simp)
  exact ⟨rfl,h2.flat rfl,repv_name (.inr h3)⟩
variable {K:Cx}
theorem round_in (hK:K.Sound Tryz.prog) (h49:K49 K) {nn l:Nat} (code:Code) (hc:chk Tryz.prog 2 36 canonBody code=true) (hp:plainCode code=true) (a:Act) (W:World) (F:Nat→Prop) (mb tb:Nat) (bs:List (BY×BY)) (x:BY)
  (hl:bs.length≤1000000) (hh:HeldN mb tb bs W) (hF:∀ b,F b→b < W.heap.size∧b≠mb∧b≠tb) (hG:GlobRel W F K.glob) (ha:a.tmps.size=36) (hd:a.defers=[]) (h5:a.tmps.getD 5 undef=.pointer (some ⟨tb,0,none⟩)) (h6:a.tmps.getD 6 undef=.string ⟨x.toArray⟩) :
  code.wpIn (FR l) nn Tryz.prog (fun e _ W'=>e=.normal∧Frame (XG mb tb) W.heap.size W W'∧HeldN mb tb (if (byF bs x).isSome then bs else bs++[(x,nameN bs.length)]) W') a W:=by
 obtain ⟨⟨es,ck,hm,hr⟩,T,ht⟩:=hh
 have hne:mb≠tb:=by
  rintro rfl
  rw [hm] at ht
  cases ht
 have hmb:=(Array.getElem?_eq_some_iff.1 hm).1
 have htb:=(Array.getElem?_eq_some_iff.1 ht).1
 have hs:StRel K (XG mb tb) W.heap.size W F 2 (SG mb tb) 36 (canonS bs x) a W F (SG mb tb):=by
  refine ⟨⟨fun b blk hb=>?_,fun b b' l l' h1 h2 he=>?_,fun b l hb=>?_,fun b hb=>(hF b hb).1⟩,hG,Nat.le_refl _,⟨rfl,rfl,rfl,Nat.le_refl _,fun _ _ _=>rfl⟩,fun b hb=>.inl hb,ha,hd,fun t v hv=>?_,fun b blk hb=>?_,fun b l _ h _=>h,Nat.le_refl _,fun b k h=>?_,fun b h=>h⟩
  ·simp only [canonS,look] at hb
   split at hb
   ·rename_i h;subst h
    cases hb
    exact .inr (.inl ⟨⟨mb,0,0⟩,es,ck,_,rfl,rfl,.inl ⟨hm,rfl,by_tagged bs⟩,rfl,trivial,maprel_names hr⟩)
   ·split at hb
    ·rename_i h;subst h
     cases hb
     refine .inr (.inr ⟨⟨tb,1,1⟩,_,T,rfl,ht,rfl,Nat.le_refl _,rfl,fun i row hrow=>?_,rfl⟩)
     match i,hrow with
     | 0,hrow=>
      simp only [Blk.row?,List.getElem?_cons_zero,Option.some.injEq] at hrow
      subst hrow
      refine ⟨rfl,fun j x hx=>?_⟩
      match j,hx with
      | 0,hx=>
       simp at hx
       subst hx
       exact ⟨_,rfl,rfl,RepV.map 0 ⟨mb,0,0⟩ rfl⟩
      | j+1,hx=>simp at hx
     | i+1,hrow=>simp [Blk.row?] at hrow
    ·cases hb
  ·simp only [SG] at h1 h2
   split at h1
   ·cases h1
    split at h2
    ·omega
    ·split at h2
     ·cases h2;exact absurd he hne
     ·cases h2
   ·split at h1
    ·cases h1
     split at h2
     ·cases h2;exact absurd he.symm hne
     ·split at h2
      ·omega
      ·cases h2
    ·cases h1
  ·simp only [SG] at hb
   split at hb
   ·rename_i h;subst h;cases hb
    exact ⟨show 0 < 2 by decide,fun h=>(hF _ h).2.1 rfl,.inr (.inl ⟨rfl,rfl⟩),hmb⟩
   ·split at hb
    ·rename_i h;subst h;cases hb
     exact ⟨show 1 < 2 by decide,fun h=>(hF _ h).2.2 rfl,.inr (.inr ⟨rfl,rfl⟩),htb⟩
    ·cases hb
  ·simp only [canonS,look] at hv
   split at hv
   ·rename_i h;subst h;cases hv
    rw [h5]
    exact RepV.ptr 1 0 0 ⟨tb,1,1⟩ rfl
   ·split at hv
    ·rename_i h;subst h;cases hv
     rw [h6]
     exact .str (s:=⟨x.toArray⟩)
    ·cases hv
  ·simp only [canonS,look] at hb
   split at hb
   ·rename_i h;subst h;show 0 < 2;omega
   ·split at hb
    ·rename_i h;subst h;show 1 < 2;omega
    ·cases hb
  ·rcases h with ⟨rfl,_⟩ | ⟨rfl,_⟩ <;> decide
 have fin:∀ r:Ex×S,exec K canonBody (canonS bs x)=some r→r.1=.nrm→(∀ i,i < 2→i∉r.2.mv)→∀ bs',(∀ (w:World) (F:Nat→Prop) base σ es,(∃ ds,look r.2.heap 0=some (.map ds)∧MapRel w F base σ es ds)→MapRel w (fun _=>False) 0 (fun _=>none) es (byE bs'))→(∃ ds,look r.2.heap 0=some (.map ds)∧tagged ds=false)→look r.2.heap 1=some (.mix 1 [[.map 0]])→
   code.wpIn (FR l) nn Tryz.prog (fun e _ W'=>e=.normal∧Frame (XG mb tb) W.heap.size W W'∧HeldN mb tb bs' W') a W:=by
  rintro ⟨e,s1⟩ he hn hmv bs' hmap ⟨ds,hd0,htag⟩ hd1
  simp only at hn hmv hmap hd0 hd1
  subst hn
  refine wpIn_mono (exec_in mixedZ hK canonBody code _ _ a W F _ hc hp he hs) ?_
  rintro e' a' W' ⟨rfl,F',σ',hs'⟩
  have q0:σ' 0=some ⟨mb,0,0⟩:=hs'.stab 0 _ (by decide) rfl (hmv 0 (by decide))
  have q1:σ' 1=some ⟨tb,1,1⟩:=hs'.stab 1 _ (by decide) rfl (hmv 1 (by decide))
  refine ⟨rfl,hs'.frame,?_,?_⟩
  ·rcases hs'.heap.blk 0 _ hd0 with ⟨_,h⟩ | ⟨l',es',ck',ds',hb,hl',hmo,_,_,hmr⟩ | ⟨_,_,_,_,_,_,_,_,_,h⟩
   ·rw [q0] at h;cases h
   ·cases hb
    rw [q0] at hl'
    cases hl'
    obtain ⟨h1,_⟩:=hmo.map htag
    exact ⟨es',ck',h1,hmap _ _ _ _ _ ⟨_,hd0,hmr⟩⟩
   ·simp [Blk.entries] at h
  ·rcases hs'.heap.blk 1 _ hd1 with ⟨h,_⟩ | ⟨l',es',ck',ds',hb,_⟩ | ⟨l',cs,T',hl',hw,hk,hn,hsz,hrow,_⟩
   ·simp [Blk.n] at h
   ·cases hb
   ·rw [q1] at hl'
    cases hl'
    obtain ⟨_,hr0⟩:=hrow 0 [.map 0] rfl
    obtain ⟨v,hv,_,hrv⟩:=hr0 0 (.map 0) rfl
    have:v=.map (some mb):=by
     cases hrv with
     | map b l h=>rw [q0] at h;cases h;rfl
    subst this
    obtain ⟨cl⟩:=cs
    match cl,hsz,hv with
    | [v],_,hv=>
     simp at hv
     subst hv
     exact ⟨T',hw⟩
    | [],hsz,_=>simp at hsz
    | _ :: _ :: _,hsz,_=>simp at hsz
 cases hf:byF bs x with
 | some s=>
  have h:=round_had K bs x s hf
  cases he:exec K canonBody (canonS bs x) with
  | none=>rw [he] at h;cases h
  | some r=>
   rw [he] at h
   simp only [seen,Option.map_some,Option.some.injEq,Prod.mk.injEq] at h
   obtain ⟨h1,h2,h3,h4,_⟩:=h
   simp only [Option.isSome_some,if_true]
   refine fin r he h1 (fun i _=>by rw [h4];simp) bs ?_ ⟨_,h2,by_tagged bs⟩ h3
   rintro w F base σ es ⟨ds,hd,hmr⟩
   rw [h2] at hd
   cases hd
   exact maprel_names hmr
 | none=>
  have h:=round_new K h49 bs hl x hf
  cases he:exec K canonBody (canonS bs x) with
  | none=>rw [he] at h;cases h
  | some r=>
   rw [he] at h
   simp only [seen,Option.map_some,Option.some.injEq,Prod.mk.injEq] at h
   obtain ⟨h1,h2,h3,h4,_⟩:=h
   simp only [Option.isSome_none,Bool.false_eq_true,if_false]
   refine fin r he h1 (fun i _=>by rw [h4];simp) _ ?_ ⟨_,h2,by cases bs <;> rfl⟩ h3
   rintro w F base σ es ⟨ds,hd,hmr⟩
   rw [h2] at hd
   cases hd
   exact maprel_more hmr
end Go.Vm
end

section
namespace Go.Vm
open Go.Proofs Go.RowKit Go.Shelf
attribute [local go_sem] Oper.semAt_some
set_option maxRecDepth 100000 in
set_option maxHeartbeats 1000000 in
theorem vars_in (n:Nat) (v0 v1 v2:Value) (w:World) (hs:∃ (k:Int) (s:ByteArray) (a:Option Addr) (len cap:Nat),v0=.int .i64 k∧v1=.string s∧v2=.slice a len cap) :
  CallsIn Fence.wide n Tryz.prog 48 #[.agg #[v0,v1,v2]] w fun e w'=>e=.returned (.func (.func 62) #[] #[.pointer (some ⟨w.heap.size,0,none⟩)])∧w'=w.alloc (.cells #[v0,v1,v2] 24):=by
 obtain ⟨k,s,a,len,cap,rfl,rfl,rfl⟩:=hs
 refine callsIn_of_wp Tryz.func48 rfl trivial ?_ rfl
 simp only [Tryz.ntmps48,List.size_toArray,List.length_cons,List.length_nil,Nat.reduceAdd,Nat.reduceSub,Array.replicate_succ,Array.replicate_zero,List.push_toArray,List.append_toArray,List.nil_append,List.cons_append]
 gi_wp2
 go_ret
 exact ⟨rfl,rfl⟩
theorem abides_none {β:Type} {B:Nat} {I:β→World→Prop} (h:AbidesFrom B I):∀ s A B',I s A→World.grownBy A B' none→I s B':=
 fun s A B' hs hg=>h s A B' none hs hg (fun r e=>by cases e)
set_option maxRecDepth 100000 in
set_option maxHeartbeats 1000000 in
theorem vars1_in (n l n₀ N:Nat) (F:Nat→Prop) (hFn:∀ b,F b→b < n₀) (J Jx:List (List UInt8)→World→Prop) (hJ:∀ s A B,J s A→World.grownBy A B none→J s B)
  (hY:∀ m pre x W,J pre W→pre.length < N→YieldAt Fence.wide m Tryz.prog l #[.string ⟨x.toArray⟩] W fun e W'=>(e=.returned (.bool true)∧J (pre++[x]) W'∧Below n₀ W W')∨(e=.returned (.bool false)∧Jx (pre++[x]) W'))
  (T:Ty) (W:World) (v0 v1 v2:Value) (Bt:Nat) (hf:T.fit) (hle:n₀≤W.heap.size) (hrep:∀ (j:Nat) (v:Value) (d:D),#[v0,v1,v2][j]? = some v→T.d[j]? = some d→RepD W F v d) (h0:J [] W) (hN:T.vars.length≤N)
  (hB:∀ (i:Nat) (v:Value),#[v0,v1,v2][i]? = some v→W.cell? ⟨Bt,i,none⟩=some v) :
  CallsIn Fence.wide n Tryz.prog 62 #[.func (.yield l) #[] #[],.pointer (some ⟨Bt,0,none⟩)] W fun e W'=>(∃ v,e=.returned v)∧((∃ ys,ys=T.vars∧J ys W')∨(∃ pre,True∧Jx pre W')):=by
 obtain ⟨k,nm,ls⟩:=T
 have r0:=hrep 0 v0 _ rfl rfl
 have r1:=hrep 1 v1 _ rfl rfl
 have r2:=hrep 2 v2 _ rfl rfl
 have c0:=hB 0 v0 rfl
 have c1:=hB 1 v1 rfl
 have c2:=hB 2 v2 rfl
 have he:=each_in l n₀ N F hFn J hJ Jx hY (SizeOf.sizeOf (Ty.mk k nm ls)+1) (.mk k nm ls) (n - 1) [] W v0 v1 v2 (Nat.lt_succ_self _) hf hle hrep h0 (by simpa using hN)
 cases r0 with
 | int=>
  generalize hd1:D.str nm=d1 at r1
  cases r1 with
  | str s=>
   obtain ⟨a,cap,rfl,_⟩:=rows_open r2
   refine callsIn_of_wp Tryz.func62 rfl trivial ?_ rfl
   simp only [Tryz.ntmps62,List.size_toArray,List.length_cons,List.length_nil,Nat.reduceAdd,Nat.reduceSub,Array.replicate_succ,Array.replicate_zero,List.push_toArray,List.append_toArray,List.nil_append,List.cons_append]
   gi_wp2
   refine ⟨trivial,fun h=>(by cases h),he.mono ?_⟩
   rintro e W3 (⟨rfl,hJ3,_⟩ | ⟨rfl,q,hx⟩)
   ·gi_wp2
    go_end0
    exact ⟨⟨_,rfl⟩,.inl ⟨_,rfl,by simpa using hJ3⟩⟩
   ·gi_wp2
    go_end0
    exact ⟨⟨_,rfl⟩,.inr ⟨_,trivial,hx⟩⟩
  | _=>cases hd1
theorem vars_stops (n n₀:Nat) (F:Nat→Prop) (hFn:∀ b,F b→b < n₀) (T:Ty) (w:World) (v0 v1 v2:Value) (Bt:Nat) (hf:T.fit) (hle:n₀≤w.heap.size) (hBt:Bt < w.heap.size)
  (hrep:∀ (j:Nat) (v:Value) (d:D),#[v0,v1,v2][j]? = some v→T.d[j]? = some d→RepD w F v d) (hB:∀ (i:Nat) (v:Value),#[v0,v1,v2][i]? = some v→w.cell? ⟨Bt,i,none⟩=some v) :
  SeqStopsK Fence.wide n Tryz.prog 62 #[.pointer (some ⟨Bt,0,none⟩)] (fun x:List UInt8=>#[Value.string ⟨x.toArray⟩]) (Below n₀) (fun ys=>ys=T.vars) (fun _=>True) T.vars.length w:=by
 intro l J Jx W hW hJ hJx hY h0
 refine vars1_in n l n₀ T.vars.length F hFn J Jx (abides_none hJ) (fun m pre x W1 h1 h2=>?_) T W v0 v1 v2 Bt hf (Nat.le_trans hle hW.size) (fun j v d hv hd=>(hrep j v d hv hd).mono fun y hy=>⟨hy,?_⟩) h0 (Nat.le_refl _) (fun i v hv=>?_)
 ·obtain ⟨fn,tmps,assign,body,hy,hR⟩:=hY pre x W1 h1 h2
  exact ⟨fn,tmps,assign,body,hy,⟨hR.1,fun c cs _=>hR.2 c cs (fun d h=>by cases h)⟩⟩
 ·exact hW.block y (Nat.lt_of_lt_of_le (hFn y hy) hle)
 ·exact (hW.cell (p:=⟨Bt,i,none⟩) hBt).trans (hB i v hv)
end Go.Vm
end

section
namespace Go.Vm
open Go.Proofs Go.RowKit Go.Shelf
attribute [local go_sem] Oper.semAt_some
@[reducible] def Ty.v:Ty→V
 | .mk k n l=>.agg [.d false (.int .i64 k),.d false (.str n),.d false (.sl 3 (dL l))]
theorem Ty.open {w:World} {F:Nat→Prop} {base:Nat} {σ:Nat→Option Loc} {v:Value} {T:Ty} (h:RepV w F base σ v T.v) :
  ∃ v0 v1 v2,v=.agg #[v0,v1,v2]∧(∀ (j:Nat) (x:Value) (d:D),#[v0,v1,v2][j]? = some x→T.d[j]? = some d→RepD w F x d)∧∃ (k:Int) (s:ByteArray) (a:Option Addr) (len cap:Nat),v0=.int .i64 k∧v1=.string s∧v2=.slice a len cap:=by
 obtain ⟨k,nm,ls⟩:=T
 cases h with
 | agg cs _ h1 h2 h3=>
  obtain ⟨l⟩:=cs
  match l,h1 with
  | [a,b,c],_=>
   have ra:=h2 0 a _ rfl rfl
   have rb:=h2 1 b _ rfl rfl
   have rc:=h2 2 c _ rfl rfl
   have e0:=ra.int_inv
   obtain ⟨s,e1,_⟩:=rb.str_inv
   have rc':RepD w F c (.sl 3 (dL ls)):=by cases rc with | d _ _ _ h=>exact h
   obtain ⟨ad,cap,e2,_⟩:=rows_open rc'
   refine ⟨a,b,c,rfl,fun j x d hx hd=>?_,_,_,_,_,_,e0,e1,e2⟩
   match j,hx,hd with
   | 0,hx,hd=>simp [Ty.d] at hx hd;subst hx;subst hd;cases ra with | d _ _ _ h=>exact h
   | 1,hx,hd=>simp [Ty.d] at hx hd;subst hx;subst hd;cases rb with | d _ _ _ h=>exact h
   | 2,hx,hd=>simp [Ty.d] at hx hd;subst hx;subst hd;exact rc'
   | j+3,hx,hd=>simp at hx
variable {K:Cx} {P:Program}
theorem Ty.reps {w:World} {F:Nat→Prop} {base:Nat} {σ:Nat→Option Loc} {T:Ty} {v0 v1 v2:Value} (hrep:∀ (j:Nat) (x:Value) (d:D),#[v0,v1,v2][j]? = some x→T.d[j]? = some d→RepD w F x d)
  (ho:∃ (k:Int) (s:ByteArray) (a:Option Addr) (len cap:Nat),v0=.int .i64 k∧v1=.string s∧v2=.slice a len cap):RepV w F base σ (.agg #[v0,v1,v2]) T.v:=by
 obtain ⟨k,s,a,len,cap,rfl,rfl,rfl⟩:=ho
 obtain ⟨k',nm,ls⟩:=T
 refine .agg _ _ rfl (fun j x y hx hy=>?_) (fun x hx=>?_)
 ·match j,hx,hy with
  | 0,hx,hy=>simp at hx hy;subst hx;subst hy;exact .d _ _ _ (hrep 0 _ _ rfl rfl)
  | 1,hx,hy=>simp at hx hy;subst hx;subst hy;exact .d _ _ _ (hrep 1 _ _ rfl rfl)
  | 2,hx,hy=>simp at hx hy;subst hx;subst hy;exact .d _ _ _ (hrep 2 _ _ rfl rfl)
  | j+3,hx,hy=>simp at hx
 ·simp only [List.mem_toArray,List.mem_cons,List.not_mem_nil,or_false] at hx
  rcases hx with rfl | rfl | rfl <;> rfl
theorem glob_below {w W:World} {F:Nat→Prop} {G:Nat→Option (List D)} (hF:∀ b,F b→b < w.heap.size) (hb:Below w.heap.size w W) (hG:GlobRel w F G):GlobRel W F G:=
 hG.mono fun b h=>⟨h,hb.block b (hF b h)⟩
def plainD:V→Option D
 | .d _ x=>some x
 | .fs _ k r=>some (.sl k r)
 | _=>none
theorem plainD_rep {w:World} {F:Nat→Prop} {base:Nat} {σ:Nat→Option Loc} {q:Value} {v:V} {d:D} (h:RepV w F base σ q v) (hp:plainD v=some d):RepD w F q d:=by
 have col_F:∀ {c:Bool} {b:Nat},col F base c b→F b:=fun {c b} h=>by
  cases c with
  | false=>exact h
  | true=>exact h.1
 cases h with
 | d c _ x h=>
  simp only [plainD,Option.some.injEq] at hp
  subst hp
  exact h.mono fun b hb=>⟨col_F hb,rfl⟩
 | fs c a len k rows h=>
  simp only [plainD,Option.some.injEq] at hp
  subst hp
  exact h.mono fun b hb=>⟨col_F hb,rfl⟩
 | _=>simp [plainD] at hp
theorem cell_far {W:World} {b i j:Nat} {v:Value} (h:i≠j):(W.setCell ⟨b,i,none⟩ v).cell? ⟨b,j,none⟩=W.cell? ⟨b,j,none⟩:=World.cell?_setCell_other _ _ _ _ (by intro e;simp at e;try exact h e)
theorem cell_three {W:World} {b:Nat} {x y z x' y' z':Value} (c0:W.cell? ⟨b,0,none⟩=some x) (c1:W.cell? ⟨b,1,none⟩=some y) (c2:W.cell? ⟨b,2,none⟩=some z) {W':World} (hW:W'=((W.setCell ⟨b,0,none⟩ x').setCell ⟨b,1,none⟩ y').setCell ⟨b,2,none⟩ z') :
  W'.cell? ⟨b,0,none⟩=some x'∧W'.cell? ⟨b,1,none⟩=some y'∧W'.cell? ⟨b,2,none⟩=some z':=by
 subst hW
 refine ⟨?_,?_,?_⟩
 ·rw [cell_far (by decide),cell_far (by decide),World.cell?_setCell_same' _ _ _ (by rw [c0];rfl)]
 ·rw [cell_far (by decide),World.cell?_setCell_same' _ _ _ (by rw [cell_far (by decide),c1];rfl)]
 ·rw [World.cell?_setCell_same' _ _ _ (by rw [cell_far (by decide),cell_far (by decide),c2];rfl)]
theorem canon_ret {tmps:Array Value} {W:World} {b:Nat} {x y z:Value} {e:Int} (ht2:tmps.getD 2 undef=.pointer (some ⟨b,0,none⟩)) (ht3:tmps.getD 3 undef=.int .i64 e)
  (c0:W.cell? ⟨b,0,none⟩=some x) (c1:W.cell? ⟨b,1,none⟩=some y) (c2:W.cell? ⟨b,2,none⟩=some z):(results Tryz.f37 tmps).run Tryz.prog W=.ok (.tuple #[.agg #[x,y,z],.int .i64 e]) W:=by
 rw [results_cell_tmp rfl,ht2,ht3]
 simp [loadVar,go_sem,c0,c1,c2]
 trace_state
set_option maxRecDepth 100000 in
set_option maxHeartbeats 2000000 in
theorem canon_bad (hK:K.Sound Tryz.prog) (T:Ty) (e:Int) (he:e≠0) {cw:Bool} (hw:K.call 47 [T.v]=some (.d cw (.int .i64 e),[])):PureCall Tryz.prog K.glob 37 [T.v] (.tup [.agg [.d false (.int .i64 0),.d false (.str []),.d false (.sl 3 [])],.d false (.int .i64 e)]) []:=by
 intro w F vals hF hG hR
 obtain ⟨l⟩:=vals
 obtain ⟨h1,h2⟩:=hR
 match l,h1 with
 | [v],_=>
  obtain ⟨v0,v1,v2,rfl,hrep,ho⟩:=Ty.open (h2 0 v _ rfl rfl)
  obtain ⟨k,s,a,len,cap,rfl,rfl,rfl⟩:=id ho
  have hwr:=(hK.pure _ _ _ _ hw).2
  clear h2
  obtain ⟨n,hn⟩:∃ n:Nat,3≤n:=⟨3,Nat.le_refl _⟩
  refine (callsIn_wide (n:=n)).1 (callsIn_of_wp Tryz.func37 rfl trivial ?_ rfl)
  simp only [Tryz.ntmps37,List.size_toArray,List.length_cons,List.length_nil,Nat.reduceAdd,Nat.reduceSub,Array.replicate_succ,Array.replicate_zero,List.push_toArray,List.append_toArray,List.nil_append,List.cons_append]
  gi_wp2
  have hb2:Below w.heap.size w ((w.alloc (.cells #[.int .i64 k,.string s,.slice a len cap] 24)).alloc (.cells #[.int .i64 0,.string ByteArray.empty,.slice none 0 0] 24)):=((Below.refl _ w).alloc (Nat.le_refl _) _).alloc (by simp) _
  refine ⟨trivial,fun h=>(by cases h),(callsIn_wide.2 (hwr _ F _ (fun b hb=>Nat.lt_of_lt_of_le (hF b hb) hb2.size) (glob_below hF hb2 hG) ⟨rfl,fun j x y hx hy=>?_⟩)).mono ?_⟩
  ·match j,hx,hy with
   | 0,hx,hy=>
    simp at hx hy
    subst hx;subst hy
    exact Ty.reps (fun j x d hx hd=>(hrep j x d hx hd).mono fun y hy=>⟨hy,hb2.block y (hF y hy)⟩) ho
   | j+1,hx,hy=>simp at hx
  ·rintro e' W3 ⟨v,F',σ',rfl,hb3,_,hv,_⟩
   obtain rfl:=hv.int_inv
   have hk2:W3.heap[w.heap.size+1]? = some (.cells #[.int .i64 0,.string ByteArray.empty,.slice none 0 0] 24):=by
    rw [hb3.block (w.heap.size+1) (by simp),← World.size_alloc w (.cells #[.int .i64 k,.string s,.slice a len cap] 24)]
    exact World.alloc_heap_new _ _
   have c20:W3.cell? ⟨w.heap.size+1,0,none⟩=some (.int .i64 0):=by simp [World.cell?,hk2]
   have c21:W3.cell? ⟨w.heap.size+1,1,none⟩=some (.string ByteArray.empty):=by simp [World.cell?,hk2]
   have c22:W3.cell? ⟨w.heap.size+1,2,none⟩=some (.slice none 0 0):=by simp [World.cell?,hk2]
   have f20:W3.frozen? ⟨w.heap.size+1,0,none⟩=false:=by simp [World.frozen?,hk2]
   have f21:W3.frozen? ⟨w.heap.size+1,1,none⟩=false:=by simp [World.frozen?,hk2]
   have f22:W3.frozen? ⟨w.heap.size+1,2,none⟩=false:=by simp [World.frozen?,hk2]
   have he':(e != 0)=true:=by simpa using he
   gi_wp2
   refine bodyPost_ret (v:=.tuple #[.agg #[.int .i64 0,.string ByteArray.empty,.slice none 0 0],.int .i64 e]) ?_ rfl ?_
   ·obtain ⟨d0,d1,d2⟩:=cell_three (x':=.int .i64 0) (y':=.string { data:=#[] }) (z':=.slice none 0 0) c20 c21 c22 rfl
    exact canon_ret (b:=w.heap.size+1) rfl rfl d0 d1 d2
   ·have hb4:Below w.heap.size w W3:=hb2.trans (hb3.mono hb2.size)
    have hb5:=((hb4.setCell (p:=⟨w.heap.size+1,0,none⟩) (by simp) (.int .i64 0)).setCell (p:=⟨w.heap.size+1,1,none⟩) (by simp) (.string { data:=#[] })).setCell (p:=⟨w.heap.size+1,2,none⟩) (by simp) (.slice none 0 0)
    exact ⟨_,F,fun _=>none,rfl,hb5,fun b hb=>.inl hb,.tup _ _ rfl (fun j x y hx hy=>by
     match j,hx,hy with
     | 0,hx,hy=>
      simp at hx hy
      subst hx;subst hy
      refine .agg _ _ rfl (fun j x y hx hy=>?_) (fun x hx=>?_)
      ·match j,hx,hy with
       | 0,hx,hy=>simp at hx hy;subst hx;subst hy;exact .int
       | 1,hx,hy=>simp at hx hy;subst hx;subst hy;exact .str (s:=ByteArray.empty)
       | 2,hx,hy=>simp at hx hy;subst hx;subst hy;exact .d _ _ _ (.sl0 _ _ _ (fun _=>rfl))
       | j+3,hx,hy=>simp at hx
      ·simp only [List.mem_toArray,List.mem_cons,List.not_mem_nil,or_false] at hx
       rcases hx with rfl | rfl | rfl <;> rfl
     | 1,hx,hy=>simp at hx hy;subst hx;subst hy;exact .int
     | j+2,hx,hy=>simp at hx),⟨fun b blk h=>by simp [indexed,look] at h,fun b b' l l' h=>(by cases h),fun b l h=>(by cases h),fun b hb=>Nat.lt_of_lt_of_le (hF b hb) hb5.size⟩⟩
theorem setCell_far {W:World} {b i D:Nat} {v:Value} (h:b≠D):(W.setCell ⟨b,i,none⟩ v).heap[D]? = W.heap[D]?:=by
 exact Below.heap_setCell W ⟨b,i,none⟩ v D (fun e=>h e.symm)
theorem put_cell {W:World} {b i D:Nat} {o:Obj} (h:b≠D):(W.putObj D o).cell? ⟨b,i,none⟩=W.cell? ⟨b,i,none⟩:=World.cell?_of_block (World.putObj_heap_other h)
end Go.Vm
end

section
namespace Go.Vm
open Go.Proofs Go.RowKit Go.Shelf
attribute [local go_sem] Oper.semAt_some
variable {K:Cx}
set_option maxRecDepth 100000 in
set_option maxHeartbeats 2000000 in
theorem canon_all (hK:K.Sound Tryz.prog) (T:Ty) (hf:T.fit) (hv:T.vars.length≤1000000) (h49:K49 K) {cw:Bool} (hw:K.call 47 [T.v]=some (.d cw (.int .i64 0),[])) {x y z:D} {x' y' z':V} {mv:List Nat} (hr:K.eff 50 [T.v,.map 0] [.map (byE (dealt T.vars []))]=some (.agg [x',y',z'],[.map (byE (dealt T.vars []))],mv)) (px:plainD x'=some x) (py:plainD y'=some y) (pz:plainD z'=some z):PureCall Tryz.prog K.glob 37 [T.v] (.tup [.agg [.d false x,.d false y,.d false z],.d false (.int .i64 0)]) []:=by
 intro w F vals hF hG hR
 obtain ⟨l⟩:=vals
 obtain ⟨h1,h2⟩:=hR
 match l,h1 with
 | [v],_=>
  obtain ⟨v0,v1,v2,rfl,hrep,ho⟩:=Ty.open (h2 0 v _ rfl rfl)
  obtain ⟨k,s,a,len,cap,rfl,rfl,rfl⟩:=id ho
  have hwr:=(hK.pure _ _ _ _ hw).2
  clear h2
  obtain ⟨n,hn⟩:∃ n:Nat,3≤n:=⟨3,Nat.le_refl _⟩
  refine (callsIn_wide (n:=n)).1 (callsIn_of_wp_marks Tryz.func37 rfl trivial ?_ rfl)
  simp only [Tryz.ntmps37,List.size_toArray,List.length_cons,List.length_nil,Nat.reduceAdd,Nat.reduceSub,Array.replicate_succ,Array.replicate_zero,List.push_toArray,List.append_toArray,List.nil_append,List.cons_append]
  gi_wp2
  have hb2:Below w.heap.size w ((w.alloc (.cells #[.int .i64 k,.string s,.slice a len cap] 24)).alloc (.cells #[.int .i64 0,.string ByteArray.empty,.slice none 0 0] 24)):=((Below.refl _ w).alloc (Nat.le_refl _) _).alloc (by simp) _
  refine ⟨trivial,fun h=>(by cases h),(callsIn_wide.2 (hwr _ F _ (fun b hb=>Nat.lt_of_lt_of_le (hF b hb) hb2.size) (glob_below hF hb2 hG) ⟨rfl,fun j x y hx hy=>?_⟩)).mono ?_⟩
  ·match j,hx,hy with
   | 0,hx,hy=>
    simp at hx hy
    subst hx;subst hy
    exact Ty.reps (fun j x d hx hd=>(hrep j x d hx hd).mono fun y hy=>⟨hy,hb2.block y (hF y hy)⟩) ho
   | j+1,hx,hy=>simp at hx
  ·rintro e' W3 ⟨v,F',σ',rfl,hb3,_,hvv,_⟩
   obtain rfl:=hvv.int_inv
   have hk1:W3.heap[w.heap.size]? = some (.cells #[.int .i64 k,.string s,.slice a len cap] 24):=by
    rw [hb3.block w.heap.size (by simp;omega)]
    exact ((Below.refl _ (w.alloc (.cells #[.int .i64 k,.string s,.slice a len cap] 24))).alloc (Nat.le_refl _) _).block w.heap.size (by simp) |>.trans (World.alloc_heap_new _ _)
   have hk2:W3.heap[w.heap.size+1]? = some (.cells #[.int .i64 0,.string ByteArray.empty,.slice none 0 0] 24):=by
    rw [hb3.block (w.heap.size+1) (by simp),← World.size_alloc w (.cells #[.int .i64 k,.string s,.slice a len cap] 24)]
    exact World.alloc_heap_new _ _
   have c10:W3.cell? ⟨w.heap.size,0,none⟩=some (.int .i64 k):=by simp [World.cell?,hk1]
   have c11:W3.cell? ⟨w.heap.size,1,none⟩=some (.string s):=by simp [World.cell?,hk1]
   have c12:W3.cell? ⟨w.heap.size,2,none⟩=some (.slice a len cap):=by simp [World.cell?,hk1]
   have c20:W3.cell? ⟨w.heap.size+1,0,none⟩=some (.int .i64 0):=by simp [World.cell?,hk2]
   have c21:W3.cell? ⟨w.heap.size+1,1,none⟩=some (.string ByteArray.empty):=by simp [World.cell?,hk2]
   have c22:W3.cell? ⟨w.heap.size+1,2,none⟩=some (.slice none 0 0):=by simp [World.cell?,hk2]
   have hmm:∀ (t:TypeId) (w:World),(Instr.makeMap t none).run Tryz.prog w=.ok (.map (some w.heap.size)) (w.alloc (.map #[] 0)):=fun t w=>rfl
   have hs1:w.heap.size+2≤W3.heap.size:=by have:=hb3.size;simpa using this
   have b35:Below W3.heap.size W3 ((W3.alloc (.map #[] 0)).alloc (.cells #[.map (some W3.heap.size)] 74)):=((Below.refl _ W3).alloc (Nat.le_refl _) _).alloc (by simp) _
   have e10:=(b35.cell (p:=⟨w.heap.size,0,none⟩) (by simp;omega)).trans c10
   have e11:=(b35.cell (p:=⟨w.heap.size,1,none⟩) (by simp;omega)).trans c11
   have e12:=(b35.cell (p:=⟨w.heap.size,2,none⟩) (by simp;omega)).trans c12
   gi_wp2
   refine ⟨trivial,fun h=>(by cases h),(vars_in (n - 1) _ _ _ _ ⟨_,_,_,_,_,rfl,rfl,rfl⟩).mono ?_⟩
   rintro e' W6 ⟨rfl,hW6⟩
   have b56:Below ((W3.alloc (.map #[] 0)).alloc (.cells #[.map (some W3.heap.size)] 74)).heap.size ((W3.alloc (.map #[] 0)).alloc (.cells #[.map (some W3.heap.size)] 74)) W6:=by
    rw [hW6];exact (Below.refl _ _).alloc (Nat.le_refl _) _
   have hsz6:W6.heap.size=W3.heap.size+3:=by rw [hW6];simp
   have bk (i:Nat):W6.cell? ⟨W3.heap.size+2,i,none⟩=(#[.int .i64 k,.string s,.slice a len cap]:Array Value)[i]?:=by
    rw [hW6]
    have hq:((W3.alloc (.map #[] 0)).alloc (.cells #[.map (some W3.heap.size)] 74)).heap.size=W3.heap.size+2:=by simp
    rw [← hq]
    simp only [World.cell?,World.alloc_heap_new]
    match i with
    | 0=>rfl
    | 1=>rfl
    | 2=>rfl
    | i+3=>simp
   have held6:HeldN W3.heap.size (W3.heap.size+1) [] W6:=by
    refine ⟨⟨#[],0,?_,rfl,fun i e p he hp=>by simp at he⟩,74,?_⟩
    ·rw [b56.block _ (by simp;omega),((Below.refl _ (W3.alloc (.map #[] 0))).alloc (Nat.le_refl _) _).block _ (by simp)]
     exact World.alloc_heap_new _ _
    ·rw [b56.block _ (by simp)]
     have:(W3.alloc (.map #[] 0)).heap.size=W3.heap.size+1:=by simp
     rw [← this];exact World.alloc_heap_new _ _
   clear hW6
   gi_wp2
   have hb06:Below w.heap.size w W6:=(hb2.trans (hb3.mono hb2.size)).trans ((b35.mono (by omega)).trans (b56.mono (by simp;omega)))
   have hF6:∀ b,F b→b < W6.heap.size:=fun b hb=>Nat.lt_of_lt_of_le (hF b hb) hb06.size
   have hrep6:∀ (j:Nat) (x:Value) (d:D),#[Value.int .i64 k,Value.string s,Value.slice a len cap][j]? = some x→T.d[j]? = some d→RepD W6 F x d:=fun j x d hx hd=>(hrep j x d hx hd).mono fun y hy=>⟨hy,hb06.block y (hF y hy)⟩
   refine wpIn_rangeFunc_ownG rfl (Nat.le_trans (by decide) hn) (gf:=62) (lb:=#[.pointer (some ⟨W3.heap.size+2,0,none⟩)]) rfl trivial (enters_of Tryz.func62 (by kernel_rfl) rfl)
    (vars_stops (n - 1) w.heap.size F hF T W6 _ _ _ (W3.heap.size+2) hf hb06.size (by omega) hrep6 (fun i v hv=>(bk i).trans hv))
    belowK_t (belowK_b hb06.size) (Below.refl _ _) (fun _=>rfl)
    (fun pre W=>Below w.heap.size W6 W∧(∀ j,j < W6.heap.size→j≠W3.heap.size→j≠W3.heap.size+1→W.heap[j]? = W6.heap[j]?)∧HeldN W3.heap.size (W3.heap.size+1) (dealt pre []) W) (fun _ _ _=>False) ?hI (fun _ _ _ _ _ hs _ _=>hs) ⟨Below.refl _ _,fun _ _ _ _=>rfl,held6⟩ (fun x=>{ tmps:=#[.agg #[.int .i64 k,.string s,.slice a len cap],.pointer (some ⟨w.heap.size,0,none⟩),.pointer (some ⟨w.heap.size+1,0,none⟩),.int .i64 0,.int .i64 0,.pointer (some ⟨W3.heap.size+1,0,none⟩),.string ⟨x.toArray⟩,undef,undef,.agg #[.int .i64 k,.string s,.slice a len cap],.int .i64 0,.int .i64 0,.bool false,undef,undef,.map (some W3.heap.size),.agg #[.int .i64 k,.string s,.slice a len cap],.func (.func 62) #[] #[.pointer (some ⟨W3.heap.size+2,0,none⟩)],.string ⟨x.toArray⟩,undef,undef,undef,undef,undef,undef,undef,undef,undef,undef,undef,undef,undef,undef,undef,undef,undef],defers:=[] }) ?assign ?body ?done ?stop
   case hI=>
    rintro pre A B row ⟨hs,hu,hh⟩ hg hr
    have hle:w.heap.size≤W6.heap.size:=hb06.size
    have hAB:Below W6.heap.size A B:=by
     refine (Below.refl W6.heap.size A).grown hg ?_ (fun k e=>(hr k e).1)
     exact hs.size
    refine ⟨hs.trans (hAB.mono hle),fun j h1 h2 h3=>(hAB.block j h1).trans (hu j h1 h2 h3),?_⟩
    obtain ⟨⟨es,ck,e1,e2⟩,T',e3⟩:=hh
    exact ⟨⟨es,ck,(hAB.block _ (by omega)).trans e1,maprel_names e2⟩,T',(hAB.block _ (by omega)).trans e3⟩
   case assign=>
    intro l x W K hK
    gi_wp2
    exact hK
   case body=>
    rintro l pre x W ⟨hs,hu,hh⟩ hlt
    have hsz:=hs.size
    refine wpIn_mono (round_in hK h49 _ (by kernel_rfl) (by kernel_rfl) _ W F W3.heap.size (W3.heap.size+1) (dealt pre []) x (by have:=dealt_len pre [];simp at this;omega) hh (fun b hb=>⟨by have:=hF6 b hb;omega,by have:=hF b hb;omega,by have:=hF b hb;omega⟩) (glob_below hF (hb06.trans hs) hG) rfl rfl rfl rfl) ?_
    rintro e a' W' ⟨rfl,hfr,hh'⟩
    rw [← dealt_snoc] at hh'
    refine ⟨⟨hfr.size,fun j o h1 h2 _=>?_⟩,⟨hfr.os,hfr.tape,hfr.output,hfr.size,fun j h=>?_⟩,?_,fun j h1 h2 h3=>?_,hh'⟩
    ·rw [hfr.block j (Array.getElem?_eq_some_iff.1 h2).1 (fun b hx=>by rcases hx with ⟨_,hx⟩ | ⟨_,hx⟩ <;> omega)]
     exact h2
    ·exact hfr.block j (by omega) (fun b hx=>by rcases hx with ⟨_,hx⟩ | ⟨_,hx⟩ <;> omega)
    ·exact hs.trans ⟨hfr.os,hfr.tape,hfr.output,hfr.size,fun j h=>hfr.block j (by omega) (fun b hx=>by rcases hx with ⟨_,hx⟩ | ⟨_,hx⟩ <;> omega)⟩
    ·rw [hfr.block j (by omega) (fun b hx=>by rcases hx with ⟨_,hx⟩ | ⟨_,hx⟩ <;> omega)]
     exact hu j h1 h2 h3
   case stop=>
    rintro D c pre W _ _ h _
    exact h.elim
   case done=>
    rintro D xs W hD rfl ⟨hbW,hu,⟨es,ck,h4,hmr⟩,T5,h5⟩ hDD
    have hq:((W3.alloc (.map #[] 0)).alloc (.cells #[.map (some W3.heap.size)] 74)).heap.size=W3.heap.size+2:=by simp
    have g10:=(World.cell?_of_block (a:=⟨w.heap.size,0,none⟩) (hu w.heap.size (by omega) (by omega) (by omega))).trans ((b56.cell (p:=⟨w.heap.size,0,none⟩) (by simp;omega)).trans e10)
    have g11:=(World.cell?_of_block (a:=⟨w.heap.size,1,none⟩) (hu w.heap.size (by omega) (by omega) (by omega))).trans ((b56.cell (p:=⟨w.heap.size,1,none⟩) (by simp;omega)).trans e11)
    have g12:=(World.cell?_of_block (a:=⟨w.heap.size,2,none⟩) (hu w.heap.size (by omega) (by omega) (by omega))).trans ((b56.cell (p:=⟨w.heap.size,2,none⟩) (by simp;omega)).trans e12)
    have h2:W.heap[w.heap.size+1]? = some (.cells #[.int .i64 0,.string ByteArray.empty,.slice none 0 0] 24):=by
     rw [hu _ (by omega) (by omega) (by omega),b56.block _ (by omega),b35.block _ (by omega)]
     exact hk2
    have g5:W.cell? ⟨W3.heap.size+1,0,none⟩=some (.map (some W3.heap.size)):=by simp [World.cell?,h5]
    have hwW:Below w.heap.size w W:=hb06.trans hbW
    gi_wp2
    have hef:=(hK.eff _ _ _ _ _ _ hr).2 W F (fun b=>if b=0 then some ⟨W3.heap.size,0,0⟩ else none) #[.agg #[.int .i64 k,.string s,.slice a len cap],.map (some W3.heap.size)] (glob_below hF hwW hG) ?H ?R
    case H=>
     refine ⟨fun b blk hb=>?_,fun b b' l l' h1 h2 _=>?_,fun b l hb=>?_,fun b hb=>Nat.lt_of_lt_of_le (hF b hb) hwW.size⟩
     ·have:b=0∧blk=.map (byE (dealt T.vars [])):=by
       simp only [indexed,List.zipIdx_cons,List.zipIdx_nil,List.map_cons,List.map_nil,look] at hb
       split at hb
       ·rename_i h;exact ⟨h.symm,(Option.some.inj hb).symm⟩
       ·cases hb
      obtain ⟨rfl,rfl⟩:=this
      exact .inr (.inl ⟨_,es,ck,_,rfl,rfl,.inl ⟨h4,rfl,by_tagged _⟩,rfl,trivial,maprel_names hmr⟩)
     ·split at h1
      ·split at h2
       ·omega
       ·cases h2
      ·cases h1
     ·split at hb
      ·rename_i h0
       subst h0
       obtain rfl:=Option.some.inj hb
       exact ⟨Nat.zero_lt_one,fun hf=>by have h:=hF W3.heap.size hf;omega,.inr ⟨_,rfl,rfl⟩,by have:=hbW.size;show W3.heap.size < W.heap.size;omega⟩
      ·cases hb
    case R=>
     refine ⟨rfl,fun j x y hx hy=>?_⟩
     match j,hx,hy with
     | 0,hx,hy=>
      simp at hx hy
      subst hx;subst hy
      exact Ty.reps (fun j x d hx hd=>(hrep j x d hx hd).mono fun y hy=>⟨hy,hwW.block y (hF y hy)⟩) ho
     | 1,hx,hy=>
      simp at hx hy
      subst hx;subst hy
      exact RepV.map 0 ⟨W3.heap.size,0,0⟩ (if_pos rfl)
     | j+2,hx,hy=>simp at hx
    refine ⟨trivial,fun h=>(by cases h),(callsIn_wide.2 hef).mono ?_⟩
    rintro e' W7 ⟨v,F',σ',rfl,hfr,_,hFo,hvv,hhr,_⟩
    have hbw7:Below w.heap.size w W7:=hwW.trans ⟨hfr.os,hfr.tape,hfr.output,hfr.size,fun b hb=>hfr.block b (by have:=hwW.size;omega) (fun j ⟨l,hl,hlb⟩=>by
     simp only at hl
     split at hl
     ·obtain rfl:=Option.some.inj hl
      simp only at hlb
      omega
     ·cases hl)⟩
    have h7:W7.heap[w.heap.size+1]? = some (.cells #[.int .i64 0,.string ByteArray.empty,.slice none 0 0] 24):=by
     rw [hfr.block _ (by have:=hbW.size;omega) (fun j ⟨l,hl,hlb⟩=>by
      simp only at hl
      split at hl
      ·obtain rfl:=Option.some.inj hl
       simp only at hlb
       omega
      ·cases hl)]
     exact h2
    have c20:W7.cell? ⟨w.heap.size+1,0,none⟩=some (.int .i64 0):=by simp [World.cell?,h7]
    have c21:W7.cell? ⟨w.heap.size+1,1,none⟩=some (.string ByteArray.empty):=by simp [World.cell?,h7]
    have c22:W7.cell? ⟨w.heap.size+1,2,none⟩=some (.slice none 0 0):=by simp [World.cell?,h7]
    have f20:W7.frozen? ⟨w.heap.size+1,0,none⟩=false:=by simp [World.frozen?,h7]
    have f21:W7.frozen? ⟨w.heap.size+1,1,none⟩=false:=by simp [World.frozen?,h7]
    have f22:W7.frozen? ⟨w.heap.size+1,2,none⟩=false:=by simp [World.frozen?,h7]
    have hd7:W7.heap[D]? = some (.deferred (some [])):=by
     rw [hfr.block D (by have:=(Array.getElem?_eq_some_iff.1 hDD).1;omega) (fun j ⟨l,hl,hlb⟩=>by
      simp only at hl
      split at hl
      ·obtain rfl:=Option.some.inj hl
       simp only at hlb
       omega
      ·cases hl)]
     exact hDD
    cases hvv with
    | agg cs _ b1 a2 a3=>
     obtain ⟨lc⟩:=cs
     match lc,b1 with
     | [q0,q1,q2],_=>
      have s0:∀ (ad:Addr) (w:World),(store ad q0).run Tryz.prog w=stored Tryz.prog w ad q0 .plain:=fun ad w=>run_store Tryz.prog w ad q0 _ (a3 q0 (by simp))
      have s1:∀ (ad:Addr) (w:World),(store ad q1).run Tryz.prog w=stored Tryz.prog w ad q1 .plain:=fun ad w=>run_store Tryz.prog w ad q1 _ (a3 q1 (by simp))
      have s2:∀ (ad:Addr) (w:World),(store ad q2).run Tryz.prog w=stored Tryz.prog w ad q2 .plain:=fun ad w=>run_store Tryz.prog w ad q2 _ (a3 q2 (by simp))
      gi_wp2
      have hd8:(((W7.setCell ⟨w.heap.size+1,0,none⟩ q0).setCell ⟨w.heap.size+1,1,none⟩ q1).setCell ⟨w.heap.size+1,2,none⟩ q2).heap[D]? = some (.deferred (some [])):=by
       have hne:w.heap.size+1≠D:=by omega
       rw [setCell_far hne,setCell_far hne,setCell_far hne]
       exact hd7
      refine ⟨by simp,.inl ⟨_,_,rfl,run_takeDeferred hd8,?_⟩⟩
      have hb8:=((hbw7.setCell (p:=⟨w.heap.size+1,0,none⟩) (by simp) q0).setCell (p:=⟨w.heap.size+1,1,none⟩) (by simp) q1).setCell (p:=⟨w.heap.size+1,2,none⟩) (by simp) q2
      have hb9:=hb8.grown (grownBy_putObj' _ D (.deferred none)) hb8.size (fun k e=>by cases e;omega)
      obtain ⟨d0,d1,d2⟩:=cell_three (x':=q0) (y':=q1) (z':=q2) c20 c21 c22 rfl
      refine ⟨_,canon_ret (b:=w.heap.size+1) (x:=q0) (y:=q1) (z:=q2) rfl rfl ?_ ?_ ?_,_,F',fun _=>none,rfl,?_,fun b hb=>(hFo b hb).imp id (fun h=>Nat.le_trans hwW.size h),.tup _ _ rfl (fun j x y hx hy=>?_),⟨fun b blk h=>by simp [indexed,look] at h,fun b b' l l' h=>(by cases h),fun b l h=>(by cases h),fun b hb=>Nat.lt_of_lt_of_le (hhr.fro b hb) ?_⟩⟩
      ·exact (put_cell (by omega)).trans d0
      ·exact (put_cell (by omega)).trans d1
      ·exact (put_cell (by omega)).trans d2
      ·exact hb9
      ·match j,hx,hy with
       | 0,hx,hy=>
        simp at hx hy
        subst hx;subst hy
        have hfar:∀ b,F' b→b≠w.heap.size+1∧b≠D:=fun b hb=>by
         have hDW:=(Array.getElem?_eq_some_iff.1 hDD).1
         have:=hbW.size
         rcases hFo b hb with h | h
         ·have:=hF b h;omega
         ·omega
        have hkeep:∀ b,F' b→F' b∧((((W7.setCell ⟨w.heap.size+1,0,none⟩ q0).setCell ⟨w.heap.size+1,1,none⟩ q1).setCell ⟨w.heap.size+1,2,none⟩ q2).putObj D (.deferred none)).heap[b]? = W7.heap[b]?:=fun b hb=>by
         obtain ⟨n1,n2⟩:=hfar b hb
         refine ⟨hb,?_⟩
         rw [World.putObj_heap_other n2,setCell_far (Ne.symm n1),setCell_far (Ne.symm n1),setCell_far (Ne.symm n1)]
        have hone:∀ {q:Value} {v:V} {d:Vm.D},RepV W7 F' W.heap.size σ' q v→plainD v=some d→RepV ((((W7.setCell ⟨w.heap.size+1,0,none⟩ q0).setCell ⟨w.heap.size+1,1,none⟩ q1).setCell ⟨w.heap.size+1,2,none⟩ q2).putObj D (.deferred none)) F' w.heap.size (fun _=>none) q (.d false d):=fun {q v d} h hp=>.d _ _ _ ((plainD_rep h hp).mono fun b hb=>hkeep b hb)
        refine .agg _ _ rfl (fun j x y hx hy=>?_) a3
        match j,hx,hy with
        | 0,hx,hy=>simp at hx hy;subst hx;subst hy;exact hone (a2 0 _ _ rfl rfl) px
        | 1,hx,hy=>simp at hx hy;subst hx;subst hy;exact hone (a2 1 _ _ rfl rfl) py
        | 2,hx,hy=>simp at hx hy;subst hx;subst hy;exact hone (a2 2 _ _ rfl rfl) pz
        | j+3,hx,hy=>simp at hx
       | 1,hx,hy=>simp at hx hy;subst hx;subst hy;exact .int
       | j+2,hx,hy=>simp at hx
      ·have h70:=(((Below.refl 0 W7).setCell (p:=⟨w.heap.size+1,0,none⟩) (Nat.zero_le _) q0).setCell (p:=⟨w.heap.size+1,1,none⟩) (Nat.zero_le _) q1).setCell (p:=⟨w.heap.size+1,2,none⟩) (Nat.zero_le _) q2
       exact (h70.grown (grownBy_putObj' _ D (.deferred none)) (Nat.zero_le _) (fun k e=>Nat.zero_le _)).size
end Go.Vm
end
