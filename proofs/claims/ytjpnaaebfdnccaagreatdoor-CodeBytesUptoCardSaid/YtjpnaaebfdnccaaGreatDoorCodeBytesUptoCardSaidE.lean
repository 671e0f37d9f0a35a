/-
  Parts of the proof: The document's Check: names, sizes, heads. code.checkCode. code.checkCode: the depths; the whole. The document's Check: numbers, depths. code.Check, the whole. The document's Check is what code.Check comes to. CodeEnds: what it says that Check lets a code pass: one depth for each instruction. CodeEnds: a way through a code. CodeEnds: its three turns, and the whole. CodeChecks evaluated. The document's writer of codes: a table's text. The document's bytes of codes: names, instructions, globals. The document's bytes of codes: a table. Package code's bytes: a name, an instruction. Equations of pieces under a guard, of memory that becomes data. Equations of pieces that overlap. Package code's bytes: a table. Package code's bytes: a table, its loops and the whole. code.Bytes evaluated. CodeBytes: what comes out is written over. CodeBytes evaluated: its last part. CodeBytes evaluated: grown bytes. CodeBytes evaluated: its middle part. CodeBytes evaluated. slothlaw17.awake: Check, Print, Read, Bytes, Load of the table of id. slothlaw17.awake: Load, and the whole. code.number, reach, stacked, forms. What is known of the functions that CodeEnds runs through, put together. What is known of the functions that CodeChecks runs through, put together. CodeBytes: what is known, put together; the law. Conditions: none.
-/
import Derived.Test.YtjpnaaebfdnccaaGreatDoorCodeBytesUptoCardSaidD
import Derived.Test.YtjpnaaebfdnccaaGreatDoorChecked
set_option linter.unusedVariables false
set_option linter.unusedSimpArgs false

section
namespace Go.Vm
/- 'sloth/slothref17.big' -/
def f38_L0:C:= (.seq (.seq (.reg [⟨[],[(10,(.bin .lss (.sl 4) (.len false (.ld 1 false (.fa 1 (.sl 1))))))],[],none,[1,3,4],5,[],[],[]⟩]) (.cond (.sl 10) .skip (.seq (.tidy 0 [1,3]) (.exit 0)))) (.seq (.block 1 (.seq (.reg [⟨[],[(5,(.len false (.ld 1 false (.fa 2 (.ia 3 (.ld 1 false (.fa 1 (.sl 1))) (.sl 4))))))],[],none,[1,3,4],8,[],[],[]⟩]) (.seq (.seq (.reg [⟨[],[(21,(.bin .gtr (.sl 5) (.int .i64 8000)))],[],none,[1,3,4,5],2,[],[],[]⟩]) (.cond (.sl 21) (.seq (.reg [⟨[],[(2,(.bool true))],[],none,[],1,[],[],[]⟩]) (.seq (.tidy 0 [2]) .ret)) .skip)) (.reg [⟨[],[(3,(.bin .add (.sl 3) (.sl 5)))],[],none,[1,4],4,[],[],[]⟩])))) (.reg [⟨[],[(4,(.bin .add (.sl 4) (.int .i64 1)))],[],none,[1,3],3,[],[],[]⟩])))
def f38:Fun:=⟨ (.seq (.reg [⟨[(1,.box (.sl 0))],[],[(.bool false)],none,[1],2,[],[],[]⟩]) (.seq (.reg [⟨[],[(3,(.int .i64 0))],[],none,[1],1,[],[],[]⟩]) (.seq (.seq (.reg [⟨[],[(4,(.int .i64 0))],[],none,[1,3],1,[],[],[]⟩]) (.block 0 (.seq (.tidy 0 [1,3,4]) (.loop (.seq (.tidy 0 [1,3,4]) f38_L0))))) (.seq (.reg [⟨[],[(2,(.or (.or (.bin .gtr (.len false (.ld 1 false (.fa 0 (.sl 1)))) (.int .i64 2000)) (.bin .gtr (.len false (.ld 1 false (.fa 1 (.sl 1)))) (.int .i64 2000))) (.bin .gtr (.sl 3) (.int .i64 200000))))],[],none,[],15,[],[],[]⟩]) (.seq (.tidy 0 [2]) .ret))))), [(.sl 2)],false⟩
theorem j3n:q09 Go.Proofs.Tryz.prog 38 0 1 f38=true:=by kernel_rfl
/- 'sloth/slothref17.shapes' -/
def f39_L0:C:= (.seq (.seq (.reg [⟨[],[(40,(.bin .lss (.sl 5) (.sl 3)))],[],none,[0,3,5],3,[],[],[]⟩]) (.cond (.sl 40) .skip (.seq (.tidy 0 [0,3]) (.exit 2)))) (.seq (.block 3 (.seq (.reg [⟨[],[(53,(.bin .eql (.ld 1 false (.fa 0 (.ia 2 (.sl 0) (.sl 5)))) (.ld 1 false (.fa 0 (.ia 2 (.sl 0) (.sl 3))))))],[],none,[0,3,5],11,[[],[],[1,0],[0,1,2],[2,1,0,3],[],[],[6,5],[5,6,7],[7,6,5,8],[8,5,6,7,9,3,0,1,2,4]],[],[]⟩]) (.cond (.sl 53) (.seq (.reg [⟨[],[(2,(.int .i64 172))],[],none,[],1,[],[],[]⟩]) (.seq (.tidy 0 [2]) .ret)) .skip))) (.reg [⟨[],[(5,(.bin .add (.sl 5) (.int .i64 1)))],[],none,[0,3],3,[],[],[]⟩])))
def f39_L1:C:= (.seq (.seq (.reg [⟨[],[(11,(.bin .lss (.sl 3) (.len false (.sl 0))))],[],none,[0,3],4,[],[],[]⟩]) (.cond (.sl 11) .skip (.seq (.tidy 0 [0]) (.exit 0)))) (.seq (.block 1 (.seq (.reg [⟨[],[(4,(.call 83 (.cons (.ld 1 false (.fa 0 (.ia 2 (.sl 0) (.sl 3)))) .nil)))],[],none,[0,3],7,[],[],[]⟩]) (.seq (.seq (.reg [⟨[],[(37,(.or (.or (.un .not (.sl 4)) (.bin .lss (.ld 1 false (.fa 1 (.ia 2 (.sl 0) (.sl 3)))) (.int .i64 0))) (.bin .gtr (.ld 1 false (.fa 1 (.ia 2 (.sl 0) (.sl 3)))) (.int .i64 8))))],[],none,[0,3],18,[],[],[]⟩]) (.cond (.sl 37) (.seq (.reg [⟨[],[(2,(.int .i64 172))],[],none,[],1,[],[],[]⟩]) (.seq (.tidy 0 [2]) .ret)) .skip)) (.seq (.reg [⟨[],[(5,(.int .i64 0))],[],none,[0,3],1,[],[],[]⟩]) (.block 2 (.seq (.tidy 0 [0,3,5]) (.loop (.seq (.tidy 0 [0,3,5]) f39_L0)))))))) (.reg [⟨[],[(3,(.bin .add (.sl 3) (.int .i64 1)))],[],none,[0],3,[],[],[]⟩])))
def f39_L2:C:= (.seq (.seq (.reg [⟨[],[(63,(.bin .lss (.sl 7) (.len false (.sl 6))))],[],none,[0,6,7],4,[],[],[]⟩]) (.cond (.sl 63) .skip (.seq (.tidy 0 []) (.exit 4)))) (.seq (.block 5 (.seq (.reg [⟨[],[(74,(.eqs true true [2,0] (.ld 2 true (.ia 2 (.sl 0) (.sl 7))) (.ld 2 true (.ia 2 (.sl 6) (.sl 7)))))],[],none,[0,6,7],9,[[],[],[1,0],[0,1,2],[],[],[5,4],[4,5,6],[6,5,4,7,2,1,0,3]],[],[]⟩]) (.cond (.sl 74) (.seq (.reg [⟨[],[(2,(.int .i64 172))],[],none,[],1,[],[],[]⟩]) (.seq (.tidy 0 [2]) .ret)) .skip))) (.reg [⟨[],[(7,(.bin .add (.sl 7) (.int .i64 1)))],[],none,[0,6],3,[],[],[]⟩])))
def f39:Fun:=⟨ (.seq (.reg [⟨[],[],[(.int .i64 0)],none,[0],1,[],[],[]⟩]) (.seq (.seq (.reg [⟨[],[(3,(.int .i64 0))],[],none,[0],1,[],[],[]⟩]) (.block 0 (.seq (.tidy 0 [0,3]) (.loop (.seq (.tidy 0 [0,3]) f39_L1))))) (.seq (.reg [⟨[(54,.callo 78 .nil)],[(6,(.sl 54))],[],none,[0],2,[],[],[]⟩]) (.seq (.seq (.reg [⟨[],[(59,(.bin .lss (.len false (.sl 0)) (.len false (.sl 6))))],[],none,[0,6],5,[],[],[]⟩]) (.cond (.sl 59) (.seq (.reg [⟨[],[(2,(.int .i64 172))],[],none,[],1,[],[],[]⟩]) (.seq (.tidy 0 [2]) .ret)) .skip)) (.seq (.seq (.reg [⟨[],[(7,(.int .i64 0))],[],none,[0,6],1,[],[],[]⟩]) (.block 4 (.seq (.tidy 0 [0,6,7]) (.loop (.seq (.tidy 0 [0,6,7]) f39_L2))))) (.seq (.reg [⟨[],[(2,(.int .i64 0))],[],none,[],1,[],[],[]⟩]) (.seq (.tidy 0 [2]) .ret))))))), [(.sl 2)],false⟩
theorem j3m:q09 Go.Proofs.Tryz.prog 39 0 1 f39=true:=by kernel_rfl
/- 'sloth/slothref17.heads' -/
def f40_L0:C:= (.seq (.seq (.reg [⟨[],[(38,(.bin .lss (.sl 5) (.sl 3)))],[],none,[0,3,5],3,[],[],[]⟩]) (.cond (.sl 38) .skip (.seq (.tidy 0 [0,3]) (.exit 2)))) (.seq (.block 3 (.seq (.reg [⟨[],[(51,(.bin .eql (.ld 1 false (.fa 0 (.ia 3 (.sl 0) (.sl 5)))) (.ld 1 false (.fa 0 (.ia 3 (.sl 0) (.sl 3))))))],[],none,[0,3,5],11,[[],[],[1,0],[0,1,2],[2,1,0,3],[],[],[6,5],[5,6,7],[7,6,5,8],[8,5,6,7,9,3,0,1,2,4]],[],[]⟩]) (.cond (.sl 51) (.seq (.reg [⟨[],[(2,(.int .i64 172))],[],none,[],1,[],[],[]⟩]) (.seq (.tidy 0 [2]) .ret)) .skip))) (.reg [⟨[],[(5,(.bin .add (.sl 5) (.int .i64 1)))],[],none,[0,3],3,[],[],[]⟩])))
def f40_L1:C:= (.seq (.seq (.reg [⟨[],[(9,(.bin .lss (.sl 3) (.len false (.sl 0))))],[],none,[0,3],4,[],[],[]⟩]) (.cond (.sl 9) .skip (.seq (.tidy 0 []) (.exit 0)))) (.seq (.block 1 (.seq (.reg [⟨[],[(4,(.call 83 (.cons (.ld 1 false (.fa 0 (.ia 3 (.sl 0) (.sl 3)))) .nil)))],[],none,[0,3],7,[],[],[]⟩]) (.seq (.seq (.reg [⟨[],[(35,(.or (.or (.un .not (.sl 4)) (.bin .lss (.ld 1 false (.fa 1 (.ia 3 (.sl 0) (.sl 3)))) (.int .i64 0))) (.bin .gtr (.ld 1 false (.fa 1 (.ia 3 (.sl 0) (.sl 3)))) (.int .i64 24))))],[],none,[0,3],18,[],[],[]⟩]) (.cond (.sl 35) (.seq (.reg [⟨[],[(2,(.int .i64 172))],[],none,[],1,[],[],[]⟩]) (.seq (.tidy 0 [2]) .ret)) .skip)) (.seq (.reg [⟨[],[(5,(.int .i64 0))],[],none,[0,3],1,[],[],[]⟩]) (.block 2 (.seq (.tidy 0 [0,3,5]) (.loop (.seq (.tidy 0 [0,3,5]) f40_L0)))))))) (.reg [⟨[],[(3,(.bin .add (.sl 3) (.int .i64 1)))],[],none,[0],3,[],[],[]⟩])))
def f40:Fun:=⟨ (.seq (.reg [⟨[],[],[(.int .i64 0)],none,[0],1,[],[],[]⟩]) (.seq (.seq (.reg [⟨[],[(3,(.int .i64 0))],[],none,[0],1,[],[],[]⟩]) (.block 0 (.seq (.tidy 0 [0,3]) (.loop (.seq (.tidy 0 [0,3]) f40_L1))))) (.seq (.reg [⟨[],[(2,(.int .i64 0))],[],none,[],1,[],[],[]⟩]) (.seq (.tidy 0 [2]) .ret)))), [(.sl 2)],false⟩
theorem j3l:q09 Go.Proofs.Tryz.prog 40 0 1 f40=true:=by kernel_rfl
/- 'sloth/slothref17.Name' -/
def f83_L0:C:= (.seq (.seq (.reg [⟨[],[(7,(.bin .lss (.sl 3) (.len true (.sl 0))))],[],none,[0,3],4,[],[],[]⟩]) (.cond (.sl 7) .skip (.seq (.tidy 0 [0]) (.exit 0)))) (.seq (.block 1 (.seq (.reg [⟨[],[(19,(.or (.bin .lss (.ix (.sl 0) (.sl 3)) (.int .u8 32)) (.bin .gtr (.ix (.sl 0) (.sl 3)) (.int .u8 126))))],[],none,[0,3],10,[],[],[]⟩]) (.cond (.sl 19) (.seq (.reg [⟨[],[(2,(.bool false))],[],none,[],1,[],[],[]⟩]) (.seq (.tidy 0 [2]) .ret)) .skip))) (.reg [⟨[],[(3,(.bin .add (.sl 3) (.int .i64 1)))],[],none,[0],3,[],[],[]⟩])))
def f83:Fun:=⟨ (.seq (.reg [⟨[],[],[(.bool false)],none,[0],1,[],[],[]⟩]) (.seq (.seq (.reg [⟨[],[(3,(.int .i64 0))],[],none,[0],1,[],[],[]⟩]) (.block 0 (.seq (.tidy 0 [0,3]) (.loop (.seq (.tidy 0 [0,3]) f83_L0))))) (.seq (.reg [⟨[],[(2,(.and (.bin .geq (.len true (.sl 0)) (.int .i64 1)) (.bin .leq (.len true (.sl 0)) (.int .i64 4096))))],[],none,[],9,[],[],[]⟩]) (.seq (.tidy 0 [2]) .ret)))), [(.sl 2)],false⟩
theorem j2Q:q09 Go.Proofs.Tryz.prog 83 0 1 f83=true:=by kernel_rfl
theorem z3R(K:Cx)(s:List UInt8)(hs:(s.length:Int)≤9223372036854775807):∀(k i:Nat),i+k=s.length→
    lp K 0 [0,3] f83_L0 ⟨[(0,.d false (.str s)),(3,.d false (.int .i64 i))],[],0,[]⟩ =
    some (if(s.drop i).all q4I then(.exit 0,⟨[(0,.d false (.str s))],[],0,[]⟩) else(.ret,⟨[(2,.d false (.bool false))],[],0,[]⟩)):=by
  intro k
  induction k with
  |zero=>
    intro i hi
    rw[q0K f83_L0.eq_1,List.drop_of_length_le (by omega)]
    simp(disch:=first|decide|omega|(simp only[LN];first|done|omega)) only[SV,SW,Nat.reduceBEq]
  |succ k ih=>
    intro i hi
    have ih:=ih (i+1) (by omega)
    have hcast:((i+1:Nat):Int)=(i:Int)+1:=by omega
    rw[hcast] at ih
    rw[q0K f83_L0.eq_1,q0O (by omega:i<s.length),List.all_cons]
    generalize hb:nth s (i:Int)=b
    have h0:0≤(b.toNat:Int):=by omega
    by_cases g1:(b.toNat:Int)<32
    · have:q4I b=false:=by simp [q4I];omega
      rw[this]
      simp(disch:=first|decide|omega|(simp only[LN];first|done|omega)) only[SV,SW,Nat.reduceBEq,hb]
    · by_cases g2:126<(b.toNat:Int)
      · have:q4I b=false:=by simp [q4I];omega
        rw[this]
        simp(disch:=first|decide|omega|(simp only[LN];first|done|omega)) only[SV,SW,Nat.reduceBEq,hb]
      · have:q4I b=true:=by simp [q4I];omega
        rw[this]
        simp(disch:=first|decide|omega|(simp only[LN];first|done|omega)) only[SV,SW,Nat.reduceBEq,hb]
        exact ih
theorem z87(K:Cx)(s:List UInt8)(hs:(s.length:Int)≤9223372036854775807):q0B K f83 [.d false (.str s)] []=some (.d false (.bool (q1w s)),[],[]):=by
  have hlp:=z3R K s hs s.length 0 (by omega)
  simp only[Int.natCast_zero,List.drop_zero] at hlp
  unfold q1w
  by_cases h:s.all q4I=true
  · rw[if_pos h] at hlp
    rw[h]
    simp(disch:=first|decide|omega|(simp only[LN];first|done|omega)) only[SV,SW,f83,Nat.reduceBEq,hlp,q0b]
  · rw[if_neg h] at hlp
    rw[Bool.not_eq_true] at h
    rw[h]
    simp(disch:=first|decide|omega|(simp only[LN];first|done|omega)) only[SV,SW,f83,Nat.reduceBEq,hlp,q0b]
theorem z4i(K:Cx):q0B K f78 [] []=some (.bsl 0 0 7,[.dat true 2 (givenS.map q0g)],[]):=by
  simp(disch:=first|decide|omega|(simp only[LN];first|done|omega)) only[SV,SW,f78,Nat.reduceAdd,q0b,hNew,V.forget,V.drop1,V.ref0,V.newR,q0c,givenS,q0n]
theorem z7q(K:Cx)(t:Table)(hl:(t.globals.length:Int)≤9223372036854775807)(hb:∀ g∈t.globals,(g.code.length:Int)≤9223372036854775807):∀(k i:Nat)(n v:Int),i+k=t.globals.length→v=IntKind.i64.wrap n→
    lp K 0 [1,3,4] f38_L0 ⟨[(1,.ptr 0 0 0),(3,.d false (.int .i64 v)),(4,.d false (.int .i64 i))],[(0,.mix 2 [[.d false (.sl 2 (t.shapes.map q0g)),.d false (.sl 3 (t.globals.map q0G))]])],1,[]⟩ =
    some (match q25 (t.globals.drop i) n with
     |none=>(.ret,⟨[(2,.d false (.bool true))],[],0,[]⟩)
     |some m=>(.exit 0,⟨[(1,.ptr 0 0 0),(3,.d false (.int .i64 (IntKind.i64.wrap m)))],[(0,.mix 2 [[.d false (.sl 2 (t.shapes.map q0g)),.d false (.sl 3 (t.globals.map q0G))]])],1,[]⟩)):=by
  intro k
  induction k with
  |zero=>
    intro i n v hi hv
    rw[q0K f38_L0.eq_1,List.drop_of_length_le (by omega)]
    simp(disch:=first|decide|omega|(simp only[LN];first|done|omega)) only[SV,SW,hv,Nat.reduceBEq,q25]
  |succ k ih=>
    intro i n v hi hv
    have hlt:i<t.globals.length:=by omega
    have hcast:((i+1:Nat):Int)=(i:Int)+1:=by omega
    rw[q0K f38_L0.eq_1,q0O hlt,q25]
    have hbg:=hb _ (q2w (l:=t.globals) (i:=(i:Int)) (by omega) (by omega))
    by_cases g1:8000<((nth t.globals i).code.length:Int)
    · rw[if_pos g1]
      clear hv
      simp(disch:=first|decide|omega|(simp only[LN];first|done|omega)) only[SV,SW,Nat.reduceBEq,q0D]
    · rw[if_neg g1]
      have ih:=ih (i+1) (n+(nth t.globals i).code.length) (IntKind.i64.wrap (v+(nth t.globals i).code.length)) (by omega) (by rw[hv,z2k])
      rw[hcast] at ih
      clear hv
      simp(disch:=first|decide|omega|(simp only[LN];first|done|omega)) only[SV,SW,Nat.reduceBEq,q0D]
      exact ih
theorem j1v(K:Cx)(t:Table)(hl:(t.globals.length:Int)≤9223372036854775807)(hs:(t.shapes.length:Int)≤9223372036854775807)(hb:∀ g∈t.globals,(g.code.length:Int)≤9223372036854775807) :
    q0B K f38 [.agg [.d false (.sl 2 (t.shapes.map q0g)),.d false (.sl 3 (t.globals.map q0G))]] []=some (.d false (.bool (q37 t)),[],[]):=by
  have hlp:=z7q K t hl hb t.globals.length 0 0 0 (by omega) (by decide)
  simp only[Int.natCast_zero,List.drop_zero] at hlp
  unfold q37
  cases h:q25 t.globals 0 with
  |none=>
    rw[h] at hlp
    simp only at hlp
    simp(disch:=first|decide|omega|(simp only[LN];first|done|omega)) only[SV,SW,f38,Nat.reduceAdd,Nat.reduceBEq,hlp,q0b]
  |some n=>
    have hle:=z0K _ _ _ h
    rw[h] at hlp
    simp only at hlp
    simp only
    by_cases hg:2000<(t.globals.length:Int)
    · clear hle
      simp(disch:=first|decide|omega|(simp only[LN];first|done|omega)) only[SV,SW,f38,Nat.reduceAdd,Nat.reduceBEq,hlp,q0b]
    · rw[q3U (by omega) (by omega)] at hlp
      clear hg
      simp(disch:=first|decide|omega|(simp only[LN];first|done|omega)) only[SV,SW,f38,Nat.reduceAdd,Nat.reduceBEq,hlp,q0b]
def K44(K:Cx):Prop:=∀ s:List UInt8,(s.length:Int)≤9223372036854775807→K.call 83 [.d false (.str s)]=some (.d false (.bool (q1w s)),[])
def K45(K:Cx):Prop:=K.call 78 []=some (.bsl 0 0 7,[.dat true 2 (givenS.map q0g)])
theorem z3C(K:Cx)(l:List Shape)(hl:(l.length:Int)≤9223372036854775807)(i:Nat)(hi:i<l.length):∀(k j:Nat),j+k=i→
    lp K 0 [0,3,5] f39_L0 ⟨[(0,.d false (.sl 2 (l.map q0g))),(3,.d false (.int .i64 i)),(5,.d false (.int .i64 j))],[],0,[]⟩ =
    some (if(((l.take i).drop j).map (·.name)).contains (nth l i).name then(.ret,⟨[(2,.d false (.int .i64 172))],[],0,[]⟩) else(.exit 2,⟨[(0,.d false (.sl 2 (l.map q0g))),(3,.d false (.int .i64 i))],[],0,[]⟩)):=by
  intro k
  induction k with
  |zero=>
    intro j hj
    rw[q0K f39_L0.eq_1,List.drop_of_length_le (by rw[List.length_take];omega)]
    have:j=i:=by omega
    subst this
    simp(disch:=first|decide|omega|(simp only[LN];first|done|omega)) only[SV,SW,Nat.reduceBEq]
  |succ k ih=>
    intro j hj
    have ih:=ih (j+1) (by omega)
    have hcast:((j+1:Nat):Int)=(j:Int)+1:=by omega
    rw[hcast] at ih
    have hjl:j<(l.take i).length:=by rw[List.length_take];omega
    have hnt:nth (l.take i) (j:Int)=nth l (j:Int):=by
      unfold nth
      rw[List.getD_eq_getElem?_getD,List.getD_eq_getElem?_getD,List.getElem?_take]
      rw[if_pos (by omega)]
    rw[q0K f39_L0.eq_1,q0O hjl,hnt,List.map_cons,List.contains_cons]
    by_cases g:(nth l (j:Int)).name=(nth l (i:Int)).name
    · have e1:((nth l (i:Int)).name==(nth l (j:Int)).name)=true:=by simp [g]
      rw[e1]
      simp(disch:=first|decide|omega|(simp only[LN];first|done|omega)) only[SV,SW,Nat.reduceBEq,q0n,g]
    · have e1:((nth l (i:Int)).name==(nth l (j:Int)).name)=false:=by
        simp;exact fun h=>g h.symm
      have e2:decide ((nth l (j:Int)).name=(nth l (i:Int)).name)=false:=by simpa using g
      rw[e1]
      clear g
      simp(disch:=first|decide|omega|(simp only[LN];first|done|omega)) only[SV,SW,Nat.reduceBEq,q0n,e2,Bool.false_or]
      exact ih
def q6h(l:List Shape)(r:Bool):Ex×S:=if r then(.exit 0,⟨[(0,.d false (.sl 2 (l.map q0g)))],[],0,[]⟩) else(.ret,⟨[(2,.d false (.int .i64 172))],[],0,[]⟩)
theorem q20(t):q6h t false=(.ret,⟨[(2,.d false (.int .i64 172))],[],0,[]⟩):=rfl
theorem q6H(l):q6h l true=(.exit 0,⟨[(0,.d false (.sl 2 (l.map q0g)))],[],0,[]⟩):=rfl
theorem q96{α:Type} [Inhabited α](l:List α)(i:Nat)(h:i<l.length):l.take i++[nth l (i:Int)]=l.take (i+1):=by
  rw[List.take_add_one,List.getElem?_eq_getElem h]
  congr
  simp [nth,h]
theorem z0h(K:Cx)(h44:K44 K)(l:List Shape)(hl:(l.length:Int)≤9223372036854775807)(hn:∀ s∈l,(s.name.length:Int)≤9223372036854775807):∀(k i:Nat),i+k=l.length→
    lp K 0 [0,3] f39_L1 ⟨[(0,.d false (.sl 2 (l.map q0g))),(3,.d false (.int .i64 i))],[],0,[]⟩ =
    some (q6h l (q1j 8 ((l.drop i).map fun s=>(s.name,s.fields)) ((l.take i).map (·.name)))):=by
  intro k
  induction k with
  |zero=>
    intro i hi
    rw[q0K f39_L1.eq_1,List.drop_of_length_le (by omega)]
    simp only[List.map_nil,q1j]
    simp(disch:=first|decide|omega|(simp only[LN];first|done|omega)) only[SV,SW,Nat.reduceBEq,q6H]
  |succ k ih=>
    intro i hi
    have hcast:((i+1:Nat):Int)=(i:Int)+1:=by omega
    have hlt:i<l.length:=by omega
    have hnm:=hn _ (q2w (l:=l) (i:=(i:Int)) (by omega) (by omega))
    have hc:=h44 _ hnm
    have hw:=z3C K l hl i hlt i 0 (by omega)
    simp only[Int.natCast_zero,List.drop_zero] at hw
    have ih:=ih (i+1) (by omega)
    rw[hcast,←q96 l i hlt,List.map_append,List.map_cons,List.map_nil] at ih
    rw[q0K f39_L1.eq_1,q0O hlt]
    simp only[List.map_cons,q1j]
    generalize hs:nth l (i:Int)=s at hc hnm hw ih
    generalize q1w s.name=b1 at hc
    generalize List.contains (List.map (fun x=>x.name) (List.take i l)) s.name=b2 at hw
    clear hnm hn
    cases b1 with
    |false=>
      simp only[Bool.false_and]
      simp(disch:=first|decide|omega|(simp only[LN];first|done|omega)) only[SV,SW,Nat.reduceBEq,hs,q0n,q0c,hc,evUn,q20]
    |true=>
      by_cases g1:0≤s.fields
      · by_cases g2:s.fields≤8
        · have e1:decide (0≤s.fields)=true:=by simpa using g1
          have e2:decide (s.fields≤8)=true:=by simpa using g2
          cases b2 with
          |true=>
            simp only[Bool.not_true,Bool.and_false,Bool.false_and]
            rw[if_pos rfl] at hw
            simp(disch:=first|decide|omega|(simp only[LN];first|done|omega)) only[SV,SW,Nat.reduceBEq,hs,q0n,q0c,hc,evUn,hw,q20]
          |false=>
            simp only[e1,e2,Bool.not_false,Bool.and_self,if_true]
            rw[if_neg (by simp)] at hw
            simp(disch:=first|decide|omega|(simp only[LN];first|done|omega)) only[SV,SW,Nat.reduceBEq,hs,q0n,q0c,hc,evUn,hw]
            exact ih
        · have e2:decide (s.fields≤8)=false:=by simpa using g2
          simp only[e2,Bool.and_false]
          clear hw
          simp(disch:=first|decide|omega|(simp only[LN];first|done|omega)) only[SV,SW,Nat.reduceBEq,hs,q0n,q0c,hc,evUn,q20]
      · have e2:decide (0≤s.fields)=false:=by simpa using g1
        simp only[e2,Bool.and_false,Bool.false_and]
        clear hw
        simp(disch:=first|decide|omega|(simp only[LN];first|done|omega)) only[SV,SW,Nat.reduceBEq,hs,q0n,q0c,hc,evUn,q20]
def q9w(r:Bool):Ex×S:=if r then(.exit 4,⟨[],[],0,[]⟩) else(.ret,⟨[(2,.d false (.int .i64 172))],[],0,[]⟩)
theorem q6u:q9w false=(.ret,⟨[(2,.d false (.int .i64 172))],[],0,[]⟩):=rfl
theorem q8Y:q9w true=(.exit 4,⟨[],[],0,[]⟩):=rfl
theorem z33(K:Cx)(l:List Shape)(hl:(l.length:Int)≤9223372036854775807)(h7':7≤l.length):∀(k i:Nat),i+k=7→
    lp K 0 [0,6,7] f39_L2 ⟨[(0,.d false (.sl 2 (l.map q0g))),(6,.bsl 0 0 7),(7,.d false (.int .i64 i))],[(0,.dat true 2 (givenS.map q0g))],1,[]⟩ =
    some (q9w (q6v l k i)):=by
  have h7:givenS.length=7:=rfl
  intro k
  induction k with
  |zero=>
    intro i hi
    rw[q0K f39_L2.eq_1]
    simp only[q6v]
    simp(disch:=first|decide|omega|(simp only[LN];first|done|omega)) only[SV,SW,Nat.reduceBEq,q8Y]
  |succ k ih=>
    intro i hi
    have hcast:((i+1:Nat):Int)=(i:Int)+1:=by omega
    have ih:=ih (i+1) (by omega)
    rw[hcast] at ih
    rw[q0K f39_L2.eq_1]
    simp only[q6v]
    have g:i<l.length:=by omega
    generalize hs:nth l (i:Int)=s
    generalize hg:nth givenS (i:Int)=s'
    by_cases e1:s.name=s'.name
    · by_cases e2:s.fields=s'.fields
      · have e:s=s':=by cases s;cases s';simp at e1 e2;subst e1;subst e2;rfl
        rw[if_pos ⟨g,e⟩]
        subst e
        simp(disch:=first|decide|omega|(simp only[LN];first|done|omega)) only[SV,SW,Nat.reduceBEq,hs,q0n,Nat.reduceAdd,hg,q2H,q02,q1l]
        exact ih
      · rw[if_neg (fun h=>e2 (by rw[h.2]))]
        have d2:(s.fields==s'.fields)=false:=by simpa using e2
        clear e2
        simp(disch:=first|decide|omega|(simp only[LN];first|done|omega)) only[SV,SW,Nat.reduceBEq,hs,q0n,e1,Nat.reduceAdd,hg,q2H,q02,q1l,d2,q6u]
    · rw[if_neg (fun h=>e1 (by rw[h.2]))]
      have d1:decide (s.name=s'.name)=false:=by simpa using e1
      simp(disch:=first|decide|omega|(simp only[LN];first|done|omega)) only[SV,SW,Nat.reduceBEq,hs,q0n,Nat.reduceAdd,hg,q2H,q02,q1l,d1,q6u]
theorem z1R{l:List Shape}(h:l.length<7):q6v l 7 0=false:=by
  have key:∀(k i:Nat),i+k=7→l.length<7→i≤l.length→q6v l k i=false:=by
    intro k
    induction k with
    |zero=>intro i hi hl h2;omega
    |succ k ih=>
      intro i hi hl h2
      simp only[q6v]
      split
      · rename_i c;exact ih (i+1) (by omega) hl (by omega)
      · rfl
  exact key 7 0 rfl h (by omega)
def q5G(l:List Shape):Int:=if q1j 8 (l.map fun s=>(s.name,s.fields)) []=false then 172 else if q72 l=false then 172 else 0
theorem z1U(K:Cx)(h44:K44 K)(h45:K45 K)(l:List Shape)(hl:(l.length:Int)≤9223372036854775807)(hn:∀ s∈l,(s.name.length:Int)≤9223372036854775807) :
    q0B K f39 [.d false (.sl 2 (l.map q0g))] []=some (.d false (.int .i64 (q5G l)),[],[]):=by
  have l0:=z0h K h44 l hl hn l.length 0 (by omega)
  simp only[Int.natCast_zero,List.drop_zero,List.take_zero,List.map_nil] at l0
  unfold q5G
  unfold K45 at h45
  cases hn1:q1j 8 (l.map fun s=>(s.name,s.fields)) [] with
  |false=>
    rw[if_pos rfl]
    rw[hn1,q20] at l0
    simp(disch:=first|decide|omega|(simp only[LN];first|done|omega)) only[SV,SW,f39,Nat.reduceBEq,l0,q0b]
  |true=>
    rw[if_neg (by simp)]
    rw[hn1,q6H] at l0
    unfold q72
    by_cases h7:l.length<7
    · rw[z1R h7,if_pos rfl]
      have:(l.length:Int)<7:=by omega
      simp(disch:=first|decide|omega|(simp only[LN];first|done|omega)) only[SV,SW,f39,Nat.reduceBEq,l0,h45,V.new2,V.newR,V.shift,q0b]
    · have l1:=z33 K l hl (by omega) 7 0 rfl
      simp only[Int.natCast_zero] at l1
      have:7≤(l.length:Int):=by omega
      cases hh:q6v l 7 0 with
      |false=>
        rw[if_pos rfl]
        rw[hh,q6u] at l1
        simp(disch:=first|decide|omega|(simp only[LN];first|done|omega)) only[SV,SW,f39,Nat.reduceBEq,l0,h45,V.new2,V.newR,V.shift,l1,q0b]
      |true=>
        rw[if_neg (by simp)]
        rw[hh,q8Y] at l1
        simp(disch:=first|decide|omega|(simp only[LN];first|done|omega)) only[SV,SW,f39,Nat.reduceBEq,l0,h45,V.new2,V.newR,V.shift,l1,q0b]
theorem z1j(K:Cx)(l:List Glob)(hl:(l.length:Int)≤9223372036854775807)(i:Nat)(hi:i<l.length):∀(k j:Nat),j+k=i→
    lp K 0 [0,3,5] f40_L0 ⟨[(0,.d false (.sl 3 (l.map q0G))),(3,.d false (.int .i64 i)),(5,.d false (.int .i64 j))],[],0,[]⟩ =
    some (if(((l.take i).drop j).map (·.name)).contains (nth l i).name then(.ret,⟨[(2,.d false (.int .i64 172))],[],0,[]⟩) else(.exit 2,⟨[(0,.d false (.sl 3 (l.map q0G))),(3,.d false (.int .i64 i))],[],0,[]⟩)):=by
  intro k
  induction k with
  |zero=>
    intro j hj
    rw[q0K f40_L0.eq_1,List.drop_of_length_le (by rw[List.length_take];omega)]
    have:j=i:=by omega
    subst this
    simp(disch:=first|decide|omega|(simp only[LN];first|done|omega)) only[SV,SW,Nat.reduceBEq]
  |succ k ih=>
    intro j hj
    have ih:=ih (j+1) (by omega)
    have hcast:((j+1:Nat):Int)=(j:Int)+1:=by omega
    rw[hcast] at ih
    have hjl:j<(l.take i).length:=by rw[List.length_take];omega
    have hnt:nth (l.take i) (j:Int)=nth l (j:Int):=by
      unfold nth
      rw[List.getD_eq_getElem?_getD,List.getD_eq_getElem?_getD,List.getElem?_take]
      rw[if_pos (by omega)]
    rw[q0K f40_L0.eq_1,q0O hjl,hnt,List.map_cons,List.contains_cons]
    by_cases g:(nth l (j:Int)).name=(nth l (i:Int)).name
    · have e1:((nth l (i:Int)).name==(nth l (j:Int)).name)=true:=by simp [g]
      rw[e1]
      simp(disch:=first|decide|omega|(simp only[LN];first|done|omega)) only[SV,SW,Nat.reduceBEq,q0D,g]
    · have e1:((nth l (i:Int)).name==(nth l (j:Int)).name)=false:=by
        simp;exact fun h=>g h.symm
      have e2:decide ((nth l (j:Int)).name=(nth l (i:Int)).name)=false:=by simpa using g
      rw[e1]
      clear g
      simp(disch:=first|decide|omega|(simp only[LN];first|done|omega)) only[SV,SW,Nat.reduceBEq,q0D,e2,Bool.false_or]
      exact ih
def q71(r:Bool):Ex×S:=if r then(.exit 0,⟨[],[],0,[]⟩) else(.ret,⟨[(2,.d false (.int .i64 172))],[],0,[]⟩)
theorem q3x:q71 false=(.ret,⟨[(2,.d false (.int .i64 172))],[],0,[]⟩):=rfl
theorem q70:q71 true=(.exit 0,⟨[],[],0,[]⟩):=rfl
theorem z1P(K:Cx)(h44:K44 K)(l:List Glob)(hl:(l.length:Int)≤9223372036854775807)(hn:∀ s∈l,(s.name.length:Int)≤9223372036854775807):∀(k i:Nat),i+k=l.length→
    lp K 0 [0,3] f40_L1 ⟨[(0,.d false (.sl 3 (l.map q0G))),(3,.d false (.int .i64 i))],[],0,[]⟩ =
    some (q71 (q1j 24 ((l.drop i).map fun s=>(s.name,s.arity)) ((l.take i).map (·.name)))):=by
  intro k
  induction k with
  |zero=>
    intro i hi
    rw[q0K f40_L1.eq_1,List.drop_of_length_le (by omega)]
    simp only[List.map_nil,q1j]
    simp(disch:=first|decide|omega|(simp only[LN];first|done|omega)) only[SV,SW,Nat.reduceBEq,q70]
  |succ k ih=>
    intro i hi
    have hcast:((i+1:Nat):Int)=(i:Int)+1:=by omega
    have hlt:i<l.length:=by omega
    have hnm:=hn _ (q2w (l:=l) (i:=(i:Int)) (by omega) (by omega))
    have hc:=h44 _ hnm
    have hw:=z1j K l hl i hlt i 0 (by omega)
    simp only[Int.natCast_zero,List.drop_zero] at hw
    have ih:=ih (i+1) (by omega)
    rw[hcast,←q96 l i hlt,List.map_append,List.map_cons,List.map_nil] at ih
    rw[q0K f40_L1.eq_1,q0O hlt]
    simp only[List.map_cons,q1j]
    generalize hs:nth l (i:Int)=s at hc hnm hw ih
    generalize q1w s.name=b1 at hc
    generalize List.contains (List.map (fun x=>x.name) (List.take i l)) s.name=b2 at hw
    clear hnm hn
    cases b1 with
    |false=>
      simp only[Bool.false_and]
      simp(disch:=first|decide|omega|(simp only[LN];first|done|omega)) only[SV,SW,Nat.reduceBEq,hs,q0D,q0c,hc,evUn,q3x]
    |true=>
      by_cases g1:0≤s.arity
      · by_cases g2:s.arity≤24
        · have e1:decide (0≤s.arity)=true:=by simpa using g1
          have e2:decide (s.arity≤24)=true:=by simpa using g2
          cases b2 with
          |true=>
            simp only[Bool.not_true,Bool.and_false,Bool.false_and]
            rw[if_pos rfl] at hw
            simp(disch:=first|decide|omega|(simp only[LN];first|done|omega)) only[SV,SW,Nat.reduceBEq,hs,q0D,q0c,hc,evUn,hw,q3x]
          |false=>
            simp only[e1,e2,Bool.not_false,Bool.and_self,if_true]
            rw[if_neg (by simp)] at hw
            simp(disch:=first|decide|omega|(simp only[LN];first|done|omega)) only[SV,SW,Nat.reduceBEq,hs,q0D,q0c,hc,evUn,hw]
            exact ih
        · have e2:decide (s.arity≤24)=false:=by simpa using g2
          simp only[e2,Bool.and_false]
          clear hw
          simp(disch:=first|decide|omega|(simp only[LN];first|done|omega)) only[SV,SW,Nat.reduceBEq,hs,q0D,q0c,hc,evUn,q3x]
      · have e2:decide (0≤s.arity)=false:=by simpa using g1
        simp only[e2,Bool.and_false,Bool.false_and]
        clear hw
        simp(disch:=first|decide|omega|(simp only[LN];first|done|omega)) only[SV,SW,Nat.reduceBEq,hs,q0D,q0c,hc,evUn,q3x]
def q7Z(l:List Glob):Int:=if q1j 24 (l.map fun g=>(g.name,g.arity)) []=false then 172 else 0
theorem z6X(K:Cx)(h44:K44 K)(l:List Glob)(hl:(l.length:Int)≤9223372036854775807)(hn:∀ s∈l,(s.name.length:Int)≤9223372036854775807) :
    q0B K f40 [.d false (.sl 3 (l.map q0G))] []=some (.d false (.int .i64 (q7Z l)),[],[]):=by
  have l0:=z1P K h44 l hl hn l.length 0 (by omega)
  simp only[Int.natCast_zero,List.drop_zero,List.take_zero,List.map_nil] at l0
  unfold q7Z
  cases hn1:q1j 24 (l.map fun s=>(s.name,s.arity)) [] with
  |false=>
    rw[if_pos rfl]
    rw[hn1,q3x] at l0
    simp(disch:=first|decide|omega|(simp only[LN];first|done|omega)) only[SV,SW,f40,Nat.reduceBEq,l0,q0b]
  |true=>
    rw[if_neg (by simp)]
    rw[hn1,q70] at l0
    simp(disch:=first|decide|omega|(simp only[LN];first|done|omega)) only[SV,SW,f40,Nat.reduceBEq,l0,q0b]
end Go.Vm
end

section
namespace Go.Vm
def K40(K:Cx):Prop:=∀ op:Int,K.call 79 [.d false (.int .i64 op)]=some (z5v (q2D op) (decide (1≤op∧op<18)),[])
def K41(K:Cx):Prop:=∀(sh:List Shape)(gl:List Glob)(nm:List UInt8)(ar:Int)(cd:List Instr)(at_ n kind:Int),0≤kind∧kind≤8→
 K.call 80 [.agg [.d false (.sl 2 (sh.map q0g)),.d false (.sl 3 (gl.map q0G))],.agg [.d false (.str nm),.d false (.int .i64 ar),.d false (.sl 3 (cd.map q0C))],.d false (.int .i64 at_),.d false (.int .i64 n),.d false (.int .i64 kind)]
  = some (.d false (.int .i64 (q1S gl.length sh.length cd.length at_ n kind)),[])
def K42(K:Cx):Prop:=∀(sh:List Shape)(gl:List Glob)(op a b d:Int),1≤d∧d≤8000→(0≤a∧a≤9223372036854775807∨(op≠1∧op≠4∧op≠5∧op≠7∧op≠8))→(op=9∨op=10→0≤a∧a<sh.length∧0≤(nth sh a).fields∧(nth sh a).fields≤8)→
 K.call 81 [.agg [.d false (.sl 2 (sh.map q0g)),.d false (.sl 3 (gl.map q0G))],.agg [.d false (.int .i64 op),.d false (.int .i64 a),.d false (.int .i64 b)],.d false (.int .i64 d)]
  = some (.tup [.d false (.int .i64 (q03 sh ⟨op,a,b⟩ d).1),.d false (.bool (q03 sh ⟨op,a,b⟩ d).2)],[])
def K43(K:Cx):Prop:=∀(c:Bool)(Dp:List Int)(at_ d:Int)(n:Nat),0≤at_∧at_<Dp.length→n=Dp.length→
 K.eff 82 [.bsl 0 0 n,.d false (.int .i64 at_),.d false (.int .i64 d)] [.dat c 1 (Dp.map eInt)]=some (.d false (.bool (q2v Dp at_ d)),[.dat c 1 ((q1E Dp at_ d).map eInt)],[])
def q9l(sh:List Shape)(gl:List Glob)(nm:List UInt8)(ar:Int)(cd:List Instr)(r:Int):Ex×S:=if r=0 then(.exit 0,⟨[(2,.ptr 0 0 0),(3,.ptr 1 0 0)],[(0,.mix 2 [[.d false (.sl 2 (sh.map q0g)),.d false (.sl 3 (gl.map q0G))]]),(1,.mix 3 [[.d false (.str nm),.d false (.int .i64 ar),.d false (.sl 3 (cd.map q0C))]])],2,[]⟩)
   else(.ret,⟨[(4,.d false (.int .i64 r))],[],0,[]⟩)
theorem z0s(sh gl nm ar cd):q9l sh gl nm ar cd 0=(.exit 0,⟨[(2,.ptr 0 0 0),(3,.ptr 1 0 0)],[(0,.mix 2 [[.d false (.sl 2 (sh.map q0g)),.d false (.sl 3 (gl.map q0G))]]),(1,.mix 3 [[.d false (.str nm),.d false (.int .i64 ar),.d false (.sl 3 (cd.map q0C))]])],2,[]⟩):=rfl
theorem q5i(sh gl nm ar cd):q9l sh gl nm ar cd 172=(.ret,⟨[(4,.d false (.int .i64 172))],[],0,[]⟩):=rfl
theorem q7J(sh gl nm ar cd):q9l sh gl nm ar cd 174=(.ret,⟨[(4,.d false (.int .i64 174))],[],0,[]⟩):=rfl
theorem z5W(K:Cx)(h40:K40 K)(h41:K41 K)(sh:List Shape)(gl:List Glob)(nm:List UInt8)(ar:Int)(cd:List Instr)(hl:cd.length≤8000):∀(k i:Nat),i+k=cd.length→
  lp K 0 [2,3,20,21,22] f37_L0 ⟨[(2,.ptr 0 0 0),(3,.ptr 1 0 0),(20,.d false (.sl 3 (cd.map q0C))),(21,.d false (.int .i64 cd.length)),(22,.d false (.int .i64 i))],
   [(0,.mix 2 [[.d false (.sl 2 (sh.map q0g)),.d false (.sl 3 (gl.map q0G))]]),(1,.mix 3 [[.d false (.str nm),.d false (.int .i64 ar),.d false (.sl 3 (cd.map q0C))]])],2,[]⟩ =
  some (q9l sh gl nm ar cd (q3b gl.length sh.length cd.length cd k i)):=by
 intro k
 induction k with
 |zero=>
  intro i hi
  rw[q0K f37_L0.eq_1]
  simp(disch:=first|decide|omega|(simp only[LN];first|done|omega)) only[SV,SW,Nat.reduceBEq,reduceCtorEq,Nat.reduceAdd,q3b,z0s]
 |succ k ih=>
  intro i hi
  have hcast:((i+1:Nat):Int)=(i:Int)+1:=by omega
  have ih:=ih (i+1) (by omega)
  rw[hcast] at ih
  have hlt:i<cd.length:=by omega
  rw[q0K f37_L0.eq_1]
  simp only[q3b]
  generalize hx:nth cd (i:Int)=x
  have hc:=h40 x.op
  have hk:=z4d x.op
  unfold z5v at hc
  by_cases g:1≤x.op∧x.op<18
  ·have hd:decide (1≤x.op∧x.op<18)=true:=by simpa using g
   rw[hd] at hc
   have ha:=h41 sh gl nm ar cd i x.a (q2D x.op).2.1 hk.1
   have hb:=h41 sh gl nm ar cd i x.b (q2D x.op).2.2 hk.2
   have hs:q5L gl.length sh.length cd.length i x=(if q1S gl.length sh.length cd.length i x.a (q2D x.op).2.1=172∨q1S gl.length sh.length cd.length i x.b (q2D x.op).2.2=172 then 172 else if q1S gl.length sh.length cd.length i x.a (q2D x.op).2.1≠0∨q1S gl.length sh.length cd.length i x.b (q2D x.op).2.2≠0 then 174 else 0):=by
    simp only[q5L,if_pos g]
   rw[hs]
   have va:=q7K gl.length sh.length cd.length i x.a (q2D x.op).2.1
   have vb:=q7K gl.length sh.length cd.length i x.b (q2D x.op).2.2
   generalize q1S gl.length sh.length cd.length i x.a (q2D x.op).2.1=a at ha va
   generalize q1S gl.length sh.length cd.length i x.b (q2D x.op).2.2=b at hb vb
   clear hs hk
   rcases va with rfl|rfl|rfl <;> rcases vb with rfl|rfl|rfl
   ·simp(disch:=first|decide|omega|(simp only[LN];first|done|omega)) only[SV,SW,Nat.reduceBEq,Nat.reduceAdd,hx,q0h,lose,q0c,hc,evUn,ha,hb,reduceCtorEq,Int.reduceEq,ne_eq,not_true_eq_false]
    exact ih
   all_goals simp(disch:=first|decide|omega|(simp only[LN];first|done|omega)) only[SV,SW,Nat.reduceBEq,Nat.reduceAdd,hx,q0h,lose,q0c,hc,evUn,ha,hb,Int.reduceEq,ne_eq,not_true_eq_false,q5i,q7J]
  ·have hd:decide (1≤x.op∧x.op<18)=false:=by simpa using g
   rw[hd] at hc
   have hs:q5L gl.length sh.length cd.length i x=172:=by simp only[q5L,if_neg g]
   rw[hs]
   simp(disch:=first|decide|omega|(simp only[LN];first|done|omega)) only[SV,SW,Nat.reduceBEq,Nat.reduceAdd,hx,q0h,lose,q0c,hc,evUn,Int.reduceEq,q5i]
end Go.Vm
end

section
namespace Go.Vm
def z2Y(r:Int):Ex×S:=if r=0 then(.exit 2,⟨[],[],0,[]⟩) else(.ret,⟨[(4,.d false (.int .i64 r))],[],0,[]⟩)
theorem z2X:z2Y 0=(.exit 2,⟨[],[],0,[]⟩):=rfl
theorem q3l:z2Y 173=(.ret,⟨[(4,.d false (.int .i64 173))],[],0,[]⟩):=rfl
theorem q6A:z2Y 174=(.ret,⟨[(4,.d false (.int .i64 174))],[],0,[]⟩):=rfl
set_option maxHeartbeats 4000000 in
theorem z9t(K:Cx)(h42:K42 K)(h43:K43 K)(sh:List Shape)(gl:List Glob)(nm:List UInt8)(ar:Int)(cd:List Instr)(hl:cd.length≤8000)(hs:ShOk sh)(hn:∀ i:Nat,i<cd.length→NumOk sh.length cd.length i (nth cd i))(hw:∀ x∈cd,x.a≤9223372036854775807) :
   ∀(k i:Nat) (c:Bool) (Dp:List Int),i+k=cd.length→Dp.length=cd.length→DpOk Dp→
    lp K 0 [2,3,11,78,79,80] f37_L1 ⟨[(2,.ptr 0 0 0),(3,.ptr 1 0 0),(11,.bsl 2 0 cd.length),(78,.d false (.sl 3 (cd.map q0C))),(79,.d false (.int .i64 cd.length)),(80,.d false (.int .i64 i))],
      [(0,.mix 2 [[.d false (.sl 2 (sh.map q0g)),.d false (.sl 3 (gl.map q0G))]]),(1,.mix 3 [[.d false (.str nm),.d false (.int .i64 ar),.d false (.sl 3 (cd.map q0C))]]),(2,.dat c 1 (Dp.map eInt))],3,[]⟩ =
    some (z2Y (depL sh cd k i Dp)):=by
  intro k
  induction k with
  |zero=>
    intro i c Dp hi hD hok
    rw[q0K f37_L1.eq_1]
    simp(disch:=first|decide|omega|(simp only[LN];first|done|omega)) only[SV,SW,Nat.reduceBEq,depL,z2X]
  |succ k ih=>
    intro i c Dp hi hD hok
    have hcast:((i+1:Nat):Int)=(i:Int)+1:=by omega
    have hlt:i<cd.length:=by omega
    have hx0:=hn i hlt
    have hw0:=hw (nth cd i) (q2w (by omega) (by omega))
    have hdr:=hok (nth Dp i) (q2w (by omega) (by omega))
    rw[q0K f37_L1.eq_1]
    simp only[depL]
    generalize hx:nth cd (i:Int)=x at hx0 hw0
    generalize hd:nth Dp (i:Int)=d at hdr
    by_cases g0:d=0
    · subst g0
      rw[if_pos rfl]
      (try clear hj);(try clear ht);(try clear hok1);(try clear hok2);(try clear hn);(try clear hs);(try clear hok);(try clear hx0);(try clear hst);(try clear hxe);(try clear gt);(try clear n13);(try clear n16);(try clear n17);(try clear g0);(try clear hop);(try clear hw0);(try clear gg)
      simp(disch:=first|decide|omega|(simp only[LN];first|done|omega)) only[SV,SW,Nat.reduceBEq,Nat.reduceAdd,hx,q0h,lose,hd,q0V,q6A]
    rw[if_neg g0]
    have b0:(d==0)=false:=by simpa using g0
    have hrg0:=fun h=>q5D (d:=d) hs hx0 (by omega) h
    have hc:=h42 sh gl x.op x.a x.b d (by omega) (by have h1:=hx0.cnt;have h2:=hx0.upd;omega) (fun ho=>⟨(hx0.con ho).1,(hx0.con ho).2,hs _ (q2w (hx0.con ho).1 (hx0.con ho).2)⟩)
    have hxe:(⟨x.op,x.a,x.b⟩:Instr)=x:=rfl
    rw[hxe] at hc
    generalize hst:q03 sh x d=r at hc hrg0
    obtain⟨bh,okb⟩:=r
    simp only at hc hrg0 ⊢
    cases okb with
    |false=>
      rw[if_pos rfl]
      (try clear hj);(try clear ht);(try clear hok1);(try clear hok2);(try clear hn);(try clear hs);(try clear hok);(try clear hx0);(try clear hst);(try clear hxe);(try clear gt);(try clear n13);(try clear n16);(try clear n17);(try clear g0);(try clear hop);(try clear hw0);(try clear gg)
      simp(disch:=first|decide|omega|(simp only[LN];first|done|omega)) only[SV,SW,Nat.reduceBEq,Nat.reduceAdd,hx,q0h,lose,hd,q0V,b0,q0c,hc,evUn,q3l]
    |true=>
      rw[if_neg (by simp)]
      have hrg:=hrg0 rfl
      clear hrg0
      have hj:=hx0.jmp
      have ht:=hx0.tst
      have ih:=fun c Dp=>ih (i+1) c Dp (by omega)
      rw[hcast] at ih
      by_cases gg:q73 x=true
      · rw[if_pos gg]
        have⟨n13,n16,n17⟩:x.op≠13∧x.op≠16∧x.op≠17:=by
          simp [q73] at gg;omega
        have b13:(x.op != 13)=true:=by simpa using n13
        have b16:(x.op != 16)=true:=by simpa using n16
        have b17:(x.op != 17)=true:=by simpa using n17
        have c13:(x.op==13)=false:=by simpa using n13
        by_cases gl1:(i:Int)+1=cd.length
        · rw[if_pos gl1]
          have bl1:((i:Int)+1==(cd.length:Int))=true:=by simpa using gl1
          (try clear hj);(try clear ht);(try clear hok1);(try clear hok2);(try clear hn);(try clear hs);(try clear hok);(try clear hx0);(try clear hst);(try clear hxe);(try clear gt);(try clear n13);(try clear n16);(try clear n17);(try clear g0);(try clear hop);(try clear hw0);(try clear gg)
          simp(disch:=first|decide|omega|(simp only[LN];first|done|omega)) only[SV,SW,Nat.reduceBEq,Nat.reduceAdd,hx,q0h,lose,hd,q0V,b0,q0c,hc,evUn,b13,b16,b17,bl1,q6A]
        · rw[if_neg gl1]
          have bl1:((i:Int)+1==(cd.length:Int))=false:=by simpa using gl1
          have gl2:(i:Int)+1<cd.length:=by omega
          clear gl1
          have he:=h43 false Dp (i+1) bh cd.length (by omega) hD.symm
          have hlen1:=q3f Dp (i+1) bh
          have hok1:DpOk (q1E Dp (i+1) bh):=q30 hok (by omega)
          generalize hrb:q2v Dp (i+1) bh=rb at he
          generalize q1E Dp (i+1) bh=D1 at he hlen1 hok1
          cases rb with
          |false=>
            rw[if_pos rfl]
            (try clear hj);(try clear ht);(try clear hok1);(try clear hok2);(try clear hn);(try clear hs);(try clear hok);(try clear hx0);(try clear hst);(try clear hxe);(try clear gt);(try clear n13);(try clear n16);(try clear n17);(try clear g0);(try clear hop);(try clear hw0);(try clear gg)
            simp(disch:=first|decide|omega|(simp only[LN];first|done|omega)) only[SV,SW,Nat.reduceBEq,Nat.reduceAdd,hx,q0h,lose,hd,q0V,b0,q0c,hc,evUn,b13,b16,b17,bl1,q4v,he,q1I,Nat.reduceSub,q3l]
          |true=>
            rw[if_neg (by simp)]
            by_cases gt:x.op=14∨x.op=15
            · have ht:=ht gt
              have hti:q3E x=x.b:=by simp only[q3E];rw[if_neg n13,if_pos gt]
              rw[hti,if_pos (by omega)]
              have he2:=h43 false D1 x.b bh cd.length (by omega) (by omega)
              have hlen2:=q3f D1 x.b bh
              have hok2:DpOk (q1E D1 x.b bh):=q30 hok1 (by omega)
              generalize hrb2:q2v D1 x.b bh=rb2 at he2
              generalize q1E D1 x.b bh=D2 at he2 hlen2 hok2
              have hpos:0<x.b:=by omega
              have ih:=ih false D2 (by omega) hok2
              (try clear hj);(try clear ht);(try clear hok1);(try clear hok2);(try clear hn);(try clear hs);(try clear hok);(try clear hx0);(try clear hst);(try clear hxe);(try clear n13);(try clear n16);(try clear n17);(try clear g0);(try clear hop);(try clear hw0);(try clear gg)
              by_cases g14:x.op=14
              · have c14:(x.op==14)=true:=by simpa using g14
                clear g14 gt
                cases rb2 with
                |false=>
                  rw[if_pos rfl]
                  simp(disch:=first|decide|omega|(simp only[LN];first|done|omega)) only[SV,SW,Nat.reduceBEq,Nat.reduceAdd,hx,q0h,lose,hd,q0V,b0,q0c,hc,evUn,b13,b16,b17,bl1,q4v,he,q1I,Nat.reduceSub,c13,c14,he2,q3l]
                |true=>
                  rw[if_neg (by simp)]
                  simp(disch:=first|decide|omega|(simp only[LN];first|done|omega)) only[SV,SW,Nat.reduceBEq,Nat.reduceAdd,hx,q0h,lose,hd,q0V,b0,q0c,hc,evUn,b13,b16,b17,bl1,q4v,he,q1I,Nat.reduceSub,c13,c14,he2,reduceCtorEq,Nat.reduceEqDiff]
                  exact ih
              · have c14:(x.op==14)=false:=by simpa using g14
                have c15:(x.op==15)=true:=by simpa using gt.resolve_left g14
                clear g14 gt
                cases rb2 with
                |false=>
                  rw[if_pos rfl]
                  simp(disch:=first|decide|omega|(simp only[LN];first|done|omega)) only[SV,SW,Nat.reduceBEq,Nat.reduceAdd,hx,q0h,lose,hd,q0V,b0,q0c,hc,evUn,b13,b16,b17,bl1,q4v,he,q1I,Nat.reduceSub,c13,c14,c15,he2,q3l]
                |true=>
                  rw[if_neg (by simp)]
                  simp(disch:=first|decide|omega|(simp only[LN];first|done|omega)) only[SV,SW,Nat.reduceBEq,Nat.reduceAdd,hx,q0h,lose,hd,q0V,b0,q0c,hc,evUn,b13,b16,b17,bl1,q4v,he,q1I,Nat.reduceSub,c13,c14,c15,he2,reduceCtorEq,Nat.reduceEqDiff]
                  exact ih
            · have hti:q3E x=0:=by simp only[q3E];rw[if_neg n13,if_neg gt]
              rw[hti,if_neg (by omega)]
              have ih:=ih false D1 (by omega) hok1
              have c14:(x.op==14)=false:=by simp;omega
              have c15:(x.op==15)=false:=by simp;omega
              clear gt
              (try clear hj);(try clear ht);(try clear hok1);(try clear hok2);(try clear hn);(try clear hs);(try clear hok);(try clear hx0);(try clear hst);(try clear hxe);(try clear n13);(try clear n16);(try clear n17);(try clear g0);(try clear hop);(try clear hw0);(try clear gg)
              simp(disch:=first|decide|omega|(simp only[LN];first|done|omega)) only[q0A,q0R,q0o,q0J,q0y,q0P,q0Z,q0H,q0z,q0k,q8i,e_sl,q0s,Nat.reduceBEq,q0i,beq_self_eq_true,q0m,q00,evBin,intBin,z3Z,decide_true,if_true,q0p,q01,q0x,q0d,q0r,q0f,List.cons_append,List.nil_append,addBlks,q0I,q0F,q0E,q3z,q49,q3y,q1q,q0U,q2W,z17,q2I,q4Q,q38,q07,q4r,mkBox,V.laid,V.cells,List.length_cons,List.length_nil,Nat.zero_add,Nat.reduceAdd,q10,q1u,q0T,q1Y,q1Z,List.append_nil,q1s,q2R,e_ld,e_ia,q6x,hx,q0h,q84,List.map_cons,mkd,D.flat,List.map_nil,q05,Nat.le_refl,q1m,q2t,Bool.and_self,q7u,q4f,splice,List.take_zero,List.drop_succ_cons,List.drop_zero,q4e,q31,q3r,lose,loseH,Lost.ids,q45,q5p,Int.toNat_natCast,q1d,q2d,q4h,hd,q0V,q2c,q3a,b0,q3D,q50,q2J,q1i,List.getElem?_cons_zero,q08,q06,List.any_cons,V.own,V.own1,List.any_nil,Bool.or_self,q04,List.all_cons,V.new,V.new1,List.all_nil,Bool.and_true,Bool.or_true,V.flatV,V.flat1,Bool.not_false,Bool.false_and,q0X,view,viewDepth,q0c,q1b,q1G,Option.map_some,q1n,hc,q1f,Bool.not_true,Bool.false_eq_true,if_false,evExt,List.getElem?_cons_succ,e_un,evUn,q8B,e_fa,evFa,Nat.add_zero,b13,b16,q2o,b17,q3U,q6z,evLen,List.length_map,bl1,Bool.and_false,q4T,q9Y,q1y,q1U,refsL,V.refs,q1R,List.contains_nil,q1z,q2A,Blk.refs,q2B,q7c,List.nodup_cons,List.not_mem_nil,not_false_eq_true,List.nodup_nil,and_self,V.within,List.contains_cons,Bool.or_false,closedB,Blk.within,handed,Blk.ren,Blk.dim,List.idxOf_cons,q9F,V.dim,V.ren,cond_true,he,q9E,putAll,q1I,q7l,Nat.reduceSub,Option.getD_some,q1V,q2j,c13,c14,c15,q6D,z8S,decide_false,q40,q44,q3n,q7P,q6f,q4Y,q7B,List.flatMap_cons,List.flatMap_nil,q4X,List.mem_cons,reduceCtorEq,or_self,Nat.reduceEqDiff,withinL,cond_false,List.zipIdx_cons,List.zipIdx_nil,List.filterMap_cons,renL,List.filterMap_nil,List.filter_nil]
              exact ih
      · rw[if_neg gg]
        have hop:x.op=13∨x.op=16∨x.op=17:=by
          simp [q73] at gg;omega
        by_cases g13:x.op=13
        · have hj:=hj g13
          have hti:q3E x=x.a:=by simp only[q3E];rw[if_pos g13]
          rw[hti,if_pos (by omega)]
          have he2:=h43 false Dp x.a bh cd.length (by omega) (by omega)
          have hlen2:=q3f Dp x.a bh
          have hok2:DpOk (q1E Dp x.a bh):=q30 hok (by omega)
          generalize hrb2:q2v Dp x.a bh=rb2 at he2
          generalize q1E Dp x.a bh=D2 at he2 hlen2 hok2
          rw[g13] at hc
          cases rb2 with
          |false=>
            rw[if_pos rfl]
            (try clear hj);(try clear ht);(try clear hok1);(try clear hok2);(try clear hn);(try clear hs);(try clear hok);(try clear hx0);(try clear hst);(try clear hxe);(try clear gt);(try clear n13);(try clear n16);(try clear n17);(try clear g0);(try clear hop);(try clear hw0);(try clear gg)
            simp(disch:=first|decide|omega|(simp only[LN];first|done|omega)) only[q0A,q0R,q0o,q0J,q0y,q0P,q0Z,q0H,q0z,q0k,q8i,e_sl,q0s,Nat.reduceBEq,q0i,beq_self_eq_true,q0m,q00,evBin,intBin,z3Z,decide_true,if_true,q0p,q01,q0x,q0d,q0r,q0f,List.cons_append,List.nil_append,addBlks,q0I,q0F,q0E,q3z,q49,q3y,q1q,q0U,q2W,z17,q2I,q4Q,q38,q07,q4r,mkBox,V.laid,V.cells,List.length_cons,List.length_nil,Nat.zero_add,Nat.reduceAdd,q10,q1u,q0T,q1Y,q1Z,List.append_nil,q1s,q2R,e_ld,e_ia,q6x,hx,q0h,g13,q84,List.map_cons,mkd,D.flat,List.map_nil,q05,Nat.le_refl,q1m,q2t,Bool.and_self,q7u,q4f,splice,List.take_zero,List.drop_succ_cons,List.drop_zero,q4e,q31,q3r,lose,loseH,Lost.ids,q45,q5p,Int.toNat_natCast,q1d,q2d,q4h,hd,q0V,q2c,q3a,b0,q3D,q50,q2J,q1i,List.getElem?_cons_zero,q08,q06,List.any_cons,V.own,V.own1,List.any_nil,Bool.or_self,q04,List.all_cons,V.new,V.new1,List.all_nil,Bool.and_true,Bool.or_true,V.flatV,V.flat1,Bool.not_false,Bool.false_and,q0X,view,viewDepth,q0c,q1b,q1G,Option.map_some,q1n,hc,q1f,Bool.not_true,Bool.false_eq_true,if_false,evExt,List.getElem?_cons_succ,e_un,evUn,q8B,e_fa,evFa,Nat.add_zero,bne_self_eq_false,ne_t,q2o,q3U,q6z,evLen,List.length_map,eq_f,q4T,q9Y,q40,q2j,q44,q3n,q6D,q1y,q1U,refsL,V.refs,q1R,List.contains_nil,q1z,q2A,Blk.refs,q2B,q7c,List.nodup_cons,List.not_mem_nil,not_false_eq_true,List.nodup_nil,and_self,V.within,List.contains_cons,Bool.or_false,closedB,Blk.within,handed,Blk.ren,Blk.dim,List.idxOf_cons,q9F,V.dim,V.ren,cond_true,he2,q9E,putAll,q1I,q7l,Nat.reduceSub,Option.getD_some,q1V,q8a,q6f,q4Y,q7B,q4X,List.zipIdx_nil,List.filterMap_nil,List.filter_nil,q4n,z2g,z5x,z6i,q3l]
          |true=>
            rw[if_neg (by simp)]
            have ih:=ih false D2 (by omega) hok2
            (try clear hj);(try clear ht);(try clear hok1);(try clear hok2);(try clear hn);(try clear hs);(try clear hok);(try clear hx0);(try clear hst);(try clear hxe);(try clear gt);(try clear n13);(try clear n16);(try clear n17);(try clear g0);(try clear hop);(try clear hw0);(try clear gg)
            simp(disch:=first|decide|omega|(simp only[LN];first|done|omega)) only[q0A,q0R,q0o,q0J,q0y,q0P,q0Z,q0H,q0z,q0k,q8i,e_sl,q0s,Nat.reduceBEq,q0i,beq_self_eq_true,q0m,q00,evBin,intBin,z3Z,decide_true,if_true,q0p,q01,q0x,q0d,q0r,q0f,List.cons_append,List.nil_append,addBlks,q0I,q0F,q0E,q3z,q49,q3y,q1q,q0U,q2W,z17,q2I,q4Q,q38,q07,q4r,mkBox,V.laid,V.cells,List.length_cons,List.length_nil,Nat.zero_add,Nat.reduceAdd,q10,q1u,q0T,q1Y,q1Z,List.append_nil,q1s,q2R,e_ld,e_ia,q6x,hx,q0h,g13,q84,List.map_cons,mkd,D.flat,List.map_nil,q05,Nat.le_refl,q1m,q2t,Bool.and_self,q7u,q4f,splice,List.take_zero,List.drop_succ_cons,List.drop_zero,q4e,q31,q3r,lose,loseH,Lost.ids,q45,q5p,Int.toNat_natCast,q1d,q2d,q4h,hd,q0V,q2c,q3a,b0,q3D,q50,q2J,q1i,List.getElem?_cons_zero,q08,q06,List.any_cons,V.own,V.own1,List.any_nil,Bool.or_self,q04,List.all_cons,V.new,V.new1,List.all_nil,Bool.and_true,Bool.or_true,V.flatV,V.flat1,Bool.not_false,Bool.false_and,q0X,view,viewDepth,q0c,q1b,q1G,Option.map_some,q1n,hc,q1f,Bool.not_true,Bool.false_eq_true,if_false,evExt,List.getElem?_cons_succ,e_un,evUn,q8B,e_fa,evFa,Nat.add_zero,bne_self_eq_false,ne_t,q2o,q3U,q6z,evLen,List.length_map,eq_f,q4T,q9Y,q40,q2j,q44,q3n,q6D,q1y,q1U,refsL,V.refs,q1R,List.contains_nil,q1z,q2A,Blk.refs,q2B,q7c,List.nodup_cons,List.not_mem_nil,not_false_eq_true,List.nodup_nil,and_self,V.within,List.contains_cons,Bool.or_false,closedB,Blk.within,handed,Blk.ren,Blk.dim,List.idxOf_cons,q9F,V.dim,V.ren,cond_true,he2,q9E,putAll,q1I,q7l,Nat.reduceSub,Option.getD_some,q1V,Bool.and_false,q7P,q6f,q4Y,q7B,List.flatMap_cons,List.flatMap_nil,q4X,List.mem_cons,reduceCtorEq,or_self,Nat.reduceEqDiff,withinL,cond_false,List.zipIdx_cons,List.zipIdx_nil,List.filterMap_cons,renL,List.filterMap_nil,List.filter_nil]
            exact ih
        · have hti:q3E x=0:=by simp only[q3E];rw[if_neg g13,if_neg (by omega)]
          rw[hti,if_neg (by omega)]
          have ih:=ih c Dp hD hok
          by_cases g16:x.op=16
          · rw[g16] at hc
            (try clear hj);(try clear ht);(try clear hok1);(try clear hok2);(try clear hn);(try clear hs);(try clear hok);(try clear hx0);(try clear hst);(try clear hxe);(try clear gt);(try clear n13);(try clear n16);(try clear n17);(try clear g0);(try clear hop);(try clear hw0);(try clear gg)
            simp(disch:=first|decide|omega|(simp only[LN];first|done|omega)) only[q0A,q0R,q0o,q0J,q0y,q0P,q0Z,q0H,q0z,q0k,q8i,e_sl,q0s,Nat.reduceBEq,q0i,beq_self_eq_true,q0m,q00,evBin,intBin,z3Z,decide_true,if_true,q0p,q01,q0x,q0d,q0r,q0f,List.cons_append,List.nil_append,addBlks,q0I,q0F,q0E,q3z,q49,q3y,q1q,q0U,q2W,z17,q2I,q4Q,q38,q07,q4r,mkBox,V.laid,V.cells,List.length_cons,List.length_nil,Nat.zero_add,Nat.reduceAdd,q10,q1u,q0T,q1Y,q1Z,List.append_nil,q1s,q2R,e_ld,e_ia,q6x,hx,q0h,g16,q84,List.map_cons,mkd,D.flat,List.map_nil,q05,Nat.le_refl,q1m,q2t,Bool.and_self,q7u,q4f,splice,List.take_zero,List.drop_succ_cons,List.drop_zero,q4e,q31,q3r,lose,loseH,Lost.ids,q45,q5p,Int.toNat_natCast,q1d,q2d,q4h,hd,q0V,q2c,q3a,b0,q3D,q50,q2J,q1i,List.getElem?_cons_zero,q08,q06,List.any_cons,V.own,V.own1,List.any_nil,Bool.or_self,q04,List.all_cons,V.new,V.new1,List.all_nil,Bool.and_true,Bool.or_true,V.flatV,V.flat1,Bool.not_false,Bool.false_and,q0X,view,viewDepth,q0c,q1b,q1G,Option.map_some,q1n,hc,q1f,Bool.not_true,Bool.false_eq_true,if_false,evExt,List.getElem?_cons_succ,e_un,evUn,q8B,e_fa,evFa,Nat.add_zero,ne_t,bne_self_eq_false,q2o,Bool.and_false,q3U,q6z,evLen,List.length_map,q4T,q9Y,q40,q2j,q44,q3n,eq_f,q6D,z8S,decide_false,q7P,q6f,q4Y,q7B,refsL,V.refs,q1R,List.contains_nil,q1z,q2A,Blk.refs,List.flatMap_cons,List.flatMap_nil,List.contains_cons,q2B,q4X,List.nodup_cons,List.mem_cons,reduceCtorEq,List.not_mem_nil,or_self,not_false_eq_true,Nat.reduceEqDiff,List.nodup_nil,and_self,V.within,Bool.or_false,closedB,Blk.within,withinL,List.idxOf_cons,V.ren,cond_false,cond_true,Blk.ren,List.zipIdx_cons,List.zipIdx_nil,List.filterMap_cons,renL,List.filterMap_nil,List.filter_nil]
            exact ih
          · have g17:x.op=17:=by omega
            rw[g17] at hc
            (try clear hj);(try clear ht);(try clear hok1);(try clear hok2);(try clear hn);(try clear hs);(try clear hok);(try clear hx0);(try clear hst);(try clear hxe);(try clear gt);(try clear n13);(try clear n16);(try clear n17);(try clear g0);(try clear hop);(try clear hw0);(try clear gg)
            simp(disch:=first|decide|omega|(simp only[LN];first|done|omega)) only[q0A,q0R,q0o,q0J,q0y,q0P,q0Z,q0H,q0z,q0k,q8i,e_sl,q0s,Nat.reduceBEq,q0i,beq_self_eq_true,q0m,q00,evBin,intBin,z3Z,decide_true,if_true,q0p,q01,q0x,q0d,q0r,q0f,List.cons_append,List.nil_append,addBlks,q0I,q0F,q0E,q3z,q49,q3y,q1q,q0U,q2W,z17,q2I,q4Q,q38,q07,q4r,mkBox,V.laid,V.cells,List.length_cons,List.length_nil,Nat.zero_add,Nat.reduceAdd,q10,q1u,q0T,q1Y,q1Z,List.append_nil,q1s,q2R,e_ld,e_ia,q6x,hx,q0h,g17,q84,List.map_cons,mkd,D.flat,List.map_nil,q05,Nat.le_refl,q1m,q2t,Bool.and_self,q7u,q4f,splice,List.take_zero,List.drop_succ_cons,List.drop_zero,q4e,q31,q3r,lose,loseH,Lost.ids,q45,q5p,Int.toNat_natCast,q1d,q2d,q4h,hd,q0V,q2c,q3a,b0,q3D,q50,q2J,q1i,List.getElem?_cons_zero,q08,q06,List.any_cons,V.own,V.own1,List.any_nil,Bool.or_self,q04,List.all_cons,V.new,V.new1,List.all_nil,Bool.and_true,Bool.or_true,V.flatV,V.flat1,Bool.not_false,Bool.false_and,q0X,view,viewDepth,q0c,q1b,q1G,Option.map_some,q1n,hc,q1f,Bool.not_true,Bool.false_eq_true,if_false,evExt,List.getElem?_cons_succ,e_un,evUn,q8B,e_fa,evFa,Nat.add_zero,ne_t,q2o,bne_self_eq_false,Bool.and_false,q3U,q6z,evLen,List.length_map,q4T,q9Y,q40,q2j,q44,q3n,eq_f,q6D,z8S,decide_false,q7P,q6f,q4Y,q7B,refsL,V.refs,q1R,List.contains_nil,q1z,q2A,Blk.refs,List.flatMap_cons,List.flatMap_nil,List.contains_cons,q2B,q4X,List.nodup_cons,List.mem_cons,reduceCtorEq,List.not_mem_nil,or_self,not_false_eq_true,Nat.reduceEqDiff,List.nodup_nil,and_self,V.within,Bool.or_false,closedB,Blk.within,withinL,List.idxOf_cons,V.ren,cond_false,cond_true,Blk.ren,List.zipIdx_cons,List.zipIdx_nil,List.filterMap_cons,renL,List.filterMap_nil,List.filter_nil]
            exact ih
theorem q9m{ng ns nc:Int}{cd:List Instr}:∀(k i:Nat),q3b ng ns nc cd k i=0→∀ j:Nat,i≤j→j<i+k→q5L ng ns nc j (nth cd j)=0:=by
  intro k
  induction k with
  |zero=>intro i _ j h1 h2;omega
  |succ k ih=>
    intro i h j h1 h2
    simp only[q3b] at h
    split at h
    · rename_i h0
      by_cases hj:j=i
      · subst hj;exact h0
      · exact ih (i+1) h j (by omega) (by omega)
    · rename_i h0
      exact absurd h h0
theorem z2Z(sh:List Shape)(cd:List Instr):∀(k i:Nat)(Dp:List Int),depL sh cd k i Dp=0∨depL sh cd k i Dp=173∨depL sh cd k i Dp=174:=by
  intro k
  induction k with
  |zero=>intro i Dp;exact .inl rfl
  |succ k ih=>
    intro i Dp
    simp only[depL]
    repeat' split
    all_goals first|exact ih _ _|simp
theorem z5X(ng ns nc:Int)(cd:List Instr):∀(k i:Nat),q3b ng ns nc cd k i=0∨q3b ng ns nc cd k i=172∨q3b ng ns nc cd k i=174:=by
  intro k
  induction k with
  |zero=>intro i;exact .inl rfl
  |succ k ih=>
    intro i
    simp only[q3b]
    split
    · exact ih _
    · unfold q5L
      split
      · simp only
        split
        · simp
        · split <;> simp
      · simp
set_option maxHeartbeats 4000000 in
theorem z0T(K:Cx)(h40:K40 K)(h41:K41 K)(h42:K42 K)(h43:K43 K)(sh:List Shape)(gl:List Glob)(g:Glob)(hs:ShOk sh)(hl:g.code.length≤8000)(ha:0≤g.arity∧g.arity≤24)(hw:∀ x∈g.code,x.a≤9223372036854775807) :
    q0B K f37 [.agg [.d false (.sl 2 (sh.map q0g)),.d false (.sl 3 (gl.map q0G))],.agg [.d false (.str g.name),.d false (.int .i64 g.arity),.d false (.sl 3 (g.code.map q0C))]] []=some (.d false (.int .i64 (q1K gl.length sh g)),[],[]):=by
  obtain⟨nm,ar,cd⟩:=g
  simp only at hl ha hw ⊢
  have l0:=z5W K h40 h41 sh gl nm ar cd hl cd.length 0 (by omega)
  simp only[Int.natCast_zero] at l0
  unfold q1K
  simp only
  have nv:=z5X gl.length sh.length cd.length cd cd.length 0
  cases hz:decide (q3b gl.length sh.length cd.length cd cd.length 0=0) with
  |false=>
    have hz:¬ q3b gl.length sh.length cd.length cd cd.length 0=0:=by simpa using hz
    rw[if_neg hz]
    generalize q3b gl.length sh.length cd.length cd cd.length 0=r at l0 hz nv
    rcases nv with rfl|rfl|rfl
    · exact absurd rfl hz
    · rw[q5i] at l0
      simp(disch:=first|decide|omega|(simp only[LN];first|done|omega)) only[SV,SW,f37,Nat.reduceAdd,Nat.reduceBEq,reduceCtorEq,l0,q0b]
    · rw[q7J] at l0
      simp(disch:=first|decide|omega|(simp only[LN];first|done|omega)) only[SV,SW,f37,Nat.reduceAdd,Nat.reduceBEq,reduceCtorEq,l0,q0b]
  |true=>
    have hz:q3b gl.length sh.length cd.length cd cd.length 0=0:=by simpa using hz
    rw[if_pos hz]
    rw[hz,z0s] at l0
    by_cases hc:cd.length=0
    · rw[if_pos hc]
      have hc0:((cd.length:Int)==0)=true:=by simpa using hc
      clear hz nv hw hc
      simp(disch:=first|decide|omega|(simp only[LN];first|done|omega)) only[SV,SW,f37,Nat.reduceAdd,Nat.reduceBEq,reduceCtorEq,l0,hc0,q0b]
    · rw[if_neg hc]
      have hok:=fun(i:Nat) (hi:i<cd.length)=>z2C (q9m cd.length 0 hz i (by omega) (by omega))
      have l1:=z9t K h42 h43 sh gl nm ar cd hl hs hok hw cd.length 0 true ((List.replicate cd.length 0).set 0 (ar+1)) (by omega) (by simp) (by
        intro v hv
        rcases List.mem_or_eq_of_mem_set hv with h|h
        · have:=List.eq_of_mem_replicate h;omega
        · omega)
      simp only[Int.natCast_zero] at l1
      have dv:=z2Z sh cd cd.length 0 ((List.replicate cd.length 0).set 0 (ar+1))
      generalize hr:depL sh cd cd.length 0 ((List.replicate cd.length 0).set 0 (ar+1))=r at l1 dv
      have hc0:((cd.length:Int)==0)=false:=by simpa using hc
      have hpos:0<cd.length:=by omega
      clear hok hw nv hz hr hc
      rcases dv with rfl|rfl|rfl
      · rw[z2X] at l1
        simp(disch:=first|decide|omega|(simp only[LN];first|done|omega)) only[SV,SW,f37,Nat.reduceAdd,Nat.reduceBEq,reduceCtorEq,l0,hc0,q9q,z4g,Int.toNat_zero,q0V,q78,lose,Nat.reduceEqDiff,l1,q0b]
      · rw[q3l] at l1
        simp(disch:=first|decide|omega|(simp only[LN];first|done|omega)) only[SV,SW,f37,Nat.reduceAdd,Nat.reduceBEq,reduceCtorEq,l0,hc0,q9q,z4g,Int.toNat_zero,q0V,q78,lose,Nat.reduceEqDiff,l1,q0b]
      · rw[q6A] at l1
        simp(disch:=first|decide|omega|(simp only[LN];first|done|omega)) only[SV,SW,f37,Nat.reduceAdd,Nat.reduceBEq,reduceCtorEq,l0,hc0,q9q,z4g,Int.toNat_zero,q0V,q78,lose,Nat.reduceEqDiff,l1,q0b]
end Go.Vm
end

section
namespace Go.Vm
/- 'sloth/slothref17.numbers' -/
def f41_L0:C:= (.seq (.seq (.reg [⟨[],[(12,(.bin .lss (.sl 5) (.len false (.sl 1))))],[],none,[1,2,5],4,[],[],[]⟩]) (.cond (.sl 12) .skip (.seq (.tidy 0 [1]) (.exit 0)))) (.seq (.block 1 (.seq (.reg [⟨[],[(6,(.call 28 (.cons (.ld 2 true (.sl 2)) (.cons (.ld 3 true (.ia 3 (.sl 1) (.sl 5))) .nil))))],[],none,[1,2,5],7,[[],[],[],[2,1],[1,2,3],[3,2,1,4,0],[0,4,1,2,3,5]],[],[]⟩]) (.seq (.seq (.reg [⟨[],[(22,(.un .not (.sl 6)))],[],none,[1,2,5],2,[],[],[]⟩]) (.cond (.sl 22) (.seq (.reg [⟨[],[(4,(.int .i64 172))],[],none,[],1,[],[],[]⟩]) (.seq (.tidy 0 [4]) .ret)) .skip)) (.seq (.reg [⟨[],[(7,(.call 84 (.cons (.ld 3 true (.ia 3 (.sl 1) (.sl 5))) .nil)))],[],none,[1,2,5],6,[],[],[]⟩]) (.seq (.reg [⟨[],[(8,(.call 32 (.cons (.ld 3 true (.ia 3 (.sl 1) (.sl 5))) .nil)))],[],none,[1,2,5,7],6,[],[],[]⟩]) (.seq (.reg [⟨[],[(44,(.and (.sl 7) (.or (.bin .leq (.sl 8) (.sl 5)) (.bin .geq (.sl 8) (.len false (.sl 1))))))],[],none,[1,2,5],12,[],[],[]⟩]) (.cond (.sl 44) (.seq (.reg [⟨[],[(4,(.int .i64 174))],[],none,[],1,[],[],[]⟩]) (.seq (.tidy 0 [4]) .ret)) .skip))))))) (.reg [⟨[],[(5,(.bin .add (.sl 5) (.int .i64 1)))],[],none,[1,2],3,[],[],[]⟩])))
def f41:Fun:=⟨ (.seq (.reg [⟨[(2,.box (.sl 0))],[],[(.int .i64 0)],none,[1,2],2,[],[],[]⟩]) (.seq (.seq (.reg [⟨[],[(5,(.int .i64 0))],[],none,[1,2],1,[],[],[]⟩]) (.block 0 (.seq (.tidy 0 [1,2,5]) (.loop (.seq (.tidy 0 [1,2,5]) f41_L0))))) (.seq (.seq (.reg [⟨[],[(47,(.bin .eql (.len false (.sl 1)) (.int .i64 0)))],[],none,[],3,[],[],[]⟩]) (.cond (.sl 47) (.seq (.reg [⟨[],[(4,(.int .i64 174))],[],none,[],1,[],[],[]⟩]) (.seq (.tidy 0 [4]) .ret)) .skip)) (.seq (.reg [⟨[],[(4,(.int .i64 0))],[],none,[],1,[],[],[]⟩]) (.seq (.tidy 0 [4]) .ret))))), [(.sl 4)],false⟩
theorem j3k:q09 Go.Proofs.Tryz.prog 41 0 2 f41=true:=by kernel_rfl
/- 'sloth/slothref17.Depths' -/
def f42_L0:C:= (.seq (.seq (.reg [⟨[],[(28,(.bin .lss (.sl 7) (.len false (.ld 1 false (.fa 2 (.sl 3))))))],[],none,[2,3,6,7],5,[],[],[]⟩]) (.cond (.sl 28) .skip (.seq (.tidy 0 [6]) (.exit 0)))) (.seq (.block 1 (.seq (.reg [⟨[(8,.box (.agg (.cons (.int .i64 0) (.cons (.int .i64 0) (.cons (.int .i64 0) .nil)))))],[],[],some (none,.store 3 (.sl 8) (.ld 3 true (.ia 3 (.ld 1 false (.fa 2 (.sl 3))) (.sl 7)))),[2,3,6,7,8],7,[],[],[]⟩]) (.seq (.reg [⟨[],[(9,(.ld 1 false (.ia 1 (.sl 6) (.sl 7))))],[],none,[2,3,6,7,8],5,[],[],[]⟩]) (.seq (.seq (.reg [⟨[],[(41,(.bin .eql (.sl 9) (.int .i64 0)))],[],none,[2,3,6,7,8,9],2,[],[],[]⟩]) (.cond (.sl 41) (.seq (.reg [⟨[],[(4,(.sl 6)),(5,(.int .i64 174))],[],none,[],3,[],[],[]⟩]) (.seq (.tidy 0 [4,5]) .ret)) .skip)) (.seq (.reg [⟨[],[(10,(.call 29 (.cons (.ld 2 true (.sl 2)) (.cons (.ld 3 true (.sl 8)) (.cons (.sl 9) .nil)))))],[],none,[2,3,6,7,8,9],5,[],[],[]⟩]) (.seq (.seq (.reg [⟨[],[(48,(.un .not (.sl 10)))],[],none,[2,3,6,7,8,9],2,[],[],[]⟩]) (.cond (.sl 48) (.seq (.reg [⟨[],[(4,(.sl 6)),(5,(.int .i64 173))],[],none,[],3,[],[],[]⟩]) (.seq (.tidy 0 [4,5]) .ret)) .skip)) (.seq (.reg [⟨[],[(11,(.call 31 (.cons (.ld 2 true (.sl 2)) (.cons (.ld 3 true (.sl 8)) (.cons (.sl 9) .nil)))))],[],none,[2,3,6,7,8],5,[],[],[]⟩]) (.seq (.seq (.reg [⟨[],[(55,(.bin .gtr (.sl 11) (.int .i64 8000)))],[],none,[2,3,6,7,8,11],2,[],[],[]⟩]) (.cond (.sl 55) (.seq (.reg [⟨[],[(4,(.sl 6)),(5,(.int .i64 173))],[],none,[],3,[],[],[]⟩]) (.seq (.tidy 0 [4,5]) .ret)) .skip)) (.seq (.reg [⟨[],[(12,(.call 30 (.cons (.ld 3 true (.sl 8)) .nil)))],[],none,[2,3,6,7,8,11],3,[],[],[]⟩]) (.seq (.reg [⟨[],[(13,(.call 32 (.cons (.ld 3 true (.sl 8)) .nil)))],[],none,[2,3,6,7,8,11,12],3,[],[],[]⟩]) (.seq (.reg [⟨[],[(14,(.and (.un .not (.sl 12)) (.bin .neq (.ld 1 false (.fa 0 (.sl 8))) (.int .i64 13))))],[],none,[2,3,6,7,11,13],8,[],[],[]⟩]) (.seq (.seq (.reg [⟨[],[(76,(.and (.sl 14) (.bin .geq (.bin .add (.sl 7) (.int .i64 1)) (.len false (.ld 1 false (.fa 2 (.sl 3)))))))],[],none,[2,3,6,7,11,13,14],9,[],[],[]⟩]) (.cond (.sl 76) (.seq (.reg [⟨[],[(4,(.sl 6)),(5,(.int .i64 174))],[],none,[],3,[],[],[]⟩]) (.seq (.tidy 0 [4,5]) .ret)) .skip)) (.seq (.seq (.reg [⟨[],[(95,(.and (.and (.sl 14) (.bin .neq (.ld 1 false (.ia 1 (.sl 6) (.bin .add (.sl 7) (.int .i64 1)))) (.int .i64 0))) (.bin .neq (.ld 1 false (.ia 1 (.sl 6) (.bin .add (.sl 7) (.int .i64 1)))) (.sl 11))))],[],none,[2,3,6,7,11,13,14],18,[],[],[]⟩]) (.cond (.sl 95) (.seq (.reg [⟨[],[(4,(.sl 6)),(5,(.int .i64 173))],[],none,[],3,[],[],[]⟩]) (.seq (.tidy 0 [4,5]) .ret)) .skip)) (.seq (.seq (.reg [⟨[],[(97,(.sl 14))],[],none,[2,3,6,7,11,13],1,[],[],[]⟩]) (.cond (.sl 97) (.reg [⟨[],[],[],some (none,.store 1 (.ia 1 (.sl 6) (.bin .add (.sl 7) (.int .i64 1))) (.sl 11)),[2,3,6,7,11,13],6,[],[],[]⟩]) .skip)) (.seq (.seq (.reg [⟨[],[(119,(.and (.and (.bin .geq (.sl 13) (.int .i64 0)) (.bin .neq (.ld 1 false (.ia 1 (.sl 6) (.sl 13))) (.int .i64 0))) (.bin .neq (.ld 1 false (.ia 1 (.sl 6) (.sl 13))) (.sl 11))))],[],none,[2,3,6,7,11,13],17,[],[],[]⟩]) (.cond (.sl 119) (.seq (.reg [⟨[],[(4,(.sl 6)),(5,(.int .i64 173))],[],none,[],3,[],[],[]⟩]) (.seq (.tidy 0 [4,5]) .ret)) .skip)) (.seq (.reg [⟨[],[(122,(.bin .geq (.sl 13) (.int .i64 0)))],[],none,[2,3,6,7,11,13],2,[],[],[]⟩]) (.cond (.sl 122) (.reg [⟨[],[],[],some (none,.store 1 (.ia 1 (.sl 6) (.sl 13)) (.sl 11)),[2,3,6,7],5,[],[],[]⟩]) .skip))))))))))))))))) (.reg [⟨[],[(7,(.bin .add (.sl 7) (.int .i64 1)))],[],none,[2,3,6],3,[],[],[]⟩])))
def f42:Fun:=⟨ (.seq (.reg [⟨[(2,.box (.sl 0)),(3,.box (.sl 1))],[],[(.int .i64 0),(.nilsl 1)],none,[2,3],4,[],[],[]⟩]) (.seq (.reg [⟨[(18,.mks 1 (.cons (.int .i64 0) .nil) (.len false (.ld 1 false (.fa 2 (.sl 3)))) (.len false (.ld 1 false (.fa 2 (.sl 3)))))],[(6,(.sl 18))],[],none,[2,3],5,[],[],[]⟩]) (.seq (.reg [⟨[],[],[],some (none,.store 1 (.ia 1 (.sl 6) (.int .i64 0)) (.bin .add (.ld 1 false (.fa 1 (.sl 3))) (.int .i64 1))),[2,3,6],6,[],[],[]⟩]) (.seq (.seq (.reg [⟨[],[(7,(.int .i64 0))],[],none,[2,3,6],1,[],[],[]⟩]) (.block 0 (.seq (.tidy 0 [2,3,6,7]) (.loop (.seq (.tidy 0 [2,3,6,7]) f42_L0))))) (.seq (.reg [⟨[],[(4,(.sl 6)),(5,(.int .i64 0))],[],none,[],3,[],[],[]⟩]) (.seq (.tidy 0 [4,5]) .ret)))))), [(.sl 4),(.sl 5)],false⟩
theorem j3j:q09 Go.Proofs.Tryz.prog 42 0 2 f42=true:=by kernel_rfl
theorem j0S(ng ns nc i:Int)(x:Instr):q5L ng ns nc i x=if q2U ng ns x=false then 172 else if(q7V x&&(decide (q2f x≤i)||decide (nc≤q2f x)))=true then 174 else 0:=by
  unfold q5L
  by_cases g:1≤x.op∧x.op<18
  · rw[if_pos g]
    obtain⟨op,a,b⟩:=x
    have key:∀(p:Bool),(if p=true then(0:Int) else 172)=172↔p=false:=by intro p;cases p <;> simp
    rcases z5T g with h|h|h|h|h|h|h|h|h|h|h|h|h|h|h|h|h <;>
      (simp only at h;subst h;simp [q2D,z6I,nth,q1S,q2U,q7V,q2f];try grind)
  · rw[if_neg g]
    have hn:=opn g
    simp [q2U,hn]
def K46(K:Cx):Prop:=∀(sh:List Shape)(gl:List Glob)(x:Instr),K.call 28 [q3F sh gl,insA x]=some (.d false (.bool (q2U gl.length sh.length x)),[])
def K47(K:Cx):Prop:=∀ x:Instr,K.call 84 [insA x]=some (.d false (.bool (q7V x)),[])
def K48(K:Cx):Prop:=∀ x:Instr,K.call 32 [insA x]=some (.d false (.int .i64 (q2f x)),[])
def K49(K:Cx):Prop:=∀(sh:List Shape)(gl:List Glob)(x:Instr)(d:Int),(1≤d∧d≤8000)→(x.op=9→0≤x.a∧x.a<sh.length)→K.call 29 [q3F sh gl,insA x,.d false (.int .i64 d)]=some (.d false (.bool (q5c sh x d)),[])
def K50(K:Cx):Prop:=∀(sh:List Shape)(gl:List Glob)(x:Instr)(d:Int),(1≤d∧d≤8000)→(x.op=4∨x.op=5∨x.op=8→0≤x.a∧x.a≤9223372036854775807)→(x.op=9∨x.op=10→0≤x.a∧x.a<sh.length∧0≤q1T sh x.a∧q1T sh x.a≤8)→
  K.call 31 [q3F sh gl,insA x,.d false (.int .i64 d)]=some (.d false (.int .i64 (q2h sh x d)),[])
def K51(K:Cx):Prop:=∀ x:Instr,K.call 30 [insA x]=some (.d false (.bool (q62 x)),[])
def q2P(sh:List Shape)(gl:List Glob)(cd:List Instr)(r:Int):Ex×S:=if r=0 then(.exit 0,⟨[(1,.d false (.sl 3 (cd.map q0C)))],[],0,[]⟩) else(.ret,⟨[(4,.d false (.int .i64 r))],[],0,[]⟩)
theorem z0t(K:Cx)(h46:K46 K)(h47:K47 K)(h48:K48 K)(sh:List Shape)(gl:List Glob)(cd:List Instr)(hl:cd.length≤8000) :
   ∀(k i:Nat),i+k=cd.length→
    lp K 0 [1,2,5] f41_L0 ⟨[(1,.d false (.sl 3 (cd.map q0C))),(2,.ptr 0 0 0),(5,.d false (.int .i64 i))],
      [(0,.mix 2 [[.d false (.sl 2 (sh.map q0g)),.d false (.sl 3 (gl.map q0G))]])],1,[]⟩ =
    some (q2P sh gl cd (q3b gl.length sh.length cd.length cd k i)):=by
  intro k
  induction k with
  |zero=>
    intro i hi
    rw[q0K f41_L0.eq_1]
    simp only[q3b]
    rw[show q2P sh gl cd 0=(.exit 0,⟨[(1,.d false (.sl 3 (cd.map q0C)))],[],0,[]⟩) from rfl]
    simp(disch:=first|decide|omega|(simp only[LN];first|done|omega)) only[SV,SW,Nat.reduceBEq]
  |succ k ih=>
    intro i hi
    have hcast:((i+1:Nat):Int)=(i:Int)+1:=by omega
    have hlt:i<cd.length:=by omega
    have ih:=ih (i+1) (by omega)
    rw[hcast] at ih
    rw[q0K f41_L0.eq_1]
    simp only[q3b]
    rw[j0S]
    generalize hx:nth cd (i:Int)=x
    have c46:=h46 sh gl x
    have c47:=h47 x
    have c48:=h48 x
    generalize q2U gl.length sh.length x=b1 at c46
    generalize q7V x=b2 at c47
    generalize q2f x=t at c48
    have o1:q2P sh gl cd 172=(.ret,⟨[(4,.d false (.int .i64 172))],[],0,[]⟩):=rfl
    have o2:q2P sh gl cd 174=(.ret,⟨[(4,.d false (.int .i64 174))],[],0,[]⟩):=rfl
    unfold q3F at c46
    unfold insA at c46 c47 c48
    cases b1 with
    |false=>
      simp only[if_true,Int.reduceEq,if_false,o1]
      simp(disch:=first|decide|omega|(simp only[LN];first|done|omega)) only[SV,SW,Nat.reduceBEq,Nat.reduceAdd,hx,q0h,q0c,c46,evUn]
    |true=>
      cases b2 with
      |false=>
        simp only[Bool.true_eq_false,Bool.false_eq_true,Bool.false_and,if_true,if_false]
        simp(disch:=first|decide|omega|(simp only[LN];first|done|omega)) only[SV,SW,Nat.reduceBEq,Nat.reduceAdd,hx,q0h,q0c,c46,evUn,c47,c48]
        exact ih
      |true=>
        by_cases g1:t≤i
        · have e1:decide (t≤(i:Int))=true:=by simpa using g1
          simp only[e1,Bool.true_eq_false,Bool.true_or,Bool.and_self,if_true,if_false,Int.reduceEq,o2]
          simp(disch:=first|decide|omega|(simp only[LN];first|done|omega)) only[SV,SW,Nat.reduceBEq,Nat.reduceAdd,hx,q0h,q0c,c46,evUn,c47,c48]
        · have e1:decide (t≤(i:Int))=false:=by simpa using g1
          by_cases g2:(cd.length:Int)≤t
          · have e2:decide ((cd.length:Int)≤t)=true:=by simpa using g2
            simp only[e1,e2,Bool.true_eq_false,Bool.or_true,Bool.and_self,if_true,if_false,Int.reduceEq,o2]
            simp(disch:=first|decide|omega|(simp only[LN];first|done|omega)) only[SV,SW,Nat.reduceBEq,Nat.reduceAdd,hx,q0h,q0c,c46,evUn,c47,c48]
          · have e2:decide ((cd.length:Int)≤t)=false:=by simpa using g2
            simp only[e1,e2,Bool.true_eq_false,Bool.false_eq_true,Bool.or_self,Bool.and_false,if_true,if_false]
            simp(disch:=first|decide|omega|(simp only[LN];first|done|omega)) only[SV,SW,Nat.reduceBEq,Nat.reduceAdd,hx,q0h,q0c,c46,evUn,c47,c48]
            exact ih
def q4A(ng:Nat)(sh:List Shape)(cd:List Instr):Int:=if q3b ng sh.length cd.length cd cd.length 0=0 then(if cd.length=0 then 174 else 0) else q3b ng sh.length cd.length cd cd.length 0
theorem z1W(K:Cx)(h46:K46 K)(h47:K47 K)(h48:K48 K)(sh:List Shape)(gl:List Glob)(cd:List Instr)(hl:cd.length≤8000) :
    q0B K f41 [q3F sh gl,.d false (.sl 3 (cd.map q0C))] []=some (.d false (.int .i64 (q4A gl.length sh cd)),[],[]):=by
  have l0:=z0t K h46 h47 h48 sh gl cd hl cd.length 0 (by omega)
  simp only[Int.natCast_zero] at l0
  unfold q4A q3F
  generalize q3b gl.length sh.length cd.length cd cd.length 0=r at l0
  by_cases h:r=0
  · subst h
    rw[show q2P sh gl cd 0=(.exit 0,⟨[(1,.d false (.sl 3 (cd.map q0C)))],[],0,[]⟩) from rfl] at l0
    rw[if_pos rfl]
    by_cases hz:cd.length=0
    · rw[if_pos hz]
      have:((cd.length:Int)==0)=true:=by simp [hz]
      simp(disch:=first|decide|omega|(simp only[LN];first|done|omega)) only[SV,SW,f41,Nat.reduceAdd,Nat.reduceBEq,l0,this,q0b]
    · rw[if_neg hz]
      have:((cd.length:Int)==0)=false:=by simpa using hz
      clear hz
      simp(disch:=first|decide|omega|(simp only[LN];first|done|omega)) only[SV,SW,f41,Nat.reduceAdd,Nat.reduceBEq,l0,this,q0b]
  · rw[if_neg h]
    rw[show q2P sh gl cd r=(.ret,⟨[(4,.d false (.int .i64 r))],[],0,[]⟩) by unfold q2P;rw[if_neg h]] at l0
    clear h
    simp(disch:=first|decide|omega|(simp only[LN];first|done|omega)) only[SV,SW,f41,Nat.reduceAdd,Nat.reduceBEq,l0,q0b]
theorem q6k{Dp:List Int}{at_ d:Int}(h0:0≤at_)(h1:at_<Dp.length)(h:q2v Dp at_ d=true):q1E Dp at_ d=Dp.set at_.toNat d:=by
  unfold q1E
  split
  · rfl
  · rename_i hn
    unfold q2v at h
    rw[if_neg hn] at h
    have hd:nth Dp at_=d:=by simpa using h
    have:Dp[at_.toNat]'(by omega)=d:=by
      rw[←hd];unfold nth;rw[List.getD_eq_getElem?_getD,List.getElem?_eq_getElem (by omega)];rfl
    rw[←this,List.set_getElem_self]
def q9L(n:Nat)(c:Bool)(Dp:List Int)(r:Int):Ex×S:=if r=0 then(.exit 0,⟨[(6,.bsl 0 0 n)],[(0,.dat c 1 (Dp.map eInt))],1,[]⟩) else(.ret,⟨[(4,.bsl 0 0 n),(5,.d false (.int .i64 r))],[(0,.dat c 1 (Dp.map eInt))],1,[]⟩)
theorem z01(n c Dp):q9L n c Dp 0=(.exit 0,⟨[(6,.bsl 0 0 n)],[(0,.dat c 1 (Dp.map eInt))],1,[]⟩):=rfl
theorem q2S(n c Dp):q9L n c Dp 173=(.ret,⟨[(4,.bsl 0 0 n),(5,.d false (.int .i64 173))],[(0,.dat c 1 (Dp.map eInt))],1,[]⟩):=rfl
theorem q5s(n c Dp):q9L n c Dp 174=(.ret,⟨[(4,.bsl 0 0 n),(5,.d false (.int .i64 174))],[(0,.dat c 1 (Dp.map eInt))],1,[]⟩):=rfl
theorem q4z(Dp:List Int)(at_ d:Int):(q2v Dp at_ d=true∧(nth Dp at_ != 0&&nth Dp at_ != d)=false)∨(q2v Dp at_ d=false∧(nth Dp at_ != 0)=true∧(nth Dp at_ != d)=true):=by
  unfold q2v
  by_cases h:nth Dp at_=0
  · left;simp [h]
  · rw[if_neg h]
    by_cases g:nth Dp at_=d
    · left;simp [g]
    · right;simp [h,g]
set_option maxHeartbeats 4000000 in
theorem z7l(K:Cx)(h48:K48 K)(h49:K49 K)(h50:K50 K)(h51:K51 K)(sh:List Shape)(gl:List Glob)(nm:List UInt8)(ar:Int)(cd:List Instr)(hl:cd.length≤8000)(hs:ShOk sh)(hn:∀ i:Nat,i<cd.length→NumOk sh.length cd.length i (nth cd i))(hw:∀ x∈cd,x.a≤9223372036854775807) :
   ∀(k i:Nat) (c:Bool) (Dp:List Int),i+k=cd.length→Dp.length=cd.length→DpOk Dp→∃ c' Dp',Dp'.length=cd.length∧
    lp K 0 [2,3,6,7] f42_L0 ⟨[(2,.ptr 0 0 0),(3,.ptr 1 0 0),(6,.bsl 2 0 cd.length),(7,.d false (.int .i64 i))],
      [(0,.mix 2 [[.d false (.sl 2 (sh.map q0g)),.d false (.sl 3 (gl.map q0G))]]),(1,.mix 3 [[.d false (.str nm),.d false (.int .i64 ar),.d false (.sl 3 (cd.map q0C))]]),(2,.dat c 1 (Dp.map eInt))],3,[]⟩ =
    some (q9L cd.length c' Dp' (depL sh cd k i Dp)):=by
  intro k
  induction k with
  |zero=>
    intro i c Dp hi hD hok
    refine⟨c,Dp,hD,?_⟩
    rw[q0K f42_L0.eq_1]
    simp(disch:=first|decide|omega|(simp only[LN];first|done|omega)) only[SV,SW,Nat.reduceBEq,depL,z01]
  |succ k ih=>
    intro i c Dp hi hD hok
    have hcast:((i+1:Nat):Int)=(i:Int)+1:=by omega
    have hlt:i<cd.length:=by omega
    have hx0:=hn i hlt
    have hw0:=hw (nth cd i) (q2w (by omega) (by omega))
    have hdr:=hok (nth Dp i) (q2w (by omega) (by omega))
    rw[q0K f42_L0.eq_1]
    simp only[depL]
    generalize hx:nth cd (i:Int)=x at hx0 hw0
    generalize hd:nth Dp (i:Int)=d at hdr
    by_cases g0:d=0
    · subst g0
      rw[if_pos rfl]
      refine⟨c,Dp,hD,?_⟩
      clear ih hn hs hok hx0 hw0 hw hdr
      simp(disch:=first|decide|omega|(simp only[LN];first|done|omega)) only[SV,SW,Nat.reduceBEq,Nat.reduceAdd,hx,q0h,lose,hd,q0V,q5s]
    rw[if_neg g0]
    have b0:(d==0)=false:=by simpa using g0
    rw[q5C hx0.op (by omega)]
    have hrg0:=fun h=>q5D (d:=d) hs hx0 (by omega) h
    rw[q5C hx0.op (by omega)] at hrg0
    have c49:=h49 sh gl x d (by omega) (fun h=>hx0.con (.inl h))
    have c50:=h50 sh gl x d (by omega) (fun h=>⟨hx0.cnt (by omega),hw0⟩) (fun ho=>⟨(hx0.con ho).1,(hx0.con ho).2,hs _ (q2w (hx0.con ho).1 (hx0.con ho).2)⟩)
    have c51:=h51 x
    have c48:=h48 x
    have hj:=hx0.jmp
    have ht:=hx0.tst
    have hop:=hx0.op
    clear hx0 hw0
    generalize q5c sh x d=nb at c49 hrg0
    generalize q2h sh x d=nx at c50 hrg0
    unfold q3F at c49 c50
    unfold insA at c48 c49 c50 c51
    simp only at hrg0 ⊢
    cases nb with
    |false=>
      rw[if_pos (by simp)]
      refine⟨c,Dp,hD,?_⟩
      clear ih hn hs hok hw hdr hj ht hop hrg0 g0
      simp(disch:=first|decide|omega|(simp only[LN];first|done|omega)) only[SV,SW,Nat.reduceBEq,Nat.reduceAdd,hx,q0h,lose,hd,q0V,b0,q0c,c49,evUn,q2S]
    |true=>
      by_cases gx:8000<nx
      · have e1:decide (8000<nx)=true:=by simpa using gx
        rw[if_pos (by simp;omega)]
        refine⟨c,Dp,hD,?_⟩
        clear ih hn hs hok hw hdr hj ht hop hrg0 g0
        simp(disch:=first|decide|omega|(simp only[LN];first|done|omega)) only[SV,SW,Nat.reduceBEq,Nat.reduceAdd,hx,q0h,lose,hd,q0V,b0,q0c,c49,evUn,c50,q2S]
      · have e1:decide (8000<nx)=false:=by simpa using gx
        have e1':decide (nx≤8000)=true:=by simp;omega
        have hrg:=hrg0 (by simp;omega)
        rw[if_neg (by simp;omega)]
        clear hrg0
        have ih:=fun c Dp=>ih (i+1) c Dp (by omega)
        rw[hcast] at ih
        by_cases gg:q73 x=true
        · rw[if_pos gg]
          have⟨n13,n16,n17⟩:x.op≠13∧x.op≠16∧x.op≠17:=by
            simp [q73] at gg;omega
          have en:q62 x=false:=by simp [q62];omega
          rw[en] at c51
          have b13:(x.op != 13)=true:=by simpa using n13
          by_cases gl1:(i:Int)+1=cd.length
          · rw[if_pos gl1]
            have bl1:decide ((cd.length:Int)≤(i:Int)+1)=true:=by simp;omega
            refine⟨c,Dp,hD,?_⟩
            clear ih hn hs hok hw hdr hj ht hop g0 gl1 gg
            simp(disch:=first|decide|omega|(simp only[LN];first|done|omega)) only[SV,SW,Nat.reduceBEq,Nat.reduceAdd,hx,q0h,lose,hd,q0V,b0,q0c,c49,evUn,c50,c51,c48,b13,bl1,q5s]
          · rw[if_neg gl1]
            have bl1:decide ((cd.length:Int)≤(i:Int)+1)=false:=by simp;omega
            have gl2:(i:Int)+1<cd.length:=by omega
            clear gl1
            have hq:=q4z Dp ((i:Int)+1) nx
            have hcast':((i:Int)+1)=((i+1:Nat):Int):=by omega
            rcases hq with⟨q1,q2⟩|⟨q1,q2,q3⟩
            · have q2':=q2
              rw[hcast'] at q2'
              rw[if_neg (by simp [q1])]
              have hset:=q6k (Dp:=Dp) (at_:=(i:Int)+1) (d:=nx) (by omega) (by omega) q1
              rw[q6d] at hset
              have hok1:DpOk (q1E Dp ((i:Int)+1) nx):=q30 hok (by omega)
              have hlen1:=q3f Dp ((i:Int)+1) nx
              generalize q1E Dp ((i:Int)+1) nx=D1 at hset hok1 hlen1
              by_cases gt:x.op=14∨x.op=15
              · have ht:=ht gt
                have hti:q3E x=x.b:=by simp only[q3E];rw[if_neg n13,if_pos gt]
                have htr:q2f x=x.b:=by simp only[q2f];rw[if_neg n13,if_pos gt]
                rw[hti,if_pos (by omega)]
                rw[htr] at c48
                rcases q4z D1 x.b nx with⟨w1,w2⟩|⟨w1,w2,w3⟩
                · rw[if_neg (by simp [w1])]
                  have hset2:=q6k (Dp:=D1) (at_:=x.b) (d:=nx) (by omega) (by omega) w1
                  have hok2:DpOk (q1E D1 x.b nx):=q30 hok1 (by omega)
                  have hlen2:=q3f D1 x.b nx
                  generalize q1E D1 x.b nx=D2 at hset2 hok2 hlen2
                  obtain⟨c',Dp',hlen,ih⟩:=ih c D2 (by omega) hok2
                  refine⟨c',Dp',hlen,?_⟩
                  rw[hset2,hset] at ih ⊢
                  rw[hset] at w2
                  have z:0≤x.b:=by omega
                  clear hn hs hok hw hdr hj hop g0 gg hset hset2 hok1 hok2 q1 w1
                  simp(disch:=first|decide|omega|(simp only[LN];first|done|omega)) only[SV,SW,Nat.reduceBEq,Nat.reduceAdd,hx,q0h,lose,hd,q0V,b0,q0c,c49,evUn,c50,c51,c48,b13,q2',q78,w2,reduceCtorEq,Nat.reduceEqDiff]
                  exact ih
                · rw[if_pos w1]
                  rw[hset] at w2 w3
                  refine⟨c,Dp.set (i+1) nx,by simp [hD],?_⟩
                  have z:0≤x.b:=by omega
                  clear ih hn hs hok hw hdr hj hop g0 gg hset hok1 q1 w1
                  simp(disch:=first|decide|omega|(simp only[LN];first|done|omega)) only[SV,SW,Nat.reduceBEq,Nat.reduceAdd,hx,q0h,lose,hd,q0V,b0,q0c,c49,evUn,c50,c51,c48,b13,q2',q78,w2,w3,q2S]
              · have hti:q3E x=0:=by simp only[q3E];rw[if_neg n13,if_neg gt]
                have htr:q2f x=-1:=by simp only[q2f];rw[if_neg n13,if_neg gt]
                rw[hti,if_neg (by omega)]
                rw[htr] at c48
                obtain⟨c',Dp',hlen,ih⟩:=ih c D1 (by omega) hok1
                refine⟨c',Dp',hlen,?_⟩
                rw[hset] at ih ⊢
                clear hn hs hok hw hdr hj ht hop g0 gg hset hok1 q1 gt
                simp(disch:=first|decide|omega|(simp only[LN];first|done|omega)) only[SV,SW,Nat.reduceBEq,Nat.reduceAdd,hx,q0h,lose,hd,q0V,b0,q0c,c49,evUn,c50,c51,c48,Int.reduceNeg,b13,q2',q78,reduceCtorEq,Nat.reduceEqDiff]
                exact ih
            · have q2':=q2
              have q3':=q3
              rw[hcast'] at q2' q3'
              rw[if_pos q1]
              refine⟨c,Dp,hD,?_⟩
              clear ih hn hs hok hw hdr hj ht hop g0 gg q1
              simp(disch:=first|decide|omega|(simp only[LN];first|done|omega)) only[SV,SW,Nat.reduceBEq,Nat.reduceAdd,hx,q0h,lose,hd,q0V,b0,q0c,c49,evUn,c50,c51,c48,b13,q2',q3',q2S]
        · rw[if_neg gg]
          have hop:x.op=13∨x.op=16∨x.op=17:=by
            simp [q73] at gg;omega
          have on:(!q62 x&&x.op != 13)=false:=by
            rcases hop with h|h|h <;> simp [q62,h]
          by_cases g13:x.op=13
          · have ht:=hj g13
            have hti:q3E x=x.a:=by simp only[q3E];rw[if_pos g13]
            have htr:q2f x=x.a:=by simp only[q2f];rw[if_pos g13]
            have en:q62 x=false:=by simp [q62,g13]
            have b13:(x.op != 13)=false:=by simp [g13]
            rw[hti,if_pos (by omega)]
            rw[htr] at c48
            rw[en] at c51
            rcases q4z Dp x.a nx with⟨w1,w2⟩|⟨w1,w2,w3⟩
            · rw[if_neg (by simp [w1])]
              have hset2:=q6k (Dp:=Dp) (at_:=x.a) (d:=nx) (by omega) (by omega) w1
              have hok2:DpOk (q1E Dp x.a nx):=q30 hok (by omega)
              have hlen2:=q3f Dp x.a nx
              generalize q1E Dp x.a nx=D2 at hset2 hok2 hlen2
              obtain⟨c',Dp',hlen,ih⟩:=ih c D2 (by omega) hok2
              refine⟨c',Dp',hlen,?_⟩
              rw[hset2] at ih ⊢
              have z:0≤x.a:=by omega
              clear hn hs hok hw hdr hj hop g0 gg hset2 hok2 w1 on
              simp(disch:=first|decide|omega|(simp only[LN];first|done|omega)) only[SV,SW,Nat.reduceBEq,Nat.reduceAdd,hx,q0h,lose,hd,q0V,b0,q0c,c49,evUn,c50,c51,c48,b13,w2,q78,reduceCtorEq,Nat.reduceEqDiff]
              exact ih
            · rw[if_pos w1]
              refine⟨c,Dp,hD,?_⟩
              have z:0≤x.a:=by omega
              clear ih hn hs hok hw hdr hj hop g0 gg w1 on
              simp(disch:=first|decide|omega|(simp only[LN];first|done|omega)) only[SV,SW,Nat.reduceBEq,Nat.reduceAdd,hx,q0h,lose,hd,q0V,b0,q0c,c49,evUn,c50,c51,c48,b13,w2,w3,q2S]
          · have hti:q3E x=0:=by simp only[q3E];rw[if_neg g13,if_neg (by omega)]
            have htr:q2f x=-1:=by simp only[q2f];rw[if_neg g13,if_neg (by omega)]
            have en:q62 x=true:=by simp [q62];omega
            rw[hti,if_neg (by omega)]
            rw[htr] at c48
            rw[en] at c51
            obtain⟨c',Dp',hlen,ih⟩:=ih c Dp hD hok
            refine⟨c',Dp',hlen,?_⟩
            clear hn hs hok hw hdr hj ht hop g0 gg on g13
            simp(disch:=first|decide|omega|(simp only[LN];first|done|omega)) only[SV,SW,Nat.reduceBEq,Nat.reduceAdd,hx,q0h,lose,hd,q0V,b0,q0c,c49,evUn,c50,c51,c48,Int.reduceNeg,reduceCtorEq,Nat.reduceEqDiff]
            exact ih
def K28(K:Cx):Prop:=∀(sh:List Shape)(gl:List Glob)(nm:List UInt8)(ar:Int)(cd:List Instr),cd.length≤8000→0<cd.length→0≤ar∧ar≤24→ShOk sh→(∀ i:Nat,i<cd.length→NumOk sh.length cd.length i (nth cd i))→(∀ x∈cd,x.a≤9223372036854775807)→
  ∃ cc U,K.call 42 [q3F sh gl,.agg [.d false (.str nm),.d false (.int .i64 ar),.d false (.sl 3 (cd.map q0C))]]=some (.tup [.d cc (.sl 1 U),.d false (.int .i64 (depL sh cd cd.length 0 ((List.replicate cd.length 0).set 0 (ar+1))))],[])
theorem z6Z(K:Cx)(h48:K48 K)(h49:K49 K)(h50:K50 K)(h51:K51 K)(sh:List Shape)(gl:List Glob)(nm:List UInt8)(ar:Int)(cd:List Instr)(hl:cd.length≤8000)(h0:0<cd.length)(har:0≤ar∧ar≤24)(hs:ShOk sh)(hn:∀ i:Nat,i<cd.length→NumOk sh.length cd.length i (nth cd i))(hw:∀ x∈cd,x.a≤9223372036854775807) :
    ∃ cc U,q0B K f42 [q3F sh gl,.agg [.d false (.str nm),.d false (.int .i64 ar),.d false (.sl 3 (cd.map q0C))]] []=some (.tup [.d cc (.sl 1 U),.d false (.int .i64 (depL sh cd cd.length 0 ((List.replicate cd.length 0).set 0 (ar+1))))],[],[]):=by
  obtain⟨c',Dp',hlen,l0⟩:=z7l K h48 h49 h50 h51 sh gl nm ar cd hl hs hn hw cd.length 0 true ((List.replicate cd.length 0).set 0 (ar+1)) (by omega) (by simp) (by
    intro v hv
    rcases List.mem_or_eq_of_mem_set hv with h1|h1
    · rw[List.mem_replicate] at h1;omega
    · omega)
  simp only[Int.natCast_zero] at l0
  have dv:=z2Z sh cd cd.length 0 ((List.replicate cd.length 0).set 0 (ar+1))
  generalize depL sh cd cd.length 0 ((List.replicate cd.length 0).set 0 (ar+1))=r at l0 dv
  refine⟨c'||q0Y (Dp'.map eInt),Dp'.map eInt,?_⟩
  unfold q3F
  clear hn hs hw
  rcases dv with rfl|rfl|rfl
  · rw[z01] at l0
    simp(disch:=first|decide|omega|(simp only[LN];first|done|omega)) only[SV,SW,f42,Nat.reduceAdd,Nat.reduceBEq,q9q,z4g,Int.toNat_zero,q0V,q78,lose,reduceCtorEq,Nat.reduceEqDiff,l0,q0b,hNew,V.forget,V.drop1,V.ref0,V.newR,q0c]
  · rw[q2S] at l0
    simp(disch:=first|decide|omega|(simp only[LN];first|done|omega)) only[SV,SW,f42,Nat.reduceAdd,Nat.reduceBEq,q9q,z4g,Int.toNat_zero,q0V,q78,lose,reduceCtorEq,Nat.reduceEqDiff,l0,q0b,hNew,V.forget,V.drop1,V.ref0,V.newR,q0c]
  · rw[q5s] at l0
    simp(disch:=first|decide|omega|(simp only[LN];first|done|omega)) only[SV,SW,f42,Nat.reduceAdd,Nat.reduceBEq,q9q,z4g,Int.toNat_zero,q0V,q78,lose,reduceCtorEq,Nat.reduceEqDiff,l0,q0b,hNew,V.forget,V.drop1,V.ref0,V.newR,q0c]
end Go.Vm
end

section
namespace Go.Vm
structure TabOk(t:Table):Prop where
 sh:(t.shapes.length:Int)≤9223372036854775807
 gl:(t.globals.length:Int)≤9223372036854775807
 cd:∀ g∈t.globals,(g.code.length:Int)≤9223372036854775807
 sn:∀ s∈t.shapes,(s.name.length:Int)≤9223372036854775807
 gn:∀ g∈t.globals,(g.name.length:Int)≤9223372036854775807
 wd:∀ g∈t.globals,∀ x∈g.code,x.a≤9223372036854775807
def K20(K:Cx):Prop:=∀(t:Table),TabOk t→K.call 34 [.agg [.d false (.sl 2 (t.shapes.map q0g)),.d false (.sl 3 (t.globals.map q0G))]]=some (.d false (.bool (q37 t)),[])
def K22(K:Cx):Prop:=K.call 36 []=some (.bsl 0 0 7,[.dat true 2 (givenS.map q0g)])
def K23(K:Cx):Prop:=∀(sh:List Shape)(gl:List Glob)(nm:List UInt8)(ar:Int)(cd:List Instr),ShOk sh→cd.length≤8000→0≤ar∧ar≤24→(∀ x∈cd,x.a≤9223372036854775807)→
 K.call 37 [.agg [.d false (.sl 2 (sh.map q0g)),.d false (.sl 3 (gl.map q0G))],.agg [.d false (.str nm),.d false (.int .i64 ar),.d false (.sl 3 (cd.map q0C))]]=some (.d false (.int .i64 (q1K gl.length sh ⟨nm,ar,cd⟩)),[])
def q4p(r:Int):Ex×S:=if r=0 then(.exit 6,⟨[],[],0,[]⟩) else(.ret,⟨[(2,.d false (.int .i64 r))],[],0,[]⟩)
theorem z4t(K:Cx)(h23:K23 K)(t:Table)(hl:t.globals.length≤2000)(hs:ShOk t.shapes)(hg:∀ g∈t.globals,g.code.length≤8000∧(0≤g.arity∧g.arity≤24)∧∀ x∈g.code,x.a≤9223372036854775807):∀(k i:Nat),i+k=t.globals.length→
  lp K 0 [1,104,105,106] f13_L3 ⟨[(1,.ptr 0 0 0),(104,.d false (.sl 3 (t.globals.map q0G))),(105,.d false (.int .i64 t.globals.length)),(106,.d false (.int .i64 i))],[(0,.mix 2 [[.d false (.sl 2 (t.shapes.map q0g)),.d false (.sl 3 (t.globals.map q0G))]])],1,[]⟩ =
  some (q4p (q4t t.globals.length t.shapes (t.globals.drop i))):=by
 intro k
 induction k with
 |zero=>
  intro i hi
  rw[q0K f13_L3.eq_1,List.drop_of_length_le (by omega)]
  simp only[q4t]
  rw[show q4p 0=(.exit 6,⟨[],[],0,[]⟩) from rfl]
  simp(disch:=first|decide|omega|(simp only[LN];first|done|omega)) only[SV,SW,Nat.reduceBEq]
 |succ k ih=>
  intro i hi
  have hcast:((i+1:Nat):Int)=(i:Int)+1:=by omega
  have hlt:i<t.globals.length:=by omega
  rw[q0K f13_L3.eq_1,q0O hlt]
  obtain⟨g1,g2,g3⟩:=hg _ (q2w (l:=t.globals) (i:=(i:Int)) (by omega) (by omega))
  have ih:=ih (i+1) (by omega)
  rw[hcast] at ih
  simp only[q4t]
  generalize hgg:nth t.globals (i:Int)=g at g1 g2 g3
  have hc:=h23 t.shapes t.globals g.name g.arity g.code hs g1 g2 g3
  rw[show(⟨g.name,g.arity,g.code⟩:Glob)=g from rfl] at hc
  generalize q1K t.globals.length t.shapes g=r at hc
  clear g1 g2 g3 hg
  by_cases g0:r=0
  ·subst g0
   rw[if_pos rfl]
   simp(disch:=first|decide|omega|(simp only[LN];first|done|omega)) only[SV,SW,Nat.reduceBEq,Nat.reduceAdd,hgg,q0D,lose,q0c,hc]
   exact ih
  ·rw[if_neg g0]
   have d0:(r != 0)=true:=by simpa using g0
   have ho:q4p r=(.ret,⟨[(2,.d false (.int .i64 r))],[],0,[]⟩):=by unfold q4p;rw[if_neg g0]
   clear g0
   simp(disch:=first|decide|omega|(simp only[LN];first|done|omega)) only[SV,SW,Nat.reduceBEq,Nat.reduceAdd,hgg,q0D,lose,q0c,hc,d0,ho]
theorem z1m:∀ l,q2a (q3s l)=false
 |[]=>rfl
 |_ :: _=>rfl
theorem q9s(H nx b l):mcB H nx b (.map (q3s l))=some (put H b (.map []),.junk,.none,nx):=z6d H nx b _ (z1m l)
theorem z9e(K:Cx)(h20:K20 K)(h21:K21 K)(h22:K22 K)(h23:K23 K)(t:Table)(ht:TabOk t) :
  q0B K f13 [.agg [.d false (.sl 2 (t.shapes.map q0g)),.d false (.sl 3 (t.globals.map q0G))]] []=some (.d false (.int .i64 (q2e t)),[],[]):=by
 have hc:=h20 t ht
 unfold q2e
 cases hgr:q37 t with
 |true=>
  rw[hgr] at hc
  rw[if_pos rfl]
  simp(disch:=first|decide|omega|(simp only[LN];first|done|omega)) only[SV,SW,f13,Nat.reduceAdd,Nat.reduceBEq,q0c,hc,q0b]
 |false=>
  rw[hgr] at hc
  rw[if_neg (by simp)]
  obtain⟨q1,q2,q3⟩:=q9x hgr
  have l0:=z1r K h21 t q1 ht.sn t.shapes.length 0 [] (by omega)
  simp only[Int.natCast_zero,List.drop_zero,z0j,List.nil_append] at l0
  cases hn1:q1j 8 (t.shapes.map fun s=>(s.name,s.fields)) [] with
  |false=>
   rw[if_pos rfl]
   rw[hn1,q2N] at l0
   clear hgr
   simp(disch:=first|decide|omega|(simp only[LN];first|done|omega)) only[SV,SW,f13,Nat.reduceAdd,Nat.reduceBEq,q0c,hc,reduceCtorEq,l0,q0b]
  |true=>
   rw[if_neg (by simp)]
   rw[hn1,q7w] at l0
   have l1:=z6C K t q1 (t.shapes.map (·.name)) 7 0 rfl
   simp only[Int.natCast_zero] at l1
   unfold q72
   cases hh:q6v t.shapes 7 0 with
   |false=>
    rw[if_pos rfl]
    rw[hh,q5S] at l1
    unfold K22 at h22
    simp(disch:=first|decide|omega|(simp only[LN];first|done|omega)) only[SV,SW,f13,Nat.reduceAdd,Nat.reduceBEq,q0c,hc,reduceCtorEq,l0,h22,V.new2,V.newR,V.shift,Nat.reduceEqDiff,l1,q0b]
   |true=>
    rw[if_neg (by simp)]
    rw[hh,z0J] at l1
    unfold K22 at h22
    have l2:=z4c K h21 t q2 ht.gn t.globals.length 0 [] (by omega)
    simp only[Int.natCast_zero,List.drop_zero,z0j] at l2
    cases hn2:q1j 24 (t.globals.map fun g=>(g.name,g.arity)) [] with
    |false=>
     rw[if_pos rfl]
     rw[hn2,q3i] at l2
     simp(disch:=first|decide|omega|(simp only[LN];first|done|omega)) only[SV,SW,f13,Nat.reduceAdd,Nat.reduceBEq,q0c,hc,reduceCtorEq,l0,h22,V.new2,V.newR,V.shift,Nat.reduceEqDiff,l1,q9s,lose,l2,q0b]
    |true=>
     rw[if_neg (by simp)]
     rw[hn2,q80] at l2
     have m1:=q1A _ _ _ hn1
     have m2:=q1A _ _ _ hn2
     have l3:=z4t K h23 t q2 (fun s hs=>(m1 (s.name,s.fields) (List.mem_map.2 ⟨s,hs,rfl⟩)).2) (fun g hg=>⟨q3 g hg,(m2 (g.name,g.arity) (List.mem_map.2 ⟨g,hg,rfl⟩)).2,ht.wd g hg⟩) t.globals.length 0 (by omega)
     simp only[Int.natCast_zero,List.drop_zero] at l3
     generalize q4t t.globals.length t.shapes t.globals=r at l3
     by_cases g0:r=0
     ·subst g0
      rw[show q4p 0=(.exit 6,⟨[],[],0,[]⟩) from rfl] at l3
      clear m1 m2 q3
      simp(disch:=first|decide|omega|(simp only[LN];first|done|omega)) only[SV,SW,f13,Nat.reduceAdd,Nat.reduceBEq,q0c,hc,reduceCtorEq,l0,h22,V.new2,V.newR,V.shift,Nat.reduceEqDiff,l1,q9s,lose,l2,l3,q0b]
     ·rw[show q4p r=(.ret,⟨[(2,.d false (.int .i64 r))],[],0,[]⟩) by unfold q4p;rw[if_neg g0]] at l3
      clear m1 m2 q3 g0
      simp(disch:=first|decide|omega|(simp only[LN];first|done|omega)) only[SV,SW,f13,Nat.reduceAdd,Nat.reduceBEq,q0c,hc,reduceCtorEq,l0,h22,V.new2,V.newR,V.shift,Nat.reduceEqDiff,l1,q9s,lose,l2,l3,q0b]
end Go.Vm
end

section
namespace Go.Vm
/- 'sloth/slothref17.Check' -/
def f14_L0:C:= (.seq (.seq (.reg [⟨[],[(27,(.bin .lss (.sl 5) (.len false (.ld 1 false (.fa 1 (.sl 1))))))],[],none,[1,5],5,[],[],[]⟩]) (.cond (.sl 27) .skip (.seq (.tidy 0 []) (.exit 0)))) (.seq (.block 1 (.seq (.reg [⟨[],[(4,(.call 41 (.cons (.ld 2 true (.sl 1)) (.cons (.ld 1 false (.fa 2 (.ia 3 (.ld 1 false (.fa 1 (.sl 1))) (.sl 5)))) .nil))))],[],none,[1,5],9,[[],[],[1],[],[3,1,2],[2,1,3,4],[4,3,1,2,5],[5,2,1,3,4,6,0],[0,6,4,3,1,2,5,7]],[],[]⟩]) (.seq (.seq (.reg [⟨[],[(39,(.bin .neq (.sl 4) (.int .i64 0)))],[],none,[1,4,5],2,[],[],[]⟩]) (.cond (.sl 39) (.seq (.reg [⟨[],[(2,(.sl 4))],[],none,[],2,[],[],[]⟩]) (.seq (.tidy 0 [2]) .ret)) .skip)) (.seq (.reg [⟨[],[(7,(.ext 1 (.call 42 (.cons (.ld 2 true (.sl 1)) (.cons (.ld 3 true (.ia 3 (.ld 1 false (.fa 1 (.sl 1))) (.sl 5))) .nil)))))],[(.ext 0 (.call 42 (.cons (.ld 2 true (.sl 1)) (.cons (.ld 3 true (.ia 3 (.ld 1 false (.fa 1 (.sl 1))) (.sl 5))) .nil))))],none,[1,5],12,[[],[],[1],[],[3,1,2],[2,1,3,4],[4,3,1,2,5,0],[0,5,2,1,3,4,6],[6,4,3,1,2,5,0,7],[6,4,3,1,2,5,0,7],[7,0,5,2,1,3,4,6,8],[8,10,7,0,5,2,1,3,4,6,9]],[],[]⟩]) (.seq (.reg [⟨[],[(52,(.bin .neq (.sl 7) (.int .i64 0)))],[],none,[1,5,7],2,[],[],[]⟩]) (.cond (.sl 52) (.seq (.reg [⟨[],[(2,(.sl 7))],[],none,[],2,[],[],[]⟩]) (.seq (.tidy 0 [2]) .ret)) .skip)))))) (.reg [⟨[],[(5,(.bin .add (.sl 5) (.int .i64 1)))],[],none,[1],3,[],[],[]⟩])))
def f14:Fun:=⟨ (.seq (.reg [⟨[(1,.box (.sl 0))],[],[(.int .i64 0)],none,[1],2,[],[],[]⟩]) (.seq (.reg [⟨[],[(3,(.call 38 (.cons (.ld 2 true (.sl 1)) .nil)))],[],none,[1],3,[],[],[]⟩]) (.seq (.seq (.reg [⟨[],[(10,(.sl 3))],[],none,[1],1,[],[],[]⟩]) (.cond (.sl 10) (.seq (.reg [⟨[],[(2,(.int .i64 4))],[],none,[],1,[],[],[]⟩]) (.seq (.tidy 0 [2]) .ret)) .skip)) (.seq (.reg [⟨[],[(4,(.call 39 (.cons (.ld 1 false (.fa 0 (.sl 1))) .nil)))],[],none,[1],4,[],[],[]⟩]) (.seq (.seq (.reg [⟨[],[(15,(.bin .neq (.sl 4) (.int .i64 0)))],[],none,[1,4],2,[],[],[]⟩]) (.cond (.sl 15) (.seq (.reg [⟨[],[(2,(.sl 4))],[],none,[],2,[],[],[]⟩]) (.seq (.tidy 0 [2]) .ret)) .skip)) (.seq (.reg [⟨[],[(4,(.call 40 (.cons (.ld 1 false (.fa 1 (.sl 1))) .nil)))],[],none,[1],4,[],[],[]⟩]) (.seq (.seq (.reg [⟨[],[(21,(.bin .neq (.sl 4) (.int .i64 0)))],[],none,[1,4],2,[],[],[]⟩]) (.cond (.sl 21) (.seq (.reg [⟨[],[(2,(.sl 4))],[],none,[],2,[],[],[]⟩]) (.seq (.tidy 0 [2]) .ret)) .skip)) (.seq (.seq (.reg [⟨[],[(5,(.int .i64 0))],[],none,[1],1,[],[],[]⟩]) (.block 0 (.seq (.tidy 0 [1,5]) (.loop (.seq (.tidy 0 [1,5]) f14_L0))))) (.seq (.reg [⟨[],[(2,(.int .i64 0))],[],none,[],1,[],[],[]⟩]) (.seq (.tidy 0 [2]) .ret)))))))))), [(.sl 2)],false⟩
theorem j3D:q09 Go.Proofs.Tryz.prog 14 0 1 f14=true:=by kernel_rfl
def K24(K:Cx):Prop:=∀(t:Table),TabOk t→K.call 38 [q3F t.shapes t.globals]=some (.d false (.bool (q37 t)),[])
def K25(K:Cx):Prop:=∀(l:List Shape),(l.length:Int)≤9223372036854775807→(∀ s∈l,(s.name.length:Int)≤9223372036854775807)→K.call 39 [.d false (.sl 2 (l.map q0g))]=some (.d false (.int .i64 (q5G l)),[])
def K26(K:Cx):Prop:=∀(l:List Glob),(l.length:Int)≤9223372036854775807→(∀ s∈l,(s.name.length:Int)≤9223372036854775807)→K.call 40 [.d false (.sl 3 (l.map q0G))]=some (.d false (.int .i64 (q7Z l)),[])
def K27(K:Cx):Prop:=∀(sh:List Shape)(gl:List Glob)(cd:List Instr),cd.length≤8000→K.call 41 [q3F sh gl,.d false (.sl 3 (cd.map q0C))]=some (.d false (.int .i64 (q4A gl.length sh cd)),[])
def q2n(r:Int):Ex×S:=if r=0 then(.exit 0,⟨[],[],0,[]⟩) else(.ret,⟨[(2,.d false (.int .i64 r))],[],0,[]⟩)
theorem z2a(K:Cx)(h27:K27 K)(h28:K28 K)(t:Table)(hl:t.globals.length≤2000)(hs:ShOk t.shapes)(hg:∀ g∈t.globals,g.code.length≤8000∧(0≤g.arity∧g.arity≤24)∧∀ x∈g.code,x.a≤9223372036854775807):∀(k i:Nat),i+k=t.globals.length→
    lp K 0 [1,5] f14_L0 ⟨[(1,.ptr 0 0 0),(5,.d false (.int .i64 i))],[(0,.mix 2 [[.d false (.sl 2 (t.shapes.map q0g)),.d false (.sl 3 (t.globals.map q0G))]])],1,[]⟩ =
    some (q2n (q4t t.globals.length t.shapes (t.globals.drop i))):=by
  intro k
  induction k with
  |zero=>
    intro i hi
    rw[q0K f14_L0.eq_1,List.drop_of_length_le (by omega)]
    simp only[q4t]
    rw[show q2n 0=(.exit 0,⟨[],[],0,[]⟩) from rfl]
    simp(disch:=first|decide|omega|(simp only[LN];first|done|omega)) only[SV,SW,Nat.reduceBEq]
  |succ k ih=>
    intro i hi
    have hcast:((i+1:Nat):Int)=(i:Int)+1:=by omega
    have hlt:i<t.globals.length:=by omega
    rw[q0K f14_L0.eq_1,q0O hlt]
    obtain⟨g1,g2,g3⟩:=hg _ (q2w (l:=t.globals) (i:=(i:Int)) (by omega) (by omega))
    have ih:=ih (i+1) (by omega)
    rw[hcast] at ih
    simp only[q4t]
    generalize hgg:nth t.globals (i:Int)=g at g1 g2 g3
    have c27:=h27 t.shapes t.globals g.code g1
    unfold q1K
    unfold q4A at c27
    unfold q3F at c27
    by_cases z:q3b t.globals.length t.shapes.length g.code.length g.code g.code.length 0=0
    · rw[if_pos z] at c27
      simp only[if_pos z]
      by_cases z2:g.code.length=0
      · rw[if_pos z2] at c27
        simp only[if_pos z2,Int.reduceEq,if_false]
        rw[show q2n 174=(.ret,⟨[(2,.d false (.int .i64 174))],[],0,[]⟩) from rfl]
        clear z z2 g1 g2 g3 hg
        simp(disch:=first|decide|omega|(simp only[LN];first|done|omega)) only[SV,SW,Nat.reduceBEq,Nat.reduceAdd,hgg,q0D,q0c,c27]
      · rw[if_neg z2] at c27
        simp only[if_neg z2]
        have hok:∀ i:Nat,i<g.code.length→NumOk t.shapes.length g.code.length i (nth g.code i):=fun i hi=>z2C (q9m g.code.length 0 z i (by omega) (by omega))
        obtain⟨cc,U,c28⟩:=h28 t.shapes t.globals g.name g.arity g.code g1 (by omega) g2 hs hok g3
        unfold q3F at c28
        generalize depL t.shapes g.code g.code.length 0 ((List.replicate g.code.length 0).set 0 (g.arity+1))=r at c28
        clear z z2 g1 g2 g3 hg hok
        by_cases g0:r=0
        · subst g0
          rw[if_pos rfl]
          simp(disch:=first|decide|omega|(simp only[LN];first|done|omega)) only[SV,SW,Nat.reduceBEq,Nat.reduceAdd,hgg,q0D,q0c,c27,c28]
          exact ih
        · rw[if_neg g0]
          have d0:(r != 0)=true:=by simpa using g0
          have ho:q2n r=(.ret,⟨[(2,.d false (.int .i64 r))],[],0,[]⟩):=by unfold q2n;rw[if_neg g0]
          clear g0
          simp(disch:=first|decide|omega|(simp only[LN];first|done|omega)) only[SV,SW,Nat.reduceBEq,Nat.reduceAdd,hgg,q0D,q0c,c27,c28,d0,ho]
    · rw[if_neg z] at c27
      simp only[if_neg z]
      generalize q3b t.globals.length t.shapes.length g.code.length g.code g.code.length 0=r at c27 z
      have d0:(r != 0)=true:=by simpa using z
      have ho:q2n r=(.ret,⟨[(2,.d false (.int .i64 r))],[],0,[]⟩):=by unfold q2n;rw[if_neg z]
      clear z g1 g2 g3 hg
      simp(disch:=first|decide|omega|(simp only[LN];first|done|omega)) only[SV,SW,Nat.reduceBEq,Nat.reduceAdd,hgg,q0D,q0c,c27,d0,ho]
theorem z61(K:Cx)(h24:K24 K)(h25:K25 K)(h26:K26 K)(h27:K27 K)(h28:K28 K)(t:Table)(ht:TabOk t) :
    q0B K f14 [q3F t.shapes t.globals] []=some (.d false (.int .i64 (q2e t)),[],[]):=by
  have c24:=h24 t ht
  have c25:=h25 t.shapes ht.sh ht.sn
  have c26:=h26 t.globals ht.gl ht.gn
  unfold q3F at c24 ⊢
  unfold q5G at c25
  unfold q7Z at c26
  unfold q2e
  cases hgr:q37 t with
  |true=>
    rw[hgr] at c24
    rw[if_pos rfl]
    simp(disch:=first|decide|omega|(simp only[LN];first|done|omega)) only[SV,SW,f14,Nat.reduceAdd,Nat.reduceBEq,q0c,c24,q0b]
  |false=>
    rw[hgr] at c24
    rw[if_neg (by simp)]
    obtain⟨q1,q2,q3⟩:=q9x hgr
    clear hgr
    cases hn1:q1j 8 (t.shapes.map fun s=>(s.name,s.fields)) [] with
    |false=>
      rw[if_pos rfl]
      rw[hn1,if_pos rfl] at c25
      simp(disch:=first|decide|omega|(simp only[LN];first|done|omega)) only[SV,SW,f14,Nat.reduceAdd,Nat.reduceBEq,q0c,c24,c25,q0b]
    |true=>
      rw[if_neg (by simp)]
      rw[hn1,if_neg (by simp)] at c25
      cases hh:q72 t.shapes with
      |false=>
        rw[if_pos rfl]
        rw[hh,if_pos rfl] at c25
        simp(disch:=first|decide|omega|(simp only[LN];first|done|omega)) only[SV,SW,f14,Nat.reduceAdd,Nat.reduceBEq,q0c,c24,c25,q0b]
      |true=>
        rw[if_neg (by simp)]
        rw[hh,if_neg (by simp)] at c25
        cases hn2:q1j 24 (t.globals.map fun g=>(g.name,g.arity)) [] with
        |false=>
          rw[if_pos rfl]
          rw[hn2,if_pos rfl] at c26
          simp(disch:=first|decide|omega|(simp only[LN];first|done|omega)) only[SV,SW,f14,Nat.reduceAdd,Nat.reduceBEq,q0c,c24,c25,c26,q0b]
        |true=>
          rw[if_neg (by simp)]
          rw[hn2,if_neg (by simp)] at c26
          have m1:=q1A _ _ _ hn1
          have m2:=q1A _ _ _ hn2
          have l3:=z2a K h27 h28 t q2 (fun s hs=>(m1 (s.name,s.fields) (List.mem_map.2 ⟨s,hs,rfl⟩)).2) (fun g hg=>⟨q3 g hg,(m2 (g.name,g.arity) (List.mem_map.2 ⟨g,hg,rfl⟩)).2,ht.wd g hg⟩) t.globals.length 0 (by omega)
          simp only[Int.natCast_zero,List.drop_zero] at l3
          generalize q4t t.globals.length t.shapes t.globals=r at l3
          by_cases g0:r=0
          · subst g0
            rw[show q2n 0=(.exit 0,⟨[],[],0,[]⟩) from rfl] at l3
            clear m1 m2 q3
            simp(disch:=first|decide|omega|(simp only[LN];first|done|omega)) only[SV,SW,f14,Nat.reduceAdd,Nat.reduceBEq,q0c,c24,c25,c26,l3,q0b]
          · rw[show q2n r=(.ret,⟨[(2,.d false (.int .i64 r))],[],0,[]⟩) by unfold q2n;rw[if_neg g0]] at l3
            clear m1 m2 q3 g0
            simp(disch:=first|decide|omega|(simp only[LN];first|done|omega)) only[SV,SW,f14,Nat.reduceAdd,Nat.reduceBEq,q0c,c24,c25,c26,l3,q0b]
end Go.Vm
end

section
namespace Go.Vm
end Go.Vm
end

section
namespace Go.Vm
/- 'sloth/slothlaw17.CodeEnds' -/
end Go.Vm
end

section
namespace Go.Vm
def K13(K:Cx):Prop:=∀ t:Table,TabOk t→K.call 13 [.agg [.d false (.sl 2 (t.shapes.map q0g)),.d false (.sl 3 (t.globals.map q0G))]]=some (.d false (.int .i64 (q2e t)),[])
theorem z4u{ng:Nat}{sh:List Shape}:∀(l:List Glob),q4t ng sh l=0→∀ g∈l,q1K ng sh g=0:=by
 intro l
 induction l with
 |nil=>intro _ g hg;simp at hg
 |cons a l ih=>
  intro h g hg
  simp only[q4t] at h
  split at h
  ·rename_i c
   rcases List.mem_cons.1 hg with rfl|hg
   ·exact c
   ·exact ih h g hg
  ·rename_i c;exact absurd h c
theorem z9x{t:Table}(h:q2e t=0):ShOk t.shapes∧t.globals.length≤2000∧∀ g∈t.globals,g.code.length≤8000∧(0≤g.arity∧g.arity≤24)∧q1K t.globals.length t.shapes g=0:=by
 unfold q2e at h
 split at h
 ·cases h
 ·split at h
  ·cases h
  ·split at h
   ·cases h
   ·split at h
    ·cases h
    ·rename_i h1 h2 h3 h4
     obtain⟨q1,q2,q3⟩:=q9x (by simpa using h1)
     have m1:=q1A _ _ _ (by simpa using h2)
     have m2:=q1A _ _ _ (by simpa using h4)
     exact⟨fun s hs=>(m1 (s.name,s.fields) (List.mem_map.2 ⟨s,hs,rfl⟩)).2,q2,fun g hg=>⟨q3 g hg,(m2 (g.name,g.arity) (List.mem_map.2 ⟨g,hg,rfl⟩)).2,z4u _ h g hg⟩⟩
end Go.Vm
end

section
namespace Go.Vm
set_option maxRecDepth 20000
open Go.Proofs
/- 'sloth/slothlaw17.CodeChecks' -/
def f3_T0:C:= (.seq (.reg [⟨[],[(7,(.call 13 (.cons (.ld 2 true (.sl 6)) .nil)))],[],none,[2,3,5,6],3,[],[],[]⟩]) (.seq (.reg [⟨[],[(8,(.call 13 (.cons (.ld 2 true (.sl 3)) .nil)))],[],none,[2,3,5,6,7],3,[],[],[]⟩]) (.seq (.reg [⟨[],[(9,(.call 13 (.cons (.ld 2 true (.sl 6)) .nil)))],[],none,[2,3,5,6,7,8],3,[],[],[]⟩]) (.seq (.reg [⟨[],[(10,(.call 14 (.cons (.ld 2 true (.sl 2)) .nil)))],[],none,[2,3,5,6,7,8,9],3,[],[],[]⟩]) (.seq (.reg [⟨[],[(11,(.call 14 (.cons (.ld 2 true (.sl 3)) .nil)))],[],none,[2,5,6,7,8,9,10],3,[],[],[]⟩]) (.seq (.reg [⟨[],[(12,(.call 15 (.cons (.ld 2 true (.sl 6)) (.cons (.ld 2 true (.sl 2)) .nil))))],[],none,[5,6,7,8,9,10,11],4,[],[],[]⟩]) (.seq (.reg [⟨[],[],[],some (some 33,.calle 16 (.cons (.ld 2 true (.sl 6)) .nil)),[5,6,7,8,9,10,11,12],2,[],[],[]⟩,⟨[],[(13,(.sl 33))],[],none,[5,6,7,8,9,10,11,12],1,[],[],[]⟩]) (.seq (.seq (.reg [⟨[],[(58,(.or (.or (.or (.or (.or (.un .not (.sl 5)) (.bin .neq (.sl 7) (.sl 10))) (.bin .neq (.sl 8) (.sl 11))) (.bin .neq (.sl 9) (.sl 10))) (.un .not (.sl 12))) (.un .not (.sl 13))))],[],none,[6],25,[],[],[]⟩]) (.cond (.sl 58) (.seq (.reg [⟨[],[(4,(.bool false))],[],none,[],1,[],[],[]⟩]) (.seq (.keep [4]) .ret)) .skip)) (.seq (.reg [⟨[],[],[],some (some 60,.calle 17 (.cons (.ld 2 true (.sl 6)) .nil)),[6],2,[],[],[]⟩]) (.seq (.reg [⟨[],[(14,(.call 14 (.cons (.ld 2 true (.sl 6)) .nil)))],[],none,[6],3,[],[],[]⟩]) (.seq (.reg [⟨[],[(15,(.call 13 (.cons (.ld 2 true (.sl 6)) .nil)))],[],none,[14],3,[],[],[]⟩]) (.seq (.reg [⟨[],[(4,(.bin .eql (.sl 15) (.sl 14)))],[],none,[],4,[],[],[]⟩]) (.seq (.keep [4]) .ret)))))))))))))
def f3:Fun:=⟨ (.seq (.reg [⟨[(2,.box (.sl 0)),(3,.box (.sl 1))],[],[(.bool false)],none,[2,3],3,[],[],[]⟩]) (.seq (.reg [⟨[],[(5,(.call 11 .nil))],[],none,[2,3],2,[],[],[]⟩]) (.seq (.reg [⟨[(18,.callo 12 (.cons (.ld 2 true (.sl 2)) .nil)),(6,.box (.agg (.cons (.nilsl 2) (.cons (.nilsl 3) .nil))))],[],[],some (none,.store 2 (.sl 6) (.sl 18)),[2,3,5,6],4,[],[],[]⟩]) (.seq (.keep [2,3,5,6]) f3_T0)))), [(.sl 4)],false⟩
def L12(K:Cx):Prop:=∀ t,Sm t→K.call 12 [.agg (tabV t)]=some (.agg [.bsx 0 0 t.shapes.length,.bsx 1 0 t.globals.length],tblk true 2 t)
def L14(K:Cx):Prop:=∀ t:Table,TabOk t→K.call 14 [.agg [.d false (.sl 2 (t.shapes.map q0g)),.d false (.sl 3 (t.globals.map q0G))]]=some (.d false (.int .i64 (q2e t)),[])
def L15(K:Cx):Prop:=∀ a b:Table,Big a→Big b→K.call 15 [.agg (tabV a),.agg (tabV b)]=some (.d false (.bool (decide (a=b))),[])
def L16(K:Cx):Prop:=∀ t,Sm t→K.eff 16 [.agg [.bsx 0 0 t.shapes.length,.bsx 1 0 t.globals.length]] (tblk false 2 t)=some (.d false (.bool true),tblk false 2 t,[])
def L17(K:Cx):Prop:=∀ t,Sm t→K.eff 17 [.agg [.bsx 0 0 t.shapes.length,.bsx 1 0 t.globals.length]] (tblk false 2 t)=some (.tup [],q3X t,[])
theorem z5B(t:Table)(k:Nat):(tblk true 2 t).map (Blk.shift k)=tblk true (2+k) t:=by
  have hr:∀(gs:List Glob) (p:Nat),((numG p gs).map rowG).map (List.map (V.shift k))=(numG (p+k) gs).map rowG:=by
    intro gs
    induction gs with
    |nil=>intro p;rfl
    |cons g r ih=>
      intro p
      simp only[numG,List.map_cons]
      rw[ih (p+1),show p+1+k=p+k+1 by omega]
      rfl
  simp only[tblk,List.map_cons,List.map_map]
  congr 2
  unfold gB
  by_cases h:t.globals=[]
  · rw[if_pos h,if_pos h];rfl
  · rw[if_neg h,if_neg h]
    simp only[Blk.shift,List.map_append,hr]
    rfl
theorem j1V(t:Table):mkOR 2 false (some (.agg [.bsx 0 0 t.shapes.length,.bsx 1 0 t.globals.length],tblk true 2 t))=some (.agg [.bsx 2 0 t.shapes.length,.bsx 3 0 t.globals.length],tblk true 4 t):=by
  rw[q2k]
  have hl:(tblk true 2 t).all Blk.lays=true:=by
    simp only[tblk,List.all_cons,List.all_map,Bool.and_eq_true,List.all_eq_true]
    refine⟨rfl,by unfold gB;split <;> rfl,fun g _=>rfl⟩
  by_cases hp:(tblk true 2 t).all Blk.plain=true
  · have hg:t.globals=[]:=by
      simp only[tblk,List.all_cons,Bool.and_eq_true] at hp
      by_cases h:t.globals=[]
      · exact h
      · have:=hp.2.1
        unfold gB at this
        rw[if_neg h] at this
        cases this
    rw[if_pos (by simp [hp])]
    have:tblk true 2 t=tblk true 4 t:=by simp only[tblk,gB,if_pos hg]
    rw[this];rfl
  · rw[if_neg (by simp [hp]),if_pos (by simp [hl]),z5B];rfl
theorem TB.add{H:List (Nat×Blk)}{p:Nat}{z:Bool}{t:Table}{more:List Blk}:TB (addBlks H p (tblk z (p+2) t++more)) p z t:=by
  have hl:=q1P z (p+2) t
  have key:∀ j,j<t.globals.length+2→look (addBlks H p (tblk z (p+2) t++more)) (p+j)=(tblk z (p+2) t)[j]?:=fun j hj=>by
    rw[q1O,if_pos (by rw[List.length_append,hl];omega),Nat.add_sub_cancel_left,List.getElem?_append_left (by omega)]
  refine⟨key 0 (by omega),key 1 (by omega),fun j hj=>?_⟩
  have:=key (j+2) (by omega)
  rw[show p+2+j=p+(j+2) by omega,this]
  simp only[tblk,List.getElem?_cons_succ,List.getElem?_map,q1o hj,Option.map_some]
end Go.Vm
end

section
namespace Go.Vm
set_option maxRecDepth 20000
open Go.Proofs
/- 'sloth/slothref17.Print' -/
def M43(K:Cx):Prop:=∀(c:Bool)(l s:Bs),l.length≤1000000000000→s.length≤1000000000→s≠[]→K.eff 43 [.bsl 0 0 l.length,.d false (.str s)] [.dat c 1 (l.map eU)]=some (.bsl 0 0 (l++s).length,[.dat c 1 ((l++s).map eU)],[0])
structure PrOk(t:Table):Prop where
 nm:Nm t
 sl:t.shapes.length≤1048576
 gl:t.globals.length≤2000
 fd:∀ s∈t.shapes,0≤s.fields∧s.fields≤8
 ar:∀ g∈t.globals,0≤g.arity∧g.arity≤24
 cd:∀ g∈t.globals,g.code.length≤8000∧∀ x∈g.code,InsOk t x
theorem z6N(l s:Bs):l.map eU++s.map eU=(l++s).map eU:=by simp
theorem q3d{α:Type}{f:α→Bs}{n:Nat}:∀(l:List α),(∀ x∈l,(f x).length≤n)→(l.flatMap f).length≤l.length*n
 |[],_=>by simp
 |a :: l,h=>by
  have h1:=h a (by simp)
  have h2:=q3d l fun x hx=>h x (by simp [hx])
  simp only[List.flatMap_cons,List.length_append,List.length_cons,Nat.add_mul,Nat.one_mul];omega
theorem z1M{t:Table}{nc i:Int}{x:Instr}(h:q5L t.globals.length t.shapes.length nc i x=0)(h0:0≤i)(hw:x.a≤9223372036854775807)(hnc:nc≤8000):InsOk t x:=by
 unfold q5L at h
 by_cases g:1≤x.op∧x.op<18
 ·rw[if_pos g] at h
  have key:∀ a b:Int,(if a=172∨b=172 then(172:Int) else if a≠0∨b≠0 then 174 else 0)=0→a=0∧b=0:=by
   intro a b h
   split at h
   ·omega
   ·split at h <;> omega
  obtain⟨ha,hb⟩:=key _ _ h
  clear h
  have:x.op=1∨x.op=2∨x.op=3∨x.op=4∨x.op=5∨x.op=6∨x.op=7∨x.op=8∨x.op=9∨x.op=10∨x.op=11∨x.op=12∨x.op=13∨x.op=14∨x.op=15∨x.op=16∨x.op=17:=by omega
  obtain⟨op,a,b⟩:=x
  simp only at this ha hb g hw
  rcases this with rfl|rfl|rfl|rfl|rfl|rfl|rfl|rfl|rfl|rfl|rfl|rfl|rfl|rfl|rfl|rfl|rfl <;>
   simp [q2D,z6I,nth,q1S] at ha hb <;> refine⟨by simp,fun hl=>?_,fun hl=>?_⟩ <;> simp [q4L,j1J,nth] at hl⊢<;> omega
 ·rw[if_neg g] at h;cases h
theorem z2D{s:List UInt8}(h:q1w s=true):s.length≤4096:=by
 unfold q1w at h
 simp only[Bool.and_eq_true,decide_eq_true_eq] at h
 omega
theorem pr_ok{t:Table}(h:q2e t=0)(hs:t.shapes.length≤1048576)(hw:∀ g∈t.globals,∀ x∈g.code,x.a≤9223372036854775807):PrOk t:=by
 obtain⟨c1,c2,c3⟩:=z9x h
 have names:(∀ s∈t.shapes,q1w s.name=true)∧∀ g∈t.globals,q1w g.name=true:=by
  unfold q2e at h
  split at h
  ·cases h
  ·split at h
   ·cases h
   ·split at h
    ·cases h
    ·split at h
     ·cases h
     ·rename_i h1 h2 h3 h4
      have m1:=q1A _ _ _ (by simpa using h2)
      have m2:=q1A _ _ _ (by simpa using h4)
      exact⟨fun s hs=>(m1 (s.name,s.fields) (List.mem_map.2 ⟨s,hs,rfl⟩)).1,fun g hg=>(m2 (g.name,g.arity) (List.mem_map.2 ⟨g,hg,rfl⟩)).1⟩
 refine⟨⟨fun s hs=>z2D (names.1 s hs),fun g hg=>z2D (names.2 g hg)⟩,hs,c2,fun s hs=>c1 s hs,fun g hg=>(c3 g hg).2.1,fun g hg=>⟨(c3 g hg).1,fun x hx=>?_⟩⟩
 obtain⟨a1,a2,a3⟩:=c3 g hg
 unfold q1K at a3
 split at a3
 ·rename_i z
  obtain⟨i,hi⟩:=List.getElem?_of_mem hx
  have hil:i<g.code.length:=by
   rcases Nat.lt_or_ge i g.code.length with h|h
   ·exact h
   ·rw[List.getElem?_eq_none h] at hi;cases hi
  have hn:=q9m g.code.length 0 z i (by omega) (by omega)
  have e:=q1o hil
  rw[hi] at e
  rw[←Option.some.inj e] at hn
  exact z1M hn (by omega) (hw g hg x hx) (by omega)
 ·rename_i z;exact absurd a3 z
end Go.Vm
end

section
namespace Go.Vm
set_option maxRecDepth 20000
open Go.Proofs
/- 'sloth/slothref17.Bytes' -/
def f23_L0:C:= (.seq (.seq (.reg [⟨[],[(29,(.bin .lss (.sl 6) (.len false (.ld 1 false (.fa 0 (.sl 1))))))],[],none,[1,5,6],5,[],[],[]⟩]) (.cond (.sl 29) .skip (.seq (.tidy 0 [1,5]) (.exit 0)))) (.seq (.block 1 (.seq (.reg [⟨[],[],[],some (some 39,.calle 64 (.cons (.sl 5) (.cons (.ld 1 false (.fa 0 (.ia 2 (.ld 1 false (.fa 0 (.sl 1))) (.sl 6)))) .nil))),[1,6],8,[],[],[]⟩,⟨[],[(5,(.sl 39))],[],none,[1,6],1,[],[],[]⟩]) (.reg [⟨[],[],[],some (some 48,.calle 63 (.cons (.sl 5) (.cons (.conv .u64 (.ld 1 false (.fa 1 (.ia 2 (.ld 1 false (.fa 0 (.sl 1))) (.sl 6))))) .nil))),[1,6],9,[],[],[]⟩,⟨[],[(5,(.sl 48))],[],none,[1,6],1,[],[],[]⟩]))) (.reg [⟨[],[(6,(.bin .add (.sl 6) (.int .i64 1)))],[],none,[1,5],3,[],[],[]⟩])))
def f23_L1:C:= (.seq (.seq (.reg [⟨[],[(86,(.bin .lss (.sl 9) (.len false (.ld 1 false (.fa 2 (.sl 8))))))],[],none,[1,5,7,8,9],5,[],[],[]⟩]) (.cond (.sl 86) .skip (.seq (.tidy 0 [1,5,7]) (.exit 4)))) (.seq (.block 5 (.seq (.reg [⟨[(10,.box (.agg (.cons (.int .i64 0) (.cons (.int .i64 0) (.cons (.int .i64 0) .nil)))))],[],[],some (none,.store 3 (.sl 10) (.ld 3 true (.ia 3 (.ld 1 false (.fa 2 (.sl 8))) (.sl 9)))),[1,5,7,8,9,10],7,[],[],[]⟩]) (.seq (.reg [⟨[],[(11,(.call 65 (.cons (.ld 1 false (.fa 0 (.sl 10))) .nil)))],[],none,[1,5,7,8,9,10],4,[],[],[]⟩]) (.seq (.reg [⟨[(101,.lits 1 (.cons (.conv .u8 (.ld 1 false (.fa 0 (.sl 10)))) .nil))],[],[],some (some 102,.app 1 (.sl 5) (.sl 101)),[1,7,8,9,10,11],6,[],[],[]⟩,⟨[],[(5,(.sl 102))],[],none,[1,7,8,9,10,11],1,[],[],[]⟩]) (.seq (.seq (.reg [⟨[],[(110,(.or (.bin .eql (.ld 1 false (.fa 0 (.sl 10))) (.int .i64 3)) (.bin .eql (.ld 1 false (.fa 0 (.sl 10))) (.int .i64 15))))],[],none,[1,5,7,8,9,10,11],8,[],[],[]⟩]) (.cond (.sl 110) (.reg [⟨[],[],[],some (some 115,.calle 63 (.cons (.sl 5) (.cons (.call 66 (.cons (.ld 1 false (.fa 1 (.sl 10))) .nil)) .nil))),[1,7,8,9,10,11],5,[],[],[]⟩,⟨[],[(5,(.sl 115))],[],none,[1,7,8,9,10,11],1,[],[],[]⟩]) (.seq (.reg [⟨[],[(118,(.bin .gtr (.len true (.sl 11)) (.int .i64 0)))],[],none,[1,5,7,8,9,10,11],3,[],[],[]⟩]) (.cond (.sl 118) (.reg [⟨[],[],[],some (some 123,.calle 63 (.cons (.sl 5) (.cons (.conv .u64 (.ld 1 false (.fa 1 (.sl 10)))) .nil))),[1,7,8,9,10,11],5,[],[],[]⟩,⟨[],[(5,(.sl 123))],[],none,[1,7,8,9,10,11],1,[],[],[]⟩]) .skip)))) (.seq (.reg [⟨[],[(126,(.bin .gtr (.len true (.sl 11)) (.int .i64 1)))],[],none,[1,5,7,8,9,10],3,[],[],[]⟩]) (.cond (.sl 126) (.reg [⟨[],[],[],some (some 131,.calle 63 (.cons (.sl 5) (.cons (.conv .u64 (.ld 1 false (.fa 2 (.sl 10)))) .nil))),[1,7,8,9],5,[],[],[]⟩,⟨[],[(5,(.sl 131))],[],none,[1,7,8,9],1,[],[],[]⟩]) .skip))))))) (.reg [⟨[],[(9,(.bin .add (.sl 9) (.int .i64 1)))],[],none,[1,5,7,8],3,[],[],[]⟩])))
def f23_L2:C:= (.seq (.seq (.reg [⟨[],[(59,(.bin .lss (.sl 7) (.len false (.ld 1 false (.fa 1 (.sl 1))))))],[],none,[1,5,7],5,[],[],[]⟩]) (.cond (.sl 59) .skip (.seq (.tidy 0 [5]) (.exit 2)))) (.seq (.block 3 (.seq (.reg [⟨[(8,.box (.agg (.cons (.str []) (.cons (.int .i64 0) (.cons (.nilsl 3) .nil)))))],[],[],some (none,.store 3 (.sl 8) (.ld 3 true (.ia 3 (.ld 1 false (.fa 1 (.sl 1))) (.sl 7)))),[1,5,7,8],7,[],[],[]⟩]) (.seq (.reg [⟨[],[],[],some (some 70,.calle 64 (.cons (.sl 5) (.cons (.ld 1 false (.fa 0 (.sl 8))) .nil))),[1,7,8],4,[],[],[]⟩,⟨[],[(5,(.sl 70))],[],none,[1,7,8],1,[],[],[]⟩]) (.seq (.reg [⟨[],[],[],some (some 75,.calle 63 (.cons (.sl 5) (.cons (.conv .u64 (.ld 1 false (.fa 1 (.sl 8)))) .nil))),[1,7,8],5,[],[],[]⟩,⟨[],[(5,(.sl 75))],[],none,[1,7,8],1,[],[],[]⟩]) (.seq (.reg [⟨[],[],[],some (some 81,.calle 63 (.cons (.sl 5) (.cons (.conv .u64 (.len false (.ld 1 false (.fa 2 (.sl 8))))) .nil))),[1,7,8],6,[],[],[]⟩,⟨[],[(5,(.sl 81))],[],none,[1,7,8],1,[],[],[]⟩]) (.seq (.reg [⟨[],[(9,(.int .i64 0))],[],none,[1,5,7,8],1,[],[],[]⟩]) (.block 4 (.seq (.tidy 0 [1,5,7,8,9]) (.loop (.seq (.tidy 0 [1,5,7,8,9]) f23_L1)))))))))) (.reg [⟨[],[(7,(.bin .add (.sl 7) (.int .i64 1)))],[],none,[1,5],3,[],[],[]⟩])))
def f23:Fun:=⟨ (.seq (.reg [⟨[(1,.box (.sl 0))],[],[(.int .i64 0),(.nilsl 1)],none,[1],3,[],[],[]⟩]) (.seq (.reg [⟨[],[(4,(.call 14 (.cons (.ld 2 true (.sl 1)) .nil)))],[],none,[1],3,[],[],[]⟩]) (.seq (.seq (.reg [⟨[],[(16,(.bin .neq (.sl 4) (.int .i64 0)))],[],none,[1,4],2,[],[],[]⟩]) (.cond (.sl 16) (.seq (.reg [⟨[],[(2,(.nilsl 1)),(3,(.sl 4))],[],none,[],3,[],[],[]⟩]) (.seq (.tidy 0 [2,3]) .ret)) .skip)) (.seq (.reg [⟨[(18,.lits 1 (.cons (.int .u8 83) (.cons (.int .u8 76) (.cons (.int .u8 84) (.cons (.int .u8 72) .nil)))))],[(5,(.sl 18))],[],none,[1],2,[],[],[]⟩]) (.seq (.reg [⟨[],[],[],some (some 24,.calle 63 (.cons (.sl 5) (.cons (.conv .u64 (.len false (.ld 1 false (.fa 0 (.sl 1))))) .nil))),[1],6,[],[],[]⟩,⟨[],[(5,(.sl 24))],[],none,[1],1,[],[],[]⟩]) (.seq (.seq (.reg [⟨[],[(6,(.int .i64 0))],[],none,[1,5],1,[],[],[]⟩]) (.block 0 (.seq (.tidy 0 [1,5,6]) (.loop (.seq (.tidy 0 [1,5,6]) f23_L0))))) (.seq (.reg [⟨[],[],[],some (some 54,.calle 63 (.cons (.sl 5) (.cons (.conv .u64 (.len false (.ld 1 false (.fa 1 (.sl 1))))) .nil))),[1],6,[],[],[]⟩,⟨[],[(5,(.sl 54))],[],none,[1],1,[],[],[]⟩]) (.seq (.seq (.reg [⟨[],[(7,(.int .i64 0))],[],none,[1,5],1,[],[],[]⟩]) (.block 2 (.seq (.tidy 0 [1,5,7]) (.loop (.seq (.tidy 0 [1,5,7]) f23_L2))))) (.seq (.reg [⟨[],[(12,(.call 67 (.cons (.sl 5) .nil)))],[],none,[5],3,[],[],[]⟩]) (.seq (.reg [⟨[(146,.lits 1 (.cons (.conv .u8 (.sl 12)) (.cons (.conv .u8 (.sh false (.sl 12) (.int .u64 8))) (.cons (.conv .u8 (.sh false (.sl 12) (.int .u64 16))) (.cons (.conv .u8 (.sh false (.sl 12) (.int .u64 24))) .nil)))))],[],[],some (some 147,.app 1 (.sl 5) (.sl 146)),[],14,[],[],[]⟩,⟨[],[(5,(.sl 147))],[],none,[],1,[],[],[]⟩]) (.seq (.seq (.reg [⟨[],[(150,(.bin .gtr (.len false (.sl 5)) (.int .i64 8388608)))],[],none,[5],3,[],[],[]⟩]) (.cond (.sl 150) (.seq (.reg [⟨[],[(2,(.nilsl 1)),(3,(.int .i64 4))],[],none,[],2,[],[],[]⟩]) (.seq (.tidy 0 [2,3]) .ret)) .skip)) (.seq (.reg [⟨[],[(2,(.sl 5)),(3,(.int .i64 0))],[],none,[],3,[],[],[]⟩]) (.seq (.tidy 0 [2,3]) .ret))))))))))))), [(.sl 2),(.sl 3)],false⟩
theorem j3y:q09 Go.Proofs.Tryz.prog 23 0 1 f23=true:=by kernel_rfl
/- 'sloth/slothref17.named' -/
def f64:Fun:=⟨ (.seq (.reg [⟨[],[],[(.nilsl 1)],none,[0,1],1,[],[],[]⟩]) (.seq (.reg [⟨[],[],[],some (some 9,.calle 63 (.cons (.sl 0) (.cons (.conv .u64 (.len true (.sl 1))) .nil))),[1],5,[],[],[]⟩,⟨[],[(0,(.sl 9))],[],none,[1],1,[],[],[]⟩]) (.seq (.reg [⟨[],[],[],some (some 12,.calle 43 (.cons (.sl 0) (.cons (.sl 1) .nil))),[],3,[],[],[]⟩,⟨[],[(4,(.sl 12))],[],none,[],1,[],[],[]⟩]) (.seq (.tidy 1 [4]) .ret)))), [(.sl 4)],false⟩
theorem j3a:q09 Go.Proofs.Tryz.prog 64 1 2 f64=true:=by kernel_rfl
def w64n(a:Int):Nat:=(a % 18446744073709551616).toNat
theorem q9b(a:Int):IntKind.u64.wrap a=(w64n a:Int):=by rw[q7o];unfold w64n;omega
theorem q1r(a:Int):w64n a≤18446744073709551615:=by unfold w64n;omega
theorem q0L{n:Nat}(h:n≤18446744073709551615):(leb n).length≤10:=z6n 9 n (Nat.lt_of_le_of_lt h (by decide))
def q15(s:Bs):Bs:=leb s.length++s
def M63(K:Cx):Prop:=∀(l:Bs)(n:Nat),l.length≤999999999000→n≤18446744073709551615→K.eff 63 [.bsl 0 0 l.length,.d false (.int .u64 n)] [.dat false 1 (l.map eU)]=some (.bsl 0 0 (l++leb n).length,[.dat false 1 ((l++leb n).map eU)],[0])
theorem z86(K:Cx)(h63:M63 K)(h43:M43 K)(a:Bool)(l s:Bs)(hl:l.length≤999999990000)(hs:s.length≤100000)(h0:s≠[]) :
    q0B K f64 [.bsl 0 0 l.length,.d a (.str s)] [.dat false 1 (l.map eU)]=some (.bsl 0 0 (l++q15 s).length,[.dat false 1 ((l++q15 s).map eU)],[0]):=by
  have w:=w64u (n:=s.length) (by omega)
  have c63:=h63 l s.length (by omega) (by omega)
  have c43:=h43 false (l++leb s.length) s (by have:=q0L (n:=s.length) (by omega);simp;omega) (by omega) h0
  rw[q15,←List.append_assoc]
  clear h63 h43 h0
  generalize l++leb s.length=m at *
  simp(disch:=first|decide|omega|(simp only[LN];first|done|omega)) only[SV,SW,f64,Nat.reduceAdd,Nat.reduceBEq,q0M,w,c63,q1I,Nat.reduceSub,V.forget,V.drop1,V.ref0,lose,c43,q1t,q0b,hNew,V.newR,q0c]
def opB(x:Instr):Bs:=(if x.op==3||x.op==15 then leb (q2x x.a) else if 0<(q4L x.op).length then leb (w64n x.a) else [])++(if 1<(q4L x.op).length then leb (w64n x.b) else [])
def q1C(x:Instr):Bs:=UInt8.ofNat (x.op % 256).toNat :: opB x
def shB(s:Shape):Bs:=q15 s.name++leb (w64n s.fields)
def glB(g:Glob):Bs:=q15 g.name++leb (w64n g.arity)++leb g.code.length++g.code.flatMap q1C
def q63(t:Table):Bs:=[83,76,84,72]++leb t.shapes.length++t.shapes.flatMap shB++leb t.globals.length++t.globals.flatMap glB
def z2m(t:Table):Bs:=q63 t++q4K (sumS (q63 t))
def q0a(t:Table):Bs×Int:=if q2e t=0 then(if 8388608<(z2m t).length then([],4) else(z2m t,0)) else([],q2e t)
def M64(K:Cx):Prop:=∀(l s:Bs),l.length≤999999990000→s.length≤100000→s≠[]→K.eff 64 [.bsl 0 0 l.length,.d false (.str s)] [.dat false 1 (l.map eU)]=some (.bsl 0 0 (l++q15 s).length,[.dat false 1 ((l++q15 s).map eU)],[0])
def L65(K:Cx):Prop:=∀ op:Int,K.call 65 [.d false (.int .i64 op)]=some (.d false (.str (q4L op)),[])
def L66(K:Cx):Prop:=∀ a:Int,-9223372036854775808≤a→a≤9223372036854775807→K.call 66 [.d false (.int .i64 a)]=some (.d false (.int .u64 (q2x a)),[])
def L67(K:Cx):Prop:=∀ l:Bs,l.length≤1000000000000→K.call 67 [.d false (.sl 1 (l.map eU))]=some (.d false (.int .u32 (sumS l)),[])
def NumR(x:Instr):Prop:=(x.op==3||x.op==15)=true→-9223372036854775808≤x.a∧x.a≤9223372036854775807
structure ByOk(t:Table):Prop where
  nm:Nm t
  ns:∀ s∈t.shapes,s.name≠[]
  ng:∀ g∈t.globals,g.name≠[]
  sl:t.shapes.length≤1048576
  gl:t.globals.length≤2000
  cd:∀ g∈t.globals,g.code.length≤8000∧∀ x∈g.code,(1≤x.op∧x.op<18)∧NumR x
theorem q3v{s:Bs}(h:s.length≤4096):(q15 s).length≤4200:=by
  have:=q0L (n:=s.length) (by omega)
  simp only[q15,List.length_append];omega
theorem q9f{s:Shape}(h:s.name.length≤4096):(shB s).length≤4300:=by
  have:=q3v h
  have:=q0L (q1r s.fields)
  simp only[shB,List.length_append];omega
theorem j0L{x:Instr}(h:NumR x):(opB x).length≤20:=by
  have:=q0L (q1r x.a)
  have:=q0L (q1r x.b)
  have key:∀ b:Bool,(x.op==3||x.op==15)=b→(if b then leb (q2x x.a) else if 0<(q4L x.op).length then leb (w64n x.a) else []).length≤10:=by
    intro b hb
    cases b
    · simp only[Bool.false_eq_true,if_false];split
      · omega
      · simp
    · have:=h hb
      have:=q0L (q5U this.1 this.2)
      rw[if_pos rfl];omega
  have:=key _ rfl
  unfold opB
  rw[List.length_append]
  generalize (if(x.op==3||x.op==15)=true then leb (q2x x.a) else if 0<(q4L x.op).length then leb (w64n x.a) else [])=q at *
  split
  · omega
  · simp only[List.length_nil];omega
theorem q3h{x:Instr}(h:NumR x):(q1C x).length≤21:=by
  have:=j0L h
  simp only[q1C,List.length_cons];omega
set_option maxHeartbeats 1000000 in
theorem by_L0(K:Cx)(h63:M63 K)(h64:M64 K)(t:Table)(ht:ByOk t):∀(k i:Nat)(l:Bs),i+k=t.shapes.length→l.length≤100+10000*i→
    lp K 0 [1,5,6] f23_L0 ⟨[(1,.ptr 0 0 0),(5,.bsl 1 0 l.length),(6,.d false (.int .i64 i))],[(0,.mix 2 [tabV t]),(1,.dat false 1 (l.map eU))],2,[]⟩ =
      some (.exit 0,⟨[(1,.ptr 0 0 0),(5,.bsl 1 0 (l++(t.shapes.drop i).flatMap shB).length)],[(0,.mix 2 [tabV t]),(1,.dat false 1 ((l++(t.shapes.drop i).flatMap shB).map eU))],2,[]⟩):=by
  have hsl:=ht.sl
  intro k
  induction k with
  |zero=>
    intro i l hi hl
    obtain rfl:i=t.shapes.length:=by omega
    rw[q0K f23_L0.eq_1,List.drop_length,List.flatMap_nil,List.append_nil]
    simp only[tabV]
    simp(disch:=first|decide|omega|(simp only[LN];first|done|omega)) only[SV,SW,Nat.reduceBEq,reduceCtorEq,Nat.reduceAdd]
  |succ k ih=>
    intro i l hi hl
    have hd:t.shapes.drop i=nth t.shapes i :: t.shapes.drop (i+1):=q0O (by omega)
    have hm:nth t.shapes (i:Int)∈t.shapes:=List.mem_of_getElem? (q1o (by omega))
    generalize hx:nth t.shapes (i:Int)=s at *
    have hn:=ht.nm.sn s hm
    have hlen:=q9f hn
    have hlen2:=q3v hn
    have c64:=h64 l s.name (by omega) (by omega) (ht.ns s hm)
    have c63:=h63 (l++q15 s.name) (w64n s.fields) (by simp only[List.length_append];omega) (q1r _)
    have w:=q9b s.fields
    have ih:=ih (i+1) (l++shB s) (by omega) (by simp only[List.length_append];omega)
    rw[hd,List.flatMap_cons,←List.append_assoc,←ih]
    rw[show l++shB s=(l++q15 s.name)++leb (w64n s.fields) by simp [shB]]
    clear ih hd hm ht h63 h64
    rw[q0K f23_L0.eq_1]
    simp only[tabV]
    generalize l++q15 s.name=m at *
    simp(disch:=first|decide|omega|(simp only[LN];first|done|omega)) only[SV,SW,Nat.reduceBEq,hx,q0n,c64,q1I,Nat.reduceSub,V.forget,V.drop1,V.ref0,lose,reduceCtorEq,q0M,w,c63,Nat.reduceAdd]
    rfl
set_option maxHeartbeats 2000000 in
theorem by_L1(K:Cx)(h63:M63 K)(h65:L65 K)(h66:L66 K)(t:Table)(g:Glob)(hcd:g.code.length≤8000∧∀ x∈g.code,(1≤x.op∧x.op<18)∧NumR x)(j B:Nat)(hB:B≤900000000000):∀(k i:Nat)(l:Bs),i+k=g.code.length→l.length≤B+100*i→
    lp K 0 [1,5,7,8,9] f23_L1 ⟨[(1,.ptr 0 0 0),(5,.bsl 1 0 l.length),(7,.d false (.int .i64 j)),(8,.ptr 2 0 0),(9,.d false (.int .i64 i))],[(0,.mix 2 [tabV t]),(1,.dat false 1 (l.map eU)),(2,.mix 3 [[.d false (.str g.name),.d false (.int .i64 g.arity),.d false (.sl 3 (g.code.map q0C))]])],3,[]⟩ =
      some (.exit 4,⟨[(1,.ptr 0 0 0),(5,.bsl 1 0 (l++(g.code.drop i).flatMap q1C).length),(7,.d false (.int .i64 j))],[(0,.mix 2 [tabV t]),(1,.dat false 1 ((l++(g.code.drop i).flatMap q1C).map eU))],2,[]⟩):=by
  obtain⟨hcl,hin⟩:=hcd
  intro k
  induction k with
  |zero=>
    intro i l hi hl
    obtain rfl:i=g.code.length:=by omega
    rw[q0K f23_L1.eq_1,List.drop_length,List.flatMap_nil,List.append_nil]
    simp only[tabV]
    simp(disch:=first|decide|omega|(simp only[LN];first|done|omega)) only[SV,SW,Nat.reduceBEq,reduceCtorEq,Nat.reduceAdd]
  |succ k ih=>
    intro i l hi hl
    have hd:g.code.drop i=nth g.code i :: g.code.drop (i+1):=q0O (by omega)
    have hm:nth g.code (i:Int)∈g.code:=List.mem_of_getElem? (q1o (by omega))
    generalize hx:nth g.code (i:Int)=x at *
    obtain⟨hop,ha⟩:=hin x hm
    have c65:=h65 x.op
    have wa:=q9b x.a
    have wb:=q9b x.b
    have hlen:=q3h ha
    have eo:l.map eU++[[D.int .u8 (IntKind.u8.wrap x.op)]]=(l++[UInt8.ofNat (x.op % 256).toNat]).map eU:=by rw[List.map_append,List.map_singleton,z90]
    have ih:=ih (i+1) (l++q1C x) (by omega) (by simp only[List.length_append];omega)
    rw[hd,List.flatMap_cons,←List.append_assoc]
    rw[show l++q1C x=(l++[UInt8.ofNat (x.op % 256).toNat])++opB x by simp [q1C]] at ih ⊢
    have hm2:(l++[UInt8.ofNat (x.op % 256).toNat]).length≤910000000000:=by simp;omega
    have hml:(l++[UInt8.ofNat (x.op % 256).toNat]).length=l.length+1:=by simp
    generalize hmm:l++[UInt8.ofNat (x.op % 256).toNat]=m at *
    clear hd hm hin hlen
    have ca:=h63 m (w64n x.a) (by omega) (q1r _)
    have cb:=h63 m (w64n x.b) (by omega) (q1r _)
    have cab:=h63 (m++leb (w64n x.a)) (w64n x.b) (by have:=q0L (q1r x.a);simp;omega) (q1r _)
    rw[hml] at ca cb
    unfold opB at *
    simp only[tabV]
    simp only[tabV] at ih
    clear h65 hop
    generalize q4L x.op=w at *
    cases hn:x.op==3||x.op==15
    · clear h63 h66 ha
      simp only[hn,Bool.false_eq_true,if_false] at ih ⊢
      match w with
      |[]=>
        simp only[show(0<([]:Bs).length)=False by simp,show(1<([]:Bs).length)=False by simp,if_true,if_false,List.append_nil] at ih ⊢
        rw[hml] at ih
        rw[←ih]
        clear ih
        rw[q0K f23_L1.eq_1]
        simp(disch:=first|decide|omega|(simp only[LN];first|done|omega)) only[SV,SW,Nat.reduceBEq,Nat.reduceAdd,hx,q0h,lose,q0c,c65,q0M,eo,V.forget,V.drop1,V.ref0,reduceCtorEq,Nat.reduceEqDiff,hn]
        rfl
      |[y]=>
        simp only[show(0<([y]:Bs).length)=True by simp,show(1<([y]:Bs).length)=False by simp,if_true,if_false,List.append_nil] at ih ⊢
        rw[←ih]
        clear ih
        rw[q0K f23_L1.eq_1]
        simp(disch:=first|decide|omega|(simp only[LN];first|done|omega)) only[SV,SW,Nat.reduceBEq,Nat.reduceAdd,hx,q0h,lose,q0c,c65,q0M,eo,V.forget,V.drop1,V.ref0,reduceCtorEq,Nat.reduceEqDiff,hn,wa,ca,q1I,Nat.reduceSub]
        rfl
      |y :: z :: r=>
        simp only[show(0<(y :: z :: r:Bs).length)=True by simp,show(1<(y :: z :: r:Bs).length)=True by simp,if_true,if_false,List.append_nil] at ih ⊢
        rw[←List.append_assoc] at ih ⊢
        rw[←ih]
        clear ih
        generalize m++leb (w64n x.a)=m2 at *
        rw[q0K f23_L1.eq_1]
        simp(disch:=first|decide|omega|(simp only[LN];first|done|omega)) only[SV,SW,Nat.reduceBEq,Nat.reduceAdd,hx,q0h,lose,q0c,c65,q0M,eo,V.forget,V.drop1,V.ref0,reduceCtorEq,Nat.reduceEqDiff,hn,wa,ca,q1I,Nat.reduceSub,wb,cab]
        rfl
    · have ha:=ha hn
      have c66:=h66 x.a ha.1 ha.2
      have cf:=h63 m (q2x x.a) (by omega) (q5U ha.1 ha.2)
      have cfb:=h63 (m++leb (q2x x.a)) (w64n x.b) (by have:=q0L (q5U ha.1 ha.2);simp;omega) (q1r _)
      rw[hml] at cf
      clear h63 h66 ha
      simp only[hn,if_true] at ih ⊢
      match w with
      |[]=>
        simp only[show(1<([]:Bs).length)=False by simp,if_true,if_false,List.append_nil] at ih ⊢
        rw[←ih]
        clear ih
        rw[q0K f23_L1.eq_1]
        simp(disch:=first|decide|omega|(simp only[LN];first|done|omega)) only[SV,SW,Nat.reduceBEq,Nat.reduceAdd,hx,q0h,lose,q0c,c65,q0M,eo,V.forget,V.drop1,V.ref0,reduceCtorEq,Nat.reduceEqDiff,hn,c66,cf,q1I,Nat.reduceSub]
        rfl
      |[y]=>
        simp only[show(1<([y]:Bs).length)=False by simp,if_true,if_false,List.append_nil] at ih ⊢
        rw[←ih]
        clear ih
        rw[q0K f23_L1.eq_1]
        simp(disch:=first|decide|omega|(simp only[LN];first|done|omega)) only[SV,SW,Nat.reduceBEq,Nat.reduceAdd,hx,q0h,lose,q0c,c65,q0M,eo,V.forget,V.drop1,V.ref0,reduceCtorEq,Nat.reduceEqDiff,hn,c66,cf,q1I,Nat.reduceSub]
        rfl
      |y :: z :: r=>
        simp only[show(1<(y :: z :: r:Bs).length)=True by simp,if_true,if_false,List.append_nil] at ih ⊢
        rw[←List.append_assoc] at ih ⊢
        rw[←ih]
        clear ih
        generalize m++leb (q2x x.a)=m2 at *
        rw[q0K f23_L1.eq_1]
        simp(disch:=first|decide|omega|(simp only[LN];first|done|omega)) only[SV,SW,Nat.reduceBEq,Nat.reduceAdd,hx,q0h,lose,q0c,c65,q0M,eo,V.forget,V.drop1,V.ref0,reduceCtorEq,Nat.reduceEqDiff,hn,c66,cf,q1I,Nat.reduceSub,wb,cfb]
        rfl
end Go.Vm
end

section
namespace Go.Vm
set_option maxRecDepth 20000
open Go.Proofs
set_option maxHeartbeats 2000000 in
theorem by_L2(K:Cx)(h63:M63 K)(h64:M64 K)(h65:L65 K)(h66:L66 K)(t:Table)(ht:ByOk t):∀(k i:Nat)(l:Bs),i+k=t.globals.length→l.length≤20000000000+10000000*i→
  lp K 0 [1,5,7] f23_L2 ⟨[(1,.ptr 0 0 0),(5,.bsl 1 0 l.length),(7,.d false (.int .i64 i))],[(0,.mix 2 [tabV t]),(1,.dat false 1 (l.map eU))],2,[]⟩ =
   some (.exit 2,⟨[(5,.bsl 0 0 (l++(t.globals.drop i).flatMap glB).length)],[(0,.dat false 1 ((l++(t.globals.drop i).flatMap glB).map eU))],1,[]⟩):=by
 have hgl:=ht.gl
 intro k
 induction k with
 |zero=>
  intro i l hi hl
  obtain rfl:i=t.globals.length:=by omega
  rw[q0K f23_L2.eq_1,List.drop_length,List.flatMap_nil,List.append_nil]
  simp only[tabV]
  simp(disch:=first|decide|omega|(simp only[LN];first|done|omega)) only[SV,SW,Nat.reduceBEq]
 |succ k ih=>
  intro i l hi hl
  have hd:t.globals.drop i=nth t.globals i :: t.globals.drop (i+1):=q0O (by omega)
  have hm:nth t.globals (i:Int)∈t.globals:=List.mem_of_getElem? (q1o (by omega))
  generalize hx:nth t.globals (i:Int)=g at *
  have hn:=ht.nm.gn g hm
  have hcl:=(ht.cd g hm).1
  have hlen:=q3v hn
  have hla:=q0L (q1r g.arity)
  have hlc:=q0L (n:=g.code.length) (by omega)
  have c64:=h64 l g.name (by omega) (by omega) (ht.ng g hm)
  have c63:=h63 (l++q15 g.name) (w64n g.arity) (by simp only[List.length_append];omega) (q1r _)
  have c63':=h63 (l++q15 g.name++leb (w64n g.arity)) g.code.length (by simp only[List.length_append];omega) (by omega)
  have w:=q9b g.arity
  have wl:=w64u (n:=g.code.length) (by omega)
  have e1:=by_L1 K h63 h65 h66 t g (ht.cd g hm) i (20000000000+10000000*i+10000) (by omega) g.code.length 0 (l++q15 g.name++leb (w64n g.arity)++leb g.code.length) (by omega) (by simp only[List.length_append];omega)
  simp only[List.drop_zero,Int.natCast_zero] at e1
  have hgo:(g.code.flatMap q1C).length≤g.code.length*21:=q3d _ fun x hx=>q3h ((ht.cd g hm).2 x hx).2
  have ih:=ih (i+1) (l++q15 g.name++leb (w64n g.arity)++leb g.code.length++g.code.flatMap q1C) (by omega) (by simp only[List.length_append];omega)
  rw[hd,List.flatMap_cons]
  rw[show l++(glB g++(t.globals.drop (i+1)).flatMap glB)=(l++q15 g.name++leb (w64n g.arity)++leb g.code.length++g.code.flatMap q1C)++(t.globals.drop (i+1)).flatMap glB by simp [glB]]
  rw[←ih]
  clear ih hd hm ht h63 h64 h65 h66 hgo
  rw[q0K f23_L2.eq_1]
  simp only[tabV] at e1 ⊢
  generalize l++q15 g.name=m1 at *
  generalize m1++leb (w64n g.arity)=m2 at *
  generalize m2++leb g.code.length=m3 at *
  simp(disch:=first|decide|omega|(simp only[LN];first|done|omega)) only[SV,SW,Nat.reduceBEq,Nat.reduceAdd,hx,q0D,lose,c64,q1I,Nat.reduceSub,V.forget,V.drop1,V.ref0,reduceCtorEq,Nat.reduceEqDiff,q0M,w,c63,wl,c63',e1]
  rfl
theorem j3V{t:Table}(h:q2e t=0)(hs:t.shapes.length≤1048576)(hw:∀ g∈t.globals,∀ x∈g.code,x.a≤9223372036854775807):ByOk t:=by
 have hp:=pr_ok h hs hw
 have names:(∀ s∈t.shapes,q1w s.name=true)∧∀ g∈t.globals,q1w g.name=true:=by
  unfold q2e at h
  split at h
  ·cases h
  ·split at h
   ·cases h
   ·split at h
    ·cases h
    ·split at h
     ·cases h
     ·rename_i h1 h2 h3 h4
      have m1:=q1A _ _ _ (by simpa using h2)
      have m2:=q1A _ _ _ (by simpa using h4)
      exact⟨fun s hs=>(m1 (s.name,s.fields) (List.mem_map.2 ⟨s,hs,rfl⟩)).1,fun g hg=>(m2 (g.name,g.arity) (List.mem_map.2 ⟨g,hg,rfl⟩)).1⟩
 have ne:∀ s:Bs,q1w s=true→s≠[]:=by
  rintro s hs rfl
  simp [q1w] at hs
 refine⟨hp.nm,fun s hs=>ne _ (names.1 s hs),fun g hg=>ne _ (names.2 g hg),hs,hp.gl,fun g hg=>⟨(hp.cd g hg).1,fun x hx=>?_⟩⟩
 have hi:=(hp.cd g hg).2 x hx
 refine⟨hi.op,fun hn=>?_⟩
 have h3:x.op=3∨x.op=15:=by simpa using hn
 have e:0<(q4L x.op).length∧nth (q4L x.op) 0=110:=by rcases h3 with h3|h3 <;> rw[h3] <;> decide
 have:=hi.a e.1
 rw[e.2] at this
 rcases this with⟨_,h⟩|⟨h,_⟩|⟨h,_⟩|⟨h,_⟩
 ·omega
 ·exact absurd h (by decide)
 ·exact absurd h (by decide)
 ·exact absurd h (by decide)
theorem fUA4(l:Bs)(s:Int):l.map eU++[[.int .u8 (IntKind.u8.wrap s)],[.int .u8 (IntKind.u8.wrap (s / 256))],[.int .u8 (IntKind.u8.wrap (s / 65536))],[.int .u8 (IntKind.u8.wrap (s / 16777216))]]=(l++q4K s).map eU:=by
 rw[List.map_append,z0M]
def vBy(p:Bs×Int):V:=if p.2=0 then .d true (.sl 1 (p.1.map eU)) else .fs true 1 []
set_option maxHeartbeats 2000000 in
theorem z63(K:Cx)(h14:L14 K)(h63:M63 K)(h64:M64 K)(h65:L65 K)(h66:L66 K)(h67:L67 K)(t:Table)(hto:TabOk t)(hs:t.shapes.length≤1048576) :
  q0B K f23 [.agg (tabV t)] []=some (.tup [vBy (q0a t),.d false (.int .i64 (q0a t).2)],[],[]):=by
 have c14:=h14 t hto
 unfold q0a vBy
 by_cases hc:q2e t=0
 ·rw[if_pos hc]
  have ht:=j3V hc hs hto.wd
  have hgl:=ht.gl
  rw[hc] at c14
  have hls:=q0L (n:=t.shapes.length) (by omega)
  have hlg:=q0L (n:=t.globals.length) (by omega)
  have c63:=h63 [83,76,84,72] t.shapes.length (by simp) (by omega)
  have e0:=by_L0 K h63 h64 t ht t.shapes.length 0 ([83,76,84,72]++leb t.shapes.length) (by omega) (by simp only[List.length_append,List.length_cons,List.length_nil];omega)
  have hl0:(t.shapes.flatMap shB).length≤t.shapes.length*4300:=q3d _ fun s hs'=>q9f (ht.nm.sn s hs')
  simp only[List.drop_zero,Int.natCast_zero] at e0
  generalize hq:[83,76,84,72]++leb t.shapes.length++t.shapes.flatMap shB=q at *
  have hql:q.length≤10000000000:=by rw[←hq];simp only[List.length_append,List.length_cons,List.length_nil];omega
  have c63':=h63 q t.globals.length (by omega) (by omega)
  have e1:=by_L2 K h63 h64 h65 h66 t ht t.globals.length 0 (q++leb t.globals.length) (by omega) (by simp only[List.length_append];omega)
  simp only[List.drop_zero,Int.natCast_zero] at e1
  have hgo:(t.globals.flatMap glB).length≤t.globals.length*200000:=q3d _ fun g hg=>by
   have h1:=q3v (ht.nm.gn g hg)
   have h2:=q0L (q1r g.arity)
   have h3:=(ht.cd g hg).1
   have h4:=q0L (n:=g.code.length) (by omega)
   have h5:(g.code.flatMap q1C).length≤g.code.length*21:=q3d _ fun x hx=>q3h ((ht.cd g hg).2 x hx).2
   simp only[glB,List.length_append];omega
  have hbody:q++leb t.globals.length++t.globals.flatMap glB=q63 t:=by rw[←hq,q63]
  have hbl:(q63 t).length≤100000000000:=by rw[←hbody];simp only[List.length_append];omega
  rw[hbody] at e1
  have c67:=h67 (q63 t) (by omega)
  have wl:=w64u (n:=t.shapes.length) (by omega)
  have wg:=w64u (n:=t.globals.length) (by omega)
  unfold z2m
  generalize q63 t=bd at *
  generalize hm1:[83,76,84,72]++leb t.shapes.length=m1 at *
  generalize hm2:q++leb t.globals.length=m2 at *
  simp only[List.map_cons,List.map_nil,List.length_cons,List.length_nil] at c63
  simp only[z9o] at c63
  rw[show((83:UInt8).toNat:Int)=83 from rfl,show((76:UInt8).toNat:Int)=76 from rfl,show((84:UInt8).toNat:Int)=84 from rfl,show((72:UInt8).toNat:Int)=72 from rfl] at c63
  clear ht h63 h64 h65 h66 h67 h14 hto hc hl0 hgo hbody hq hm1 hm2
  have fa:=fUA4 bd (sumS bd)
  have hf:(bd++q4K (sumS bd)).length=bd.length+4:=by simp [q4K]
  generalize hs2:sumS bd=s2 at *
  have hf4:(q4K s2).length=4:=rfl
  have htk:List.take (bd.length+4) (List.map eU (bd++q4K s2))=List.map eU (bd++q4K s2):=List.take_of_length_le (by simp [hf4])
  simp only[tabV] at e0 e1 ⊢
  by_cases hbig:8388608<(bd++q4K s2).length
  ·rw[if_pos hbig,if_neg (show ¬(4:Int)=0 by decide)]
   have hbi:(8388608:Int)<(bd.length:Int)+4:=by omega
   simp(disch:=first|decide|omega|(simp only[LN];first|done|omega)) only[SV,SW,f23,Nat.reduceAdd,Nat.reduceBEq,q0c,c14,q0M,wl,c63,q1I,Nat.reduceSub,V.forget,V.drop1,V.ref0,lose,reduceCtorEq,e0,wg,c63',e1,c67,e_sh,sh8,sh16,sh24,fa,q0b]
  ·rw[if_neg hbig,if_pos rfl]
   have hbi:¬(8388608:Int)<(bd.length:Int)+4:=by omega
   simp(disch:=first|decide|omega|(simp only[LN];first|done|omega)) only[SV,SW,f23,Nat.reduceAdd,Nat.reduceBEq,q0c,c14,q0M,wl,c63,q1I,Nat.reduceSub,V.forget,V.drop1,V.ref0,lose,reduceCtorEq,e0,wg,c63',e1,c67,e_sh,sh8,sh16,sh24,fa,q0b,hNew,V.newR,q5e,hf4]
 ·rw[if_neg hc,if_neg hc]
  have hb:(q2e t != 0)=true:=by simpa using hc
  clear h63 h64 h65 h66 h67 h14 hto hc
  simp only[tabV]
  generalize q2e t=z at *
  simp(disch:=first|decide|omega|(simp only[LN];first|done|omega)) only[SV,SW,f23,Nat.reduceAdd,Nat.reduceBEq,q0c,c14,hb,q0b]
end Go.Vm
end

section
namespace Go.Vm
set_option maxRecDepth 20000
open Go.Proofs
def M68(K:Cx):Prop:=∀(l:Bs)(n:Nat),l.length≤999999999000→n≤18446744073709551615→K.eff 68 [.bsl 0 0 l.length,.d false (.int .u64 n)] [.dat false 1 (l.map eU)]=some (.bsl 0 0 (l++leb n).length,[.dat false 1 ((l++leb n).map eU)],[0])
theorem s2rU(c:Bool)(s:Bs):z69 (.d c (.str s))=some (.d true (.sl 1 (s.map eU))):=rfl
theorem z4j(K:Cx)(h68:M68 K)(a:Bool)(l s:Bs)(hl:l.length≤999999990000)(hs:s.length≤100000)(h0:s≠[]) :
  q0B K f69 [.bsl 0 0 l.length,.d a (.str s)] [.dat false 1 (l.map eU)]=some (.bsl 0 0 (l++q15 s).length,[.dat false 1 ((l++q15 s).map eU)],[0]):=by
 have w:=w64u (n:=s.length) (by omega)
 have c68:=h68 l s.length (by omega) (by omega)
 have hq:(l++leb s.length).length≤999999991000:=by have:=q0L (n:=s.length) (by omega);simp;omega
 rw[q15,←List.append_assoc]
 clear h68 h0
 generalize l++leb s.length=m at *
 have hml:m.length+s.length≤4611686018427387904:=by omega
 simp(disch:=first|decide|omega|(simp only[LN];first|done|omega)) only[SV,SW,f69,Nat.reduceAdd,Nat.reduceBEq,q0M,w,c68,q1I,Nat.reduceSub,V.forget,V.drop1,V.ref0,lose,e_s2r,s2rU,q5e,z6N,q1t,q0b,hNew,V.newR,q0c]
 trace_state
def z6w(x:Instr):Bs:=leb (w64n x.op)++(if(q2D x.op).2.1==3 then leb (q2x x.a) else if(q2D x.op).2.1 != 0 then leb (w64n x.a) else [])++(if(q2D x.op).2.2 != 0 then leb (w64n x.b) else [])
theorem z6v{x:Instr}(h:1≤x.op∧x.op<18):z6w x=q1C x∧((q2D x.op).2.1==3)=(x.op==3||x.op==15):=by
 obtain⟨op,a,b⟩:=x
 simp only at h ⊢
 unfold z6w q1C opB
 simp only
 have e:leb (w64n op)=[UInt8.ofNat (op % 256).toNat]:=by
  have:w64n op=(op % 256).toNat:=by unfold w64n;omega
  rw[this,q36 (by omega)]
 rw[e]
 have:op=1∨op=2∨op=3∨op=4∨op=5∨op=6∨op=7∨op=8∨op=9∨op=10∨op=11∨op=12∨op=13∨op=14∨op=15∨op=16∨op=17:=by omega
 clear e h
 rcases this with rfl|rfl|rfl|rfl|rfl|rfl|rfl|rfl|rfl|rfl|rfl|rfl|rfl|rfl|rfl|rfl|rfl <;> exact⟨by simp [q2D,z6I,nth,q4L],by decide⟩
set_option maxHeartbeats 1000000 in
theorem z1V(K:Cx)(h68:M68 K)(h79:K40 K)(h100:∀ a:Int,-9223372036854775808≤a→a≤9223372036854775807→K.call 100 [.d false (.int .i64 a)]=some (.d false (.int .u64 (q2x a)),[]))(l:Bs)(x:Instr)(hl:l.length≤999999990000)(ho:1≤x.op∧x.op<18)(hn:NumR x) :
  q0B K f70 [.bsl 0 0 l.length,.agg [.d false (.int .i64 x.op),.d false (.int .i64 x.a),.d false (.int .i64 x.b)]] [.dat false 1 (l.map eU)]=some (.bsl 0 0 (l++q1C x).length,[.dat false 1 ((l++q1C x).map eU)],[0]):=by
 obtain⟨e1,e2⟩:=z6v ho
 rw[←e1]
 unfold NumR at hn
 rw[←e2] at hn
 clear e1 e2
 have c79:=h79 x.op
 unfold z5v at c79
 unfold z6w
 have hlo:=q0L (q1r x.op)
 have co:=h68 l (w64n x.op) (by omega) (q1r _)
 have wo:=q9b x.op
 have wa:=q9b x.a
 have wb:=q9b x.b
 rw[←List.append_assoc,←List.append_assoc]
 have hmm:(l++leb (w64n x.op)).length≤999999991000:=by simp;omega
 generalize l++leb (w64n x.op)=m at *
 generalize q2D x.op=f at *
 obtain⟨fs,fa,fb⟩:=f
 simp only at *
 have ca:=h68 m (w64n x.a) (by omega) (q1r _)
 have hla:=q0L (q1r x.a)
 have cab:=h68 (m++leb (w64n x.a)) (w64n x.b) (by simp;omega) (q1r _)
 have cb:=h68 m (w64n x.b) (by omega) (q1r _)
 by_cases h3:fa=3
 ·subst h3
  have hr:=hn rfl
  have hlf:=q0L (q5U hr.1 hr.2)
  have cf:=h68 m (q2x x.a) (by omega) (q5U hr.1 hr.2)
  have c100:=h100 x.a hr.1 hr.2
  have cfb:=h68 (m++leb (q2x x.a)) (w64n x.b) (by simp;omega) (q1r _)
  clear h68 h79 h100 hn hr ho
  rw[if_pos (by decide)]
  by_cases hb:fb=0
  ·subst hb
   rw[if_neg (by decide),List.append_nil]
   simp(disch:=first|decide|omega|(simp only[LN];first|done|omega)) only[SV,SW,f70,Nat.reduceAdd,Nat.reduceBEq,q0c,c79,lose,q0M,wo,co,q1I,Nat.reduceSub,V.forget,V.drop1,V.ref0,reduceCtorEq,c100,cf,q1t,q0b,hNew,V.newR]
  ·have hb':(fb != 0)=true:=by simpa using hb
   rw[hb',if_pos rfl]
   clear hb
   generalize m++leb (q2x x.a)=m2 at *
   simp(disch:=first|decide|omega|(simp only[LN];first|done|omega)) only[SV,SW,f70,Nat.reduceAdd,Nat.reduceBEq,q0c,c79,lose,q0M,wo,co,q1I,Nat.reduceSub,V.forget,V.drop1,V.ref0,reduceCtorEq,c100,cf,hb',wb,cfb,q1t,q0b,hNew,V.newR]
 ·have h3':(fa==3)=false:=by simpa using h3
  rw[h3']
  clear h68 h79 h100 hn ho h3
  simp only[Bool.false_eq_true,if_false]
  by_cases ha:fa=0
  ·subst ha
   rw[if_neg (by decide),List.append_nil]
   by_cases hb:fb=0
   ·subst hb
    rw[if_neg (by decide),List.append_nil]
    simp(disch:=first|decide|omega|(simp only[LN];first|done|omega)) only[SV,SW,f70,Nat.reduceAdd,Nat.reduceBEq,q0c,c79,lose,q0M,wo,co,q1I,Nat.reduceSub,V.forget,V.drop1,V.ref0,reduceCtorEq,q1t,q0b,hNew,V.newR]
   ·have hb':(fb != 0)=true:=by simpa using hb
    rw[hb',if_pos rfl]
    clear hb
    simp(disch:=first|decide|omega|(simp only[LN];first|done|omega)) only[SV,SW,f70,Nat.reduceAdd,Nat.reduceBEq,q0c,c79,lose,q0M,wo,co,q1I,Nat.reduceSub,V.forget,V.drop1,V.ref0,reduceCtorEq,hb',wb,cb,q1t,q0b,hNew,V.newR]
  ·have ha':(fa != 0)=true:=by simpa using ha
   rw[ha',if_pos rfl]
   clear ha
   by_cases hb:fb=0
   ·subst hb
    rw[if_neg (by decide),List.append_nil]
    simp(disch:=first|decide|omega|(simp only[LN];first|done|omega)) only[SV,SW,f70,Nat.reduceAdd,Nat.reduceBEq,q0c,c79,lose,q0M,wo,co,q1I,Nat.reduceSub,V.forget,V.drop1,V.ref0,reduceCtorEq,h3',ha',wa,ca,q1t,q0b,hNew,V.newR]
   ·have hb':(fb != 0)=true:=by simpa using hb
    rw[hb',if_pos rfl]
    clear hb
    generalize m++leb (w64n x.a)=m2 at *
    simp(disch:=first|decide|omega|(simp only[LN];first|done|omega)) only[SV,SW,f70,Nat.reduceAdd,Nat.reduceBEq,q0c,c79,lose,q0M,wo,co,q1I,Nat.reduceSub,V.forget,V.drop1,V.ref0,reduceCtorEq,h3',ha',wa,ca,hb',wb,cab,q1t,q0b,hNew,V.newR]
end Go.Vm
end

section
namespace Go.Vm
theorem q5r{K s g s'}(h:q5Y K s g=some s')(hl:z0D K s (q14 s s') s'.heap g=true):q2G K s g=some s':=by
 unfold q2G
 rw[h]
 exact if_pos (z2L hl)
theorem q8e(K s mks lets chk wr keep cnt aux wg late):q5Y K s ⟨mks,lets,chk,wr,keep,cnt,aux,wg,late⟩=o1 (segL K s ⟨[],lets,chk,wr,keep,cnt,[],wg,[]⟩) (q3C K s mks):=by
 simp only[q5Y,o1,segL];cases q3C K s mks <;> rfl
end Go.Vm
end

section
namespace Go.Vm
theorem z6Q(K π l s):exec K (.regp π l) s=nrm (q1J K s l):=by
 simp only[exec,nrm];cases q1J K s l <;> rfl
theorem z1Y(K s g):q1J K s [g]=q2G K s g:=by
 simp only[q1J]
 cases q2G K s g with
 |none=>rfl
 |some s'=>simp
theorem q4P{K s s' g g' r}(h:q2G K s g=some s')(hs:z0k K s s' g=true):q1J K s (g :: g' :: r)=q1J K s' (g' :: r):=by
 rw[q1J,h]
 exact if_pos (.inr (z2w hs))
end Go.Vm
end

section
namespace Go.Vm
set_option maxRecDepth 20000
open Go.Proofs
def M69(K:Cx):Prop:=∀(l s:Bs),l.length≤999999990000→s.length≤100000→s≠[]→K.eff 69 [.bsl 0 0 l.length,.d false (.str s)] [.dat false 1 (l.map eU)]=some (.bsl 0 0 (l++q15 s).length,[.dat false 1 ((l++q15 s).map eU)],[0])
def M70(K:Cx):Prop:=∀(l:Bs)(x:Instr),l.length≤999999990000→1≤x.op∧x.op<18→NumR x→K.eff 70 [.bsl 0 0 l.length,.agg [.d false (.int .i64 x.op),.d false (.int .i64 x.a),.d false (.int .i64 x.b)]] [.dat false 1 (l.map eU)]=some (.bsl 0 0 (l++q1C x).length,[.dat false 1 ((l++q1C x).map eU)],[0])
def byA:Seg:=⟨[],[(37,(.conv .u64 (.ld 1 false (.fa 1 (.sl 7)))))],[],some (some 34,.calle 69 (.cons (.sl 5) (.cons (.ld 1 false (.fa 0 (.sl 7))) .nil))),[1,25,26,27],7,[[],[],[1],[1,2,0],[],[4],[4,5],[5,4,6,0,2,1,3],[3,1,2,0,6,4,5,7]],[],[(.fa 1 (.sl 7)),(.ld 1 false (.fa 1 (.sl 7))),(.conv .u64 (.ld 1 false (.fa 1 (.sl 7))))]⟩
theorem j3Z(K:Cx)(t:Table)(l m:Bs)(nm:Bs)(fd n i:Int)(x25:D)(w:IntKind.u64.wrap fd=(w64n fd:Int))(c69:K.eff 69 [.bsl 0 0 l.length,.d false (.str nm)] [.dat false 1 (l.map eU)]=some (.bsl 0 0 m.length,[.dat false 1 (m.map eU)],[0])) :
  q2G K ⟨[(1,.ptr 0 0 0),(5,.bsl 1 0 l.length),(7,.ptr 2 0 0),(25,.d false x25),(26,.d false (.int .i64 n)),(27,.d false (.int .i64 i))],[(2,.mix 2 [[.d false (.str nm),.d false (.int .i64 fd)]]),(0,.mix 2 [tabV t]),(1,.dat false 1 (l.map eU))],3,[]⟩ byA =
   some ⟨[(34,.bsl 1 0 m.length),(37,.d false (.int .u64 (w64n fd))),(1,.ptr 0 0 0),(25,.d false x25),(26,.d false (.int .i64 n)),(27,.d false (.int .i64 i))],[(2,.mix 2 [[.d false (.str nm),.d false (.int .i64 fd)]]),(0,.mix 2 [tabV t]),(1,.dat false 1 (m.map eU))],3,[1]⟩:=by
 simp only[tabV]
 refine q5r ?_ ?_
 ·unfold byA
  rw[q8e]
  simp(disch:=first|decide|omega|(simp only[LN];first|done|omega)) only[SV,SW,Nat.reduceBEq,q0M,w,c69,q1I,Nat.reduceSub,V.forget,V.drop1,V.ref0,lose,reduceCtorEq]
 ·rw[show q14 _ _=[1] from rfl]
  unfold byA z0D
  simp(disch:=first|decide|omega|(simp only[LN];first|done|omega)) only[SV,SW,List.isEmpty_cons,q4u,q6V,reduceCtorEq,Nat.reduceEqDiff,q4F,Nat.reduceBEq,q2Y,dynF,z3W,q6g,Blk.still,Bool.false_or,q9u,q0M,w]
  simp [V.eqb,V.eqb1,D.eqb]
set_option maxHeartbeats 1000000 in
theorem bc_L0(K:Cx)(h68:M68 K)(h69:M69 K)(t:Table)(ht:ByOk t):∀(k i:Nat)(l:Bs),i+k=t.shapes.length→l.length≤100+10000*i→
  lp K 0 [1,5,25,26,27] f24_L0 ⟨[(1,.ptr 0 0 0),(5,.bsl 1 0 l.length),(25,.d false (.sl 2 (t.shapes.map q0g))),(26,.d false (.int .i64 t.shapes.length)),(27,.d false (.int .i64 i))],[(0,.mix 2 [tabV t]),(1,.dat false 1 (l.map eU))],2,[]⟩ =
   some (.exit 0,⟨[(1,.ptr 0 0 0),(5,.bsl 1 0 (l++(t.shapes.drop i).flatMap shB).length)],[(0,.mix 2 [tabV t]),(1,.dat false 1 ((l++(t.shapes.drop i).flatMap shB).map eU))],2,[]⟩):=by
 have hsl:=ht.sl
 intro k
 induction k with
 |zero=>
  intro i l hi hl
  obtain rfl:i=t.shapes.length:=by omega
  rw[q0K f24_L0.eq_1,List.drop_length,List.flatMap_nil,List.append_nil]
  simp only[tabV]
  simp(disch:=first|decide|omega|(simp only[LN];first|done|omega)) only[SV,SW,Nat.reduceBEq,reduceCtorEq,Nat.reduceAdd]
 |succ k ih=>
  intro i l hi hl
  have hd:t.shapes.drop i=nth t.shapes i :: t.shapes.drop (i+1):=q0O (by omega)
  have hm:nth t.shapes (i:Int)∈t.shapes:=List.mem_of_getElem? (q1o (by omega))
  generalize hx:nth t.shapes (i:Int)=s at *
  have hn:=ht.nm.sn s hm
  have hlen:=q9f hn
  have hlen2:=q3v hn
  have c69:=h69 l s.name (by omega) (by omega) (ht.ns s hm)
  have c68:=h68 (l++q15 s.name) (w64n s.fields) (by simp only[List.length_append];omega) (q1r _)
  have w:=q9b s.fields
  have ih:=ih (i+1) (l++shB s) (by omega) (by simp only[List.length_append];omega)
  rw[hd,List.flatMap_cons,←List.append_assoc,←ih]
  rw[show l++shB s=(l++q15 s.name)++leb (w64n s.fields) by simp [shB]]
  clear ih hd hm ht h68 h69
  generalize l++q15 s.name=m at *
  have eA:=j3Z K t l m s.name s.fields t.shapes.length i (.sl 2 (t.shapes.map q0g)) w c69
  unfold byA at eA
  rw[q0K f24_L0.eq_1]
  simp only[tabV] at eA ⊢
  simp(disch:=first|decide|omega|(simp only[LN];first|done|omega)) only[SV,SW,Nat.reduceBEq,Nat.reduceAdd,hx,q0n,lose,eA,c68,q1I,Nat.reduceSub,V.forget,V.drop1,V.ref0,reduceCtorEq]
  rfl
mutual
theorem z9l:∀ x:D,x.eqb x=true
 |.int _ _=>by simp [D.eqb]
 |.bool _=>by simp [D.eqb]
 |.str _=>by simp [D.eqb]
 |.sl _ rows=>by simp [D.eqb,q3m rows]
 |.ptr cs=>by simp [D.eqb,q53 cs]
 |.nilp=>rfl
 |.nilif=>rfl
 |.nilfn=>rfl
 |.nilm=>rfl
 |.nils _=>by simp [D.eqb]
 |.emps _=>by simp [D.eqb]
 |.iface _ cs=>by simp [D.eqb,q53 cs]
theorem q53:∀ x:List D,dRow x x=true
 |[]=>rfl
 |a :: r=>by simp [dRow,z9l a,q53 r]
theorem q3m:∀ x:List (List D),q8C x x=true
 |[]=>rfl
 |a :: r=>by simp [q8C,q53 a,q3m r]
end
def byB:Seg:=⟨[],[],[(.conv .u64 (.len false (.ld 1 false (.fa 2 (.sl 9))))),(.conv .u64 (.ld 1 false (.fa 1 (.sl 9))))],some (some 56,.calle 69 (.cons (.sl 5) (.cons (.ld 1 false (.fa 0 (.sl 9))) .nil))),[9,47,48,49],11,[[],[],[1],[],[3],[3,4],[],[6],[6,7],[7,6,8],[1,2,0],[4,3,5,0,2,1,10],[8,6,7,9,10,1,2,0,5,3,4,11],[11,4,3,5,0,2,1,10,9,7,6,8,12]],[],[(.fa 1 (.sl 9)),(.ld 1 false (.fa 1 (.sl 9))),(.conv .u64 (.ld 1 false (.fa 1 (.sl 9)))),(.fa 2 (.sl 9)),(.ld 1 false (.fa 2 (.sl 9))),(.len false (.ld 1 false (.fa 2 (.sl 9)))),(.conv .u64 (.len false (.ld 1 false (.fa 2 (.sl 9)))))]⟩
def byC:Seg:=⟨[],[],[(.conv .u64 (.len false (.ld 1 false (.fa 2 (.sl 9)))))],some (some 60,.calle 68 (.cons (.sl 56) (.cons (.conv .u64 (.ld 1 false (.fa 1 (.sl 9)))) .nil))),[9,47,48,49],1,[],[],[(.fa 2 (.sl 9)),(.ld 1 false (.fa 2 (.sl 9))),(.len false (.ld 1 false (.fa 2 (.sl 9)))),(.conv .u64 (.len false (.ld 1 false (.fa 2 (.sl 9)))))]⟩
abbrev gRow(g:Glob):List V:=[.d false (.str g.name),.d false (.int .i64 g.arity),.d false (.sl 3 (g.code.map q0C))]
abbrev bcS(k:Nat)(mv:List Nat)(g:Glob)(l:Bs)(n i:Int)(x:D):S:=⟨[(k,.bsl 0 0 l.length),(9,.ptr 1 0 0),(47,.d false x),(48,.d false (.int .i64 n)),(49,.d false (.int .i64 i))],[(1,.mix 3 [gRow g]),(0,.dat false 1 (l.map eU))],2,mv⟩
theorem j3Y(K:Cx)(g:Glob)(l m:Bs)(n i:Int)(x:D)(hcl:g.code.length≤8000)(w:IntKind.u64.wrap g.arity=(w64n g.arity:Int))(wl:IntKind.u64.wrap (g.code.length:Int)=(g.code.length:Int))(c69:K.eff 69 [.bsl 0 0 l.length,.d false (.str g.name)] [.dat false 1 (l.map eU)]=some (.bsl 0 0 m.length,[.dat false 1 (m.map eU)],[0])) :
  q2G K (bcS 5 [] g l n i x) byB=some (bcS 56 [0] g m n i x)∧z0k K (bcS 5 [] g l n i x) (bcS 56 [0] g m n i x) byB=true:=by
 constructor
 ·refine q5r ?_ ?_
  ·unfold byB
   rw[q8e]
   simp(disch:=first|decide|omega|(simp only[LN];first|done|omega)) only[SV,SW,Nat.reduceBEq,q0M,wl,w,c69,q1I,Nat.reduceSub,V.forget,V.drop1,V.ref0,lose,reduceCtorEq]
  ·rw[show q14 _ _=[0] from rfl]
   unfold byB z0D
   simp(disch:=first|decide|omega|(simp only[LN];first|done|omega)) only[SV,SW,List.isEmpty_cons,q4u,q6V,reduceCtorEq,q4F,Nat.reduceBEq,q2Y,dynF,z3W,q6g,Blk.still,Bool.false_or,q9u,q0M,w,wl]
   simp [V.eqb,V.eqb1,D.eqb,q3m]
 ·unfold byB z0k
  simp(disch:=first|decide|omega|(simp only[LN];first|done|omega)) only[SV,SW,List.isEmpty_cons,q9u,Nat.reduceBEq,q0M,w,wl,Bool.false_or]
  simp [V.eqb,V.eqb1,D.eqb,q3m]
theorem j3X(K:Cx)(g:Glob)(l m:Bs)(n i:Int)(x:D)(hcl:g.code.length≤8000)(w:IntKind.u64.wrap g.arity=(w64n g.arity:Int))(wl:IntKind.u64.wrap (g.code.length:Int)=(g.code.length:Int))(c68:K.eff 68 [.bsl 0 0 l.length,.d false (.int .u64 (w64n g.arity))] [.dat false 1 (l.map eU)]=some (.bsl 0 0 m.length,[.dat false 1 (m.map eU)],[0])) :
  q2G K (bcS 56 [0] g l n i x) byC=some (bcS 60 [0,0] g m n i x)∧z0k K (bcS 56 [0] g l n i x) (bcS 60 [0,0] g m n i x) byC=true:=by
 constructor
 ·refine q5r ?_ ?_
  ·unfold byC
   rw[q8e]
   simp(disch:=first|decide|omega|(simp only[LN];first|done|omega)) only[SV,SW,Nat.reduceBEq,q0M,wl,w,c68,q1I,Nat.reduceSub,V.forget,V.drop1,V.ref0,lose,reduceCtorEq]
  ·rw[show q14 _ _=[0] from rfl]
   unfold byC z0D
   simp(disch:=first|decide|omega|(simp only[LN];first|done|omega)) only[SV,SW,List.isEmpty_cons,q4u,q6V,reduceCtorEq,q4F,Nat.reduceBEq,q0M,w,q2Y,dynF,z3W,q6g,Blk.still,Bool.false_or,q9u,wl]
   simp [V.eqb,V.eqb1,D.eqb,q3m]
 ·unfold byC z0k
  simp(disch:=first|decide|omega|(simp only[LN];first|done|omega)) only[SV,SW,List.isEmpty_cons,q9u,Nat.reduceBEq,q0M,wl,Bool.false_or]
  simp [V.eqb,V.eqb1,D.eqb,q3m]
theorem j3W(K:Cx)(g:Glob)(l m1 m2 m3:Bs)(n i:Int)(x:D)(hcl:g.code.length≤8000)(w:IntKind.u64.wrap g.arity=(w64n g.arity:Int))(wl:IntKind.u64.wrap (g.code.length:Int)=(g.code.length:Int))
  (c69:K.eff 69 [.bsl 0 0 l.length,.d false (.str g.name)] [.dat false 1 (l.map eU)]=some (.bsl 0 0 m1.length,[.dat false 1 (m1.map eU)],[0]))
  (c68:K.eff 68 [.bsl 0 0 m1.length,.d false (.int .u64 (w64n g.arity))] [.dat false 1 (m1.map eU)]=some (.bsl 0 0 m2.length,[.dat false 1 (m2.map eU)],[0]))
  (c68':K.eff 68 [.bsl 0 0 m2.length,.d false (.int .u64 g.code.length)] [.dat false 1 (m2.map eU)]=some (.bsl 0 0 m3.length,[.dat false 1 (m3.map eU)],[0])) :
  q1J K (bcS 5 [] g l n i x) [byB,byC,⟨[],[],[],some (some 65,.calle 68 (.cons (.sl 60) (.cons (.conv .u64 (.len false (.ld 1 false (.fa 2 (.sl 9))))) .nil))),[9,47,48,49],1,[],[],[]⟩,⟨[],[(5,(.sl 65))],[],none,[9,47,48,49],1,[],[],[]⟩]=some (bcS 5 [0,0,0] g m3 n i x):=by
 obtain⟨b1,b2⟩:=j3Y K g l m1 n i x hcl w wl c69
 obtain⟨d1,d2⟩:=j3X K g m1 m2 n i x hcl w wl c68
 have e3:q2G K (bcS 60 [0,0] g m2 n i x) ⟨[],[],[],some (some 65,.calle 68 (.cons (.sl 60) (.cons (.conv .u64 (.len false (.ld 1 false (.fa 2 (.sl 9))))) .nil))),[9,47,48,49],1,[],[],[]⟩=some (bcS 65 [0,0,0] g m3 n i x):=by
  simp(disch:=first|decide|omega|(simp only[LN];first|done|omega)) only[SV,SW,Nat.reduceBEq,q0M,wl,c68',q1I,Nat.reduceSub,V.forget,V.drop1,V.ref0,lose,reduceCtorEq]
 have e4:q2G K (bcS 65 [0,0,0] g m3 n i x) ⟨[],[(5,(.sl 65))],[],none,[9,47,48,49],1,[],[],[]⟩=some (bcS 5 [0,0,0] g m3 n i x):=by
  simp(disch:=first|decide|omega|(simp only[LN];first|done|omega)) only[SV,SW,Nat.reduceBEq]
 rw[q4P b1 b2,q4P d1 d2,q4P e3 rfl,z1Y,e4]
end Go.Vm
end

section
namespace Go.Vm
set_option maxRecDepth 20000
open Go.Proofs
set_option maxHeartbeats 1000000 in
theorem bc_L1(K:Cx)(h70:M70 K)(g:Glob)(hcd:g.code.length≤8000∧∀ x∈g.code,(1≤x.op∧x.op<18)∧NumR x)(B:Nat)(hB:B≤900000000000)(x47:D)(n j:Int):∀(k i:Nat)(l:Bs),i+k=g.code.length→l.length≤B+100*i→
  lp K 0 [5,47,48,49,67,68,69] f24_L1 ⟨[(5,.bsl 0 0 l.length),(47,.d false x47),(48,.d false (.int .i64 n)),(49,.d false (.int .i64 j)),(67,.d false (.sl 3 (g.code.map q0C))),(68,.d false (.int .i64 g.code.length)),(69,.d false (.int .i64 i))],[(0,.dat false 1 (l.map eU))],1,[]⟩ =
   some (.exit 4,⟨[(5,.bsl 0 0 (l++(g.code.drop i).flatMap q1C).length),(47,.d false x47),(48,.d false (.int .i64 n)),(49,.d false (.int .i64 j))],[(0,.dat false 1 ((l++(g.code.drop i).flatMap q1C).map eU))],1,[]⟩):=by
 obtain⟨hcl,hin⟩:=hcd
 intro k
 induction k with
 |zero=>
  intro i l hi hl
  obtain rfl:i=g.code.length:=by omega
  rw[q0K f24_L1.eq_1,List.drop_length,List.flatMap_nil,List.append_nil]
  simp(disch:=first|decide|omega|(simp only[LN];first|done|omega)) only[SV,SW,Nat.reduceBEq]
 |succ k ih=>
  intro i l hi hl
  have hd:g.code.drop i=nth g.code i :: g.code.drop (i+1):=q0O (by omega)
  have hm:nth g.code (i:Int)∈g.code:=List.mem_of_getElem? (q1o (by omega))
  generalize hx:nth g.code (i:Int)=x at *
  obtain⟨hop,ha⟩:=hin x hm
  have hlen:=q3h ha
  have c70:=h70 l x (by omega) hop ha
  have ih:=ih (i+1) (l++q1C x) (by omega) (by simp only[List.length_append];omega)
  rw[hd,List.flatMap_cons,←List.append_assoc,←ih]
  clear ih hd hm hin h70 hop ha
  rw[q0K f24_L1.eq_1]
  generalize l++q1C x=m at *
  simp(disch:=first|decide|omega|(simp only[LN];first|done|omega)) only[SV,SW,Nat.reduceBEq,Nat.reduceAdd,hx,q0h,lose,dimL,c70,q1I,Nat.reduceSub,V.forget,V.drop1,V.ref0]
  rfl
set_option maxHeartbeats 2000000 in
theorem bc_L2(K:Cx)(h68:M68 K)(h69:M69 K)(h70:M70 K)(t:Table)(ht:ByOk t):∀(k i:Nat)(l:Bs),i+k=t.globals.length→l.length≤20000000000+10000000*i→
  lp K 0 [5,47,48,49] f24_L2 ⟨[(5,.bsl 0 0 l.length),(47,.d false (.sl 3 (t.globals.map q0G))),(48,.d false (.int .i64 t.globals.length)),(49,.d false (.int .i64 i))],[(0,.dat false 1 (l.map eU))],1,[]⟩ =
   some (.exit 2,⟨[(5,.bsl 0 0 (l++(t.globals.drop i).flatMap glB).length)],[(0,.dat false 1 ((l++(t.globals.drop i).flatMap glB).map eU))],1,[]⟩):=by
 have hgl:=ht.gl
 intro k
 induction k with
 |zero=>
  intro i l hi hl
  obtain rfl:i=t.globals.length:=by omega
  rw[q0K f24_L2.eq_1,List.drop_length,List.flatMap_nil,List.append_nil]
  simp(disch:=first|decide|omega|(simp only[LN];first|done|omega)) only[SV,SW,Nat.reduceBEq]
 |succ k ih=>
  intro i l hi hl
  have hd:t.globals.drop i=nth t.globals i :: t.globals.drop (i+1):=q0O (by omega)
  have hm:nth t.globals (i:Int)∈t.globals:=List.mem_of_getElem? (q1o (by omega))
  generalize hx:nth t.globals (i:Int)=g at *
  have hn:=ht.nm.gn g hm
  have hcl:=(ht.cd g hm).1
  have hlen:=q3v hn
  have hla:=q0L (q1r g.arity)
  have hlc:=q0L (n:=g.code.length) (by omega)
  have c69:=h69 l g.name (by omega) (by omega) (ht.ng g hm)
  have c68:=h68 (l++q15 g.name) (w64n g.arity) (by simp only[List.length_append];omega) (q1r _)
  have c68':=h68 (l++q15 g.name++leb (w64n g.arity)) g.code.length (by simp only[List.length_append];omega) (by omega)
  have w:=q9b g.arity
  have wl:=w64u (n:=g.code.length) (by omega)
  have e1:=bc_L1 K h70 g (ht.cd g hm) (20000000000+10000000*i+10000) (by omega) (.sl 3 (t.globals.map q0G)) t.globals.length i g.code.length 0 (l++q15 g.name++leb (w64n g.arity)++leb g.code.length) (by omega) (by simp only[List.length_append];omega)
  simp only[List.drop_zero,Int.natCast_zero] at e1
  have hgo:(g.code.flatMap q1C).length≤g.code.length*21:=q3d _ fun x hx=>q3h ((ht.cd g hm).2 x hx).2
  have ih:=ih (i+1) (l++q15 g.name++leb (w64n g.arity)++leb g.code.length++g.code.flatMap q1C) (by omega) (by simp only[List.length_append];omega)
  rw[hd,List.flatMap_cons]
  rw[show l++(glB g++(t.globals.drop (i+1)).flatMap glB)=(l++q15 g.name++leb (w64n g.arity)++leb g.code.length++g.code.flatMap q1C)++(t.globals.drop (i+1)).flatMap glB by simp [glB]]
  rw[←ih]
  clear ih hd hm ht h68 h69 h70 hgo
  generalize l++q15 g.name=m1 at *
  generalize m1++leb (w64n g.arity)=m2 at *
  generalize m2++leb g.code.length=m3 at *
  have eB:=j3W K g l m1 m2 m3 t.globals.length i (.sl 3 (t.globals.map q0G)) hcl w wl c69 c68 c68'
  unfold byB byC bcS gRow at eB
  rw[q0K f24_L2.eq_1]
  simp(disch:=first|decide|omega|(simp only[LN];first|done|omega)) only[SV,SW,Nat.reduceBEq,Nat.reduceAdd,hx,q0D,lose,z6Q,eB,e1]
  rfl
def f24o:Fun:=⟨f24.body,f24.res,true⟩
theorem j1e:q09 Go.Proofs.Tryz.prog 24 0 1 f24o=true:=by kernel_rfl
end Go.Vm
end

section
namespace Go.Vm
set_option maxRecDepth 20000
open Go.Proofs
def mkB(v:V)(nx:Nat)(H:List (Nat×Blk)):Option Blk→Option (List (Nat×Blk)×V×Lost×Nat)
 |some b=>if b.entries.isNone then some (H,v,.none,nx) else none
 |none=>none
theorem z6a(v nx H c k rows):mkB v nx H (some (.dat c k rows))=some (H,v,.none,nx):=rfl
def mkA(nx:Nat)(H:List (Nat×Blk)):V→Option (List (Nat×Blk)×V×Lost×Nat)
 |.bsl id i len=>if 0<len then mkB (.bsl id i len) nx H (look H id) else none
 |_=>none
theorem z6b(nx H id i len):mkA nx H (.bsl id i len)=if 0<len then mkB (.bsl id i len) nx H (look H id) else none:=rfl
theorem z0V(K s H a):evWr K s H (.mark a)=o1 (mkA s.nx H) (ev K s a):=by
 simp only[evWr]
 cases ev K s a with
 |none=>rfl
 |some v=>
  cases v with
  |bsl id i len=>
   simp only[q0P,mkA]
   split
   ·cases look H id <;> rfl
   ·rfl
  |_=>rfl
def rBy(p:Bs×Int):V×List Blk:=if p.2=0 then(.tup [.bsl 0 0 p.1.length,.d false (.int .i64 0)],[.dat true 1 (p.1.map eU)]) else(.tup [.fs true 1 [],.d false (.int .i64 p.2)],[])
set_option maxHeartbeats 2000000 in
theorem z64(K:Cx)(h13:K13 K)(h68:M68 K)(h69:M69 K)(h70:M70 K)(h71:∀ s:Int,K.call 71 [.d false (.int .u32 s)]=some (.d true (.sl 1 ((q4K s).map eU)),[]))(h72:∀ l:Bs,l.length≤1000000000000→K.call 72 [.d false (.sl 1 (l.map eU))]=some (.d false (.int .u32 (sumS l)),[]))(t:Table)(hto:TabOk t)(hs:t.shapes.length≤1048576) :
  q0B K f24o [.agg (tabV t)] []=some ((rBy (q0a t)).1,(rBy (q0a t)).2,[]):=by
 have c13:=h13 t hto
 unfold q0a rBy
 by_cases hc:q2e t=0
 ·rw[if_pos hc]
  have ht:=j3V hc hs hto.wd
  have hgl:=ht.gl
  rw[hc] at c13
  have hls:=q0L (n:=t.shapes.length) (by omega)
  have hlg:=q0L (n:=t.globals.length) (by omega)
  have c68:=h68 [83,76,84,72] t.shapes.length (by simp) (by omega)
  have e0:=bc_L0 K h68 h69 t ht t.shapes.length 0 ([83,76,84,72]++leb t.shapes.length) (by omega) (by simp only[List.length_append,List.length_cons,List.length_nil];omega)
  have hl0:(t.shapes.flatMap shB).length≤t.shapes.length*4300:=q3d _ fun s hs'=>q9f (ht.nm.sn s hs')
  simp only[List.drop_zero,Int.natCast_zero] at e0
  generalize hq:[83,76,84,72]++leb t.shapes.length++t.shapes.flatMap shB=q at *
  have hql:q.length≤10000000000:=by rw[←hq];simp only[List.length_append,List.length_cons,List.length_nil];omega
  have c68':=h68 q t.globals.length (by omega) (by omega)
  have e1:=bc_L2 K h68 h69 h70 t ht t.globals.length 0 (q++leb t.globals.length) (by omega) (by simp only[List.length_append];omega)
  simp only[List.drop_zero,Int.natCast_zero] at e1
  have hgo:(t.globals.flatMap glB).length≤t.globals.length*200000:=q3d _ fun g hg=>by
   have h1:=q3v (ht.nm.gn g hg)
   have h2:=q0L (q1r g.arity)
   have h3:=(ht.cd g hg).1
   have h4:=q0L (n:=g.code.length) (by omega)
   have h5:(g.code.flatMap q1C).length≤g.code.length*21:=q3d _ fun x hx=>q3h ((ht.cd g hg).2 x hx).2
   simp only[glB,List.length_append];omega
  have hbody:q++leb t.globals.length++t.globals.flatMap glB=q63 t:=by rw[←hq,q63]
  have hbl:(q63 t).length≤100000000000:=by rw[←hbody];simp only[List.length_append];omega
  rw[hbody] at e1
  have c72:=h72 (q63 t) (by omega)
  have wl:=w64u (n:=t.shapes.length) (by omega)
  have wg:=w64u (n:=t.globals.length) (by omega)
  unfold z2m
  generalize q63 t=bd at *
  generalize hm1:[83,76,84,72]++leb t.shapes.length=m1 at *
  generalize hm2:q++leb t.globals.length=m2 at *
  simp only[List.map_cons,List.map_nil,List.length_cons,List.length_nil] at c68
  simp only[z9o] at c68
  rw[show((83:UInt8).toNat:Int)=83 from rfl,show((76:UInt8).toNat:Int)=76 from rfl,show((84:UInt8).toNat:Int)=84 from rfl,show((72:UInt8).toNat:Int)=72 from rfl] at c68
  generalize hs2:sumS bd=s2 at *
  have c71:=h71 s2
  clear ht h68 h69 h70 h71 h72 h13 hto hc hl0 hgo hbody hq hm1 hm2
  have hf4:(q4K s2).length=4:=rfl
  have hfl:(bd++q4K s2).length=bd.length+4:=by simp [hf4]
  simp only[tabV] at e0 e1 ⊢
  by_cases hbig:8388608<(bd++q4K s2).length
  ·rw[if_pos hbig,if_neg (show ¬(4:Int)=0 by decide)]
   have hbi:(8388608:Int)<(bd.length:Int)+4:=by omega
   simp(disch:=first|decide|omega|(simp only[LN];first|done|omega)) only[SV,SW,f24o,f24,Nat.reduceAdd,Nat.reduceBEq,q0c,c13,z0V,z6b,z6a,lose,q0M,wl,c68,q1I,Nat.reduceSub,V.forget,V.drop1,V.ref0,reduceCtorEq,e0,wg,c68',e1,c72,c71,q5e,z6N,hf4,q0b]
   trace_state
  ·rw[if_neg hbig,if_pos rfl]
   have hbi:¬(8388608:Int)<(bd.length:Int)+4:=by omega
   simp(disch:=first|decide|omega|(simp only[LN];first|done|omega)) only[SV,SW,f24o,f24,Nat.reduceAdd,Nat.reduceBEq,q0c,c13,z0V,z6b,z6a,lose,q0M,wl,c68,q1I,Nat.reduceSub,V.forget,V.drop1,V.ref0,reduceCtorEq,e0,wg,c68',e1,c72,c71,q5e,z6N,hf4,q0b,hNew,V.newR]
   trace_state
 ·rw[if_neg hc,if_neg hc]
  have hb:(q2e t != 0)=true:=by simpa using hc
  clear h68 h69 h70 h71 h72 h13 hto hc
  simp only[tabV]
  generalize q2e t=z at *
  simp(disch:=first|decide|omega|(simp only[LN];first|done|omega)) only[SV,SW,f24o,f24,Nat.reduceAdd,Nat.reduceBEq,q0c,c13,hb,q0b]
  trace_state
end Go.Vm
end

section
namespace Go.Vm
set_option maxRecDepth 20000
open Go.Proofs
/- 'sloth/slothlaw17.CodeBytes' -/
def f6_T0:C:= (.seq (.reg [⟨[],[(110,(.or (.or (.or (.or (.or (.or (.or (.or (.un .not (.sl 5)) (.un .not (.sl 17))) (.un .not (.sl 18))) (.un .not (.sl 19))) (.bin .neq (.sl 12) (.sl 8))) (.bin .neq (.sl 14) (.sl 10))) (.bin .neq (.sl 16) (.sl 8))) (.un .not (.sl 20))) (.un .not (.sl 21))))],[],none,[6,7,11,13,15],37,[],[],[]⟩]) (.cond (.sl 110) (.seq (.reg [⟨[],[(4,(.bool false))],[],none,[],1,[],[],[]⟩]) (.seq (.keep [4]) .ret)) .skip))
def f6_L0:C:= (.seq (.seq (.reg [⟨[],[(114,(.bin .lss (.sl 22) (.len false (.sl 11))))],[],none,[6,7,11,13,15,22],4,[],[],[]⟩]) (.cond (.sl 114) .skip (.seq (.keep [6,7,11,13,15]) (.exit 0)))) (.seq (.block 1 (.reg [⟨[],[],[],some (none,.store 1 (.ia 1 (.sl 11) (.sl 22)) (.int .u8 1)),[6,7,11,13,15,22],4,[],[],[]⟩])) (.reg [⟨[],[(22,(.bin .add (.sl 22) (.int .i64 1)))],[],none,[6,7,11,13,15],3,[],[],[]⟩])))
def f6_L1:C:= (.seq (.seq (.reg [⟨[],[(123,(.bin .lss (.sl 23) (.len false (.sl 13))))],[],none,[6,7,11,13,15,23],4,[],[],[]⟩]) (.cond (.sl 123) .skip (.seq (.keep [6,7,11,13,15]) (.exit 2)))) (.seq (.block 3 (.reg [⟨[],[],[],some (none,.store 1 (.ia 1 (.sl 13) (.sl 23)) (.int .u8 2)),[6,7,11,13,15,23],4,[],[],[]⟩])) (.reg [⟨[],[(23,(.bin .add (.sl 23) (.int .i64 1)))],[],none,[6,7,11,13,15],3,[],[],[]⟩])))
def f6_L2:C:= (.seq (.seq (.reg [⟨[],[(135,(.bin .lss (.sl 25) (.len false (.sl 13))))],[],none,[6,7,13,15,24,25],4,[],[],[]⟩]) (.cond (.sl 135) .skip (.seq (.keep [6,7,15,24]) (.exit 4)))) (.seq (.block 5 (.seq (.reg [⟨[],[(142,(.bin .neq (.ld 1 false (.ia 1 (.sl 13) (.sl 25))) (.int .u8 2)))],[],none,[6,7,13,15,24,25],5,[],[],[]⟩]) (.cond (.sl 142) (.seq (.reg [⟨[],[(4,(.bool false))],[],none,[],1,[],[],[]⟩]) (.seq (.keep [4]) .ret)) .skip))) (.reg [⟨[],[(25,(.bin .add (.sl 25) (.int .i64 1)))],[],none,[6,7,13,15,24],3,[],[],[]⟩])))
def f6_T1:C:= (.seq (.reg [⟨[],[(26,(.call 25 (.cons (.sl 15) (.cons (.sl 7) .nil))))],[],none,[6,7,24],4,[],[],[]⟩]) (.seq (.reg [⟨[],[],[],some (some 147,.calle 17 (.cons (.ld 2 true (.sl 6)) .nil)),[6,7,24,26],2,[],[],[]⟩]) (.seq (.reg [⟨[],[(27,(.ext 0 (.call 23 (.cons (.ld 2 true (.sl 6)) .nil)))),(28,(.ext 1 (.call 23 (.cons (.ld 2 true (.sl 6)) .nil))))],[],none,[6,7,24,26],7,[],[],[]⟩]) (.seq (.reg [⟨[(155,.callo 24 (.cons (.ld 2 true (.sl 6)) .nil))],[(29,(.ext 0 (.sl 155))),(30,(.ext 1 (.sl 155)))],[],none,[7,24,26,27,28],7,[],[],[]⟩]) (.seq (.reg [⟨[],[(31,(.call 25 (.cons (.sl 29) (.cons (.sl 27) .nil))))],[],none,[7,24,26,28,30],4,[],[],[]⟩]) (.seq (.reg [⟨[],[(4,(.and (.and (.and (.sl 26) (.bin .eql (.len false (.sl 24)) (.bin .add (.len false (.sl 7)) (.int .i64 8)))) (.sl 31)) (.bin .eql (.sl 30) (.sl 28))))],[],none,[],18,[],[],[]⟩]) (.seq (.keep [4]) .ret)))))))
def f6_T2:C:= (.seq (.reg [⟨[],[],[(.nilsl 1)],none,[6,7,11,13,15],1,[],[],[]⟩]) (.seq (.reg [⟨[(130,.lits 1 (.cons (.int .u8 1) (.cons (.int .u8 1) (.cons (.int .u8 1) (.cons (.int .u8 1) (.cons (.int .u8 1) (.cons (.int .u8 1) (.cons (.int .u8 1) (.cons (.int .u8 1) .nil)))))))))],[],[],some (some 131,.app 1 (.sl 11) (.sl 130)),[6,7,13,15],3,[],[],[]⟩,⟨[],[(24,(.sl 131))],[],none,[6,7,13,15],1,[],[],[]⟩]) (.seq (.seq (.reg [⟨[],[(25,(.int .i64 0))],[],none,[6,7,13,15,24],1,[],[],[]⟩]) (.block 4 (.seq (.keep [6,7,13,15,24,25]) (.loop (.seq (.keep [6,7,13,15,24,25]) f6_L2))))) (.seq (.keep [6,7,15,24]) f6_T1))))
def f6_T3:C:= (.seq (.reg [⟨[],[(7,(.ext 0 (.call 23 (.cons (.ld 2 true (.sl 2)) .nil)))),(8,(.ext 1 (.call 23 (.cons (.ld 2 true (.sl 2)) .nil))))],[],none,[2,3,5,6],7,[],[],[]⟩]) (.seq (.reg [⟨[],[(9,(.ext 0 (.call 23 (.cons (.ld 2 true (.sl 3)) .nil)))),(10,(.ext 1 (.call 23 (.cons (.ld 2 true (.sl 3)) .nil))))],[],none,[2,3,5,6,7,8],7,[],[],[]⟩]) (.seq (.reg [⟨[(47,.callo 24 (.cons (.ld 2 true (.sl 6)) .nil))],[(11,(.ext 0 (.sl 47))),(12,(.ext 1 (.sl 47)))],[],none,[2,3,5,6,7,8,9,10],7,[],[],[]⟩]) (.seq (.reg [⟨[(52,.callo 24 (.cons (.ld 2 true (.sl 3)) .nil))],[(13,(.ext 0 (.sl 52))),(14,(.ext 1 (.sl 52)))],[],none,[2,5,6,7,8,9,10,11,12],7,[],[],[]⟩]) (.seq (.reg [⟨[(57,.callo 24 (.cons (.ld 2 true (.sl 6)) .nil))],[(15,(.ext 0 (.sl 57))),(16,(.ext 1 (.sl 57)))],[],none,[2,5,6,7,8,9,10,11,12,13,14],7,[],[],[]⟩]) (.seq (.reg [⟨[],[(17,(.call 25 (.cons (.sl 11) (.cons (.sl 7) .nil))))],[],none,[2,5,6,7,8,9,10,11,12,13,14,15,16],4,[],[],[]⟩]) (.seq (.reg [⟨[],[(18,(.call 25 (.cons (.sl 13) (.cons (.sl 9) .nil))))],[],none,[2,5,6,7,8,10,11,12,13,14,15,16,17],4,[],[],[]⟩]) (.seq (.reg [⟨[],[(19,(.call 25 (.cons (.sl 15) (.cons (.sl 7) .nil))))],[],none,[2,5,6,7,8,10,11,12,13,14,15,16,17,18],4,[],[],[]⟩]) (.seq (.reg [⟨[],[(20,(.call 15 (.cons (.ld 2 true (.sl 6)) (.cons (.ld 2 true (.sl 2)) .nil))))],[],none,[5,6,7,8,10,11,12,13,14,15,16,17,18,19],4,[],[],[]⟩]) (.seq (.reg [⟨[],[],[],some (some 73,.calle 16 (.cons (.ld 2 true (.sl 6)) .nil)),[5,6,7,8,10,11,12,13,14,15,16,17,18,19,20],2,[],[],[]⟩,⟨[],[(21,(.sl 73))],[],none,[5,6,7,8,10,11,12,13,14,15,16,17,18,19,20],1,[],[],[]⟩]) (.seq (.seq (.keep [5,6,7,8,10,11,12,13,14,15,16,17,18,19,20,21]) f6_T0) (.seq (.seq (.reg [⟨[],[(22,(.int .i64 0))],[],none,[6,7,11,13,15],1,[],[],[]⟩]) (.block 0 (.seq (.keep [6,7,11,13,15,22]) (.loop (.seq (.keep [6,7,11,13,15,22]) f6_L0))))) (.seq (.seq (.reg [⟨[],[(23,(.int .i64 0))],[],none,[6,7,11,13,15],1,[],[],[]⟩]) (.block 2 (.seq (.keep [6,7,11,13,15,23]) (.loop (.seq (.keep [6,7,11,13,15,23]) f6_L1))))) (.seq (.keep [6,7,11,13,15]) f6_T2))))))))))))))
def f6:Fun:=⟨ (.seq (.reg [⟨[(2,.box (.sl 0)),(3,.box (.sl 1))],[],[(.bool false)],none,[2,3],3,[],[],[]⟩]) (.seq (.reg [⟨[],[(5,(.call 11 .nil))],[],none,[2,3],2,[],[],[]⟩]) (.seq (.reg [⟨[(34,.callo 12 (.cons (.ld 2 true (.sl 2)) .nil)),(6,.box (.agg (.cons (.nilsl 2) (.cons (.nilsl 3) .nil))))],[],[],some (none,.store 2 (.sl 6) (.sl 34)),[2,3,5,6],4,[],[],[]⟩]) (.seq (.keep [2,3,5,6]) f6_T3)))), [(.sl 4)],false⟩
theorem f6_ok:q09 Go.Proofs.Tryz.prog 6 0 2 f6=true:=by kernel_rfl
/- 'sloth/slothlaw17.sameBytes' -/
def f25:Fun:=⟨ (.seq (.reg [⟨[],[],[(.bool false)],none,[0,1],1,[],[],[]⟩]) (.seq (.reg [⟨[],[(4,(.bin .eql (.b2s (.sl 0)) (.b2s (.sl 1))))],[],none,[],6,[],[],[]⟩]) (.seq (.tidy 0 [4]) .ret))), [(.sl 4)],false⟩
theorem j3x:q09 Go.Proofs.Tryz.prog 25 0 2 f25=true:=by kernel_rfl
theorem setU(l:Bs)(i:Nat)(c:UInt8):(l.map eU).set i [.int .u8 (c.toNat:Int)]=(l.set i c).map eU:=by
  rw[List.map_set];rfl
theorem z91(c:UInt8):(eU c).length=1:=rfl
theorem z7h(c:UInt8):List.drop 1 (eU c)=[]:=rfl
theorem j1S(K:Cx)(n a nx:Nat)(mv:List Nat)(v6 v7 v13 v15:V)(z:Bool)(hn:n≤100000000):∀(k i:Nat)(H:List (Nat×Blk))(l:Bs),l.length=n→i+k=n→look H a=some (.dat z 1 (l.map eU))→
    ∃(H':List (Nat×Blk)) (l':Bs),lpk K [6,7,11,13,15,22] f6_L0 ⟨[(6,v6),(7,v7),(11,.bsl a 0 n),(13,v13),(15,v15),(22,.d false (.int .i64 i))],H,nx,mv⟩ =
      some (.exit 0,⟨[(6,v6),(7,v7),(11,.bsl a 0 n),(13,v13),(15,v15)],H',nx,mv⟩)∧look H' a=some (.dat z 1 (l'.map eU))∧l'.length=n∧∀ b,b≠a→look H' b=look H b:=by
  intro k
  induction k with
  |zero=>
    intro i H l hl hi ha
    obtain rfl:i=n:=by omega
    refine⟨H,l,?_,ha,hl,fun _ _=>rfl⟩
    rw[q1B f6_L0.eq_1]
    simp(disch:=first|decide|omega|(simp only[LN];first|done|omega)) only[SV,SW,Nat.reduceBEq,q0l,q0t,Nat.reduceEqDiff,q1H]
  |succ k ih=>
    intro i H l hl hi ha
    obtain⟨H',l',e,h1,h2,h3⟩:=ih (i+1) (put H a (.dat z 1 ((l.set i 1).map eU))) (l.set i 1) (by simpa using hl) (by omega) (q0Q _ _ _)
    refine⟨H',l',?_,h1,h2,fun b hb=>by rw[h3 b hb,q0e _ _ (by omega)]⟩
    rw[←e]
    clear ih e h1 h2 h3
    have hs:=setU l i 1
    rw[show((1:UInt8).toNat:Int)=1 from rfl] at hs
    have hlen:(l.map eU).length=n:=by simpa using hl
    rw[q1B f6_L0.eq_1]
    simp(disch:=first|decide|omega|(simp only[LN];first|done|omega)) only[SV,SW,Nat.reduceBEq,ha,z91,z7h,hs,lose,q12,q0t,Nat.reduceEqDiff]
    rfl
theorem j1R(K:Cx)(n a nx:Nat)(mv:List Nat)(v6 v7 v11 v15:V)(z:Bool)(hn:n≤100000000):∀(k i:Nat)(H:List (Nat×Blk))(l:Bs),l.length=n→(∀ j,j<i→l[j]? = some 2)→i+k=n→look H a=some (.dat z 1 (l.map eU))→
    ∃(H':List (Nat×Blk)) (l':Bs),lpk K [6,7,11,13,15,23] f6_L1 ⟨[(6,v6),(7,v7),(11,v11),(13,.bsl a 0 n),(15,v15),(23,.d false (.int .i64 i))],H,nx,mv⟩ =
      some (.exit 2,⟨[(6,v6),(7,v7),(11,v11),(13,.bsl a 0 n),(15,v15)],H',nx,mv⟩)∧look H' a=some (.dat z 1 (l'.map eU))∧l'.length=n∧(∀ j,j<n→l'[j]? = some 2)∧∀ b,b≠a→look H' b=look H b:=by
  intro k
  induction k with
  |zero=>
    intro i H l hl hp hi ha
    obtain rfl:i=n:=by omega
    refine⟨H,l,?_,ha,hl,hp,fun _ _=>rfl⟩
    rw[q1B f6_L1.eq_1]
    simp(disch:=first|decide|omega|(simp only[LN];first|done|omega)) only[SV,SW,Nat.reduceBEq,q0l,q0t,Nat.reduceEqDiff,q1H]
  |succ k ih=>
    intro i H l hl hp hi ha
    obtain⟨H',l',e,h1,h2,hq,h3⟩:=ih (i+1) (put H a (.dat z 1 ((l.set i 2).map eU))) (l.set i 2) (by simpa using hl) (fun j hj=>by
      by_cases h:j=i
      · subst h;rw[List.getElem?_set_self (by omega)]
      · rw[List.getElem?_set_ne (by omega)];exact hp j (by omega)) (by omega) (q0Q _ _ _)
    refine⟨H',l',?_,h1,h2,hq,fun b hb=>by rw[h3 b hb,q0e _ _ (by omega)]⟩
    rw[←e]
    clear ih e h1 h2 h3 hp hq
    have hs:=setU l i 2
    rw[show((2:UInt8).toNat:Int)=2 from rfl] at hs
    have hlen:(l.map eU).length=n:=by simpa using hl
    rw[q1B f6_L1.eq_1]
    simp(disch:=first|decide|omega|(simp only[LN];first|done|omega)) only[SV,SW,Nat.reduceBEq,ha,z91,z7h,hs,lose,q12,q0t,Nat.reduceEqDiff]
    rfl
theorem j1P(K:Cx)(c:Bool)(v6 v7 v13 v15:V)(H:List (Nat×Blk))(nx:Nat)(mv:List Nat) :
    lpk K [6,7,11,13,15,22] f6_L0 ⟨[(6,v6),(7,v7),(11,.fs c 1 []),(13,v13),(15,v15),(22,.d false (.int .i64 0))],H,nx,mv⟩ =
      some (.exit 0,⟨[(6,v6),(7,v7),(11,.fs c 1 []),(13,v13),(15,v15)],H,nx,mv⟩):=by
  rw[q1B f6_L0.eq_1]
  simp(disch:=first|decide|omega|(simp only[LN];first|done|omega)) only[SV,SW,Nat.reduceBEq,q0l,q0t,Nat.reduceEqDiff,q1H]
theorem j1O(K:Cx)(c:Bool)(v6 v7 v11 v15:V)(H:List (Nat×Blk))(nx:Nat)(mv:List Nat) :
    lpk K [6,7,11,13,15,23] f6_L1 ⟨[(6,v6),(7,v7),(11,v11),(13,.fs c 1 []),(15,v15),(23,.d false (.int .i64 0))],H,nx,mv⟩ =
      some (.exit 2,⟨[(6,v6),(7,v7),(11,v11),(13,.fs c 1 []),(15,v15)],H,nx,mv⟩):=by
  rw[q1B f6_L1.eq_1]
  simp(disch:=first|decide|omega|(simp only[LN];first|done|omega)) only[SV,SW,Nat.reduceBEq,q0l,q0t,Nat.reduceEqDiff,q1H]
theorem j1N(K:Cx)(c:Bool)(v6 v7 v15 v24:V)(H:List (Nat×Blk))(nx:Nat)(mv:List Nat) :
    lpk K [6,7,13,15,24,25] f6_L2 ⟨[(6,v6),(7,v7),(13,.fs c 1 []),(15,v15),(24,v24),(25,.d false (.int .i64 0))],H,nx,mv⟩ =
      some (.exit 4,⟨[(6,v6),(7,v7),(15,v15),(24,v24)],H,nx,mv⟩):=by
  rw[q1B f6_L2.eq_1]
  simp(disch:=first|decide|omega|(simp only[LN];first|done|omega)) only[SV,SW,Nat.reduceBEq,q0l,q0t,Nat.reduceEqDiff,q1H]
theorem j1Q(K:Cx)(n a nx:Nat)(mv:List Nat)(v6 v7 v15 v24:V)(z:Bool)(hn:n≤100000000)(H:List (Nat×Blk))(l:Bs)(hl:l.length=n)(hp:∀ j,j<n→l[j]? = some 2)(ha:look H a=some (.dat z 1 (l.map eU))):∀(k i:Nat),i+k=n→
    lpk K [6,7,13,15,24,25] f6_L2 ⟨[(6,v6),(7,v7),(13,.bsl a 0 n),(15,v15),(24,v24),(25,.d false (.int .i64 i))],H,nx,mv⟩ =
      some (.exit 4,⟨[(6,v6),(7,v7),(15,v15),(24,v24)],H,nx,mv⟩):=by
  intro k
  induction k with
  |zero=>
    intro i hi
    obtain rfl:i=n:=by omega
    rw[q1B f6_L2.eq_1]
    simp(disch:=first|decide|omega|(simp only[LN];first|done|omega)) only[SV,SW,Nat.reduceBEq,q0l,q0t,Nat.reduceEqDiff,q1H]
  |succ k ih=>
    intro i hi
    have ih:=ih (i+1) (by omega)
    rw[←ih]
    clear ih
    have h2:nth l (i:Int)=2:=by
      have:=q1o (l:=l) (j:=i) (by omega)
      rw[hp i (by omega)] at this
      exact(Option.some.inj this).symm
    have e2:eU 2=[.int .u8 2]:=rfl
    clear hp
    rw[q1B f6_L2.eq_1]
    simp(disch:=first|decide|omega|(simp only[LN];first|done|omega)) only[SV,SW,Nat.reduceBEq,ha,h2,e2,q12,q0t,Nat.reduceEqDiff]
    rfl
end Go.Vm
end

section
namespace Go.Vm
set_option maxRecDepth 20000
open Go.Proofs
theorem b2s_U(H:List (Nat×Blk))(c:Bool)(l:Bs):z4n H (.d c (.sl 1 (l.map eU)))=some (.d false (.str l)):=by
 unfold z4n
 rw[show q0c viewDepth H (.d c (.sl 1 (l.map eU)))=some (.sl 1 (l.map eU)) from rfl]
 simp only[b2sD,q6W,Option.map_some]
theorem z8Z(K:Cx)(a:Bs):q0B K f25 [.d false (.sl 1 (a.map eU)),.d false (.sl 1 (a.map eU))] []=some (.d false (.bool true),[],[]):=by
 simp(disch:=first|decide|omega|(simp only[LN];first|done|omega)) only[SV,SW,f25,Nat.reduceAdd,Nat.reduceBEq,e_b2s,b2s_U,q0b]
def L25(K:Cx):Prop:=∀ a:Bs,a.length≤8388608→K.call 25 [.d false (.sl 1 (a.map eU)),.d false (.sl 1 (a.map eU))]=some (.d false (.bool true),[])
def L23(K:Cx):Prop:=∀ t:Table,TabOk t→t.shapes.length≤1048576→K.call 23 [.agg [.d false (.sl 2 (t.shapes.map q0g)),.d false (.sl 3 (t.globals.map q0G))]]=some (.tup [vBy (q0a t),.d false (.int .i64 (q0a t).2)],[])
def L24(K:Cx):Prop:=∀ t:Table,TabOk t→t.shapes.length≤1048576→K.call 24 [.agg [.d false (.sl 2 (t.shapes.map q0g)),.d false (.sl 3 (t.globals.map q0G))]]=some (rBy (q0a t))
theorem q1L(t:Table):(q0a t).1.length≤8388608∧((q0a t).2≠0→(q0a t).1=[]):=by
 unfold q0a
 split
 ·split
  ·exact⟨by simp,fun _=>rfl⟩
  ·exact⟨by simp;omega,fun h=>absurd rfl h⟩
 ·exact⟨by simp,fun _=>rfl⟩
def j34(H:List (Nat×Blk))(a:Nat)(p:Bs×Int):V→Prop:=fun v=>(p.2=0∧∃ z,v=.bsl a 0 p.1.length∧look H a=some (.dat z 1 (p.1.map eU)))∨(p.2≠0∧∃ c,v=.fs c 1 [])
theorem q2T(own ps b:Bool):z04 own ps (some (.d false (.bool b),[]))=some (.d false (.bool b)):=by
 cases own <;> cases ps <;> rfl
theorem q4w(H:List (Nat×Blk))(c:Bool):q0c 6 H (.fs c 1 [])=some (.sl 1 []):=rfl
theorem z5u(H:List (Nat×Blk))(n:Nat)(z:Bool)(b:Bs):q0c 6 ((n,.dat z 1 (b.map eU)) :: H) (.bsl n 0 b.length)=some (.sl 1 (b.map eU)):=by
 have:=q2z 5 ((n,.dat z 1 (b.map eU)) :: H) n 0 b.length z 1 b eU (by simp [look]) (by omega)
 simpa using this
set_option maxHeartbeats 2000000 in
theorem q9O(K:Cx)(h23:L23 K)(h24:L24 K)(h25:L25 K)(h17:L17 K)(t:Table)(ht:Sm t)(htt:TabOk (q3W t))(H:List (Nat×Blk))(nx q cb gb:Nat)(mv:List Nat)(hq:look H q=some (.mix 2 [[.bsx 2 0 t.shapes.length,.bsx 3 0 t.globals.length]]))
  (hT:TB H 2 false t) (hq2:t.globals.length+4≤q) (v15:V) (hc:j34 H cb (q0a t) v15) :
  ∃ H' nx' mv',exec K f6_T1 ⟨[(6,.ptr q 0 0),(7,vBy (q0a t)),(15,v15),(24,.bsl gb 0 ((q0a t).1.length+8))],H,nx,mv⟩=some (.ret,⟨[(4,.d false (.bool true))],H',nx',mv'⟩):=by
 have hr2:=hT.reach
 have e17:=q8g (C:=K) (nx:=nx) hT (h17 t ht) (by simp [q3X])
 obtain⟨w1,w2⟩:=z5w (H:=H) (p:=2) (nx:=nx) (t:=t)
 obtain⟨_,hout2⟩:=z1y (H:=H) (p:=2) (nx:=nx) (l:=q3X t)
 rw[show(q3X t).length=t.globals.length+2 by simp [q3X]] at hout2
 have hq'':look (putAll H (q1k (List.range' 2 (t.globals.length+2)) nx) 0 (q3X t)) q=some (.mix 2 [[.bsx 2 0 t.shapes.length,.bsx 3 0 t.globals.length]]):=by rw[hout2 q (by omega)];exact hq
 generalize hH3:putAll H (q1k (List.range' 2 (t.globals.length+2)) nx) 0 (q3X t)=H3 at hq'' e17 w1 w2
 have c6:=h23 (q3W t) htt ht.sh
 have c7:=h24 (q3W t) htt ht.sh
 simp only[q3W] at c6 c7 w2
 obtain⟨l1,l2⟩:=q1L t
 have l3:=(q1L (q3W t)).1
 simp only[q3W] at l3
 have c8:=h25 (q0a t).1 l1
 generalize q0a t=p1 at *
 generalize hp3:q0a _=p3 at c6 c7 l3
 have n25:=h25 [] (by simp)
 simp only[List.map_nil] at n25
 have c9:=h25 p3.1 l3
 clear hT hout2 ht htt h23 h24 h25 h17 hp3
 unfold vBy rBy at *
 obtain⟨b1,x1⟩:=p1
 obtain⟨b3,x3⟩:=p3
 simp only at *
 have hv3:=z5u H3 nx true b3
 rcases hc with⟨hx,z,rfl,hcb⟩|⟨hx,c,rfl⟩
 ·subst hx
  have hvc:q0c 6 H (.bsl cb 0 b1.length)=some (.sl 1 (b1.map eU)):=by
   have:=q2z 5 H cb 0 b1.length z 1 b1 eU hcb (by omega)
   simpa using this
  by_cases h3:x3=0
  ·subst h3
   simp only[if_true] at *
   refine⟨(nx,.dat true 1 (b3.map eU)) :: H3,nx+1,mv,?_⟩
   rw[f6_T1.eq_1]
   simp(disch:=first|decide|omega|(simp only[LN];first|done|omega)) only[q0A,q0R,q0o,q0J,q0y,q0P,q0Z,q0H,q0z,q0k,q2J,q2I,e_sl,q0s,Nat.reduceBEq,q0i,beq_self_eq_true,q0m,q38,q00,q07,q08,q06,List.any_cons,V.own,V.own1,List.any_nil,Bool.or_self,Bool.or_false,q04,List.all_cons,V.new,V.new1,D.flat,List.all_nil,Bool.and_self,Bool.and_true,V.flatV,V.flat1,Bool.not_false,Bool.false_and,q0X,view,viewDepth,hvc,Option.map_some,q2u,q1b,q1G,q1n,c8,q1f,Bool.or_true,Bool.not_true,Bool.and_false,Bool.false_eq_true,if_false,q0p,q01,q0x,q0d,q0r,q0f,List.cons_append,List.nil_append,addBlks,q0I,q0F,q0E,q1s,q1y,e_ld,q1d,hq,q2d,q1i,List.getElem?_cons_zero,q2c,List.drop_zero,q05,List.length_cons,List.length_nil,Nat.zero_add,Nat.reduceAdd,Nat.le_refl,q1m,if_true,q1U,refsL,V.refs,List.append_nil,hr2,e17,V.ren,renL,q1V,lose,loseH,Lost.ids,q50,hq'',w1,w2,List.map_cons,List.map_nil,c6,evExt,List.getElem?_cons_succ,q0U,q1X,q3O,q3P,c7,q2k,Blk.plain,V.new2,V.newR,Blk.new,V.shift,Bool.true_and,Bool.false_or,q10,q1u,q0T,q1Y,q1Z,hv3,c9,q8B,q8i,q6z,evLen,List.length_map,q4Q,evBin,intBin,q3U,eq_t,q2o,q0l,q0t,q1p,Nat.reduceEqDiff,q1F,q4n]
  ·rw[if_neg h3] at c6 c7
   simp only[if_true] at *
   refine⟨H3,nx,mv,?_⟩
   rw[f6_T1.eq_1]
   simp(disch:=first|decide|omega|(simp only[LN];first|done|omega)) only[q0A,q0R,q0o,q0J,q0y,q0P,q0Z,q0H,q0z,q0k,q2J,q2I,e_sl,q0s,Nat.reduceBEq,q0i,beq_self_eq_true,q0m,q38,q00,q07,q08,q06,List.any_cons,V.own,V.own1,List.any_nil,Bool.or_self,Bool.or_false,q04,List.all_cons,V.new,V.new1,D.flat,List.all_nil,Bool.and_self,Bool.and_true,V.flatV,V.flat1,Bool.not_false,Bool.false_and,q0X,view,viewDepth,hvc,Option.map_some,q2u,q1b,q1G,q1n,c8,q2T,q0p,q01,q0x,q0d,q0r,q0f,List.cons_append,List.nil_append,addBlks,q0I,q0F,q0E,q1s,q1y,e_ld,q1d,hq,q2d,q1i,List.getElem?_cons_zero,q2c,List.drop_zero,q05,List.length_cons,List.length_nil,Nat.zero_add,Nat.reduceAdd,Nat.le_refl,q1m,if_true,q1U,refsL,V.refs,List.append_nil,hr2,e17,V.ren,renL,q1V,lose,loseH,Lost.ids,q50,hq'',w1,w2,List.map_cons,List.map_nil,c6,q1f,Bool.or_true,Bool.not_true,Bool.and_false,Bool.false_eq_true,if_false,evExt,List.getElem?_cons_succ,q0U,q1X,q3O,q3P,c7,q2k,V.new2,V.newR,V.shift,q10,q1u,q0T,q1Y,Nat.add_zero,q1Z,Bool.true_and,q4w,n25,q8B,q8i,q6z,evLen,List.length_map,q4Q,evBin,intBin,q3U,eq_t,q2o,q0l,q0t,q1p,Nat.reduceEqDiff,q1F,q4n]
 ·have hb1:=l2 hx
  subst hb1
  simp only[if_neg hx] at *
  by_cases h3:x3=0
  ·subst h3
   simp only[if_true] at *
   refine⟨(nx,.dat true 1 (b3.map eU)) :: H3,nx+1,mv,?_⟩
   rw[f6_T1.eq_1]
   simp(disch:=first|decide|omega|(simp only[LN];first|done|omega)) only[List.length_nil,Nat.zero_add,q0A,q0R,q0o,q0J,q0y,q0P,q0Z,q0H,q0z,q0k,q2J,q2I,e_sl,q0s,Nat.reduceBEq,q0i,beq_self_eq_true,q0m,q38,q00,q07,q08,q06,List.any_cons,V.own,V.own1,List.any_nil,Bool.or_self,q04,List.all_cons,V.new,V.new1,List.all_nil,Bool.and_self,Bool.and_true,V.flatV,V.flat1,Bool.not_false,q0X,view,viewDepth,q4w,Option.map_some,q1b,q1G,q1n,n25,q2T,q0p,q01,q0x,q0d,q0r,q0f,List.cons_append,List.nil_append,addBlks,q0I,q0F,q0E,q1s,q1y,e_ld,q1d,hq,q2d,q1i,List.getElem?_cons_zero,q2c,List.drop_zero,q05,List.length_cons,Nat.reduceAdd,Nat.le_refl,q1m,if_true,q1U,refsL,V.refs,List.append_nil,hr2,e17,V.ren,renL,q1V,lose,loseH,Lost.ids,q50,hq'',Bool.or_false,Bool.false_and,w1,w2,List.map_cons,List.map_nil,c6,q1f,D.flat,Bool.or_true,Bool.not_true,Bool.and_false,Bool.false_eq_true,if_false,evExt,List.getElem?_cons_succ,q0U,q1X,q3O,q3P,c7,q2k,Blk.plain,V.new2,V.newR,Blk.new,V.shift,Bool.true_and,Bool.false_or,q10,q1u,q0T,q1Y,q1Z,hv3,q2u,c9,q8B,q8i,q6z,evLen,q4Q,evBin,intBin,q3U,eq_t,q2o,q0l,q0t,q1p,Nat.reduceEqDiff,q1F,q4n]
  ·simp only[if_neg h3] at *
   refine⟨H3,nx,mv,?_⟩
   rw[f6_T1.eq_1]
   simp(disch:=first|decide|omega|(simp only[LN];first|done|omega)) only[List.length_nil,Nat.zero_add,q0A,q0R,q0o,q0J,q0y,q0P,q0Z,q0H,q0z,q0k,q2J,q2I,e_sl,q0s,Nat.reduceBEq,q0i,beq_self_eq_true,q0m,q38,q00,q07,q08,q06,List.any_cons,V.own,V.own1,List.any_nil,Bool.or_self,q04,List.all_cons,V.new,V.new1,List.all_nil,Bool.and_self,Bool.and_true,V.flatV,V.flat1,Bool.not_false,q0X,view,viewDepth,q4w,Option.map_some,q1b,q1G,q1n,n25,q2T,q0p,q01,q0x,q0d,q0r,q0f,List.cons_append,List.nil_append,addBlks,q0I,q0F,q0E,q1s,q1y,e_ld,q1d,hq,q2d,q1i,List.getElem?_cons_zero,q2c,List.drop_zero,q05,List.length_cons,Nat.reduceAdd,Nat.le_refl,q1m,if_true,q1U,refsL,V.refs,List.append_nil,hr2,e17,V.ren,renL,q1V,lose,loseH,Lost.ids,q50,hq'',Bool.or_false,Bool.false_and,w1,w2,List.map_cons,List.map_nil,c6,q1f,D.flat,Bool.or_true,Bool.not_true,Bool.and_false,Bool.false_eq_true,if_false,evExt,List.getElem?_cons_succ,q0U,q1X,q3O,q3P,c7,q2k,V.new2,V.newR,V.shift,q10,q1u,q0T,q1Y,Nat.add_zero,q1Z,Bool.true_and,q8B,q8i,q6z,evLen,q4Q,evBin,intBin,q3U,eq_t,q2o,q0l,q0t,q1p,Nat.reduceEqDiff,q1F,q4n]
end Go.Vm
end

section
namespace Go.Vm
set_option maxRecDepth 20000
open Go.Proofs
theorem z7j{a:Nat}{q:Nat×Glob}(h:q.1≠a):(rowG q).map (V.drop1 (·== a))=rowG q:=by
 simp [rowG,V.drop1,h]
theorem z0Z{a:Nat}:∀(gs:List Glob)(p:Nat),p+gs.length≤a→((numG p gs).map rowG).map (List.map (V.drop1 (·== a)))=(numG p gs).map rowG
 |[],_,_=>rfl
 |g :: r,p,h=>by
  simp only[List.length_cons] at h
  simp only[numG,List.map_cons]
  rw[z7j (by simp only;omega),z0Z r (p+1) (by omega)]
theorem TB.forget{H:List (Nat×Blk)}{p a:Nat}{z:Bool}{t:Table}(h:TB H p z t)(ha:p+2+t.globals.length≤a):TB (forgetH (·== a) H) p z t:=by
 refine⟨q4B h.s,?_,fun j hj=>q4B (h.c j hj)⟩
 rw[q5l,h.g]
 unfold gB
 split
 ·rfl
 ·simp only[Option.map_some,Blk.forget,List.map_append,z0Z t.globals (p+2) ha]
  rfl
theorem ones8:[[D.int .u8 1],[D.int .u8 1],[D.int .u8 1],[D.int .u8 1],[D.int .u8 1],[D.int .u8 1],[D.int .u8 1],[D.int .u8 1]]=(List.replicate 8 (1:UInt8)).map eU:=rfl
def z96(H:List (Nat×Blk))(a n:Nat)(ok:Bool)(l:Bs):V→Prop:=fun v=>l.length=n∧if ok then ∃ z,v=.bsl a 0 n∧look H a=some (.dat z 1 (l.map eU)) else n=0∧∃ c,v=.fs c 1 []
structure Like(H HF:List (Nat×Blk))(nx ab:Nat):Prop where
 dat:∀ x k c rows,x≠ab→x<nx→look H x=some (.dat c k rows)→look HF x=some (.dat c k rows)
 box:∀ x m n,x≠ab→x<nx→3<ab→look H x=some (.mix 2 [[.bsx 2 0 m,.bsx 3 0 n]])→look HF x=some (.mix 2 [[.bsx 2 0 m,.bsx 3 0 n]])
 tb:∀(t:Table) (z:Bool),TB H 2 z t→4+t.globals.length≤ab→4+t.globals.length≤nx→TB HF 2 z t
theorem z0A(H:List (Nat×Blk))(nx ab:Nat)(B C:Blk)(h:ab<nx):Like H ((nx,B) :: forgetH (·== ab) (put H ab C)) nx ab:=by
 have key:∀ x,x≠ab→x<nx→look ((nx,B) :: forgetH (·== ab) (put H ab C)) x=(look H x).map (Blk.forget (·== ab)):=fun x h1 h2=>by
  simp only[look]
  rw[if_neg (by omega),q5l,q0e _ _ (by omega)]
 refine⟨fun x k c rows h1 h2 hx=>by rw[key x h1 h2,hx];rfl,fun x m n h1 h2 h3 hx=>?_,fun t z hT h1 h2=>?_⟩
 ·rw[key x h1 h2,hx]
  simp [Blk.forget,V.drop1,show ¬ 2=ab by omega,show ¬ 3=ab by omega]
 ·exact((hT.mono (H':=put H ab C) fun b _ hb=>q0e _ _ (by omega)).forget (a:=ab) (by omega)).mono fun b _ hb=>by
   simp only[look];rw[if_neg (by omega)]
theorem z8L(H:List (Nat×Blk))(nx ab:Nat)(B C:Blk):Like H ((nx+1,C) :: (nx,B) :: H) nx ab:=by
 have key:∀ x,x<nx→look ((nx+1,C) :: (nx,B) :: H) x=look H x:=fun x h2=>by
  simp only[look]
  rw[if_neg (by omega),if_neg (by omega)]
 exact⟨fun x k c rows h1 h2 hx=>by rw[key x h2,hx],fun x m n h1 h2 h3 hx=>by rw[key x h2,hx],fun t z hT h1 h2=>hT.mono fun b _ hb=>key b (by omega)⟩
set_option maxHeartbeats 2000000 in
theorem q7h(K:Cx)(h23:L23 K)(h24:L24 K)(h25:L25 K)(h17:L17 K)(t:Table)(ht:Sm t)(htt:TabOk (q3W t))(H:List (Nat×Blk))(nx q ab bb cb:Nat)(mv:List Nat)(hq:look H q=some (.mix 2 [[.bsx 2 0 t.shapes.length,.bsx 3 0 t.globals.length]]))
  (hT:TB H 2 false t) (hq2:t.globals.length+4≤q) (h1:q<ab) (h2:ab≠bb) (h3:ab≠cb) (hqn:q<nx) (h4:(q0a t).2=0→ab<nx∧cb<nx) (v11 v13 v15:V) (la lb:Bs) (n:Nat) (hn:n≤8388608) (okb:Bool) (h5:okb=true→bb<nx)
  (ha:z96 H ab (q0a t).1.length (decide ((q0a t).2=0)) la v11) (hb:z96 H bb n okb lb v13) (hb2:∀ j,j<n→lb[j]? = some 2) (hc:j34 H cb (q0a t) v15) :
  ∃ H' nx' mv',exec K f6_T2 ⟨[(6,.ptr q 0 0),(7,vBy (q0a t)),(11,v11),(13,v13),(15,v15)],H,nx,mv⟩=some (.ret,⟨[(4,.d false (.bool true))],H',nx',mv'⟩):=by
 obtain⟨l1,l2⟩:=q1L t
 obtain⟨hal,ha⟩:=ha
 obtain⟨hbl,hb⟩:=hb
 have on8:=ones8
 by_cases hz:(q0a t).2=0
 ·rw[decide_eq_true hz,if_pos rfl] at ha
  obtain⟨z,rfl,ha⟩:=ha
  obtain⟨h4a,h4c⟩:=h4 hz
  rcases hc with⟨_,zc,rfl,hc⟩|⟨hne,_⟩
  ·generalize hm:(q0a t).1.length=m at *
   have hu:=q5e (List.replicate 8 (1:UInt8))
   have n1:(nx==ab)=false:=q2C (by omega)
   have n2:(bb==ab)=false:=q2C (by omega)
   have n3:(cb==ab)=false:=q2C (by omega)
   have n4:(q==ab)=false:=q2C (by omega)
   have m1:(nx=ab)=False:=eq_false (by omega)
   have m2:(bb=ab)=False:=eq_false (by omega)
   have m3:(cb=ab)=False:=eq_false (by omega)
   have m4:(q=ab)=False:=eq_false (by omega)
   have ev:vBy (q0a t)=.d true (.sl 1 ((q0a t).1.map eU)):=by unfold vBy;rw[if_pos hz]
   cases okb with
   |true=>
    have h5:=h5 rfl
    rw[if_pos rfl] at hb
    obtain⟨zb,rfl,hb⟩:=hb
    have hL:=z0A H nx ab (.dat true 1 ((List.replicate 8 (1:UInt8)).map eU)) (.dat z 1 ((la++List.replicate 8 1).map eU)) (by omega)
    generalize hHF:(nx,Blk.dat true 1 ((List.replicate 8 (1:UInt8)).map eU)) :: forgetH (·== ab) (put H ab (.dat z 1 ((la++List.replicate 8 1).map eU)))=HF at hL
    obtain⟨H',nx',mv',e1⟩:=q9O K h23 h24 h25 h17 t ht htt HF (nx+1) q cb ab (ab :: mv) (hL.box _ _ _ (by omega) (by omega) (by omega) hq) (hL.tb _ _ hT (by omega) (by omega)) hq2 (.bsl cb 0 m) (.inl ⟨hz,zc,by rw[hm],hL.dat _ _ _ _ (by omega) (by omega) hc⟩)
    have e2:=j1Q K n bb (nx+1) (ab :: mv) (.ptr q 0 0) (vBy (q0a t)) (.bsl cb 0 m) (.bsl ab 0 (m+8)) zb (by omega) HF lb hbl hb2 (hL.dat _ _ _ _ (by omega) (by omega) hb) n 0 (by omega)
    rw[hm,ev] at e1
    rw[ev] at e2
    simp only[Int.natCast_zero] at e2
    refine⟨H',nx',mv',?_⟩
    clear hL h23 h24 h25 h17 ht htt hT hb2
    rw[f6_T2.eq_1]
    simp(disch:=first|decide|omega|(simp only[LN];first|done|omega)) only[SX,SW,ev,Nat.reduceBEq,Nat.reduceAdd,mkBlk,on8,List.length_replicate,hu,n1,ha,z6N,lose,V.forget,V.drop1,V.ref0,m4,m2,m3,q74,Blk.forget,hHF,q0l,q0t,Nat.reduceEqDiff,q1e,e2,e1]
   |false=>
    rw[if_neg (by decide)] at hb
    obtain⟨rfl,cb',rfl⟩:=hb
    have hL:=z0A H nx ab (.dat true 1 ((List.replicate 8 (1:UInt8)).map eU)) (.dat z 1 ((la++List.replicate 8 1).map eU)) (by omega)
    generalize hHF:(nx,Blk.dat true 1 ((List.replicate 8 (1:UInt8)).map eU)) :: forgetH (·== ab) (put H ab (.dat z 1 ((la++List.replicate 8 1).map eU)))=HF at hL
    obtain⟨H',nx',mv',e1⟩:=q9O K h23 h24 h25 h17 t ht htt HF (nx+1) q cb ab (ab :: mv) (hL.box _ _ _ (by omega) (by omega) (by omega) hq) (hL.tb _ _ hT (by omega) (by omega)) hq2 (.bsl cb 0 m) (.inl ⟨hz,zc,by rw[hm],hL.dat _ _ _ _ (by omega) (by omega) hc⟩)
    have e2:=j1N K cb' (.ptr q 0 0) (vBy (q0a t)) (.bsl cb 0 m) (.bsl ab 0 (m+8)) HF (nx+1) (ab :: mv)
    rw[hm,ev] at e1
    rw[ev] at e2
    refine⟨H',nx',mv',?_⟩
    clear hL h23 h24 h25 h17 ht htt hT hb2
    rw[f6_T2.eq_1]
    simp(disch:=first|decide|omega|(simp only[LN];first|done|omega)) only[SX,SW,ev,Nat.reduceBEq,Nat.reduceAdd,mkBlk,on8,List.length_replicate,hu,n1,ha,z6N,lose,V.forget,V.drop1,V.ref0,m4,m3,q74,Blk.forget,hHF,q0l,q0t,Nat.reduceEqDiff,q1e,e2,e1]
  ·exact absurd hz hne
 ·rw[decide_eq_false hz,if_neg (by decide)] at ha
  obtain⟨ha0,ca,rfl⟩:=ha
  rcases hc with⟨h0,_⟩|⟨_,cc,rfl⟩
  ·exact absurd h0 hz
  have ev:vBy (q0a t)=.fs true 1 []:=by unfold vBy;rw[if_neg hz]
  have hu:=q5e (List.replicate 8 (1:UInt8))
  have hr8:(List.replicate 8 (1:UInt8)).length=8:=rfl
  have hL:=z8L H nx ab (.dat true 1 ((List.replicate 8 (1:UInt8)).map eU)) (.dat true 1 ((List.replicate 8 (1:UInt8)).map eU))
  generalize hHF:(nx+1,Blk.dat true 1 ((List.replicate 8 (1:UInt8)).map eU)) :: (nx,Blk.dat true 1 ((List.replicate 8 (1:UInt8)).map eU)) :: H=HF at hL
  obtain⟨H',nx',mv',e1⟩:=q9O K h23 h24 h25 h17 t ht htt HF (nx+2) q cb (nx+1) mv (hL.box _ _ _ (by omega) (by omega) (by omega) hq) (hL.tb _ _ hT (by omega) (by omega)) hq2 (.fs cc 1 []) (.inr ⟨hz,cc,rfl⟩)
  rw[ha0,ev] at e1
  simp only[Nat.zero_add] at e1
  cases okb with
  |true=>
   have h5:=h5 rfl
   rw[if_pos rfl] at hb
   obtain⟨zb,rfl,hb⟩:=hb
   have e2:=j1Q K n bb (nx+2) mv (.ptr q 0 0) (.fs true 1 []) (.fs cc 1 []) (.bsl (nx+1) 0 8) zb (by omega) HF lb hbl hb2 (hL.dat _ _ _ _ (by omega) (by omega) hb) n 0 (by omega)
   simp only[Int.natCast_zero] at e2
   refine⟨H',nx',mv',?_⟩
   clear hL h23 h24 h25 h17 ht htt hT hb2
   rw[f6_T2.eq_1]
   simp(disch:=first|decide|omega|(simp only[LN];first|done|omega)) only[SX,SW,ev,Nat.reduceBEq,Nat.reduceAdd,mkBlk,on8,hr8,hu,hHF,lose,q0l,q0t,Nat.reduceEqDiff,q1e,e2,e1]
   trace_state
  |false=>
   rw[if_neg (by decide)] at hb
   obtain⟨rfl,cb',rfl⟩:=hb
   have e2:=j1N K cb' (.ptr q 0 0) (.fs true 1 []) (.fs cc 1 []) (.bsl (nx+1) 0 8) HF (nx+2) mv
   refine⟨H',nx',mv',?_⟩
   clear hL h23 h24 h25 h17 ht htt hT hb2
   rw[f6_T2.eq_1]
   simp(disch:=first|decide|omega|(simp only[LN];first|done|omega)) only[SX,SW,ev,Nat.reduceBEq,Nat.reduceAdd,mkBlk,on8,hr8,hu,hHF,lose,q0l,q0t,Nat.reduceEqDiff,q1e,e2,e1]
end Go.Vm
end

section
namespace Go.Vm
set_option maxRecDepth 20000
open Go.Proofs
set_option maxHeartbeats 2000000 in
theorem q7i(K:Cx)(x y:Int)(v6 v7 v11 v13 v15:V)(H:List (Nat×Blk))(nx:Nat)(mv:List Nat) :
  exec K f6_T0 ⟨[(5,.d false (.bool true)),(6,v6),(7,v7),(8,.d false (.int .i64 x)),(10,.d false (.int .i64 y)),(11,v11),(12,.d false (.int .i64 x)),(13,v13),(14,.d false (.int .i64 y)),(15,v15),(16,.d false (.int .i64 x)),(17,.d false (.bool true)),(18,.d false (.bool true)),(19,.d false (.bool true)),(20,.d false (.bool true)),(21,.d false (.bool true))],H,nx,mv⟩ =
   some (.nrm,⟨[(110,.d false (.bool false)),(6,v6),(7,v7),(11,v11),(13,v13),(15,v15)],H,nx,mv⟩):=by
 rw[f6_T0.eq_1]
 simp(disch:=first|decide|omega|(simp only[LN];first|done|omega)) only[SV,SW,evUn,Nat.reduceBEq]
 try rfl
set_option maxHeartbeats 4000000 in
theorem z2c(K:Cx)(h23:L23 K)(h24:L24 K)(h25:L25 K)(h15:L15 K)(h16:L16 K)(h17:L17 K)(t o:Table)(ht:Sm t)(hto:TabOk t)(hoo:TabOk o)(hos:o.shapes.length≤1048576)(htt:TabOk (q3W t))(hz1:(q0a t).2=0)(hz2:(q0a o).2=0)(H:List (Nat×Blk))(nx q:Nat)(hq:look H q=some (.mix 2 [[.bsx 2 0 t.shapes.length,.bsx 3 0 t.globals.length]]))
  (h0:look H 0=some (.mix 2 [tabV t])) (h1:look H 1=some (.mix 2 [tabV o])) (hT:TB H 2 true t) (hq2:t.globals.length+4≤q) (hqn:q<nx) :
  ∃ H' nx' mv',exec K f6_T3 ⟨[(2,.ptr 0 0 0),(3,.ptr 1 0 0),(5,.d false (.bool true)),(6,.ptr q 0 0)],H,nx,[]⟩=some (.ret,⟨[(4,.d false (.bool true))],H',nx',mv'⟩):=by
 have c1:=h23 t hto ht.sh
 have c2:=h23 o hoo hos
 have c3:=h24 t hto ht.sh
 have c4:=h24 o hoo hos
 have c5:=h15 t t ⟨hto.sh,hto.gl,hto.cd⟩ ⟨hto.sh,hto.gl,hto.cd⟩
 rw[decide_eq_true rfl] at c5
 obtain⟨l1,l2⟩:=q1L t
 obtain⟨l3,l4⟩:=q1L o
 have s1:=h25 (q0a t).1 l1
 have s2:=h25 (q0a o).1 l3
 have t2:=fun H nx ab bb cb v11 v13 v15 la lb n okb=>q7h K h23 h24 h25 h17 t ht htt H nx q ab bb cb [] (v11:=v11) (v13:=v13) (v15:=v15) (la:=la) (lb:=lb) (n:=n) (okb:=okb)
 have ev1:vBy (q0a t)=.d true (.sl 1 ((q0a t).1.map eU)):=by unfold vBy;rw[if_pos hz1]
 have ev2:vBy (q0a o)=.d true (.sl 1 ((q0a o).1.map eU)):=by unfold vBy;rw[if_pos hz2]
 rw[ev1] at c1 t2
 rw[ev2] at c2
 unfold rBy at c3 c4
 rw[if_pos hz1] at c3
 rw[if_pos hz2] at c4
 rw[hz1] at c1
 rw[hz2] at c2
 have hTHA:TB ((nx,Blk.dat true 1 ((q0a t).1.map eU)) :: H) 2 true t:=hT.mono fun b _ hb=>by simp only[look];rw[if_neg (by omega)]
 have hlHA:∀ x,x<nx→look ((nx,Blk.dat true 1 ((q0a t).1.map eU)) :: H) x=look H x:=fun x hx=>by simp only[look];rw[if_neg (by omega)]
 have hwHA:look ((nx,Blk.dat true 1 ((q0a t).1.map eU)) :: H) (nx)=some (.dat true 1 ((q0a t).1.map eU)):=by simp [look]
 generalize hHHA:(nx,Blk.dat true 1 ((q0a t).1.map eU)) :: H=HA at hTHA hlHA hwHA
 have hTHB:TB ((nx+1,Blk.dat true 1 ((q0a o).1.map eU)) :: HA) 2 true t:=hTHA.mono fun b _ hb=>by simp only[look];rw[if_neg (by omega)]
 have hlHB:∀ x,x<nx+1→look ((nx+1,Blk.dat true 1 ((q0a o).1.map eU)) :: HA) x=look HA x:=fun x hx=>by simp only[look];rw[if_neg (by omega)]
 have hwHB:look ((nx+1,Blk.dat true 1 ((q0a o).1.map eU)) :: HA) (nx+1)=some (.dat true 1 ((q0a o).1.map eU)):=by simp [look]
 generalize hHHB:(nx+1,Blk.dat true 1 ((q0a o).1.map eU)) :: HA=HB at hTHB hlHB hwHB
 have hTHC:TB ((nx+1+1,Blk.dat true 1 ((q0a t).1.map eU)) :: HB) 2 true t:=hTHB.mono fun b _ hb=>by simp only[look];rw[if_neg (by omega)]
 have hlHC:∀ x,x<nx+1+1→look ((nx+1+1,Blk.dat true 1 ((q0a t).1.map eU)) :: HB) x=look HB x:=fun x hx=>by simp only[look];rw[if_neg (by omega)]
 have hwHC:look ((nx+1+1,Blk.dat true 1 ((q0a t).1.map eU)) :: HB) (nx+1+1)=some (.dat true 1 ((q0a t).1.map eU)):=by simp [look]
 generalize hHHC:(nx+1+1,Blk.dat true 1 ((q0a t).1.map eU)) :: HB=HC at hTHC hlHC hwHC
 have hqHA:look HA q=some (.mix 2 [[.bsx 2 0 t.shapes.length,.bsx 3 0 t.globals.length]]):=by rw[hlHA q (by omega)];exact hq
 have h0HA:look HA 0=some (.mix 2 [tabV t]):=by rw[hlHA 0 (by omega)];exact h0
 have h1HA:look HA 1=some (.mix 2 [tabV o]):=by rw[hlHA 1 (by omega)];exact h1
 have hqHB:look HB q=some (.mix 2 [[.bsx 2 0 t.shapes.length,.bsx 3 0 t.globals.length]]):=by rw[hlHB q (by omega)];exact hqHA
 have h0HB:look HB 0=some (.mix 2 [tabV t]):=by rw[hlHB 0 (by omega)];exact h0HA
 have h1HB:look HB 1=some (.mix 2 [tabV o]):=by rw[hlHB 1 (by omega)];exact h1HA
 have hqHC:look HC q=some (.mix 2 [[.bsx 2 0 t.shapes.length,.bsx 3 0 t.globals.length]]):=by rw[hlHC q (by omega)];exact hqHB
 have h0HC:look HC 0=some (.mix 2 [tabV t]):=by rw[hlHC 0 (by omega)];exact h0HB
 have h1HC:look HC 1=some (.mix 2 [tabV o]):=by rw[hlHC 1 (by omega)];exact h1HB
 obtain⟨v1H,v2H⟩:=hT.view
 obtain⟨v1HA,v2HA⟩:=hTHA.view
 obtain⟨v1HB,v2HB⟩:=hTHB.view
 obtain⟨v1HC,v2HC⟩:=hTHC.view
 have gHA:look HC (nx)=some (.dat true 1 ((q0a t).1.map eU)):=by rw[hlHC _ (by omega)];rw[hlHB _ (by omega)];exact hwHA
 have wHA:q0c 6 HC (.bsl (nx) 0 (q0a t).1.length)=some (.sl 1 ((q0a t).1.map eU)):=by have:=q2z 5 HC (nx) 0 (q0a t).1.length true 1 (q0a t).1 eU gHA (by omega);simpa using this
 have gHB:look HC (nx+1)=some (.dat true 1 ((q0a o).1.map eU)):=by rw[hlHC _ (by omega)];exact hwHB
 have wHB:q0c 6 HC (.bsl (nx+1) 0 (q0a o).1.length)=some (.sl 1 ((q0a o).1.map eU)):=by have:=q2z 5 HC (nx+1) 0 (q0a o).1.length true 1 (q0a o).1 eU gHB (by omega);simpa using this
 have gHC:look HC (nx+1+1)=some (.dat true 1 ((q0a t).1.map eU)):=by exact hwHC
 have wHC:q0c 6 HC (.bsl (nx+1+1) 0 (q0a t).1.length)=some (.sl 1 ((q0a t).1.map eU)):=by have:=q2z 5 HC (nx+1+1) 0 (q0a t).1.length true 1 (q0a t).1 eU gHC (by omega);simpa using this
 have hr:=hTHC.reach
 have e16:=q8g (C:=K) (nx:=nx+1+1+1) hTHC (h16 t ht) (q1P _ _ _)
 have hT2:=hTHC.back (nx:=nx+1+1+1)
 obtain⟨_,hout⟩:=z1y (H:=HC) (p:=2) (nx:=nx+1+1+1) (l:=tblk false 2 t)
 rw[q1P] at hout
 generalize hH2:putAll HC (q1k (List.range' 2 (t.globals.length+2)) (nx+1+1+1)) 0 (tblk false 2 t)=H2 at hT2 e16 hout
 have hq2b:look H2 q=some (.mix 2 [[.bsx 2 0 t.shapes.length,.bsx 3 0 t.globals.length]]):=by rw[hout q (by omega)];exact hqHC
 obtain⟨H3,la,ea,a1,a2,a3⟩:=j1S K (q0a t).1.length nx (nx+1+1+1) [] (.ptr q 0 0) (.d true (.sl 1 ((q0a t).1.map eU))) (.bsl (nx+1) 0 (q0a o).1.length) (.bsl (nx+1+1) 0 (q0a t).1.length) true (by omega) (q0a t).1.length 0 H2 (q0a t).1 rfl (by omega) (by rw[hout nx (by omega)];exact gHA)
 obtain⟨H4,lb,eb,b1,b2,b3,b4⟩:=j1R K (q0a o).1.length (nx+1) (nx+1+1+1) [] (.ptr q 0 0) (.d true (.sl 1 ((q0a t).1.map eU))) (.bsl (nx) 0 (q0a t).1.length) (.bsl (nx+1+1) 0 (q0a t).1.length) true (by omega) (q0a o).1.length 0 H3 (q0a o).1 rfl (fun j hj=>absurd hj (by omega)) (by omega) (by rw[a3 _ (by omega),hout _ (by omega)];exact gHB)
 have hT4:TB H4 2 false t:=hT2.mono fun b _ hb=>by rw[b4 _ (by omega),a3 _ (by omega)]
 have hq4:look H4 q=some (.mix 2 [[.bsx 2 0 t.shapes.length,.bsx 3 0 t.globals.length]]):=by rw[b4 _ (by omega),a3 _ (by omega)];exact hq2b
 obtain⟨H',nx',mv',ef⟩:=t2 H4 (nx+1+1+1) (nx) (nx+1) (nx+1+1) (.bsl (nx) 0 (q0a t).1.length) (.bsl (nx+1) 0 (q0a o).1.length) (.bsl (nx+1+1) 0 (q0a t).1.length) la lb (q0a o).1.length true hq4 hT4 hq2 (by omega) (by omega) (by omega) (by omega) (fun _=>⟨by omega,by omega⟩) (by omega) (fun _=>by omega) (⟨a2,by rw[decide_eq_true hz1,if_pos rfl];exact⟨true,rfl,by rw[b4 _ (by omega)];exact a1⟩⟩) (⟨b2,by rw[if_pos rfl];exact⟨true,rfl,b1⟩⟩) (b3) (.inl ⟨hz1,true,rfl,by rw[b4 _ (by omega),a3 _ (by omega)];rw[hout _ (by omega)];exact gHC⟩)
 refine⟨H',nx',mv',?_⟩
 simp only[tabV] at h0 h1 h0HA h1HA h0HB h1HB h0HC h1HC c5
 try simp only[Int.natCast_zero] at ea eb
 clear t2 h23 h24 h25 h15 h16 h17 ht hto hoo htt hT hT2 hT4 hout hq4 hTHA hlHA hTHB hlHB hTHC hlHC
 rw[f6_T3.eq_1]
 simp(disch:=first|decide|omega|(simp only[LN];first|done|omega)) only[q0A,q0R,q0o,q0J,q0y,q0P,q0Z,q0H,q0z,q0k,q50,q2J,q2I,e_ld,e_sl,q0s,beq_self_eq_true,q0m,q1d,h0,q2d,q1i,List.getElem?_cons_zero,q2c,List.drop_zero,q05,List.length_cons,List.length_nil,Nat.zero_add,Nat.reduceAdd,Nat.le_refl,q1m,if_true,q38,q00,q07,q08,q06,List.any_cons,V.own,V.own1,List.any_nil,Bool.or_self,q04,List.all_cons,V.new,V.new1,D.flat,List.all_nil,Bool.and_true,Bool.and_self,V.flatV,V.flat1,Bool.not_false,Bool.false_and,q0X,view,viewDepth,q2u,q1b,q1G,Option.map_some,List.map_cons,List.map_nil,q1n,c1,q1f,Bool.or_false,Bool.or_true,Bool.not_true,Bool.false_eq_true,if_false,evExt,List.getElem?_cons_succ,q0p,q01,q0x,q0d,q0r,q2C,q0i,q0f,List.cons_append,List.nil_append,addBlks,q0I,q0F,q0E,h1,c2,q0U,q1X,hq,q3O,v1H,v2H,q3P,c3,q2k,Blk.plain,V.new2,V.newR,Blk.new,V.shift,Bool.true_and,Bool.false_or,q10,q1u,q0T,q1Y,q1Z,List.append_nil,hHHA,h1HA,c4,Bool.true_or,hHHB,hqHB,v1HB,v2HB,hHHC,wHA]
 simp(disch:=first|decide|omega|(simp only[LN];first|done|omega)) only[s1,q2T,q00,q01,q0x,q0d,q0s,q2C,q0i,beq_self_eq_true,q0m,q0r,q0f,List.cons_append,List.nil_append,addBlks,q0P,q0I,q0F,q0E,q0A,q0R,q0o,q0J,q0y,q0Z,q0H,q0z,q0k,q2J,q2I,e_sl,q38,q07,q08,q06,List.any_cons,V.own,V.own1,List.any_nil,Bool.or_self,Bool.or_false,q04,List.all_cons,V.new,V.new1,D.flat,List.all_nil,Bool.and_self,Bool.and_true,V.flatV,V.flat1,Bool.not_false,Bool.false_and,q0X,view,viewDepth,wHB,Option.map_some,q2u,q1b,q1G,q1n,s2,q0p,wHC,e_ld,q1d,hqHC,q2d,q1i,List.getElem?_cons_zero,q2c,List.drop_zero,q05,List.length_cons,List.length_nil,Nat.zero_add,Nat.reduceAdd,Nat.le_refl,q1m,if_true,h0HC,v1HC,v2HC,List.map_cons,List.map_nil,c5,q1s,q1y,q1U,refsL,V.refs,List.append_nil]
 simp(disch:=first|decide|omega|(simp only[LN];first|done|omega)) only[hr,e16,V.ren,q1V,lose,loseH,Lost.ids,List.append_nil,q0P,q2j,q0J,q0y,q0Z,q0H,q0z,q0k,e_sl,q0s,beq_self_eq_true,q0m,q0p,q00,q01,q0x,q0d,q2C,q0i,q0r,q0f,List.cons_append,List.nil_append,addBlks,q0I,q0F,q0E]
 rw[q0A,q0A,q0l,q0E]
 have ek:∀ ρ H nx mv,skipM ⟨ρ,H,nx,mv⟩ [5,6,7,8,10,11,12,13,14,15,16,17,18,19,20,21]=⟨q0j ρ [5,6,7,8,10,11,12,13,14,15,16,17,18,19,20,21],H,nx,mv⟩:=fun _ _ _ _=>by rw[q0t,show q6m [5,6,7,8,10,11,12,13,14,15,16,17,18,19,20,21]=[] from rfl,List.append_nil]
 rw[ek]
 simp only[q0d,q0f,q0r,q3Z,q0s,q0m,q0i,beq_self_eq_true,Nat.reduceBEq]
 rw[q7i,q0E]
 simp(disch:=first|decide|omega|(simp only[LN];first|done|omega)) only[q0A,q0R,q0o,q0J,q0y,q0P,q0Z,q0H,q0z,q0k,q4Q,q0p,q00,q01,q0x,q0d,q0s,q2C,q0i,beq_self_eq_true,q0m,q0r,q0f,List.cons_append,List.nil_append,addBlks,q0I,q0F,q0E,q1q,q0l,q0t,q1p,Nat.reduceEqDiff,q1F,if_false,List.append_nil,q1e,ea,q3M,if_true,eb,ef]
set_option maxHeartbeats 4000000 in
theorem z2d(K:Cx)(h23:L23 K)(h24:L24 K)(h25:L25 K)(h15:L15 K)(h16:L16 K)(h17:L17 K)(t o:Table)(ht:Sm t)(hto:TabOk t)(hoo:TabOk o)(hos:o.shapes.length≤1048576)(htt:TabOk (q3W t))(hz1:(q0a t).2=0)(hz2:(q0a o).2≠0)(H:List (Nat×Blk))(nx q:Nat)(hq:look H q=some (.mix 2 [[.bsx 2 0 t.shapes.length,.bsx 3 0 t.globals.length]]))
  (h0:look H 0=some (.mix 2 [tabV t])) (h1:look H 1=some (.mix 2 [tabV o])) (hT:TB H 2 true t) (hq2:t.globals.length+4≤q) (hqn:q<nx) :
  ∃ H' nx' mv',exec K f6_T3 ⟨[(2,.ptr 0 0 0),(3,.ptr 1 0 0),(5,.d false (.bool true)),(6,.ptr q 0 0)],H,nx,[]⟩=some (.ret,⟨[(4,.d false (.bool true))],H',nx',mv'⟩):=by
 have c1:=h23 t hto ht.sh
 have c2:=h23 o hoo hos
 have c3:=h24 t hto ht.sh
 have c4:=h24 o hoo hos
 have c5:=h15 t t ⟨hto.sh,hto.gl,hto.cd⟩ ⟨hto.sh,hto.gl,hto.cd⟩
 rw[decide_eq_true rfl] at c5
 obtain⟨l1,l2⟩:=q1L t
 obtain⟨l3,l4⟩:=q1L o
 have s1:=h25 (q0a t).1 l1
 have s2:=h25 (q0a o).1 l3
 have t2:=fun H nx ab bb cb v11 v13 v15 la lb n okb=>q7h K h23 h24 h25 h17 t ht htt H nx q ab bb cb [] (v11:=v11) (v13:=v13) (v15:=v15) (la:=la) (lb:=lb) (n:=n) (okb:=okb)
 have ev1:vBy (q0a t)=.d true (.sl 1 ((q0a t).1.map eU)):=by unfold vBy;rw[if_pos hz1]
 have ev2:vBy (q0a o)=.fs true 1 []:=by unfold vBy;rw[if_neg hz2]
 rw[ev1] at c1 t2
 rw[ev2] at c2
 unfold rBy at c3 c4
 rw[if_pos hz1] at c3
 rw[if_neg hz2] at c4
 rw[hz1] at c1
 have e2:=l4 hz2
 rw[e2] at s2
 simp only[List.map_nil] at s2
 have hTHA:TB ((nx,Blk.dat true 1 ((q0a t).1.map eU)) :: H) 2 true t:=hT.mono fun b _ hb=>by simp only[look];rw[if_neg (by omega)]
 have hlHA:∀ x,x<nx→look ((nx,Blk.dat true 1 ((q0a t).1.map eU)) :: H) x=look H x:=fun x hx=>by simp only[look];rw[if_neg (by omega)]
 have hwHA:look ((nx,Blk.dat true 1 ((q0a t).1.map eU)) :: H) (nx)=some (.dat true 1 ((q0a t).1.map eU)):=by simp [look]
 generalize hHHA:(nx,Blk.dat true 1 ((q0a t).1.map eU)) :: H=HA at hTHA hlHA hwHA
 have hTHC:TB ((nx+1,Blk.dat true 1 ((q0a t).1.map eU)) :: HA) 2 true t:=hTHA.mono fun b _ hb=>by simp only[look];rw[if_neg (by omega)]
 have hlHC:∀ x,x<nx+1→look ((nx+1,Blk.dat true 1 ((q0a t).1.map eU)) :: HA) x=look HA x:=fun x hx=>by simp only[look];rw[if_neg (by omega)]
 have hwHC:look ((nx+1,Blk.dat true 1 ((q0a t).1.map eU)) :: HA) (nx+1)=some (.dat true 1 ((q0a t).1.map eU)):=by simp [look]
 generalize hHHC:(nx+1,Blk.dat true 1 ((q0a t).1.map eU)) :: HA=HC at hTHC hlHC hwHC
 have hqHA:look HA q=some (.mix 2 [[.bsx 2 0 t.shapes.length,.bsx 3 0 t.globals.length]]):=by rw[hlHA q (by omega)];exact hq
 have h0HA:look HA 0=some (.mix 2 [tabV t]):=by rw[hlHA 0 (by omega)];exact h0
 have h1HA:look HA 1=some (.mix 2 [tabV o]):=by rw[hlHA 1 (by omega)];exact h1
 have hqHC:look HC q=some (.mix 2 [[.bsx 2 0 t.shapes.length,.bsx 3 0 t.globals.length]]):=by rw[hlHC q (by omega)];exact hqHA
 have h0HC:look HC 0=some (.mix 2 [tabV t]):=by rw[hlHC 0 (by omega)];exact h0HA
 have h1HC:look HC 1=some (.mix 2 [tabV o]):=by rw[hlHC 1 (by omega)];exact h1HA
 obtain⟨v1H,v2H⟩:=hT.view
 obtain⟨v1HA,v2HA⟩:=hTHA.view
 obtain⟨v1HC,v2HC⟩:=hTHC.view
 have gHA:look HC (nx)=some (.dat true 1 ((q0a t).1.map eU)):=by rw[hlHC _ (by omega)];exact hwHA
 have wHA:q0c 6 HC (.bsl (nx) 0 (q0a t).1.length)=some (.sl 1 ((q0a t).1.map eU)):=by have:=q2z 5 HC (nx) 0 (q0a t).1.length true 1 (q0a t).1 eU gHA (by omega);simpa using this
 have gHC:look HC (nx+1)=some (.dat true 1 ((q0a t).1.map eU)):=by exact hwHC
 have wHC:q0c 6 HC (.bsl (nx+1) 0 (q0a t).1.length)=some (.sl 1 ((q0a t).1.map eU)):=by have:=q2z 5 HC (nx+1) 0 (q0a t).1.length true 1 (q0a t).1 eU gHC (by omega);simpa using this
 have hr:=hTHC.reach
 have e16:=q8g (C:=K) (nx:=nx+1+1) hTHC (h16 t ht) (q1P _ _ _)
 have hT2:=hTHC.back (nx:=nx+1+1)
 obtain⟨_,hout⟩:=z1y (H:=HC) (p:=2) (nx:=nx+1+1) (l:=tblk false 2 t)
 rw[q1P] at hout
 generalize hH2:putAll HC (q1k (List.range' 2 (t.globals.length+2)) (nx+1+1)) 0 (tblk false 2 t)=H2 at hT2 e16 hout
 have hq2b:look H2 q=some (.mix 2 [[.bsx 2 0 t.shapes.length,.bsx 3 0 t.globals.length]]):=by rw[hout q (by omega)];exact hqHC
 obtain⟨H3,la,ea,a1,a2,a3⟩:=j1S K (q0a t).1.length nx (nx+1+1) [] (.ptr q 0 0) (.d true (.sl 1 ((q0a t).1.map eU))) (.fs true 1 []) (.bsl (nx+1) 0 (q0a t).1.length) true (by omega) (q0a t).1.length 0 H2 (q0a t).1 rfl (by omega) (by rw[hout nx (by omega)];exact gHA)
 have eb:=j1O K true (.ptr q 0 0) (.d true (.sl 1 ((q0a t).1.map eU))) (.bsl (nx) 0 (q0a t).1.length) (.bsl (nx+1) 0 (q0a t).1.length) H3 (nx+1+1) []
 have hT4:TB H3 2 false t:=hT2.mono fun b _ hb=>by rw[a3 _ (by omega)]
 have hq4:look H3 q=some (.mix 2 [[.bsx 2 0 t.shapes.length,.bsx 3 0 t.globals.length]]):=by rw[a3 _ (by omega)];exact hq2b
 obtain⟨H',nx',mv',ef⟩:=t2 H3 (nx+1+1) (nx) (nx+101) (nx+1) (.bsl (nx) 0 (q0a t).1.length) (.fs true 1 []) (.bsl (nx+1) 0 (q0a t).1.length) la [] 0 false hq4 hT4 hq2 (by omega) (by omega) (by omega) (by omega) (fun _=>⟨by omega,by omega⟩) (by omega) (fun h=>nomatch h) (⟨a2,by rw[decide_eq_true hz1,if_pos rfl];exact⟨true,rfl,a1⟩⟩) (⟨rfl,by rw[if_neg (by decide)];exact⟨rfl,true,rfl⟩⟩) (fun j hj=>absurd hj (by omega)) (.inl ⟨hz1,true,rfl,by rw[a3 _ (by omega)];rw[hout _ (by omega)];exact gHC⟩)
 refine⟨H',nx',mv',?_⟩
 simp only[tabV] at h0 h1 h0HA h1HA h0HC h1HC c5
 try simp only[Int.natCast_zero] at ea eb
 clear t2 h23 h24 h25 h15 h16 h17 ht hto hoo htt hT hT2 hT4 hout hq4 hTHA hlHA hTHC hlHC
 rw[f6_T3.eq_1]
 simp(disch:=first|decide|omega|(simp only[LN];first|done|omega)) only[q0A,q0R,q0o,q0J,q0y,q0P,q0Z,q0H,q0z,q0k,q50,q2J,q2I,e_ld,e_sl,q0s,beq_self_eq_true,q0m,q1d,h0,q2d,q1i,List.getElem?_cons_zero,q2c,List.drop_zero,q05,List.length_cons,List.length_nil,Nat.zero_add,Nat.reduceAdd,Nat.le_refl,q1m,if_true,q38,q00,q07,q08,q06,List.any_cons,V.own,V.own1,List.any_nil,Bool.or_self,q04,List.all_cons,V.new,V.new1,D.flat,List.all_nil,Bool.and_true,Bool.and_self,V.flatV,V.flat1,Bool.not_false,Bool.false_and,q0X,view,viewDepth,q2u,q1b,q1G,Option.map_some,List.map_cons,List.map_nil,q1n,c1,q1f,Bool.or_false,Bool.or_true,Bool.not_true,Bool.false_eq_true,if_false,evExt,List.getElem?_cons_succ,q0p,q01,q0x,q0d,q0r,q2C,q0i,q0f,List.cons_append,List.nil_append,addBlks,q0I,q0F,q0E,h1,c2,q0U,q1X,hq,q3O,v1H,v2H,q3P,c3,q2k,Blk.plain,V.new2,V.newR,Blk.new,V.shift,Bool.true_and,Bool.false_or,q10,q1u,q0T,q1Y,q1Z,List.append_nil,hHHA,h1HA,c4,Nat.add_zero,hqHA,v1HA,v2HA,hHHC,wHA]
 simp(disch:=first|decide|omega|(simp only[LN];first|done|omega)) only[s1,q2T,q00,q01,q0x,q0d,q0s,q2C,q0i,beq_self_eq_true,q0m,q0r,q0f,List.cons_append,List.nil_append,addBlks,q0P,q0I,q0F,q0E,q0A,q0R,q0o,q0J,q0y,q0Z,q0H,q0z,q0k,q2J,q2I,e_sl,q38,q07,q08,q06,List.any_cons,V.own,V.own1,List.any_nil,Bool.or_self,q04,List.all_cons,V.new,V.new1,List.all_nil,Bool.and_self,V.flatV,V.flat1,Bool.and_true,Bool.not_false,Bool.true_and,q0X,view,viewDepth,q4w,Option.map_some,q1b,q1G,q1n,s2,q0p,Bool.or_false,D.flat,Bool.false_and,wHC,q2u,e_ld,q1d,hqHC,q2d,q1i,List.getElem?_cons_zero,q2c,List.drop_zero,q05,List.length_cons,List.length_nil,Nat.zero_add,Nat.reduceAdd,Nat.le_refl,q1m,if_true,h0HC,v1HC,v2HC,List.map_cons,List.map_nil,c5,q1s,q1y,q1U,refsL,V.refs,List.append_nil]
 simp(disch:=first|decide|omega|(simp only[LN];first|done|omega)) only[hr,e16,V.ren,q1V,lose,loseH,Lost.ids,List.append_nil,q0P,q2j,q0J,q0y,q0Z,q0H,q0z,q0k,e_sl,q0s,beq_self_eq_true,q0m,q0p,q00,q01,q0x,q0d,q2C,q0i,q0r,q0f,List.cons_append,List.nil_append,addBlks,q0I,q0F,q0E]
 rw[q0A,q0A,q0l,q0E]
 have ek:∀ ρ H nx mv,skipM ⟨ρ,H,nx,mv⟩ [5,6,7,8,10,11,12,13,14,15,16,17,18,19,20,21]=⟨q0j ρ [5,6,7,8,10,11,12,13,14,15,16,17,18,19,20,21],H,nx,mv⟩:=fun _ _ _ _=>by rw[q0t,show q6m [5,6,7,8,10,11,12,13,14,15,16,17,18,19,20,21]=[] from rfl,List.append_nil]
 rw[ek]
 simp only[q0d,q0f,q0r,q3Z,q0s,q0m,q0i,beq_self_eq_true,Nat.reduceBEq]
 rw[q7i,q0E]
 simp(disch:=first|decide|omega|(simp only[LN];first|done|omega)) only[q0A,q0R,q0o,q0J,q0y,q0P,q0Z,q0H,q0z,q0k,q4Q,q0p,q00,q01,q0x,q0d,q0s,q2C,q0i,beq_self_eq_true,q0m,q0r,q0f,List.cons_append,List.nil_append,addBlks,q0I,q0F,q0E,q1q,q0l,q0t,q1p,Nat.reduceEqDiff,q1F,if_false,List.append_nil,q1e,ea,q3M,if_true,eb,ef]
set_option maxHeartbeats 4000000 in
theorem z2e(K:Cx)(h23:L23 K)(h24:L24 K)(h25:L25 K)(h15:L15 K)(h16:L16 K)(h17:L17 K)(t o:Table)(ht:Sm t)(hto:TabOk t)(hoo:TabOk o)(hos:o.shapes.length≤1048576)(htt:TabOk (q3W t))(hz1:(q0a t).2≠0)(hz2:(q0a o).2=0)(H:List (Nat×Blk))(nx q:Nat)(hq:look H q=some (.mix 2 [[.bsx 2 0 t.shapes.length,.bsx 3 0 t.globals.length]]))
  (h0:look H 0=some (.mix 2 [tabV t])) (h1:look H 1=some (.mix 2 [tabV o])) (hT:TB H 2 true t) (hq2:t.globals.length+4≤q) (hqn:q<nx) :
  ∃ H' nx' mv',exec K f6_T3 ⟨[(2,.ptr 0 0 0),(3,.ptr 1 0 0),(5,.d false (.bool true)),(6,.ptr q 0 0)],H,nx,[]⟩=some (.ret,⟨[(4,.d false (.bool true))],H',nx',mv'⟩):=by
 have c1:=h23 t hto ht.sh
 have c2:=h23 o hoo hos
 have c3:=h24 t hto ht.sh
 have c4:=h24 o hoo hos
 have c5:=h15 t t ⟨hto.sh,hto.gl,hto.cd⟩ ⟨hto.sh,hto.gl,hto.cd⟩
 rw[decide_eq_true rfl] at c5
 obtain⟨l1,l2⟩:=q1L t
 obtain⟨l3,l4⟩:=q1L o
 have s1:=h25 (q0a t).1 l1
 have s2:=h25 (q0a o).1 l3
 have t2:=fun H nx ab bb cb v11 v13 v15 la lb n okb=>q7h K h23 h24 h25 h17 t ht htt H nx q ab bb cb [] (v11:=v11) (v13:=v13) (v15:=v15) (la:=la) (lb:=lb) (n:=n) (okb:=okb)
 have ev1:vBy (q0a t)=.fs true 1 []:=by unfold vBy;rw[if_neg hz1]
 have ev2:vBy (q0a o)=.d true (.sl 1 ((q0a o).1.map eU)):=by unfold vBy;rw[if_pos hz2]
 rw[ev1] at c1 t2
 rw[ev2] at c2
 unfold rBy at c3 c4
 rw[if_neg hz1] at c3
 rw[if_pos hz2] at c4
 have e1:=l2 hz1
 rw[e1] at s1
 simp only[List.map_nil] at s1
 rw[hz2] at c2
 have hTHB:TB ((nx,Blk.dat true 1 ((q0a o).1.map eU)) :: H) 2 true t:=hT.mono fun b _ hb=>by simp only[look];rw[if_neg (by omega)]
 have hlHB:∀ x,x<nx→look ((nx,Blk.dat true 1 ((q0a o).1.map eU)) :: H) x=look H x:=fun x hx=>by simp only[look];rw[if_neg (by omega)]
 have hwHB:look ((nx,Blk.dat true 1 ((q0a o).1.map eU)) :: H) (nx)=some (.dat true 1 ((q0a o).1.map eU)):=by simp [look]
 generalize hHHB:(nx,Blk.dat true 1 ((q0a o).1.map eU)) :: H=HB at hTHB hlHB hwHB
 have hqHB:look HB q=some (.mix 2 [[.bsx 2 0 t.shapes.length,.bsx 3 0 t.globals.length]]):=by rw[hlHB q (by omega)];exact hq
 have h0HB:look HB 0=some (.mix 2 [tabV t]):=by rw[hlHB 0 (by omega)];exact h0
 have h1HB:look HB 1=some (.mix 2 [tabV o]):=by rw[hlHB 1 (by omega)];exact h1
 obtain⟨v1H,v2H⟩:=hT.view
 obtain⟨v1HB,v2HB⟩:=hTHB.view
 have gHB:look HB (nx)=some (.dat true 1 ((q0a o).1.map eU)):=by exact hwHB
 have wHB:q0c 6 HB (.bsl (nx) 0 (q0a o).1.length)=some (.sl 1 ((q0a o).1.map eU)):=by have:=q2z 5 HB (nx) 0 (q0a o).1.length true 1 (q0a o).1 eU gHB (by omega);simpa using this
 have hr:=hTHB.reach
 have e16:=q8g (C:=K) (nx:=nx+1) hTHB (h16 t ht) (q1P _ _ _)
 have hT2:=hTHB.back (nx:=nx+1)
 obtain⟨_,hout⟩:=z1y (H:=HB) (p:=2) (nx:=nx+1) (l:=tblk false 2 t)
 rw[q1P] at hout
 generalize hH2:putAll HB (q1k (List.range' 2 (t.globals.length+2)) (nx+1)) 0 (tblk false 2 t)=H2 at hT2 e16 hout
 have hq2b:look H2 q=some (.mix 2 [[.bsx 2 0 t.shapes.length,.bsx 3 0 t.globals.length]]):=by rw[hout q (by omega)];exact hqHB
 have ea:=j1P K true (.ptr q 0 0) (.fs true 1 []) (.bsl (nx) 0 (q0a o).1.length) (.fs true 1 []) H2 (nx+1) []
 obtain⟨H4,lb,eb,b1,b2,b3,b4⟩:=j1R K (q0a o).1.length (nx) (nx+1) [] (.ptr q 0 0) (.fs true 1 []) (.fs true 1 []) (.fs true 1 []) true (by omega) (q0a o).1.length 0 H2 (q0a o).1 rfl (fun j hj=>absurd hj (by omega)) (by omega) (by rw[hout _ (by omega)];exact gHB)
 have hT4:TB H4 2 false t:=hT2.mono fun b _ hb=>by rw[b4 _ (by omega)]
 have hq4:look H4 q=some (.mix 2 [[.bsx 2 0 t.shapes.length,.bsx 3 0 t.globals.length]]):=by rw[b4 _ (by omega)];exact hq2b
 obtain⟨H',nx',mv',ef⟩:=t2 H4 (nx+1) (nx+100) (nx) (nx+102) (.fs true 1 []) (.bsl (nx) 0 (q0a o).1.length) (.fs true 1 []) [] lb (q0a o).1.length true hq4 hT4 hq2 (by omega) (by omega) (by omega) (by omega) (fun _=>absurd ‹_› hz1) (by omega) (fun _=>by omega) (⟨by rw[e1],by rw[decide_eq_false hz1,if_neg (by decide)];exact⟨by rw[e1];rfl,true,rfl⟩⟩) (⟨b2,by rw[if_pos rfl];exact⟨true,rfl,b1⟩⟩) (b3) (.inr ⟨hz1,true,rfl⟩)
 refine⟨H',nx',mv',?_⟩
 simp only[tabV] at h0 h1 h0HB h1HB c5
 try simp only[Int.natCast_zero] at ea eb
 clear t2 h23 h24 h25 h15 h16 h17 ht hto hoo htt hT hT2 hT4 hout hq4 hTHB hlHB
 rw[f6_T3.eq_1]
 simp(disch:=first|decide|omega|(simp only[LN];first|done|omega)) only[q0A,q0R,q0o,q0J,q0y,q0P,q0Z,q0H,q0z,q0k,q50,q2J,q2I,e_ld,e_sl,q0s,beq_self_eq_true,q0m,q1d,h0,q2d,q1i,List.getElem?_cons_zero,q2c,List.drop_zero,q05,List.length_cons,List.length_nil,Nat.zero_add,Nat.reduceAdd,Nat.le_refl,q1m,if_true,q38,q00,q07,q08,q06,List.any_cons,V.own,V.own1,List.any_nil,Bool.or_self,q04,List.all_cons,V.new,V.new1,D.flat,List.all_nil,Bool.and_true,Bool.and_self,V.flatV,V.flat1,Bool.not_false,Bool.false_and,q0X,view,viewDepth,q2u,q1b,q1G,Option.map_some,List.map_cons,List.map_nil,q1n,c1,q1f,Bool.or_true,Bool.not_true,Bool.false_eq_true,if_false,evExt,List.getElem?_cons_succ,q0p,q01,q0x,q0d,q0r,q2C,q0i,q0f,List.cons_append,List.nil_append,addBlks,q0I,q0F,q0E,h1,c2,Bool.or_false,q0U,q1X,hq,q3O,v1H,v2H,q3P,c3,q2k,V.new2,V.newR,V.shift,q10,q1u,q0T,q1Y,Nat.add_zero,q1Z,List.append_nil,c4,Blk.plain,Blk.new,Bool.true_and,Bool.true_or,hHHB,hqHB,v1HB,v2HB,q4w]
 simp(disch:=first|decide|omega|(simp only[LN];first|done|omega)) only[s1,q2T,q00,q01,q0x,q0d,q0s,q2C,q0i,beq_self_eq_true,q0m,q0r,q0f,List.cons_append,List.nil_append,addBlks,q0P,q0I,q0F,q0E,q0A,q0R,q0o,q0J,q0y,q0Z,q0H,q0z,q0k,q2J,q2I,e_sl,q38,q07,q08,q06,List.any_cons,V.own,V.own1,List.any_nil,Bool.or_self,Bool.or_false,q04,List.all_cons,V.new,V.new1,D.flat,List.all_nil,Bool.and_self,Bool.and_true,V.flatV,V.flat1,Bool.not_false,Bool.false_and,q0X,view,viewDepth,wHB,Option.map_some,q2u,q1b,q1G,q1n,s2,q0p,Bool.true_and,q4w,e_ld,q1d,hqHB,q2d,q1i,List.getElem?_cons_zero,q2c,List.drop_zero,q05,List.length_cons,List.length_nil,Nat.zero_add,Nat.reduceAdd,Nat.le_refl,q1m,if_true,h0HB,v1HB,v2HB,List.map_cons,List.map_nil,c5,q1s,q1y,q1U,refsL,V.refs,List.append_nil]
 simp(disch:=first|decide|omega|(simp only[LN];first|done|omega)) only[hr,e16,V.ren,q1V,lose,loseH,Lost.ids,List.append_nil,q0P,q2j,q0J,q0y,q0Z,q0H,q0z,q0k,e_sl,q0s,beq_self_eq_true,q0m,q0p,q00,q01,q0x,q0d,q2C,q0i,q0r,q0f,List.cons_append,List.nil_append,addBlks,q0I,q0F,q0E]
 rw[q0A,q0A,q0l,q0E]
 have ek:∀ ρ H nx mv,skipM ⟨ρ,H,nx,mv⟩ [5,6,7,8,10,11,12,13,14,15,16,17,18,19,20,21]=⟨q0j ρ [5,6,7,8,10,11,12,13,14,15,16,17,18,19,20,21],H,nx,mv⟩:=fun _ _ _ _=>by rw[q0t,show q6m [5,6,7,8,10,11,12,13,14,15,16,17,18,19,20,21]=[] from rfl,List.append_nil]
 rw[ek]
 simp only[q0d,q0f,q0r,q3Z,q0s,q0m,q0i,beq_self_eq_true,Nat.reduceBEq]
 rw[q7i,q0E]
 simp(disch:=first|decide|omega|(simp only[LN];first|done|omega)) only[q0A,q0R,q0o,q0J,q0y,q0P,q0Z,q0H,q0z,q0k,q4Q,q0p,q00,q01,q0x,q0d,q0s,q2C,q0i,beq_self_eq_true,q0m,q0r,q0f,List.cons_append,List.nil_append,addBlks,q0I,q0F,q0E,q1q,q0l,q0t,q1p,Nat.reduceEqDiff,q1F,if_false,List.append_nil,q1e,ea,q3M,if_true,eb,ef]
set_option maxHeartbeats 4000000 in
theorem z2f(K:Cx)(h23:L23 K)(h24:L24 K)(h25:L25 K)(h15:L15 K)(h16:L16 K)(h17:L17 K)(t o:Table)(ht:Sm t)(hto:TabOk t)(hoo:TabOk o)(hos:o.shapes.length≤1048576)(htt:TabOk (q3W t))(hz1:(q0a t).2≠0)(hz2:(q0a o).2≠0)(H:List (Nat×Blk))(nx q:Nat)(hq:look H q=some (.mix 2 [[.bsx 2 0 t.shapes.length,.bsx 3 0 t.globals.length]]))
  (h0:look H 0=some (.mix 2 [tabV t])) (h1:look H 1=some (.mix 2 [tabV o])) (hT:TB H 2 true t) (hq2:t.globals.length+4≤q) (hqn:q<nx) :
  ∃ H' nx' mv',exec K f6_T3 ⟨[(2,.ptr 0 0 0),(3,.ptr 1 0 0),(5,.d false (.bool true)),(6,.ptr q 0 0)],H,nx,[]⟩=some (.ret,⟨[(4,.d false (.bool true))],H',nx',mv'⟩):=by
 have c1:=h23 t hto ht.sh
 have c2:=h23 o hoo hos
 have c3:=h24 t hto ht.sh
 have c4:=h24 o hoo hos
 have c5:=h15 t t ⟨hto.sh,hto.gl,hto.cd⟩ ⟨hto.sh,hto.gl,hto.cd⟩
 rw[decide_eq_true rfl] at c5
 obtain⟨l1,l2⟩:=q1L t
 obtain⟨l3,l4⟩:=q1L o
 have s1:=h25 (q0a t).1 l1
 have s2:=h25 (q0a o).1 l3
 have t2:=fun H nx ab bb cb v11 v13 v15 la lb n okb=>q7h K h23 h24 h25 h17 t ht htt H nx q ab bb cb [] (v11:=v11) (v13:=v13) (v15:=v15) (la:=la) (lb:=lb) (n:=n) (okb:=okb)
 have ev1:vBy (q0a t)=.fs true 1 []:=by unfold vBy;rw[if_neg hz1]
 have ev2:vBy (q0a o)=.fs true 1 []:=by unfold vBy;rw[if_neg hz2]
 rw[ev1] at c1 t2
 rw[ev2] at c2
 unfold rBy at c3 c4
 rw[if_neg hz1] at c3
 rw[if_neg hz2] at c4
 have e1:=l2 hz1
 rw[e1] at s1
 simp only[List.map_nil] at s1
 have e2:=l4 hz2
 rw[e2] at s2
 simp only[List.map_nil] at s2
 obtain⟨v1H,v2H⟩:=hT.view
 have hr:=hT.reach
 have e16:=q8g (C:=K) (nx:=nx) hT (h16 t ht) (q1P _ _ _)
 have hT2:=hT.back (nx:=nx)
 obtain⟨_,hout⟩:=z1y (H:=H) (p:=2) (nx:=nx) (l:=tblk false 2 t)
 rw[q1P] at hout
 generalize hH2:putAll H (q1k (List.range' 2 (t.globals.length+2)) (nx)) 0 (tblk false 2 t)=H2 at hT2 e16 hout
 have hq2b:look H2 q=some (.mix 2 [[.bsx 2 0 t.shapes.length,.bsx 3 0 t.globals.length]]):=by rw[hout q (by omega)];exact hq
 have ea:=j1P K true (.ptr q 0 0) (.fs true 1 []) (.fs true 1 []) (.fs true 1 []) H2 (nx) []
 have eb:=j1O K true (.ptr q 0 0) (.fs true 1 []) (.fs true 1 []) (.fs true 1 []) H2 (nx) []
 have hT4:TB H2 2 false t:=hT2.mono fun b _ hb=>by rfl
 have hq4:look H2 q=some (.mix 2 [[.bsx 2 0 t.shapes.length,.bsx 3 0 t.globals.length]]):=by exact hq2b
 obtain⟨H',nx',mv',ef⟩:=t2 H2 (nx) (nx+100) (nx+101) (nx+102) (.fs true 1 []) (.fs true 1 []) (.fs true 1 []) [] [] 0 false hq4 hT4 hq2 (by omega) (by omega) (by omega) (by omega) (fun _=>absurd ‹_› hz1) (by omega) (fun h=>nomatch h) (⟨by rw[e1],by rw[decide_eq_false hz1,if_neg (by decide)];exact⟨by rw[e1];rfl,true,rfl⟩⟩) (⟨rfl,by rw[if_neg (by decide)];exact⟨rfl,true,rfl⟩⟩) (fun j hj=>absurd hj (by omega)) (.inr ⟨hz1,true,rfl⟩)
 refine⟨H',nx',mv',?_⟩
 simp only[tabV] at h0 h1 c5
 try simp only[Int.natCast_zero] at ea eb
 clear t2 h23 h24 h25 h15 h16 h17 ht hto hoo htt hT hT2 hT4 hout hq4
 rw[f6_T3.eq_1]
 simp(disch:=first|decide|omega|(simp only[LN];first|done|omega)) only[q0A,q0R,q0o,q0J,q0y,q0P,q0Z,q0H,q0z,q0k,q50,q2J,q2I,e_ld,e_sl,q0s,beq_self_eq_true,q0m,q1d,h0,q2d,q1i,List.getElem?_cons_zero,q2c,List.drop_zero,q05,List.length_cons,List.length_nil,Nat.zero_add,Nat.reduceAdd,Nat.le_refl,q1m,if_true,q38,q00,q07,q08,q06,List.any_cons,V.own,V.own1,List.any_nil,Bool.or_self,q04,List.all_cons,V.new,V.new1,D.flat,List.all_nil,Bool.and_true,Bool.and_self,V.flatV,V.flat1,Bool.not_false,Bool.false_and,q0X,view,viewDepth,q2u,q1b,q1G,Option.map_some,List.map_cons,List.map_nil,q1n,c1,q1f,Bool.or_true,Bool.not_true,Bool.false_eq_true,if_false,evExt,List.getElem?_cons_succ,q0p,q01,q0x,q0d,q0r,q2C,q0i,q0f,List.cons_append,List.nil_append,addBlks,q0I,q0F,q0E,h1,c2,q0U,q1X,hq,q3O,Bool.or_false,v1H,v2H,q3P,c3,q2k,V.new2,V.newR,V.shift,q10,q1u,q0T,q1Y,Nat.add_zero,q1Z,List.append_nil,c4,Bool.true_and,q4w]
 simp(disch:=first|decide|omega|(simp only[LN];first|done|omega)) only[s1,q2T,q00,q01,q0x,q0d,q0s,q2C,q0i,beq_self_eq_true,q0m,q0r,q0f,List.cons_append,List.nil_append,addBlks,q0P,q0I,q0F,q0E,q0A,q0R,q0o,q0J,q0y,q0Z,q0H,q0z,q0k,q2J,q2I,e_sl,q38,q07,q08,q06,List.any_cons,V.own,V.own1,List.any_nil,Bool.or_self,q04,List.all_cons,V.new,V.new1,List.all_nil,Bool.and_self,V.flatV,V.flat1,Bool.and_true,Bool.not_false,Bool.true_and,q0X,view,viewDepth,q4w,Option.map_some,q1b,q1G,q1n,q0p,e_ld,q1d,hq,q2d,q1i,List.getElem?_cons_zero,q2c,List.drop_zero,q05,List.length_cons,List.length_nil,Nat.zero_add,Nat.reduceAdd,Nat.le_refl,q1m,if_true,h0,Bool.or_false,D.flat,Bool.false_and,v1H,v2H,List.map_cons,List.map_nil,q2u,c5,q1s,q1y,q1U,refsL,V.refs,List.append_nil]
 simp(disch:=first|decide|omega|(simp only[LN];first|done|omega)) only[hr,e16,V.ren,q1V,lose,loseH,Lost.ids,List.append_nil,q0P,q2j,q0J,q0y,q0Z,q0H,q0z,q0k,e_sl,q0s,beq_self_eq_true,q0m,q0p,q00,q01,q0x,q0d,q2C,q0i,q0r,q0f,List.cons_append,List.nil_append,addBlks,q0I,q0F,q0E]
 rw[q0A,q0A,q0l,q0E]
 have ek:∀ ρ H nx mv,skipM ⟨ρ,H,nx,mv⟩ [5,6,7,8,10,11,12,13,14,15,16,17,18,19,20,21]=⟨q0j ρ [5,6,7,8,10,11,12,13,14,15,16,17,18,19,20,21],H,nx,mv⟩:=fun _ _ _ _=>by rw[q0t,show q6m [5,6,7,8,10,11,12,13,14,15,16,17,18,19,20,21]=[] from rfl,List.append_nil]
 rw[ek]
 simp only[q0d,q0f,q0r,q3Z,q0s,q0m,q0i,beq_self_eq_true,Nat.reduceBEq]
 rw[q7i,q0E]
 simp(disch:=first|decide|omega|(simp only[LN];first|done|omega)) only[q0A,q0R,q0o,q0J,q0y,q0P,q0Z,q0H,q0z,q0k,q4Q,q0p,q00,q01,q0x,q0d,q0s,q2C,q0i,beq_self_eq_true,q0m,q0r,q0f,List.cons_append,List.nil_append,addBlks,q0I,q0F,q0E,q1q,q0l,q0t,q1p,Nat.reduceEqDiff,q1F,if_false,List.append_nil,q1e,ea,q3M,if_true,eb,ef]
end Go.Vm
end

section
namespace Go.Vm
set_option maxRecDepth 20000
open Go.Proofs
theorem z9z(K:Cx)(h23:L23 K)(h24:L24 K)(h25:L25 K)(h15:L15 K)(h16:L16 K)(h17:L17 K)(t o:Table)(ht:Sm t)(hto:TabOk t)(hoo:TabOk o)(hos:o.shapes.length≤1048576)(htt:TabOk (q3W t))(H:List (Nat×Blk))(nx q:Nat)(hq:look H q=some (.mix 2 [[.bsx 2 0 t.shapes.length,.bsx 3 0 t.globals.length]]))
  (h0:look H 0=some (.mix 2 [tabV t])) (h1:look H 1=some (.mix 2 [tabV o])) (hT:TB H 2 true t) (hq2:t.globals.length+4≤q) (hqn:q<nx) :
  ∃ H' nx' mv',exec K f6_T3 ⟨[(2,.ptr 0 0 0),(3,.ptr 1 0 0),(5,.d false (.bool true)),(6,.ptr q 0 0)],H,nx,[]⟩=some (.ret,⟨[(4,.d false (.bool true))],H',nx',mv'⟩):=by
 by_cases z1:(q0a t).2=0
 ·by_cases z2:(q0a o).2=0
  ·exact z2c K h23 h24 h25 h15 h16 h17 t o ht hto hoo hos htt z1 z2 H nx q hq h0 h1 hT hq2 hqn
  ·exact z2d K h23 h24 h25 h15 h16 h17 t o ht hto hoo hos htt z1 z2 H nx q hq h0 h1 hT hq2 hqn
 ·by_cases z2:(q0a o).2=0
  ·exact z2e K h23 h24 h25 h15 h16 h17 t o ht hto hoo hos htt z1 z2 H nx q hq h0 h1 hT hq2 hqn
  ·exact z2f K h23 h24 h25 h15 h16 h17 t o ht hto hoo hos htt z1 z2 H nx q hq h0 h1 hT hq2 hqn
set_option maxHeartbeats 2000000 in
theorem z9f(K:Cx)(h11:K.call 11 []=some (.d false (.bool true),[]))(h12:L12 K)(h23:L23 K)(h24:L24 K)(h25:L25 K)(h15:L15 K)(h16:L16 K)(h17:L17 K)(t o:Table)(ht:Sm t)(hto:TabOk t)(hoo:TabOk o)(hos:o.shapes.length≤1048576)(htt:TabOk (q3W t)) :
  q0B K f6 [.agg (tabV t),.agg (tabV o)] []=some (.d false (.bool true),[],[]):=by
 have c12:=h12 t ht
 have hor:=j1V t
 have hlen:=q1P true 4 t
 have hlk:look (addBlks [(1,.mix 2 [tabV o]),(0,.mix 2 [tabV t])] 2 (tblk true 4 t++[.mix 2 [[.fs true 2 [],.fs true 3 []]]])) (2+(t.globals.length+2))=some (.mix 2 [[.fs true 2 [],.fs true 3 []]]):=by
  rw[q1O,if_pos (by simp [hlen]),Nat.add_sub_cancel_left,List.getElem?_append_right (by omega),hlen,Nat.sub_self];rfl
 have hTB:TB (addBlks [(1,.mix 2 [tabV o]),(0,.mix 2 [tabV t])] 2 (tblk true 4 t++[.mix 2 [[.fs true 2 [],.fs true 3 []]]])) 2 true t:=TB.add
 have hlo:∀ b,b<2→look (addBlks [(1,.mix 2 [tabV o]),(0,.mix 2 [tabV t])] 2 (tblk true 4 t++[.mix 2 [[.fs true 2 [],.fs true 3 []]]])) b=look [(1,.mix 2 [tabV o]),(0,.mix 2 [tabV t])] b:=fun b hb=>by
  rw[q1O,if_neg (by omega)]
 generalize hHB:addBlks [(1,.mix 2 [tabV o]),(0,.mix 2 [tabV t])] 2 (tblk true 4 t++[.mix 2 [[.fs true 2 [],.fs true 3 []]]])=HB at hlk hTB hlo
 obtain⟨H',nx',mv,e⟩:=z9z K h23 h24 h25 h15 h16 h17 t o ht hto hoo hos htt (put HB (2+(t.globals.length+2)) (.mix 2 [[.bsx 2 0 t.shapes.length,.bsx 3 0 t.globals.length]])) (2+(t.globals.length+2)+1) (2+(t.globals.length+2)) (q0Q _ _ _)
  (by rw[q0e _ _ (by omega),hlo 0 (by omega)];rfl) (by rw[q0e _ _ (by omega),hlo 1 (by omega)];rfl) (hTB.mono fun b _ hb=>q0e _ _ (by omega)) (by omega) (by omega)
 clear hTB hlo ht hto hoo htt h12 h23 h24 h25 h15 h16 h17
 simp only[tabV] at c12 hHB
 simp only[tabV]
 simp(disch:=first|decide|omega|(simp only[LN];first|done|omega)) only[f6,q5H,List.length_nil,startS,List.zipIdx_cons,Nat.zero_add,Nat.reduceAdd,List.zipIdx_nil,List.map_cons,List.map_nil,indexed,q0A,q0R,q0o,q0J,q0U,q2W,e_sl,q0s,beq_self_eq_true,q0m,q0P,mkBox,V.laid,V.cells,List.length_cons,if_true,q10,q1u,Nat.reduceBEq,q0T,q1Y,q0i,q0y,q1Z,List.append_nil,List.cons_append,List.nil_append,q0Z,q0H,q6y,z7g,Option.isSome_some,q0z,Bool.and_self,q0p,q0x,q0d,q0r,q0f,addBlks,q0I,q0F,q0E,q0k,q2J,q38,q08,q06,List.any_nil,q04,List.all_nil,Bool.not_true,Bool.and_false,Bool.false_and,q1b,q1n,h11,q1f,V.new,V.new1,D.flat,Bool.or_true,Bool.false_eq_true,if_false,q00,q01,q1X,q2I,e_ld,q1d,q2d,q1i,List.getElem?_cons_zero,q2c,List.drop_zero,q05,Nat.le_refl,q1m,q07,q3O,List.any_cons,V.own,V.own1,Bool.or_self,q0X,view,viewDepth,q2u,q1G,Option.map_some,q3P,c12,hor,hlen,z17,z7f,q4r,q1s,hHB,q2R,q2t,hlk,q7u,q4f,splice,List.take_zero,List.drop_succ_cons,q4e,q3r,lose,loseH,Lost.ids,q0l,q0t,q1p,Nat.reduceEqDiff,q1F,e,q7d,q0b,finish,q7B,V.refs,q2B,List.nodup_nil,decide_true,finV,finA,finC,List.filter_nil]
end Go.Vm
end

section
namespace Go.Vm
set_option maxRecDepth 100000
open Go.RowKit Go.Shelf Go.Proofs
def T8:List Row:=[⟨13,0,1,f13⟩,⟨15,0,2,f15⟩,⟨19,0,1,f19⟩,⟨24,0,1,f24⟩,⟨33,0,0,f33⟩,⟨34,0,1,f34⟩,⟨35,0,1,f35⟩,⟨36,0,0,f36⟩,⟨37,0,2,f37⟩,⟨48,0,1,f48⟩,⟨50,0,2,f50⟩,⟨60,1,1,f60⟩,⟨60,2,1,f60⟩,⟨60,3,1,f60⟩,⟨60,4,1,f60⟩,⟨60,5,1,f60⟩,⟨61,1,1,f61⟩,⟨61,2,1,f61⟩,⟨61,3,1,f61⟩,⟨61,4,1,f61⟩,⟨61,5,1,f61⟩,⟨68,1,2,f68⟩,⟨69,1,2,f69⟩,⟨70,1,2,f70⟩,⟨71,0,1,f71⟩,⟨72,0,1,f72⟩,⟨77,1,1,f77⟩,⟨78,0,0,f78⟩,⟨79,0,1,f79⟩,⟨80,0,5,f80⟩,⟨81,0,3,f81⟩,⟨82,1,3,f82⟩,⟨88,0,3,f88⟩,⟨90,0,3,f90⟩,⟨96,1,1,f96⟩,⟨96,2,1,f96⟩,⟨96,3,1,f96⟩,⟨96,4,1,f96⟩,⟨96,5,1,f96⟩,⟨97,1,1,f97⟩,⟨97,2,1,f97⟩,⟨97,3,1,f97⟩,⟨97,4,1,f97⟩,⟨97,5,1,f97⟩,⟨98,1,1,f98⟩,⟨98,2,1,f98⟩,⟨98,3,1,f98⟩,⟨98,4,1,f98⟩,⟨98,5,1,f98⟩,⟨99,1,4,f99⟩,⟨99,2,4,f99⟩,⟨99,3,4,f99⟩,⟨99,4,4,f99⟩,⟨99,5,4,f99⟩,⟨100,0,1,f100⟩,⟨101,1,1,f101⟩,⟨102,1,1,f102⟩,⟨103,1,1,f103⟩,⟨104,1,1,f104⟩,⟨106,0,4,f106⟩,⟨108,0,0,f108⟩,⟨109,1,1,f109⟩,⟨109,2,1,f109⟩,⟨109,3,1,f109⟩,⟨109,4,1,f109⟩,⟨109,5,1,f109⟩,⟨112,1,4,f112⟩,⟨112,2,4,f112⟩,⟨112,3,4,f112⟩,⟨112,4,4,f112⟩,⟨112,5,4,f112⟩,⟨113,1,1,f113⟩,⟨114,1,1,f114⟩,⟨126,1,1,f126⟩]
def K8 (n:Nat):Cx:=cxM KS8 400 T8 n
theorem T8_ok:∀ r∈T8,q09 Tryz.prog r.f r.m r.n r.g=true:=by
 have h:T8.all (fun r=>q09 Tryz.prog r.f r.m r.n r.g)=true:=by kernel_rfl
 simpa [List.all_eq_true] using h
theorem q6a (n:Nat):(K8 n).Sound Tryz.prog:=z7n q0N z7y T8_ok (fun r _ h=>by cases h) rfl n
theorem z7A (n:Nat):(K8 n).dfr=[]:=z19 rfl 400 T8 n
def codeBytes:List (List D):=[[.int .u8 83],[.int .u8 76],[.int .u8 84],[.int .u8 72],[.int .u8 7],[.int .u8 5],[.int .u8 70],[.int .u8 97],[.int .u8 108],[.int .u8 115],[.int .u8 101],[.int .u8 0],[.int .u8 4],[.int .u8 84],[.int .u8 114],[.int .u8 117],[.int .u8 101],[.int .u8 0],[.int .u8 4],[.int .u8 85],[.int .u8 110],[.int .u8 105],[.int .u8 116],[.int .u8 0],[.int .u8 3],[.int .u8 78],[.int .u8 105],[.int .u8 108],[.int .u8 0],[.int .u8 4],[.int .u8 67],[.int .u8 111],[.int .u8 110],[.int .u8 115],[.int .u8 2],[.int .u8 4],[.int .u8 80],[.int .u8 97],[.int .u8 105],[.int .u8 114],[.int .u8 2],[.int .u8 6],[.int .u8 84],[.int .u8 114],[.int .u8 105],[.int .u8 112],[.int .u8 108],[.int .u8 101],[.int .u8 3],[.int .u8 1],[.int .u8 2],[.int .u8 105],[.int .u8 100],[.int .u8 1],[.int .u8 4],[.int .u8 1],[.int .u8 0],[.int .u8 7],[.int .u8 2],[.int .u8 4],[.int .u8 1],[.int .u8 17],[.int .u8 204],[.int .u8 185],[.int .u8 3],[.int .u8 45]]
def j0t:List UInt8:=[115,104,97,112,101,32,34,70,97,108,115,101,34,32,48,10,115,104,97,112,101,32,34,84,114,117,101,34,32,48,10,115,104,97,112,101,32,34,85,110,105,116,34,32,48,10,115,104,97,112,101,32,34,78,105,108,34,32,48,10,115,104,97,112,101,32,34,67,111,110,115,34,32,50,10,115,104,97,112,101,32,34,80,97,105,114,34,32,50,10,115,104,97,112,101,32,34,84,114,105,112,108,101,34,32,51,10,103,108,111,98,97,108,32,34,105,100,34,32,49,10,32,32,112,117,115,104,32,48,10,32,32,117,112,100,97,116,101,32,50,10,32,32,112,111,112,32,49,10,32,32,117,110,119,105,110,100,10]
def cL:C→C
 | .seq a _=>a
 | c=>c
def cR:C→C
 | .seq _ b=>b
 | c=>c
def f21D:DfrF:=⟨cL f21.body,cL (cR f21.body),cR (cR (cR f21.body)),f21.res,9,59,[2,3]⟩
def f27D:DfrF:=⟨cL f27.body,cL (cR f27.body),cR (cR (cR f27.body)),f27.res,10,76,[2,3]⟩
theorem j1f:z9s Tryz.prog 21 1 f21D=true:=by kernel_rfl
theorem z6P:z9s Tryz.prog 27 1 f27D=true:=by kernel_rfl
def st (x:Option (Ex×S)):S:=match x with
 | some (_,s)=>s
 | none=>⟨[],[],0,[]⟩
def s0R:S:=st (execC 400 (K8 30) f21D.c0 (startS [.d false (.str j0t)] []))
def s1R:S:=st (execC 400 (K8 30) f21D.ca s0R)
def idT:V:=.tup [.agg [.d false (.sl 2 [[.str [70,97,108,115,101],.int .i64 0],[.str [84,114,117,101],.int .i64 0],[.str [85,110,105,116],.int .i64 0],[.str [78,105,108],.int .i64 0],[.str [67,111,110,115],.int .i64 2],[.str [80,97,105,114],.int .i64 2],[.str [84,114,105,112,108,101],.int .i64 3]]),
 .d false (.sl 3 [[.str [105,100],.int .i64 1,.sl 3 [[.int .i64 1,.int .i64 0,.int .i64 0],[.int .i64 7,.int .i64 2,.int .i64 0],[.int .i64 4,.int .i64 1,.int .i64 0],[.int .i64 17,.int .i64 0,.int .i64 0]]]])],.d false (.int .i64 0)]
theorem run21:DfrRun (K8 30) f21D [.d false (.str j0t)] idT []:=z7k (N:=400) (s0:=s0R) (s1:=s1R) (by kernel_rfl) (by kernel_rfl) (by kernel_rfl) (fun ds=>by kernel_rfl)
end Go.Vm
end

section
namespace Go.Vm
set_option maxRecDepth 100000
open Go.RowKit Go.Shelf Go.Proofs
def s0L (c:Bool):S:=st (execC 400 (K8 30) f27D.c0 (startS [.d c (.sl 1 codeBytes)] []))
def s1L (c:Bool):S:=st (execC 400 (K8 30) f27D.ca (s0L c))
theorem j1Y:DfrRun (K8 30) f27D [.d false (.sl 1 codeBytes)] idT []:=z7k (N:=400) (s0:=s0L false) (s1:=s1L false) (by kernel_rfl) (by kernel_rfl) (by kernel_rfl) (fun ds=>by kernel_rfl)
theorem j1X:DfrRun (K8 30) f27D [.d true (.sl 1 codeBytes)] idT []:=z7k (N:=400) (s0:=s0L true) (s1:=s1L true) (by kernel_rfl) (by kernel_rfl) (by kernel_rfl) (fun ds=>by kernel_rfl)
def z93:FuncId→List V→Option (V×List Blk)
 | 21,[.d false (.str l)]=>if l=j0t then some (idT,[]) else none
 | 27,[.d c (.sl 1 rows)]=>if q8C rows codeBytes then some (idT,[]) else none
 | f,vs=>(K8 30).call f vs
def KA8:Cx:=⟨z93,(K8 30).eff,GT,fun _=>false,[]⟩
theorem q8t (n:Nat):(K8 n).glob=GT:=q7f KS8 400 T8 n
theorem z7z:KA8.Sound Tryz.prog:=by
 refine ⟨fun f args r news h=>?_,fun f args r news h=>(by cases h),fun f args blks r blks' mv h=>?_⟩
 ·simp only [KA8] at h ⊢
  unfold z93 at h
  split at h
  ·split at h
   ·rename_i l hl
    subst hl
    simp only [Option.some.injEq,Prod.mk.injEq] at h
    obtain ⟨rfl,rfl⟩:=h
    have:=q8j q0N (q6a 30) j1f j0I run21 (z7A 30)
    rw [q8t] at this
    exact this
   ·cases h
  ·split at h
   ·rename_i c rows hl
    obtain rfl:=q7e hl
    simp only [Option.some.injEq,Prod.mk.injEq] at h
    obtain ⟨rfl,rfl⟩:=h
    cases c with
    | false=>
     have:=q8j q0N (q6a 30) z6P z5L j1Y (z7A 30)
     rw [q8t] at this
     exact this
    | true=>
     have:=q8j q0N (q6a 30) z6P z5L j1X (z7A 30)
     rw [q8t] at this
     exact this
   ·cases h
  ·have:=(q6a 30).pure _ _ _ _ h
   rw [q8t] at this
   exact this
 ·have:=(q6a 30).eff f args blks r blks' mv h
  rw [q8t] at this
  exact this
theorem z7t:q7z 400 KA8 f11 [] []=some (.bool true,[],[]):=by kernel_rfl
theorem j31:q0S Tryz.prog 11=true∧q2s Tryz.prog GT 11 [] (.bool true) []:=q42 q0N z7z j3G (q6j z7t)
end Go.Vm
end

section
namespace Go.Vm
theorem z6V(K:Cx)(t:Table)(g:Glob)(at_ n kind:Int)(hk:0≤kind∧kind≤8) :
  q0B K f80 [.agg [.d false (.sl 2 (t.shapes.map q0g)),.d false (.sl 3 (t.globals.map q0G))],.agg [.d false (.str g.name),.d false (.int .i64 g.arity),.d false (.sl 3 (g.code.map q0C))],.d false (.int .i64 at_),.d false (.int .i64 n),.d false (.int .i64 kind)] []
  = some (.d false (.int .i64 (q1S t.globals.length t.shapes.length g.code.length at_ n kind)),[],[]):=by
 have:kind=0∨kind=1∨kind=2∨kind=3∨kind=4∨kind=5∨kind=6∨kind=7∨kind=8:=by omega
 unfold q1S
 rcases this with rfl|rfl|rfl|rfl|rfl|rfl|rfl|rfl|rfl
 ·by_cases h:n=0
  ·simp(disch:=first|decide|omega|(simp only[LN];first|done|omega)) only[SV,SW,f80,Int.reduceNeg,h,Nat.reduceAdd,Nat.reduceBEq,evUn,q0b,Int.reduceEq,true_and]
  ·simp(disch:=first|decide|omega|(simp only[LN];first|done|omega)) only[SV,SW,f80,Int.reduceNeg,Nat.reduceAdd,Nat.reduceBEq,evUn,q0b,Int.reduceEq,h]
 ·by_cases h:0≤n
  ·simp(disch:=first|decide|omega|(simp only[LN];first|done|omega)) only[SV,SW,f80,Int.reduceNeg,Nat.reduceAdd,Nat.reduceBEq,evUn,q0b,Int.reduceEq,true_and]
  ·simp(disch:=first|decide|omega|(simp only[LN];first|done|omega)) only[SV,SW,f80,Int.reduceNeg,Nat.reduceAdd,Nat.reduceBEq,evUn,q0b,Int.reduceEq]
 ·by_cases h:1≤n
  ·simp(disch:=first|decide|omega|(simp only[LN];first|done|omega)) only[SV,SW,f80,Int.reduceNeg,Nat.reduceAdd,Nat.reduceBEq,evUn,q0b,Int.reduceEq,true_and]
  ·simp(disch:=first|decide|omega|(simp only[LN];first|done|omega)) only[SV,SW,f80,Int.reduceNeg,Nat.reduceAdd,Nat.reduceBEq,evUn,q0b,Int.reduceEq]
 ·by_cases h : -4611686018427387904≤n
  ·by_cases h2:n≤4611686018427387903
   ·simp(disch:=first|decide|omega|(simp only[LN];first|done|omega)) only[SV,SW,f80,Int.reduceNeg,Nat.reduceAdd,Nat.reduceBEq,evUn,q0b,Int.reduceEq]
   ·simp(disch:=first|decide|omega|(simp only[LN];first|done|omega)) only[SV,SW,f80,Int.reduceNeg,Nat.reduceAdd,Nat.reduceBEq,evUn,q0b,Int.reduceEq,and_false,true_and]
  ·simp(disch:=first|decide|omega|(simp only[LN];first|done|omega)) only[SV,SW,f80,Int.reduceNeg,Nat.reduceAdd,Nat.reduceBEq,evUn,q0b,Int.reduceEq]
 ·by_cases h:0≤n
  ·by_cases h2:n<t.globals.length
   ·simp(disch:=first|decide|omega|(simp only[LN];first|done|omega)) only[SV,SW,f80,Int.reduceNeg,Nat.reduceAdd,Nat.reduceBEq,evUn,q0b,Int.reduceEq,true_and]
   ·simp(disch:=first|decide|omega|(simp only[LN];first|done|omega)) only[SV,SW,f80,Int.reduceNeg,Nat.reduceAdd,Nat.reduceBEq,evUn,q0b,Int.reduceEq,true_and,and_false]
  ·simp(disch:=first|decide|omega|(simp only[LN];first|done|omega)) only[SV,SW,f80,Int.reduceNeg,Nat.reduceAdd,Nat.reduceBEq,evUn,q0b,Int.reduceEq]
 ·by_cases h:0≤n
  ·by_cases h2:n<t.shapes.length
   ·simp(disch:=first|decide|omega|(simp only[LN];first|done|omega)) only[SV,SW,f80,Int.reduceNeg,Nat.reduceAdd,Nat.reduceBEq,evUn,q0b,Int.reduceEq,true_and]
   ·simp(disch:=first|decide|omega|(simp only[LN];first|done|omega)) only[SV,SW,f80,Int.reduceNeg,Nat.reduceAdd,Nat.reduceBEq,evUn,q0b,Int.reduceEq,true_and,and_false]
  ·simp(disch:=first|decide|omega|(simp only[LN];first|done|omega)) only[SV,SW,f80,Int.reduceNeg,Nat.reduceAdd,Nat.reduceBEq,evUn,q0b,Int.reduceEq]
 ·by_cases h:1≤n
  ·by_cases h2:n≤11
   ·simp(disch:=first|decide|omega|(simp only[LN];first|done|omega)) only[SV,SW,f80,Int.reduceNeg,Nat.reduceAdd,Nat.reduceBEq,evUn,q0b,Int.reduceEq,true_and]
   ·simp(disch:=first|decide|omega|(simp only[LN];first|done|omega)) only[SV,SW,f80,Int.reduceNeg,Nat.reduceAdd,Nat.reduceBEq,evUn,q0b,Int.reduceEq,true_and,and_false]
  ·simp(disch:=first|decide|omega|(simp only[LN];first|done|omega)) only[SV,SW,f80,Int.reduceNeg,Nat.reduceAdd,Nat.reduceBEq,evUn,q0b,Int.reduceEq]
 ·by_cases h:1≤n
  ·by_cases h2:n≤4
   ·simp(disch:=first|decide|omega|(simp only[LN];first|done|omega)) only[SV,SW,f80,Int.reduceNeg,Nat.reduceAdd,Nat.reduceBEq,evUn,q0b,Int.reduceEq,true_and]
   ·simp(disch:=first|decide|omega|(simp only[LN];first|done|omega)) only[SV,SW,f80,Int.reduceNeg,Nat.reduceAdd,Nat.reduceBEq,evUn,q0b,Int.reduceEq,true_and,and_false]
  ·simp(disch:=first|decide|omega|(simp only[LN];first|done|omega)) only[SV,SW,f80,Int.reduceNeg,Nat.reduceAdd,Nat.reduceBEq,evUn,q0b,Int.reduceEq]
 ·by_cases h:n≤at_
  ·simp(disch:=first|decide|omega|(simp only[LN];first|done|omega)) only[SV,SW,f80,Int.reduceNeg,Nat.reduceAdd,Nat.reduceBEq,q0b,Int.reduceEq]
  ·by_cases h2:(g.code.length:Int)≤n
   ·simp(disch:=first|decide|omega|(simp only[LN];first|done|omega)) only[SV,SW,f80,Int.reduceNeg,Nat.reduceAdd,Nat.reduceBEq,q0b,Int.reduceEq,true_and]
   ·simp(disch:=first|decide|omega|(simp only[LN];first|done|omega)) only[SV,SW,f80,Int.reduceNeg,Nat.reduceAdd,Nat.reduceBEq,evUn,q0b,Int.reduceEq]
theorem z82(K:Cx)(c:Bool)(Dp:List Int)(at_ d:Int)(h:0≤at_∧at_<Dp.length)(n:Nat)(hn:n=Dp.length) :
  q0B K f82 [.bsl 0 0 n,.d false (.int .i64 at_),.d false (.int .i64 d)] [.dat c 1 (Dp.map eInt)]=some (.d false (.bool (q2v Dp at_ d)),[.dat c 1 ((q1E Dp at_ d).map eInt)],[]):=by
 subst hn
 obtain⟨h0,h1⟩:=h
 unfold q2v q1E
 have hs:=z0w Dp at_ d h0 h1
 by_cases g:nth Dp at_=0
 ·rw[if_pos g,if_pos g]
  simp(disch:=first|decide|omega|(simp only[LN];first|done|omega)) only[SV,SW,f82,Nat.reduceAdd,Nat.reduceBEq,g,q0V,q78,lose,hs,q1t,q0b]
 ·rw[if_neg g,if_neg g]
  simp(disch:=first|decide|omega|(simp only[LN];first|done|omega)) only[SV,SW,f82,Nat.reduceAdd,Nat.reduceBEq,q0V,q1t,q0b]
set_option maxHeartbeats 8000000 in
theorem z4h(K:Cx)(t:Table)(x:Instr)(d:Int)(hd:1≤d∧d≤8000)(ha:0≤x.a∧x.a≤9223372036854775807∨(x.op≠1∧x.op≠4∧x.op≠5∧x.op≠7∧x.op≠8))(hs:x.op=9∨x.op=10→0≤x.a∧x.a<t.shapes.length∧0≤(nth t.shapes x.a).fields∧(nth t.shapes x.a).fields≤8) :
  q0B K f81 [.agg [.d false (.sl 2 (t.shapes.map q0g)),.d false (.sl 3 (t.globals.map q0G))],.agg [.d false (.int .i64 x.op),.d false (.int .i64 x.a),.d false (.int .i64 x.b)],.d false (.int .i64 d)] []
  = some (.tup [.d false (.int .i64 (q03 t.shapes x d).1),.d false (.bool (q03 t.shapes x d).2)],[],[]):=by
 obtain⟨op,a,b⟩:=x
 simp only at ha hs ⊢
 obtain⟨d1,d2⟩:=hd
 unfold q03
 simp only
 by_cases g1:op=1
 ·subst g1
  have⟨a1,a2⟩:0≤a∧a≤9223372036854775807:=by omega
  clear hs ha
  by_cases k:a<d
  ·simp(disch:=first|decide|omega|(simp only[LN];first|done|omega)) only[SV,SW,f81,Nat.reduceAdd,Nat.reduceBEq,q0b,Int.reduceEq]
  ·simp(disch:=first|decide|omega|(simp only[LN];first|done|omega)) only[SV,SW,f81,Nat.reduceAdd,Nat.reduceBEq,q0b,Int.reduceEq]
 by_cases g2:op=2
 ·subst g2
  simp(disch:=first|decide|omega|(simp only[LN];first|done|omega)) only[SV,SW,f81,Nat.reduceAdd,Nat.reduceBEq,q0b,Int.reduceEq]
 by_cases g3:op=3
 ·subst g3
  simp(disch:=first|decide|omega|(simp only[LN];first|done|omega)) only[SV,SW,f81,Nat.reduceAdd,Nat.reduceBEq,q0b,Int.reduceEq]
 by_cases g4:op=4
 ·subst g4
  have⟨a1,a2⟩:0≤a∧a≤9223372036854775807:=by omega
  clear hs ha
  by_cases k:a<d
  ·simp(disch:=first|decide|omega|(simp only[LN];first|done|omega)) only[SV,SW,f81,Nat.reduceAdd,Nat.reduceBEq,q0b,Int.reduceEq]
  ·simp(disch:=first|decide|omega|(simp only[LN];first|done|omega)) only[SV,SW,f81,Nat.reduceAdd,Nat.reduceBEq,q0b,Int.reduceEq]
 by_cases g5:op=5
 ·subst g5
  have⟨a1,a2⟩:0≤a∧a≤9223372036854775807:=by omega
  clear hs ha
  by_cases k:a<d - 1
  ·simp(disch:=first|decide|omega|(simp only[LN];first|done|omega)) only[SV,SW,f81,Nat.reduceAdd,Nat.reduceBEq,q0b,Int.reduceEq]
  ·simp(disch:=first|decide|omega|(simp only[LN];first|done|omega)) only[SV,SW,f81,Nat.reduceAdd,Nat.reduceBEq,q0b,Int.reduceEq]
 by_cases g6:op=6
 ·subst g6
  by_cases k:2<d
  ·simp(disch:=first|decide|omega|(simp only[LN];first|done|omega)) only[SV,SW,f81,Nat.reduceAdd,Nat.reduceBEq,q0b,Int.reduceEq]
  ·simp(disch:=first|decide|omega|(simp only[LN];first|done|omega)) only[SV,SW,f81,Nat.reduceAdd,Nat.reduceBEq,q0b,Int.reduceEq]
 by_cases g12:op=12
 ·subst g12
  by_cases k:2<d
  ·simp(disch:=first|decide|omega|(simp only[LN];first|done|omega)) only[SV,SW,f81,Nat.reduceAdd,Nat.reduceBEq,q0b,Int.reduceEq]
  ·simp(disch:=first|decide|omega|(simp only[LN];first|done|omega)) only[SV,SW,f81,Nat.reduceAdd,Nat.reduceBEq,q0b,Int.reduceEq]
 by_cases g7:op=7
 ·subst g7
  have⟨a1,a2⟩:0≤a∧a≤9223372036854775807:=by omega
  clear hs ha
  by_cases k:a<d
  ·simp(disch:=first|decide|omega|(simp only[LN];first|done|omega)) only[SV,SW,f81,Nat.reduceAdd,Nat.reduceBEq,q0b,Int.reduceEq]
  ·simp(disch:=first|decide|omega|(simp only[LN];first|done|omega)) only[SV,SW,f81,Nat.reduceAdd,Nat.reduceBEq,q0b,Int.reduceEq]
 by_cases g8:op=8
 ·subst g8
  have⟨a1,a2⟩:0≤a∧a≤9223372036854775807:=by omega
  clear hs ha
  by_cases k:8000<a
  ·simp(disch:=first|decide|omega|(simp only[LN];first|done|omega)) only[SV,SW,f81,Nat.reduceAdd,Nat.reduceBEq,q0b,Int.reduceEq]
  ·by_cases k2:d+a≤8000
   ·simp(disch:=first|decide|omega|(simp only[LN];first|done|omega)) only[SV,SW,f81,Nat.reduceAdd,Nat.reduceBEq,q0b,Int.reduceEq]
   ·simp(disch:=first|decide|omega|(simp only[LN];first|done|omega)) only[SV,SW,f81,Nat.reduceAdd,Nat.reduceBEq,q0b,Int.reduceEq]
 by_cases g9:op=9
 ·subst g9
  obtain⟨a1,a2,a3,a4⟩:=hs (.inl rfl)
  clear ha
  unfold q1T
  generalize hf:(nth t.shapes a).fields=fl at a3 a4
  by_cases k:fl<d
  ·simp(disch:=first|decide|omega|(simp only[LN];first|done|omega)) only[SV,SW,f81,Nat.reduceAdd,Nat.reduceBEq,q0n,hf,q0b,Int.reduceEq]
  ·simp(disch:=first|decide|omega|(simp only[LN];first|done|omega)) only[SV,SW,f81,Nat.reduceAdd,Nat.reduceBEq,q0n,hf,q0b,Int.reduceEq]
 by_cases g10:op=10
 ·subst g10
  obtain⟨a1,a2,a3,a4⟩:=hs (.inr rfl)
  clear ha
  unfold q1T
  generalize hf:(nth t.shapes a).fields=fl at a3 a4
  by_cases k:1<d
  ·by_cases k2:d - 1+fl≤8000
   ·simp(disch:=first|decide|omega|(simp only[LN];first|done|omega)) only[SV,SW,f81,Nat.reduceAdd,Nat.reduceBEq,q0n,hf,q0b,Int.reduceEq]
   ·simp(disch:=first|decide|omega|(simp only[LN];first|done|omega)) only[SV,SW,f81,Nat.reduceAdd,Nat.reduceBEq,q0n,hf,q0b,Int.reduceEq]
  ·simp(disch:=first|decide|omega|(simp only[LN];first|done|omega)) only[SV,SW,f81,Nat.reduceAdd,Nat.reduceBEq,q0n,hf,q0b,Int.reduceEq]
 by_cases g11:op=11
 ·subst g11
  by_cases k:1<d
  ·simp(disch:=first|decide|omega|(simp only[LN];first|done|omega)) only[SV,SW,f81,Nat.reduceAdd,Nat.reduceBEq,q0b,Int.reduceEq]
  ·simp(disch:=first|decide|omega|(simp only[LN];first|done|omega)) only[SV,SW,f81,Nat.reduceAdd,Nat.reduceBEq,q0b,Int.reduceEq]
 by_cases g14:op=14
 ·subst g14
  by_cases k:1<d
  ·simp(disch:=first|decide|omega|(simp only[LN];first|done|omega)) only[SV,SW,f81,Nat.reduceAdd,Nat.reduceBEq,q0b,Int.reduceEq]
  ·simp(disch:=first|decide|omega|(simp only[LN];first|done|omega)) only[SV,SW,f81,Nat.reduceAdd,Nat.reduceBEq,q0b,Int.reduceEq]
 by_cases g15:op=15
 ·subst g15
  by_cases k:1<d
  ·simp(disch:=first|decide|omega|(simp only[LN];first|done|omega)) only[SV,SW,f81,Nat.reduceAdd,Nat.reduceBEq,q0b,Int.reduceEq]
  ·simp(disch:=first|decide|omega|(simp only[LN];first|done|omega)) only[SV,SW,f81,Nat.reduceAdd,Nat.reduceBEq,q0b,Int.reduceEq]
 by_cases g17:op=17
 ·subst g17
  by_cases k:d=1
  ·simp(disch:=first|decide|omega|(simp only[LN];first|done|omega)) only[SV,SW,f81,k,Nat.reduceAdd,Nat.reduceBEq,q0b,Int.reduceEq,Int.reduceAdd,Int.reduceSub]
  ·simp(disch:=first|decide|omega|(simp only[LN];first|done|omega)) only[SV,SW,f81,Nat.reduceAdd,Nat.reduceBEq,q0b,Int.reduceEq,k]
 ·simp(disch:=first|decide|omega|(simp only[LN];first|done|omega)) only[SV,SW,f81,Nat.reduceAdd,Nat.reduceBEq,q0b,g1,g2,g3,g4,g5,g6,g12,g7,g8,g9,g10,g11,g14,g15,g17]
end Go.Vm
end

section
namespace Go.Vm
open Go.RowKit Go.Shelf Go.Proofs
theorem z4q(a b:Instr)(h:q0C a=q0C b):a=b:=by
 cases a;cases b
 simp only[q0C,List.cons.injEq,D.int.injEq,true_and,and_true] at h
 simp only[Instr.mk.injEq]
 exact h
theorem z4p(a b:Shape)(h:q0g a=q0g b):a=b:=by
 cases a;cases b
 simp only[q0g,List.cons.injEq,D.int.injEq,D.str.injEq,true_and,and_true] at h
 simp only[Shape.mk.injEq]
 exact h
theorem q6n{α β:Type}{f:α→β}(hf:∀ a b,f a=f b→a=b):∀ l l':List α,l.map f=l'.map f→l=l'
 |[],[],_=>rfl
 |[],_ :: _,h=>by simp at h
 |_ :: _,[],h=>by simp at h
 |a :: l,b :: l',h=>by
  simp only[List.map_cons,List.cons.injEq] at h
  rw[hf a b h.1,q6n hf l l' h.2]
theorem mI(l l':List Instr):l.map q0C=l'.map q0C↔l=l':=⟨q6n z4q l l',fun h=>by rw[h]⟩
theorem mS(l l':List Shape):l.map q0g=l'.map q0g↔l=l':=⟨q6n z4p l l',fun h=>by rw[h]⟩
theorem z7i(a b:Glob)(h:q0G a=q0G b):a=b:=by
 cases a;cases b
 simp only[q0G,List.cons.injEq,D.int.injEq,D.str.injEq,D.sl.injEq,mI,true_and,and_true] at h
 simp only[Glob.mk.injEq]
 exact h
theorem mG(l l':List Glob):l.map q0G=l'.map q0G↔l=l':=⟨q6n z7i l l',fun h=>by rw[h]⟩
theorem z9p(a b:Int)(h:eInt a=eInt b):a=b:=by simpa [eInt] using h
theorem mN(l l':List Int):l.map eInt=l'.map eInt↔l=l':=⟨q6n z9p l l',fun h=>by rw[h]⟩
theorem q4d(t u:Table)(h:t.shapes=u.shapes∧t.globals=u.globals):t=u:=by
 cases t;cases u
 simp only[Table.mk.injEq]
 exact h
noncomputable def z35:Sp where
 α:=List UInt8
 f:=35
 ok:=fun s=>((s.length:Int)≤9223372036854775807)
 args:=fun s=>[.d false (.str s)]
 res:=fun s=>(.d false (.bool (q1w s)),[])
 inj:=by
  rintro s s' _ _ h
  simp only[List.cons.injEq,V.agg.injEq,V.d.injEq,D.sl.injEq,D.int.injEq,D.str.injEq,D.ptr.injEq,Int.natCast_inj,mI,mS,mG,mN,true_and,and_true] at h
  rw[h]
noncomputable def z36:Sp where
 α:=Unit
 f:=36
 ok:=fun u=>True
 args:=fun u=>[]
 res:=fun u=>(.bsl 0 0 7,[.dat true 2 (givenS.map q0g)])
 inj:=by
  rintro u u' _ _ h
  rfl
noncomputable def z34:Sp where
 α:=Table
 f:=34
 ok:=fun t=>(TabOk t)
 args:=fun t=>[.agg [.d false (.sl 2 (t.shapes.map q0g)),.d false (.sl 3 (t.globals.map q0G))]]
 res:=fun t=>(.d false (.bool (q37 t)),[])
 inj:=by
  rintro t t' _ _ h
  simp only[List.cons.injEq,V.agg.injEq,V.d.injEq,D.sl.injEq,mS,mG,true_and,and_true] at h
  rw[q4d _ _ h]
noncomputable def z79:Sp where
 α:=Int
 f:=79
 ok:=fun op=>True
 args:=fun op=>[.d false (.int .i64 op)]
 res:=fun op=>(z5v (q2D op) (decide (1≤op∧op<18)),[])
 inj:=by
  rintro op op' _ _ h
  simp only[List.cons.injEq,V.agg.injEq,V.d.injEq,D.sl.injEq,D.int.injEq,D.str.injEq,D.ptr.injEq,Int.natCast_inj,mI,mS,mG,mN,true_and,and_true] at h
  rw[h]
noncomputable def z80:Sp where
 α:=List Shape×List Glob×List UInt8×Int×List Instr×Int×Int×Int
 f:=80
 ok:=fun(sh,gl,nm,ar,cd,at_,n,kind)=>(0≤kind∧kind≤8)
 args:=fun(sh,gl,nm,ar,cd,at_,n,kind)=>[.agg [.d false (.sl 2 (sh.map q0g)),.d false (.sl 3 (gl.map q0G))],.agg [.d false (.str nm),.d false (.int .i64 ar),.d false (.sl 3 (cd.map q0C))],.d false (.int .i64 at_),.d false (.int .i64 n),.d false (.int .i64 kind)]
 res:=fun(sh,gl,nm,ar,cd,at_,n,kind)=>(.d false (.int .i64 (q1S gl.length sh.length cd.length at_ n kind)),[])
 inj:=by
  rintro⟨sh,gl,nm,ar,cd,at_,n,kind⟩ ⟨sh',gl',nm',ar',cd',at_',n',kind'⟩ _ _ h
  simp only[List.cons.injEq,V.agg.injEq,V.d.injEq,D.sl.injEq,D.int.injEq,D.str.injEq,D.ptr.injEq,Int.natCast_inj,mI,mS,mG,mN,true_and,and_true] at h
  simp only[h]
noncomputable def z81:Sp where
 α:=List Shape×List Glob×Int×Int×Int×Int
 f:=81
 ok:=fun(sh,gl,op,a,b,d)=>(1≤d∧d≤8000)∧(0≤a∧a≤9223372036854775807∨(op≠1∧op≠4∧op≠5∧op≠7∧op≠8))∧(op=9∨op=10→0≤a∧a<sh.length∧0≤(nth sh a).fields∧(nth sh a).fields≤8)
 args:=fun(sh,gl,op,a,b,d)=>[.agg [.d false (.sl 2 (sh.map q0g)),.d false (.sl 3 (gl.map q0G))],.agg [.d false (.int .i64 op),.d false (.int .i64 a),.d false (.int .i64 b)],.d false (.int .i64 d)]
 res:=fun(sh,gl,op,a,b,d)=>(.tup [.d false (.int .i64 (q03 sh ⟨op,a,b⟩ d).1),.d false (.bool (q03 sh ⟨op,a,b⟩ d).2)],[])
 inj:=by
  rintro⟨sh,gl,op,a,b,d⟩ ⟨sh',gl',op',a',b',d'⟩ _ _ h
  simp only[List.cons.injEq,V.agg.injEq,V.d.injEq,D.sl.injEq,D.int.injEq,D.str.injEq,D.ptr.injEq,Int.natCast_inj,mI,mS,mG,mN,true_and,and_true] at h
  simp only[h]
noncomputable def z37:Sp where
 α:=List Shape×List Glob×List UInt8×Int×List Instr
 f:=37
 ok:=fun(sh,gl,nm,ar,cd)=>(ShOk sh)∧(cd.length≤8000)∧(0≤ar∧ar≤24)∧(∀ x∈cd,x.a≤9223372036854775807)
 args:=fun(sh,gl,nm,ar,cd)=>[.agg [.d false (.sl 2 (sh.map q0g)),.d false (.sl 3 (gl.map q0G))],.agg [.d false (.str nm),.d false (.int .i64 ar),.d false (.sl 3 (cd.map q0C))]]
 res:=fun(sh,gl,nm,ar,cd)=>(.d false (.int .i64 (q1K gl.length sh ⟨nm,ar,cd⟩)),[])
 inj:=by
  rintro⟨sh,gl,nm,ar,cd⟩ ⟨sh',gl',nm',ar',cd'⟩ _ _ h
  simp only[List.cons.injEq,V.agg.injEq,V.d.injEq,D.sl.injEq,D.int.injEq,D.str.injEq,D.ptr.injEq,Int.natCast_inj,mI,mS,mG,mN,true_and,and_true] at h
  simp only[h]
noncomputable def z13:Sp where
 α:=Table
 f:=13
 ok:=fun t=>(TabOk t)
 args:=fun t=>[.agg [.d false (.sl 2 (t.shapes.map q0g)),.d false (.sl 3 (t.globals.map q0G))]]
 res:=fun t=>(.d false (.int .i64 (q2e t)),[])
 inj:=by
  rintro t t' _ _ h
  simp only[List.cons.injEq,V.agg.injEq,V.d.injEq,D.sl.injEq,mS,mG,true_and,and_true] at h
  rw[q4d _ _ h]
noncomputable def z28:Sp where
 α:=List Shape×List Glob×Int×Int×Int
 f:=28
 ok:=fun(sh,gl,op,a,b)=>True
 args:=fun(sh,gl,op,a,b)=>[.agg [.d false (.sl 2 (sh.map q0g)),.d false (.sl 3 (gl.map q0G))],.agg [.d false (.int .i64 op),.d false (.int .i64 a),.d false (.int .i64 b)]]
 res:=fun(sh,gl,op,a,b)=>(.d false (.bool (q2U gl.length sh.length ⟨op,a,b⟩)),[])
 inj:=by
  rintro⟨sh,gl,op,a,b⟩ ⟨sh',gl',op',a',b'⟩ _ _ h
  simp only[List.cons.injEq,V.agg.injEq,V.d.injEq,D.sl.injEq,D.int.injEq,D.str.injEq,D.ptr.injEq,Int.natCast_inj,mI,mS,mG,mN,true_and,and_true] at h
  simp only[h]
noncomputable def z32:Sp where
 α:=Int×Int×Int
 f:=32
 ok:=fun(op,a,b)=>True
 args:=fun(op,a,b)=>[.agg [.d false (.int .i64 op),.d false (.int .i64 a),.d false (.int .i64 b)]]
 res:=fun(op,a,b)=>(.d false (.int .i64 (q2f ⟨op,a,b⟩)),[])
 inj:=by
  rintro⟨op,a,b⟩ ⟨op',a',b'⟩ _ _ h
  simp only[List.cons.injEq,V.agg.injEq,V.d.injEq,D.sl.injEq,D.int.injEq,D.str.injEq,D.ptr.injEq,Int.natCast_inj,mI,mS,mG,mN,true_and,and_true] at h
  simp only[h]
noncomputable def z30:Sp where
 α:=Int×Int×Int
 f:=30
 ok:=fun(op,a,b)=>True
 args:=fun(op,a,b)=>[.agg [.d false (.int .i64 op),.d false (.int .i64 a),.d false (.int .i64 b)]]
 res:=fun(op,a,b)=>(.d false (.bool (q62 ⟨op,a,b⟩)),[])
 inj:=by
  rintro⟨op,a,b⟩ ⟨op',a',b'⟩ _ _ h
  simp only[List.cons.injEq,V.agg.injEq,V.d.injEq,D.sl.injEq,D.int.injEq,D.str.injEq,D.ptr.injEq,Int.natCast_inj,mI,mS,mG,mN,true_and,and_true] at h
  simp only[h]
noncomputable def z29:Sp where
 α:=List Shape×List Glob×Int×Int×Int×Int
 f:=29
 ok:=fun(sh,gl,op,a,b,d)=>(1≤d∧d≤8000)∧(op=9→0≤a∧a<sh.length)
 args:=fun(sh,gl,op,a,b,d)=>[.agg [.d false (.sl 2 (sh.map q0g)),.d false (.sl 3 (gl.map q0G))],.agg [.d false (.int .i64 op),.d false (.int .i64 a),.d false (.int .i64 b)],.d false (.int .i64 d)]
 res:=fun(sh,gl,op,a,b,d)=>(.d false (.bool (q5c sh ⟨op,a,b⟩ d)),[])
 inj:=by
  rintro⟨sh,gl,op,a,b,d⟩ ⟨sh',gl',op',a',b',d'⟩ _ _ h
  simp only[List.cons.injEq,V.agg.injEq,V.d.injEq,D.sl.injEq,D.int.injEq,D.str.injEq,D.ptr.injEq,Int.natCast_inj,mI,mS,mG,mN,true_and,and_true] at h
  simp only[h]
noncomputable def z31:Sp where
 α:=List Shape×List Glob×Int×Int×Int×Int
 f:=31
 ok:=fun(sh,gl,op,a,b,d)=>(1≤d∧d≤8000)∧(op=4∨op=5∨op=8→0≤a∧a≤9223372036854775807)∧(op=9∨op=10→0≤a∧a<sh.length∧0≤q1T sh a∧q1T sh a≤8)
 args:=fun(sh,gl,op,a,b,d)=>[.agg [.d false (.sl 2 (sh.map q0g)),.d false (.sl 3 (gl.map q0G))],.agg [.d false (.int .i64 op),.d false (.int .i64 a),.d false (.int .i64 b)],.d false (.int .i64 d)]
 res:=fun(sh,gl,op,a,b,d)=>(.d false (.int .i64 (q2h sh ⟨op,a,b⟩ d)),[])
 inj:=by
  rintro⟨sh,gl,op,a,b,d⟩ ⟨sh',gl',op',a',b',d'⟩ _ _ h
  simp only[List.cons.injEq,V.agg.injEq,V.d.injEq,D.sl.injEq,D.int.injEq,D.str.injEq,D.ptr.injEq,Int.natCast_inj,mI,mS,mG,mN,true_and,and_true] at h
  simp only[h]
noncomputable def z11:Sp where
 α:=Unit
 f:=11
 ok:=fun _=>True
 args:=fun _=>[]
 res:=fun _=>(.d false (.bool true),[])
 inj:=by
  rintro u u' _ _ h
  rfl
noncomputable def y82:Se where
 α:=Bool×List Int×Int×Int
 f:=82
 ok:=fun(_,Dp,at_,_)=>0≤at_∧at_<Dp.length
 args:=fun(_,Dp,at_,d)=>[.bsl 0 0 Dp.length,.d false (.int .i64 at_),.d false (.int .i64 d)]
 blks:=fun(c,Dp,_,_)=>[.dat c 1 (Dp.map eInt)]
 res:=fun(c,Dp,at_,d)=>(.d false (.bool (q2v Dp at_ d)),[.dat c 1 ((q1E Dp at_ d).map eInt)],[])
 inj:=by
  rintro⟨c,Dp,at_,d⟩ ⟨c',Dp',at_',d'⟩ _ _ h h2
  simp only[List.cons.injEq,V.bsl.injEq,V.d.injEq,D.int.injEq,true_and,and_true] at h
  simp only[List.cons.injEq,Blk.dat.injEq,mN,true_and,and_true] at h2
  simp only[h,h2]
theorem j2w{G:Nat→Option (List D)}{L:List Sp}{E:List Se}(h:Has L z35):K21 (cx G L E):=fun s h1=>h s h1
theorem j2v{G:Nat→Option (List D)}{L:List Sp}{E:List Se}(h:Has L z36):K22 (cx G L E):=h () trivial
theorem j2x{G:Nat→Option (List D)}{L:List Sp}{E:List Se}(h:Has L z34):K20 (cx G L E):=fun t h1=>h t h1
theorem z9Q{G:Nat→Option (List D)}{L:List Sp}{E:List Se}(h:Has L z79):K40 (cx G L E):=fun op=>h op trivial
theorem j2n{G:Nat→Option (List D)}{L:List Sp}{E:List Se}(h:Has L z80):K41 (cx G L E):=fun sh gl nm ar cd at_ n kind h1=>h (sh,gl,nm,ar,cd,at_,n,kind) h1
theorem j2m{G:Nat→Option (List D)}{L:List Sp}{E:List Se}(h:Has L z81):K42 (cx G L E):=fun sh gl op a b d h1 h2 h3=>h (sh,gl,op,a,b,d) ⟨h1,h2,h3⟩
theorem j2u{G:Nat→Option (List D)}{L:List Sp}{E:List Se}(h:Has L z37):K23 (cx G L E):=fun sh gl nm ar cd h1 h2 h3 h4=>h (sh,gl,nm,ar,cd) ⟨h1,h2,h3,h4⟩
theorem j2E{G:Nat→Option (List D)}{L:List Sp}{E:List Se}(h:Has L z13):K13 (cx G L E):=fun t h1=>h t h1
theorem j2B{G:Nat→Option (List D)}{L:List Sp}{E:List Se}(h:Has L z28):K46 (cx G L E):=fun sh gl ⟨op,a,b⟩=>h (sh,gl,op,a,b) trivial
theorem z9R{G:Nat→Option (List D)}{L:List Sp}{E:List Se}(h:Has L z32):K48 (cx G L E):=fun⟨op,a,b⟩=>h (op,a,b) trivial
theorem j2z{G:Nat→Option (List D)}{L:List Sp}{E:List Se}(h:Has L z30):K51 (cx G L E):=fun⟨op,a,b⟩=>h (op,a,b) trivial
theorem j2A{G:Nat→Option (List D)}{L:List Sp}{E:List Se}(h:Has L z29):K49 (cx G L E):=fun sh gl ⟨op,a,b⟩ d h1 h2=>h (sh,gl,op,a,b,d) ⟨h1,h2⟩
theorem j2y{G:Nat→Option (List D)}{L:List Sp}{E:List Se}(h:Has L z31):K50 (cx G L E):=fun sh gl ⟨op,a,b⟩ d h1 h2 h3=>h (sh,gl,op,a,b,d) ⟨h1,h2,h3⟩
theorem j2l{G:Nat→Option (List D)}{L:List Sp}{E:List Se}(h:HasE E y82):K43 (cx G L E):=fun c Dp at_ d n h1 h2=>by subst h2;exact h (c,Dp,at_,d) h1
theorem j2G{G:Nat→Option (List D)}{L:List Sp}{E:List Se}(h:Has L z11):(cx G L E).call 11 []=some (.d false (.bool true),[]):=h () trivial
noncomputable def ZL0:List Sp:=[z11]
noncomputable def ZE0:List Se:=[y82]
theorem zn0:Known Tryz.prog GT ZL0 ZE0:=(Known.nil.put (s:=z11) (fun _ _=>j31)).addE q0N (fun⟨c,Dp,at_,d⟩ _=>j2R) (fun⟨c,Dp,at_,d⟩ h=>z82 _ c Dp at_ d h _ rfl)
noncomputable def ZL1:List Sp:=z35 :: ZL0
theorem zn1:Known Tryz.prog GT ZL1 ZE0:=by
 exact zn0.add q0N (fun s _=>j3q) (fun s h1=>⟨_,z6W _ s h1⟩)
noncomputable def ZL2:List Sp:=z36 :: ZL1
theorem zn2:Known Tryz.prog GT ZL2 ZE0:=by
 exact zn1.add q0N (fun u _=>j3p) (fun u _=>⟨_,z9b _⟩)
noncomputable def ZL3:List Sp:=z34 :: ZL2
theorem zn3:Known Tryz.prog GT ZL3 ZE0:=by
 exact zn2.add q0N (fun t _=>j3r) (fun t h1=>⟨_,z9a _ t h1.gl h1.sh h1.cd⟩)
noncomputable def ZL4:List Sp:=z79 :: ZL3
theorem zn4:Known Tryz.prog GT ZL4 ZE0:=by
 exact zn3.add q0N (fun op _=>j2U) (fun op _=>⟨_,z9c _ op⟩)
noncomputable def ZL5:List Sp:=z80 :: ZL4
theorem zn5:Known Tryz.prog GT ZL5 ZE0:=by
 exact zn4.add q0N (fun⟨sh,gl,nm,ar,cd,at_,n,kind⟩ _=>j2T) (fun⟨sh,gl,nm,ar,cd,at_,n,kind⟩ h1=>⟨_,z6V _ ⟨sh,gl⟩ ⟨nm,ar,cd⟩ at_ n kind h1⟩)
noncomputable def ZL6:List Sp:=z81 :: ZL5
theorem zn6:Known Tryz.prog GT ZL6 ZE0:=by
 exact zn5.add q0N (fun⟨sh,gl,op,a,b,d⟩ _=>j2S) (fun⟨sh,gl,op,a,b,d⟩ ⟨h1,h2,h3⟩=>⟨_,z4h _ ⟨sh,gl⟩ ⟨op,a,b⟩ d h1 h2 h3⟩)
noncomputable def ZL7:List Sp:=z37 :: ZL6
theorem zn7:Known Tryz.prog GT ZL7 ZE0:=by
 have k79:=z9Q (G:=GT) (E:=ZE0) (show Has ZL6 z79 by repeat(first|exact q0w _ _|refine q0v ?_ (by decide)))
 have k80:=j2n (G:=GT) (E:=ZE0) (show Has ZL6 z80 by repeat(first|exact q0w _ _|refine q0v ?_ (by decide)))
 have k81:=j2m (G:=GT) (E:=ZE0) (show Has ZL6 z81 by repeat(first|exact q0w _ _|refine q0v ?_ (by decide)))
 have k82:K43 (cx GT ZL6 ZE0):=j2l (q1W _ _)
 exact zn6.add q0N (fun⟨sh,gl,nm,ar,cd⟩ _=>j3o) (fun⟨sh,gl,nm,ar,cd⟩ ⟨h1,h2,h3,h4⟩=>⟨_,z0T _ k79 k80 k81 k82 sh gl ⟨nm,ar,cd⟩ h1 h2 h3 h4⟩)
noncomputable def ZL8:List Sp:=z13 :: ZL7
theorem zn8:Known Tryz.prog GT ZL8 ZE0:=by
 have k34:=j2x (G:=GT) (E:=ZE0) (show Has ZL7 z34 by repeat(first|exact q0w _ _|refine q0v ?_ (by decide)))
 have k35:=j2w (G:=GT) (E:=ZE0) (show Has ZL7 z35 by repeat(first|exact q0w _ _|refine q0v ?_ (by decide)))
 have k36:=j2v (G:=GT) (E:=ZE0) (show Has ZL7 z36 by repeat(first|exact q0w _ _|refine q0v ?_ (by decide)))
 have k37:=j2u (G:=GT) (E:=ZE0) (show Has ZL7 z37 by repeat(first|exact q0w _ _|refine q0v ?_ (by decide)))
 exact zn7.add q0N (fun t _=>j3E) (fun t h1=>⟨_,z9e _ k34 k35 k36 k37 t h1⟩)
noncomputable def ZL9:List Sp:=z28 :: ZL8
theorem zn9:Known Tryz.prog GT ZL9 ZE0:=by
 exact zn8.add q0N (fun⟨sh,gl,op,a,b⟩ _=>j3w) (fun⟨sh,gl,op,a,b⟩ _=>⟨_,z4k _ sh gl ⟨op,a,b⟩⟩)
noncomputable def ZL10:List Sp:=z32 :: ZL9
theorem zn10:Known Tryz.prog GT ZL10 ZE0:=by
 exact zn9.add q0N (fun⟨op,a,b⟩ _=>j3s) (fun⟨op,a,b⟩ _=>⟨_,z66 _ ⟨op,a,b⟩⟩)
noncomputable def ZL11:List Sp:=z30 :: ZL10
theorem zn11:Known Tryz.prog GT ZL11 ZE0:=by
 exact zn10.add q0N (fun⟨op,a,b⟩ _=>j3u) (fun⟨op,a,b⟩ _=>⟨_,j1w _ ⟨op,a,b⟩⟩)
noncomputable def ZL12:List Sp:=z29 :: ZL11
theorem zn12:Known Tryz.prog GT ZL12 ZE0:=by
 exact zn11.add q0N (fun⟨sh,gl,op,a,b,d⟩ _=>j3v) (fun⟨sh,gl,op,a,b,d⟩ ⟨h1,h2⟩=>⟨_,z9g _ sh gl ⟨op,a,b⟩ d h1 h2⟩)
noncomputable def ZL13:List Sp:=z31 :: ZL12
theorem zn13:Known Tryz.prog GT ZL13 ZE0:=by
 exact zn12.add q0N (fun⟨sh,gl,op,a,b,d⟩ _=>j3t) (fun⟨sh,gl,op,a,b,d⟩ ⟨h1,h2,h3⟩=>⟨_,z67 _ sh gl ⟨op,a,b⟩ d h1 h2 h3⟩)
end Go.Vm
end

section
namespace Go.Vm
open Go.RowKit Go.Shelf Go.Proofs
set_option maxRecDepth 20000
theorem z7u{α:Type}{a b c:List α}(h:a++c=b++c):a=b:=List.append_cancel_right h
theorem z8W{a b:List Instr}(h:finI a=finI b):a=b:=z7u h
theorem z2o{z:Bool}{t u:Table}(h:tblk z 2 t=tblk z 2 u):t=u:=by
 simp only[tblk,List.cons.injEq,Blk.dat.injEq,mS,true_and] at h
 obtain⟨h1,h2,h3⟩:=h
 have hs:t.shapes=u.shapes:=z7u h1
 have hl:t.globals.length=u.globals.length:=by have:=congrArg List.length h3;simpa using this
 have key:∀ i,i<t.globals.length→nth t.globals (i:Int)=nth u.globals i:=by
  intro i hi
  have r1:=q6R (z:=z) (p:=2) hi
  have r2:=q6R (z:=z) (p:=2) (gs:=u.globals) (i:=i) (by omega)
  rw[h2,r2] at r1
  have c1:=congrArg (·[i]?) h3
  simp only[List.getElem?_map,q1o hi,q1o (show i<u.globals.length by omega),Option.map_some,Option.some.injEq,cB,Blk.dat.injEq,mI,true_and] at c1
  have c2:=z8W c1
  have r3:=Option.some.inj r1
  simp only[rowG,List.cons.injEq,V.d.injEq,D.str.injEq,D.int.injEq,true_and] at r3
  generalize nth t.globals (i:Int)=x at *
  generalize nth u.globals (i:Int)=y at *
  cases x;cases y
  simp only at c2 r3
  simp only[Glob.mk.injEq]
  exact⟨r3.1.symm,r3.2.1.symm,c2⟩
 refine q4d _ _ ⟨hs,List.ext_getElem hl fun i a b=>?_⟩
 have:=key i a
 have e1:=q1o a
 have e2:=q1o b
 rw[List.getElem?_eq_getElem a] at e1
 rw[List.getElem?_eq_getElem b] at e2
 rw[Option.some.inj e1,Option.some.inj e2,this]
noncomputable def z84:Sp where
 α:=Int×Int×Int
 f:=84
 ok:=fun(op,a,b)=>True
 args:=fun(op,a,b)=>[.agg [.d false (.int .i64 op),.d false (.int .i64 a),.d false (.int .i64 b)]]
 res:=fun(op,a,b)=>(.d false (.bool (q7V ⟨op,a,b⟩)),[])
 inj:=by
  rintro⟨op,a,b⟩ ⟨op',a',b'⟩ _ _ h
  simp only[List.cons.injEq,V.agg.injEq,V.d.injEq,D.sl.injEq,D.int.injEq,D.str.injEq,D.ptr.injEq,Int.natCast_inj,mI,mS,mG,mN,true_and,and_true] at h
  simp only[h]
theorem j2k{G:Nat→Option (List D)}{L:List Sp}{E:List Se}(h:Has L z84):K47 (cx G L E):=fun⟨op,a,b⟩=>h (op,a,b) trivial
noncomputable def ZL14:List Sp:=z84 :: ZL13
theorem zn14:Known Tryz.prog GT ZL14 ZE0:=by
 exact zn13.add q0N (fun⟨op,a,b⟩ _=>j2P) (fun⟨op,a,b⟩ _=>⟨_,z89 _ ⟨op,a,b⟩⟩)
noncomputable def z83:Sp where
 α:=List UInt8
 f:=83
 ok:=fun s=>((s.length:Int)≤9223372036854775807)
 args:=fun s=>[.d false (.str s)]
 res:=fun s=>(.d false (.bool (q1w s)),[])
 inj:=by
  rintro s s' _ _ h
  simp only[List.cons.injEq,V.agg.injEq,V.d.injEq,D.sl.injEq,D.int.injEq,D.str.injEq,D.ptr.injEq,Int.natCast_inj,mI,mS,mG,mN,true_and,and_true] at h
  rw[h]
theorem z9P{G:Nat→Option (List D)}{L:List Sp}{E:List Se}(h:Has L z83):K44 (cx G L E):=fun s h1=>h s h1
noncomputable def ZL15:List Sp:=z83 :: ZL14
theorem zn15:Known Tryz.prog GT ZL15 ZE0:=by
 exact zn14.add q0N (fun s _=>j2Q) (fun s h1=>⟨_,z87 _ s h1⟩)
noncomputable def z78:Sp where
 α:=Unit
 f:=78
 ok:=fun u=>True
 args:=fun u=>[]
 res:=fun u=>(.bsl 0 0 7,[.dat true 2 (givenS.map q0g)])
 inj:=by
  rintro u u' _ _ h
  rfl
theorem j2o{G:Nat→Option (List D)}{L:List Sp}{E:List Se}(h:Has L z78):K45 (cx G L E):=h () trivial
noncomputable def ZL16:List Sp:=z78 :: ZL15
theorem zn16:Known Tryz.prog GT ZL16 ZE0:=by
 exact zn15.add q0N (fun u _=>j2V) (fun u _=>⟨_,z4i _⟩)
noncomputable def z38:Sp where
 α:=Table
 f:=38
 ok:=fun t=>(TabOk t)
 args:=fun t=>[.agg [.d false (.sl 2 (t.shapes.map q0g)),.d false (.sl 3 (t.globals.map q0G))]]
 res:=fun t=>(.d false (.bool (q37 t)),[])
 inj:=by
  rintro t t' _ _ h
  simp only[tabV,List.cons.injEq,V.agg.injEq,V.d.injEq,D.sl.injEq,mS,mG,true_and,and_true] at h
  rw[q4d _ _ h]
theorem j2t{G:Nat→Option (List D)}{L:List Sp}{E:List Se}(h:Has L z38):K24 (cx G L E):=fun t h1=>h t h1
noncomputable def ZL17:List Sp:=z38 :: ZL16
theorem zn17:Known Tryz.prog GT ZL17 ZE0:=by
 exact zn16.add q0N (fun t _=>j3n) (fun t h1=>⟨_,j1v _ t h1.gl h1.sh h1.cd⟩)
noncomputable def z39:Sp where
 α:=List Shape
 f:=39
 ok:=fun l=>((l.length:Int)≤9223372036854775807)∧(∀ s∈l,(s.name.length:Int)≤9223372036854775807)
 args:=fun l=>[.d false (.sl 2 (l.map q0g))]
 res:=fun l=>(.d false (.int .i64 (q5G l)),[])
 inj:=by
  rintro l l' _ _ h
  simp only[List.cons.injEq,V.agg.injEq,V.d.injEq,D.sl.injEq,D.int.injEq,D.str.injEq,D.ptr.injEq,Int.natCast_inj,mI,mS,mG,mN,true_and,and_true] at h
  rw[h]
theorem j2s{G:Nat→Option (List D)}{L:List Sp}{E:List Se}(h:Has L z39):K25 (cx G L E):=fun l h1 h2=>h l ⟨h1,h2⟩
noncomputable def ZL18:List Sp:=z39 :: ZL17
theorem zn18:Known Tryz.prog GT ZL18 ZE0:=by
 have k83:=z9P (G:=GT) (E:=ZE0) (show Has ZL17 z83 by repeat(first|exact q0w _ _|refine q0v ?_ (by decide)))
 have k78:=j2o (G:=GT) (E:=ZE0) (show Has ZL17 z78 by repeat(first|exact q0w _ _|refine q0v ?_ (by decide)))
 exact zn17.add q0N (fun l _=>j3m) (fun l ⟨h1,h2⟩=>⟨_,z1U _ k83 k78 l h1 h2⟩)
noncomputable def z40:Sp where
 α:=List Glob
 f:=40
 ok:=fun l=>((l.length:Int)≤9223372036854775807)∧(∀ s∈l,(s.name.length:Int)≤9223372036854775807)
 args:=fun l=>[.d false (.sl 3 (l.map q0G))]
 res:=fun l=>(.d false (.int .i64 (q7Z l)),[])
 inj:=by
  rintro l l' _ _ h
  simp only[List.cons.injEq,V.agg.injEq,V.d.injEq,D.sl.injEq,D.int.injEq,D.str.injEq,D.ptr.injEq,Int.natCast_inj,mI,mS,mG,mN,true_and,and_true] at h
  rw[h]
theorem j2r{G:Nat→Option (List D)}{L:List Sp}{E:List Se}(h:Has L z40):K26 (cx G L E):=fun l h1 h2=>h l ⟨h1,h2⟩
noncomputable def ZL19:List Sp:=z40 :: ZL18
theorem zn19:Known Tryz.prog GT ZL19 ZE0:=by
 have k83:=z9P (G:=GT) (E:=ZE0) (show Has ZL18 z83 by repeat(first|exact q0w _ _|refine q0v ?_ (by decide)))
 exact zn18.add q0N (fun l _=>j3l) (fun l ⟨h1,h2⟩=>⟨_,z6X _ k83 l h1 h2⟩)
noncomputable def z41:Sp where
 α:=List Shape×List Glob×List Instr
 f:=41
 ok:=fun(sh,gl,cd)=>(cd.length≤8000)
 args:=fun(sh,gl,cd)=>[.agg [.d false (.sl 2 (sh.map q0g)),.d false (.sl 3 (gl.map q0G))],.d false (.sl 3 (cd.map q0C))]
 res:=fun(sh,gl,cd)=>(.d false (.int .i64 (q4A gl.length sh cd)),[])
 inj:=by
  rintro⟨sh,gl,cd⟩ ⟨sh',gl',cd'⟩ _ _ h
  simp only[List.cons.injEq,V.agg.injEq,V.d.injEq,D.sl.injEq,D.int.injEq,D.str.injEq,D.ptr.injEq,Int.natCast_inj,mI,mS,mG,mN,true_and,and_true] at h
  simp only[h]
theorem j2q{G:Nat→Option (List D)}{L:List Sp}{E:List Se}(h:Has L z41):K27 (cx G L E):=fun sh gl cd h1=>h (sh,gl,cd) h1
noncomputable def ZL20:List Sp:=z41 :: ZL19
theorem zn20:Known Tryz.prog GT ZL20 ZE0:=by
 have k28:=j2B (G:=GT) (E:=ZE0) (show Has ZL19 z28 by repeat(first|exact q0w _ _|refine q0v ?_ (by decide)))
 have k84:=j2k (G:=GT) (E:=ZE0) (show Has ZL19 z84 by repeat(first|exact q0w _ _|refine q0v ?_ (by decide)))
 have k32:=z9R (G:=GT) (E:=ZE0) (show Has ZL19 z32 by repeat(first|exact q0w _ _|refine q0v ?_ (by decide)))
 exact zn19.add q0N (fun⟨sh,gl,cd⟩ _=>j3k) (fun⟨sh,gl,cd⟩ h1=>⟨_,z1W _ k28 k84 k32 sh gl cd h1⟩)
open Classical in
noncomputable def z7m:List Shape×List Glob×List UInt8×Int×List Instr→Bool×List (List D):=fun(sh,gl,nm,ar,cd)=>if h:∃ q:Bool×List (List D),q0B (cx GT ZL20 ZE0) f42 [.agg [.d false (.sl 2 (sh.map q0g)),.d false (.sl 3 (gl.map q0G))],.agg [.d false (.str nm),.d false (.int .i64 ar),.d false (.sl 3 (cd.map q0C))]] []=some (.tup [.d q.1 (.sl 1 q.2),.d false (.int .i64 (depL sh cd cd.length 0 ((List.replicate cd.length 0).set 0 (ar+1))))],[],[]) then h.choose else(false,[])
noncomputable def z42:Sp where
 α:=List Shape×List Glob×List UInt8×Int×List Instr
 f:=42
 ok:=fun(sh,gl,nm,ar,cd)=>(cd.length≤8000)∧(0<cd.length)∧(0≤ar∧ar≤24)∧(ShOk sh)∧(∀ i:Nat,i<cd.length→NumOk sh.length cd.length i (nth cd i))∧(∀ x∈cd,x.a≤9223372036854775807)
 args:=fun(sh,gl,nm,ar,cd)=>[.agg [.d false (.sl 2 (sh.map q0g)),.d false (.sl 3 (gl.map q0G))],.agg [.d false (.str nm),.d false (.int .i64 ar),.d false (.sl 3 (cd.map q0C))]]
 res:=fun(sh,gl,nm,ar,cd)=>(.tup [.d (z7m (sh,gl,nm,ar,cd)).1 (.sl 1 (z7m (sh,gl,nm,ar,cd)).2),.d false (.int .i64 (depL sh cd cd.length 0 ((List.replicate cd.length 0).set 0 (ar+1))))],[])
 inj:=by
  rintro⟨sh,gl,nm,ar,cd⟩ ⟨sh',gl',nm',ar',cd'⟩ _ _ h
  simp only[List.cons.injEq,V.agg.injEq,V.d.injEq,D.sl.injEq,D.int.injEq,D.str.injEq,D.ptr.injEq,Int.natCast_inj,mI,mS,mG,mN,true_and,and_true] at h
  simp only[h]
theorem j2p{G:Nat→Option (List D)}{L:List Sp}{E:List Se}(h:Has L z42):K28 (cx G L E):=fun sh gl nm ar cd h1 h2 h3 h4 h5 h6=>⟨_,_,h (sh,gl,nm,ar,cd) ⟨h1,h2,h3,h4,h5,h6⟩⟩
noncomputable def ZL21:List Sp:=z42 :: ZL20
theorem zn21:Known Tryz.prog GT ZL21 ZE0:=by
 have k32:=z9R (G:=GT) (E:=ZE0) (show Has ZL20 z32 by repeat(first|exact q0w _ _|refine q0v ?_ (by decide)))
 have k29:=j2A (G:=GT) (E:=ZE0) (show Has ZL20 z29 by repeat(first|exact q0w _ _|refine q0v ?_ (by decide)))
 have k31:=j2y (G:=GT) (E:=ZE0) (show Has ZL20 z31 by repeat(first|exact q0w _ _|refine q0v ?_ (by decide)))
 have k30:=j2z (G:=GT) (E:=ZE0) (show Has ZL20 z30 by repeat(first|exact q0w _ _|refine q0v ?_ (by decide)))
 refine zn20.add q0N (fun⟨sh,gl,nm,ar,cd⟩ _=>j3j) (fun⟨sh,gl,nm,ar,cd⟩ ⟨h1,h2,h3,h4,h5,h6⟩=>⟨[],?_⟩)
 obtain⟨cc,U,e⟩:=z6Z _ k32 k29 k31 k30 sh gl nm ar cd h1 h2 h3 h4 h5 h6
 have hx:∃ q:Bool×List (List D),q0B (cx GT ZL20 ZE0) f42 [.agg [.d false (.sl 2 (sh.map q0g)),.d false (.sl 3 (gl.map q0G))],.agg [.d false (.str nm),.d false (.int .i64 ar),.d false (.sl 3 (cd.map q0C))]] []=some (.tup [.d q.1 (.sl 1 q.2),.d false (.int .i64 (depL sh cd cd.length 0 ((List.replicate cd.length 0).set 0 (ar+1))))],[],[]):=⟨(cc,U),e⟩
 have e2:z7m (sh,gl,nm,ar,cd)=hx.choose:=dif_pos hx
 show q0B (cx GT ZL20 ZE0) f42 _ []=some (.tup [.d (z7m (sh,gl,nm,ar,cd)).1 (.sl 1 (z7m (sh,gl,nm,ar,cd)).2),_],[],[])
 rw[e2]
 exact hx.choose_spec
noncomputable def z14:Sp where
 α:=Table
 f:=14
 ok:=fun t=>(TabOk t)
 args:=fun t=>[.agg [.d false (.sl 2 (t.shapes.map q0g)),.d false (.sl 3 (t.globals.map q0G))]]
 res:=fun t=>(.d false (.int .i64 (q2e t)),[])
 inj:=by
  rintro t t' _ _ h
  simp only[tabV,List.cons.injEq,V.agg.injEq,V.d.injEq,D.sl.injEq,mS,mG,true_and,and_true] at h
  rw[q4d _ _ h]
theorem j2D{G:Nat→Option (List D)}{L:List Sp}{E:List Se}(h:Has L z14):L14 (cx G L E):=fun t h1=>h t h1
noncomputable def ZL22:List Sp:=z14 :: ZL21
theorem zn22:Known Tryz.prog GT ZL22 ZE0:=by
 have k38:=j2t (G:=GT) (E:=ZE0) (show Has ZL21 z38 by repeat(first|exact q0w _ _|refine q0v ?_ (by decide)))
 have k39:=j2s (G:=GT) (E:=ZE0) (show Has ZL21 z39 by repeat(first|exact q0w _ _|refine q0v ?_ (by decide)))
 have k40:=j2r (G:=GT) (E:=ZE0) (show Has ZL21 z40 by repeat(first|exact q0w _ _|refine q0v ?_ (by decide)))
 have k41:=j2q (G:=GT) (E:=ZE0) (show Has ZL21 z41 by repeat(first|exact q0w _ _|refine q0v ?_ (by decide)))
 have k42:=j2p (G:=GT) (E:=ZE0) (show Has ZL21 z42 by repeat(first|exact q0w _ _|refine q0v ?_ (by decide)))
 exact zn21.add q0N (fun t _=>j3D) (fun t h1=>⟨_,z61 _ k38 k39 k40 k41 k42 t h1⟩)
noncomputable def z15:Sp where
 α:=Table×Table
 f:=15
 ok:=fun(a,b)=>(Big a)∧(Big b)
 args:=fun(a,b)=>[.agg (tabV a),.agg (tabV b)]
 res:=fun(a,b)=>(.d false (.bool (decide (a=b))),[])
 inj:=by
  rintro⟨a,b⟩ ⟨a',b'⟩ _ _ h
  simp only[tabV,List.cons.injEq,V.agg.injEq,V.d.injEq,D.sl.injEq,mS,mG,true_and,and_true] at h
  rw[q4d _ _ h.1,q4d _ _ h.2]
theorem j2C{G:Nat→Option (List D)}{L:List Sp}{E:List Se}(h:Has L z15):L15 (cx G L E):=fun a b h1 h2=>h (a,b) ⟨h1,h2⟩
noncomputable def ZL23:List Sp:=z15 :: ZL22
theorem zn23:Known Tryz.prog GT ZL23 ZE0:=by
 exact zn22.add q0N (fun⟨a,b⟩ _=>j3C) (fun⟨a,b⟩ ⟨h1,h2⟩=>⟨_,j1q _ a b h1 h2⟩)
noncomputable def z12:Sp where
 α:=Table
 f:=12
 ok:=fun t=>(Sm t)
 args:=fun t=>[.agg (tabV t)]
 res:=fun t=>(.agg [.bsx 0 0 t.shapes.length,.bsx 1 0 t.globals.length],tblk true 2 t)
 inj:=by
  rintro t t' _ _ h
  simp only[tabV,List.cons.injEq,V.agg.injEq,V.d.injEq,D.sl.injEq,mS,mG,true_and,and_true] at h
  rw[q4d _ _ h]
theorem j2F{G:Nat→Option (List D)}{L:List Sp}{E:List Se}(h:Has L z12):L12 (cx G L E):=fun t h1=>h t h1
noncomputable def ZL24:List Sp:=z12 :: ZL23
theorem zn24:Known Tryz.prog GT ZL24 ZE0:=by
 exact zn23.add q0N (fun t _=>j3F) (fun t h1=>⟨_,z8M _ t h1⟩)
noncomputable def y16:Se where
 α:=Table
 f:=16
 ok:=fun t=>Sm t
 args:=fun t=>[.agg [.bsx 0 0 t.shapes.length,.bsx 1 0 t.globals.length]]
 blks:=fun t=>tblk false 2 t
 res:=fun t=>(.d false (.bool true),tblk false 2 t,[])
 inj:=by
  rintro t t' _ _ _ h
  rw[z2o h]
noncomputable def y17:Se where
 α:=Table
 f:=17
 ok:=fun t=>Sm t
 args:=fun t=>[.agg [.bsx 0 0 t.shapes.length,.bsx 1 0 t.globals.length]]
 blks:=fun t=>tblk false 2 t
 res:=fun t=>(.tup [],q3X t,[])
 inj:=by
  rintro t t' _ _ _ h
  rw[z2o h]
noncomputable def ZE1:List Se:=y17 :: y16 :: ZE0
theorem znE:Known Tryz.prog GT ZL24 ZE1:=(zn24.addE (s:=y16) q0N (fun t _=>j1h _) (fun t h=>z8P _ t h)).addE (s:=y17) q0N (fun t _=>j1g _) (fun t h=>z8f _ t h)
theorem j2j{G:Nat→Option (List D)}{L:List Sp}{E:List Se}(h:HasE E y16):L16 (cx G L E):=fun t ht=>h t ht
theorem j2i{G:Nat→Option (List D)}{L:List Sp}{E:List Se}(h:HasE E y17):L17 (cx G L E):=fun t ht=>h t ht
end Go.Vm
end

section
namespace Go.Vm
open Go.RowKit Go.Shelf Go.Proofs
set_option maxRecDepth 20000
theorem mU(l l':Bs):l.map eU=l'.map eU↔l=l':=⟨q6n (fun a b h=>by simpa [eU,u8k2] using h) l l',fun h=>by rw[h]⟩
theorem z2q{t u:Table}(h:tabV t=tabV u):t=u:=by
 simp only[tabV,List.cons.injEq,V.d.injEq,D.sl.injEq,mS,mG,true_and,and_true] at h
 exact q4d _ _ h
theorem j04{x y:Instr}(h:[V.d false (.int .i64 x.op),.d false (.int .i64 x.a),.d false (.int .i64 x.b)]=[V.d false (.int .i64 y.op),.d false (.int .i64 y.a),.d false (.int .i64 y.b)]):x=y:=by
 simp only[List.cons.injEq,V.d.injEq,D.int.injEq,true_and,and_true] at h
 cases x;cases y;simp_all
noncomputable def y43:Se where
 α:=Bool×Bs×Bs
 f:=43
 ok:=fun(_,l,s)=>l.length≤1000000000000∧s.length≤1000000000∧s≠[]
 args:=fun(_,l,s)=>[.bsl 0 0 l.length,.d false (.str s)]
 blks:=fun(c,l,_)=>[.dat c 1 (l.map eU)]
 res:=fun(c,l,s)=>(.bsl 0 0 (l++s).length,[.dat c 1 ((l++s).map eU)],[0])
 inj:=by
  rintro⟨c,l,s⟩ ⟨c',l',s'⟩ _ _ h h2
  simp only[List.cons.injEq,V.bsl.injEq,V.d.injEq,D.str.injEq,true_and,and_true] at h
  simp only[List.cons.injEq,Blk.dat.injEq,mU,true_and,and_true] at h2
  simp only[h,h2]
noncomputable def y63:Se where
 α:=Bs×Nat
 f:=63
 ok:=fun(l,n)=>l.length≤999999999000∧n≤18446744073709551615
 args:=fun(l,n)=>[.bsl 0 0 l.length,.d false (.int .u64 n)]
 blks:=fun(l,_)=>[.dat false 1 (l.map eU)]
 res:=fun(l,n)=>(.bsl 0 0 (l++leb n).length,[.dat false 1 ((l++leb n).map eU)],[0])
 inj:=by
  rintro⟨l,n⟩ ⟨l',n'⟩ _ _ h h2
  simp only[List.cons.injEq,V.bsl.injEq,V.d.injEq,D.int.injEq,Int.natCast_inj,true_and,and_true] at h
  simp only[List.cons.injEq,Blk.dat.injEq,mU,true_and,and_true] at h2
  simp only[h,h2]
noncomputable def y68:Se where
 α:=Bs×Nat
 f:=68
 ok:=fun(l,n)=>l.length≤999999999000∧n≤18446744073709551615
 args:=fun(l,n)=>[.bsl 0 0 l.length,.d false (.int .u64 n)]
 blks:=fun(l,_)=>[.dat false 1 (l.map eU)]
 res:=fun(l,n)=>(.bsl 0 0 (l++leb n).length,[.dat false 1 ((l++leb n).map eU)],[0])
 inj:=by
  rintro⟨l,n⟩ ⟨l',n'⟩ _ _ h h2
  simp only[List.cons.injEq,V.bsl.injEq,V.d.injEq,D.int.injEq,Int.natCast_inj,true_and,and_true] at h
  simp only[List.cons.injEq,Blk.dat.injEq,mU,true_and,and_true] at h2
  simp only[h,h2]
noncomputable def y64:Se where
 α:=Bs×Bs
 f:=64
 ok:=fun(l,s)=>l.length≤999999990000∧s.length≤100000∧s≠[]
 args:=fun(l,s)=>[.bsl 0 0 l.length,.d false (.str s)]
 blks:=fun(l,_)=>[.dat false 1 (l.map eU)]
 res:=fun(l,s)=>(.bsl 0 0 (l++q15 s).length,[.dat false 1 ((l++q15 s).map eU)],[0])
 inj:=by
  rintro⟨l,n⟩ ⟨l',n'⟩ _ _ h h2
  simp only[List.cons.injEq,V.bsl.injEq,V.d.injEq,D.str.injEq,true_and,and_true] at h
  simp only[List.cons.injEq,Blk.dat.injEq,mU,true_and,and_true] at h2
  simp only[h,h2]
noncomputable def y69:Se where
 α:=Bs×Bs
 f:=69
 ok:=fun(l,s)=>l.length≤999999990000∧s.length≤100000∧s≠[]
 args:=fun(l,s)=>[.bsl 0 0 l.length,.d false (.str s)]
 blks:=fun(l,_)=>[.dat false 1 (l.map eU)]
 res:=fun(l,s)=>(.bsl 0 0 (l++q15 s).length,[.dat false 1 ((l++q15 s).map eU)],[0])
 inj:=by
  rintro⟨l,n⟩ ⟨l',n'⟩ _ _ h h2
  simp only[List.cons.injEq,V.bsl.injEq,V.d.injEq,D.str.injEq,true_and,and_true] at h
  simp only[List.cons.injEq,Blk.dat.injEq,mU,true_and,and_true] at h2
  simp only[h,h2]
noncomputable def y70:Se where
 α:=Bs×Instr
 f:=70
 ok:=fun(l,x)=>l.length≤999999990000∧(1≤x.op∧x.op<18)∧NumR x
 args:=fun(l,x)=>[.bsl 0 0 l.length,.agg [.d false (.int .i64 x.op),.d false (.int .i64 x.a),.d false (.int .i64 x.b)]]
 blks:=fun(l,_)=>[.dat false 1 (l.map eU)]
 res:=fun(l,x)=>(.bsl 0 0 (l++q1C x).length,[.dat false 1 ((l++q1C x).map eU)],[0])
 inj:=by
  rintro⟨l,x⟩ ⟨l',x'⟩ _ _ h h2
  simp only[List.cons.injEq,V.agg.injEq,and_true] at h
  simp only[List.cons.injEq,Blk.dat.injEq,mU,true_and,and_true] at h2
  rw[h2,j04 (x:=x) (y:=x') (by simp only[List.cons.injEq,and_true];exact h.2)]
noncomputable def Sp65:Sp where
 α:=Int
 f:=65
 ok:=fun _=>True
 args:=fun n=>[.d false (.int .i64 n)]
 res:=fun n=>(.d false (.str (q4L n)),[])
 inj:=by
  rintro n n' _ _ h
  simp only[List.cons.injEq,V.d.injEq,D.int.injEq,true_and,and_true] at h
  rw[h]
noncomputable def Sp71:Sp where
 α:=Int
 f:=71
 ok:=fun _=>True
 args:=fun n=>[.d false (.int .u32 n)]
 res:=fun n=>(.d true (.sl 1 ((q4K n).map eU)),[])
 inj:=by
  rintro n n' _ _ h
  simp only[List.cons.injEq,V.d.injEq,D.int.injEq,true_and,and_true] at h
  rw[h]
noncomputable def Sp66:Sp where
 α:=Int
 f:=66
 ok:=fun n=>-9223372036854775808≤n∧n≤9223372036854775807
 args:=fun n=>[.d false (.int .i64 n)]
 res:=fun n=>(.d false (.int .u64 (q2x n)),[])
 inj:=by
  rintro n n' _ _ h
  simp only[List.cons.injEq,V.d.injEq,D.int.injEq,true_and,and_true] at h
  rw[h]
noncomputable def z9H:Sp where
 α:=Int
 f:=100
 ok:=fun n=>-9223372036854775808≤n∧n≤9223372036854775807
 args:=fun n=>[.d false (.int .i64 n)]
 res:=fun n=>(.d false (.int .u64 (q2x n)),[])
 inj:=by
  rintro n n' _ _ h
  simp only[List.cons.injEq,V.d.injEq,D.int.injEq,true_and,and_true] at h
  rw[h]
noncomputable def Sp67:Sp where
 α:=Bs
 f:=67
 ok:=fun l=>l.length≤1000000000000
 args:=fun l=>[.d false (.sl 1 (l.map eU))]
 res:=fun l=>(.d false (.int .u32 (sumS l)),[])
 inj:=by
  rintro n n' _ _ h
  simp only[List.cons.injEq,V.d.injEq,D.sl.injEq,mU,true_and,and_true] at h
  rw[h]
noncomputable def Sp72:Sp where
 α:=Bs
 f:=72
 ok:=fun l=>l.length≤1000000000000
 args:=fun l=>[.d false (.sl 1 (l.map eU))]
 res:=fun l=>(.d false (.int .u32 (sumS l)),[])
 inj:=by
  rintro n n' _ _ h
  simp only[List.cons.injEq,V.d.injEq,D.sl.injEq,mU,true_and,and_true] at h
  rw[h]
noncomputable def Sp25:Sp where
 α:=Bs
 f:=25
 ok:=fun l=>l.length≤8388608
 args:=fun l=>[.d false (.sl 1 (l.map eU)),.d false (.sl 1 (l.map eU))]
 res:=fun _=>(.d false (.bool true),[])
 inj:=by
  rintro n n' _ _ h
  rfl
noncomputable def Sp23:Sp where
 α:=Table
 f:=23
 ok:=fun t=>TabOk t∧t.shapes.length≤1048576
 args:=fun t=>[.agg (tabV t)]
 res:=fun t=>(.tup [vBy (q0a t),.d false (.int .i64 (q0a t).2)],[])
 inj:=by
  rintro t t' _ _ h
  simp only[List.cons.injEq,V.agg.injEq,and_true] at h
  rw[z2q h]
noncomputable def Sp24:Sp where
 α:=Table
 f:=24
 ok:=fun t=>TabOk t∧t.shapes.length≤1048576
 args:=fun t=>[.agg (tabV t)]
 res:=fun t=>rBy (q0a t)
 inj:=by
  rintro t t' _ _ h
  simp only[List.cons.injEq,V.agg.injEq,and_true] at h
  rw[z2q h]
theorem j43{L:List Sp}{E:List Se}(h:HasE E y43):M43 (cx GT L E):=fun c l s h1 h2 h3=>h (c,l,s) ⟨h1,h2,h3⟩
theorem j63{L:List Sp}{E:List Se}(h:HasE E y63):M63 (cx GT L E):=fun l n h1 h2=>h (l,n) ⟨h1,h2⟩
theorem j68{L:List Sp}{E:List Se}(h:HasE E y68):M68 (cx GT L E):=fun l n h1 h2=>h (l,n) ⟨h1,h2⟩
theorem j64{L:List Sp}{E:List Se}(h:HasE E y64):M64 (cx GT L E):=fun l s h1 h2 h3=>h (l,s) ⟨h1,h2,h3⟩
theorem j69{L:List Sp}{E:List Se}(h:HasE E y69):M69 (cx GT L E):=fun l s h1 h2 h3=>h (l,s) ⟨h1,h2,h3⟩
theorem j70{L:List Sp}{E:List Se}(h:HasE E y70):M70 (cx GT L E):=fun l x h1 h2 h3=>h (l,x) ⟨h1,h2,h3⟩
theorem j100{L:List Sp}{E:List Se}(h:Has L z9H):∀ a:Int,-9223372036854775808≤a→a≤9223372036854775807→(cx GT L E).call 100 [.d false (.int .i64 a)]=some (.d false (.int .u64 (q2x a)),[]):=fun a h1 h2=>h a ⟨h1,h2⟩
theorem j71{L:List Sp}{E:List Se}(h:Has L Sp71):∀ s:Int,(cx GT L E).call 71 [.d false (.int .u32 s)]=some (.d true (.sl 1 ((q4K s).map eU)),[]):=fun s=>h s trivial
theorem j72{L:List Sp}{E:List Se}(h:Has L Sp72):∀ l:Bs,l.length≤1000000000000→(cx GT L E).call 72 [.d false (.sl 1 (l.map eU))]=some (.d false (.int .u32 (sumS l)),[]):=fun l h1=>h l h1
theorem j65{L:List Sp}{E:List Se}(h:Has L Sp65):L65 (cx GT L E):=fun op=>h op trivial
theorem j66{L:List Sp}{E:List Se}(h:Has L Sp66):L66 (cx GT L E):=fun a h1 h2=>h a ⟨h1,h2⟩
theorem j67{L:List Sp}{E:List Se}(h:Has L Sp67):L67 (cx GT L E):=fun l h1=>h l h1
theorem j25{L:List Sp}{E:List Se}(h:Has L Sp25):L25 (cx GT L E):=fun l h1=>h l h1
theorem j23{L:List Sp}{E:List Se}(h:Has L Sp23):L23 (cx GT L E):=fun t h1 h2=>h t ⟨h1,h2⟩
theorem j24{L:List Sp}{E:List Se}(h:Has L Sp24):L24 (cx GT L E):=fun t h1 h2=>h t ⟨h1,h2⟩
noncomputable def BL1:List Sp:=Sp65 :: ZL24
theorem bp1:Known Tryz.prog GT BL1 ZE1:=by
 exact znE.add (s:=Sp65) q0N (fun _ _=>j29) (fun op _=>⟨_,z9d _ op⟩)
noncomputable def BL2:List Sp:=Sp66 :: BL1
theorem bp2:Known Tryz.prog GT BL2 ZE1:=by
 exact bp1.add (s:=Sp66) q0N (fun _ _=>j28) (fun a ⟨h1,h2⟩=>⟨_,z6U _ false a h1 h2⟩)
noncomputable def BL3:List Sp:=z9H :: BL2
theorem bp3:Known Tryz.prog GT BL3 ZE1:=by
 exact bp2.add (s:=z9H) q0N (fun _ _=>j1n) (fun a ⟨h1,h2⟩=>⟨_,z6Y _ false a h1 h2⟩)
noncomputable def BL4:List Sp:=Sp67 :: BL3
theorem bp4:Known Tryz.prog GT BL4 ZE1:=by
 exact bp3.add (s:=Sp67) q0N (fun _ _=>j27) (fun l h=>⟨_,j1o _ l false (Nat.le_trans h (by decide))⟩)
noncomputable def BL5:List Sp:=Sp72 :: BL4
theorem bp5:Known Tryz.prog GT BL5 ZE1:=by
 exact bp4.add (s:=Sp72) q0N (fun _ _=>j2Z) (fun l h=>⟨_,j1p _ l false (Nat.le_trans h (by decide))⟩)
noncomputable def BL6:List Sp:=Sp71 :: BL5
theorem bp6:Known Tryz.prog GT BL6 ZE1:=by
 exact bp5.add (s:=Sp71) q0N (fun _ _=>j20) (fun s _=>⟨_,j1u _ false s⟩)
noncomputable def BL7:List Sp:=Sp25 :: BL6
theorem bp7:Known Tryz.prog GT BL7 ZE1:=by
 exact bp6.add (s:=Sp25) q0N (fun _ _=>j3x) (fun l _=>⟨_,z8Z _ l⟩)
noncomputable def BE8:List Se:=y43 :: ZE1
theorem bp8:Known Tryz.prog GT BL7 BE8:=by
 exact bp7.addE (s:=y43) q0N (fun⟨c,l,s⟩ _=>j3i) (fun⟨c,l,s⟩ ⟨h1,h2,h3⟩=>j3I _ false c l s h1 h2 h3)
noncomputable def BE9:List Se:=y63 :: BE8
theorem bp9:Known Tryz.prog GT BL7 BE9:=by
 exact bp8.addE (s:=y63) q0N (fun⟨l,n⟩ _=>j3b) (fun⟨l,n⟩ ⟨h1,h2⟩=>j1t _ false false l n h1 h2)
noncomputable def BE10:List Se:=y68 :: BE9
theorem bp10:Known Tryz.prog GT BL7 BE10:=by
 exact bp9.addE (s:=y68) q0N (fun⟨l,n⟩ _=>j26) (fun⟨l,n⟩ ⟨h1,h2⟩=>j1r _ false false l n h1 h2)
noncomputable def BE11:List Se:=y64 :: BE10
theorem bp11:Known Tryz.prog GT BL7 BE11:=by
 have a:=j63 (L:=BL7) (show HasE BE10 y63 by repeat(first|exact q1W _ _|refine q18 ?_ (by decide)))
 have b:=j43 (L:=BL7) (show HasE BE10 y43 by repeat(first|exact q1W _ _|refine q18 ?_ (by decide)))
 exact bp10.addE (s:=y64) q0N (fun⟨l,s⟩ _=>j3a) (fun⟨l,s⟩ ⟨h1,h2,h3⟩=>z86 _ a b false l s h1 h2 h3)
noncomputable def BE12:List Se:=y69 :: BE11
theorem bp12:Known Tryz.prog GT BL7 BE12:=by
 have a:=j68 (L:=BL7) (show HasE BE11 y68 by repeat(first|exact q1W _ _|refine q18 ?_ (by decide)))
 exact bp11.addE (s:=y69) q0N (fun⟨l,s⟩ _=>j22) (fun⟨l,s⟩ ⟨h1,h2,h3⟩=>z4j _ a false l s h1 h2 h3)
noncomputable def BE13:List Se:=y70 :: BE12
theorem bp13:Known Tryz.prog GT BL7 BE13:=by
 have a:=j68 (L:=BL7) (show HasE BE12 y68 by repeat(first|exact q1W _ _|refine q18 ?_ (by decide)))
 have b:=z9Q (G:=GT) (E:=BE12) (show Has BL7 z79 by repeat(first|exact q0w _ _|refine q0v ?_ (by decide)))
 have c:=j100 (E:=BE12) (show Has BL7 z9H by repeat(first|exact q0w _ _|refine q0v ?_ (by decide)))
 exact bp12.addE (s:=y70) q0N (fun⟨l,x⟩ _=>j21) (fun⟨l,x⟩ ⟨h1,h2,h3⟩=>z1V _ a b c l x h1 h2 h3)
noncomputable def BL14:List Sp:=Sp23 :: BL7
theorem bp14:Known Tryz.prog GT BL14 BE13:=by
 have a:=j2D (G:=GT) (E:=BE13) (show Has BL7 z14 by repeat(first|exact q0w _ _|refine q0v ?_ (by decide)))
 have b:=j63 (L:=BL7) (show HasE BE13 y63 by repeat(first|exact q1W _ _|refine q18 ?_ (by decide)))
 have c:=j64 (L:=BL7) (show HasE BE13 y64 by repeat(first|exact q1W _ _|refine q18 ?_ (by decide)))
 have d:=j65 (E:=BE13) (show Has BL7 Sp65 by repeat(first|exact q0w _ _|refine q0v ?_ (by decide)))
 have e:=j66 (E:=BE13) (show Has BL7 Sp66 by repeat(first|exact q0w _ _|refine q0v ?_ (by decide)))
 have g:=j67 (E:=BE13) (show Has BL7 Sp67 by repeat(first|exact q0w _ _|refine q0v ?_ (by decide)))
 exact bp13.add (s:=Sp23) q0N (fun t _=>j3y) (fun t ⟨h1,h2⟩=>⟨_,z63 _ a b c d e g t h1 h2⟩)
noncomputable def BL15:List Sp:=Sp24 :: BL14
theorem bp15:Known Tryz.prog GT BL15 BE13:=by
 have a:=j2E (G:=GT) (E:=BE13) (show Has BL14 z13 by repeat(first|exact q0w _ _|refine q0v ?_ (by decide)))
 have b:=j68 (L:=BL14) (show HasE BE13 y68 by repeat(first|exact q1W _ _|refine q18 ?_ (by decide)))
 have c:=j69 (L:=BL14) (show HasE BE13 y69 by repeat(first|exact q1W _ _|refine q18 ?_ (by decide)))
 have d:=j70 (L:=BL14) (show HasE BE13 y70 by repeat(first|exact q1W _ _|refine q18 ?_ (by decide)))
 have e:=j71 (E:=BE13) (show Has BL14 Sp71 by repeat(first|exact q0w _ _|refine q0v ?_ (by decide)))
 have g:=j72 (E:=BE13) (show Has BL14 Sp72 by repeat(first|exact q0w _ _|refine q0v ?_ (by decide)))
 exact bp14.add (s:=Sp24) q0N (fun t _=>j1e) (fun t ⟨h1,h2⟩=>⟨_,z64 _ a b c d e g t h1 h2⟩)
theorem z6p(t o:Table)(ht:Sm t)(hto:TabOk t)(hoo:TabOk o)(hos:o.shapes.length≤1048576)(htt:TabOk (q3W t)) :
  q0S Tryz.prog 6=true∧q2s Tryz.prog GT 6 [.agg (tabV t),.agg (tabV o)] (.d false (.bool true)) []:=by
 have k11:=j2G (G:=GT) (E:=BE13) (show Has BL15 z11 by repeat(first|exact q0w _ _|refine q0v ?_ (by decide)))
 have k12:=j2F (G:=GT) (E:=BE13) (show Has BL15 z12 by repeat(first|exact q0w _ _|refine q0v ?_ (by decide)))
 have k15:=j2C (G:=GT) (E:=BE13) (show Has BL15 z15 by repeat(first|exact q0w _ _|refine q0v ?_ (by decide)))
 have j23x:=j23 (E:=BE13) (show Has BL15 Sp23 by repeat(first|exact q0w _ _|refine q0v ?_ (by decide)))
 have j24x:=j24 (E:=BE13) (show Has BL15 Sp24 by repeat(first|exact q0w _ _|refine q0v ?_ (by decide)))
 have j25x:=j25 (E:=BE13) (show Has BL15 Sp25 by repeat(first|exact q0w _ _|refine q0v ?_ (by decide)))
 have k16:=j2j (G:=GT) (L:=BL15) (show HasE BE13 y16 by repeat(first|exact q1W _ _|refine q18 ?_ (by decide)))
 have k17:=j2i (G:=GT) (L:=BL15) (show HasE BE13 y17 by repeat(first|exact q1W _ _|refine q18 ?_ (by decide)))
 exact q42 (args:=[.agg (tabV t),.agg (tabV o)]) q0N (bp15).sound f6_ok (z9f _ k11 k12 j23x j24x j25x k15 k16 k17 t o ht hto hoo hos htt)
end Go.Vm
end
