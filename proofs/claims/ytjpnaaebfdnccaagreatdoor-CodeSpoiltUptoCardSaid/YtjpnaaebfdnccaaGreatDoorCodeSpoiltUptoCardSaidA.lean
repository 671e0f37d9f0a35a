/-
  Parts of the proof: A small abstract machine over plain data, for proofs by evaluation: its values, its expressions, and what they come to. What it means that memory holds a value of the abstract machine. The operations of the model do what the abstract machine says. More operations of the model do what the abstract machine says. Operators, slice expressions and the like do what the abstract machine says. Slice expressions and composites do what the abstract machine says. Composites and choices do what the abstract machine says. Calls of functions that leave the caller's memory alone. What is known of a function that may be called: its contract. The statements of the abstract machine, and what they do. Held against nil; the lesser and the greater of two numbers; a pointer that is none. Maps: what a look-up gives. From the operations of a region to the expressions of the abstract machine. An operation that only works something out does so. Memory that is made. Slices that are made, and calls that hand memory over. Calls that hand memory over; all that is made. Writes. Conditions: none.
-/
import Derived.WalkKit
import Derived.ProofKit
import Derived.OpenShut
import Derived.Laws.Cover3
import Derived.Laws.Small
import Derived.Laws.Pointers
import Derived.Laws.Entries
import Derived.Laws.BytesString
import Derived.Laws.Cells
import Derived.MapKept
set_option linter.unusedVariables false
set_option linter.unusedSimpArgs false

section
namespace Go.Vm
inductive D where
 |int (k:IntKind) (n:Int)
 |bool (b:Bool)
 |str (s:List UInt8)
 |sl (k:Nat) (rows:List (List D))
 |ptr (cells:List D)
 |nilp
 |nilif
 |nilfn
 |iface (t:TypeId) (cells:List D)
 |nils (k:Nat)
 |emps (k:Nat)
 |nilm
 deriving Inhabited
def q74:List D→Bool
 |.nilfn :: _=>true
 |_=>false
def D.flat:D→Bool
 |.int ..|.bool _|.str _|.nilp|.nilif|.nilfn|.nils _|.emps _|.nilm=>true
 |_=>false
def D.flat0:D→Bool
 |.sl _ rows=>rows.isEmpty
 |.int _ _=>true
 |.bool _=>true
 |.str _=>true
 |.nilp=>true
 |.nilif=>true
 |.nilfn=>true
 |.nils _=>true
 |.emps _=>true
 |.nilm=>true
 |.ptr _=>false
 |.iface _ _=>false
def q0R(rows:List (List D)):Bool:=rows.all (·.all D.flat)
inductive V where
 |d (c:Bool) (x:D)
 |fs (c:Bool) (k:Nat) (rows:List (List D))
 |ptr (b i j:Nat)
 |bsl (b i len:Nat)
 |bsx (b i len:Nat)
 |agg (cs:List V)
 |tup (vs:List V)
 |fn (f:FuncId) (caps:List V)
 |iface (t:TypeId) (v:V)
 |map (b:Nat)
 |junk
 deriving Inhabited
@[reducible] def V.int (k:IntKind) (n:Int):V:=.d false (.int k n)
@[reducible] def V.bool (b:Bool):V:=.d false (.bool b)
@[reducible] def V.str (s:List UInt8):V:=.d false (.str s)
def mkd(c:Bool)(x:D):V:=if x.flat then .d false x else .d c x
inductive Blk where
 |dat (c:Bool) (k:Nat) (rows:List (List D))
 |mix (k:Nat) (rows:List (List V))
 |map (es:List (D×V))
 deriving Inhabited
def Blk.k:Blk→Nat
 |.dat _ k _=>k
 |.mix k _=>k
 |.map _=>0
def z7E:List D→Bool
 |[.emps _,.str []]=>true
 |_=>false
def q9U(es:List (D×V)):Bool:=z7E (es.map (·.1))
theorem q3V(f:V→V)(es:List (D×V)):q9U (es.map fun q=>(q.1,f q.2))=q9U es:=by
 unfold q9U
 congr 1
 simp
def Blk.n:Blk→Nat
 |.dat _ _ rows=>rows.length
 |.mix _ rows=>rows.length
 |.map es=>if q9U es then 0 else 1
def Blk.row? : Blk→Nat→Option (List V)
 |.dat c _ rows,i=>(rows[i]?).map (·.map (mkd c))
 |.mix _ rows,i=>rows[i]?
 |.map _,_=>none
def Blk.entries:Blk→Option (List (D×V))
 |.map es=>some es
 |_=>none
def q3A:Nat→D→D→Option Bool
 |0,.int k a,.int k' b=>if k=k' then some (a==b) else none
 |1,.bool a,.bool b=>some (a==b)
 |2,.str a,.str b=>some (decide (a=b))
 |_,_,_=>none
def q6y(kk:Nat)(k:D):List (D×V)→Option (Option V)
 |[]=>some none
 |(k',v) :: r=>match q3A kk k k' with
  |some true=>some (some v)
  |some false=>q6y kk k r
  |none=>none
def setE(kk:Nat)(k:D)(v:V):List (D×V)→Option (List (D×V))
 |[]=>match q3A kk k k with
  |some _=>some [(k,v)]
  |none=>none
 |(k',u) :: r=>match q3A kk k k' with
  |some true=>some ((k',v) :: r)
  |some false=>match setE kk k v r with
   |some r'=>some ((k',u) :: r')
   |none=>none
  |none=>none
def look{α:Type}:List (Nat×α)→Nat→Option α
 |[],_=>none
 |(k,v) :: r,t=>if k=t then some v else look r t
def q0e{α:Type}(l:List (Nat×α)):List Nat→List (Nat×α)
 |[]=>[]
 |t :: r=>match look l t with
  |some v=>(t,v) :: q0e l r
  |none=>q0e l r
def put{α:Type}(l:List (Nat×α))(t:Nat)(v:α):List (Nat×α):=
 match l with
 |[]=>[(t,v)]
 |(k,u) :: r=>if k=t then(t,v) :: r else(k,u) :: put r t v
def mapO{α β:Type}(f:α→Option β):List α→Option (List β)
 |[]=>some []
 |a :: r=>match f a,mapO f r with
  |some b,some bs=>some (b :: bs)
  |_,_=>none
structure S where
 rho:List (Nat×V)
 heap:List (Nat×Blk)
 nx:Nat
 mv:List Nat
structure Cx where
 call:FuncId→List V→Option (V×List Blk)
 eff:FuncId→List V→List Blk→Option (V×List Blk×List Nat)
 glob:Nat→Option (List D)
 loc:FuncId→Bool
 /-- What stands to be called at the end. -/
 dfr:List Deferred:=[]
 /-- A call that ends in a panic, and with what value. -/
 pan:FuncId→List V→List Blk→Option V:=fun _ _ _=>none
inductive E where
 |sl (t:Nat)
 |int (k:IntKind) (n:Int)
 |bool (b:Bool)
 |str (s:List UInt8)
 |nilsl (k:Nat)
 |nilp
 |nilif
 |nilfn
 |nilm
 |glob (g:Nat)
 |un (o:UnOp) (a:E)
 |bin (o:BinOp) (a b:E)
 |eqs (neg agg:Bool) (ks:List Nat) (a b:E)
 |and (a b:E)
 |or (a b:E)
 |cond (c a b:E)
 |fa (off:Nat) (a:E)
 |fld (off n:Nat) (agg:Bool) (a:E)
 |ia (k:Nat) (a i:E)
 |aa (len k:Nat) (a i:E)
 |ix (a i:E)
 |sh (l:Bool) (a b:E)
 |ax (len k:Nat) (agg:Bool) (a i:E)
 |ld (n:Nat) (agg:Bool) (a:E)
 |ext (i:Nat) (a:E)
 |len (str:Bool) (a:E)
 |cut (str bl bh bm:Bool) (k:Nat) (a lo hi mx:E)
 |agg (cs:E)
 |set (off n:Nat) (e base:E)
 |mki (t:TypeId) (a:E)
 |mkf (f:FuncId) (caps:E)
 |conv (k:IntKind) (a:E)
 |lkp (ok:Bool) (kk:Nat) (zero m k:E)
 |mlen (a:E)
 |b2s (a:E)
 |s2r (a:E)
 |i2s (a:E)
 |call (f:FuncId) (args:E)
 |callv (f:E) (args:E)
 |nil
 |cons (a b:E)
 deriving DecidableEq,Inhabited
def intBin(o:BinOp)(k:IntKind)(a b:Int):Option V:=
 match o with
 |.add=>some (.int k (k.wrap (a+b)))
 |.sub=>some (.int k (k.wrap (a - b)))
 |.mul=>some (.int k (k.wrap (a*b)))
 |.quo=>if b=0 then none else some (.int k (k.wrap (a.tdiv b)))
 |.rem=>if b=0 then none else some (.int k (a.tmod b))
 |.eql=>some (.bool (a==b))
 |.neq=>some (.bool (a != b))
 |.lss=>some (.bool (decide (a<b)))
 |.leq=>some (.bool (decide (a≤b)))
 |.gtr=>some (.bool (decide (b<a)))
 |.geq=>some (.bool (decide (b≤a)))
 |.and=>some (.int k (bits .and k a b))
 |.or=>some (.int k (bits .or k a b))
 |.xor=>some (.int k (bits .xor k a b))
 |.andNot=>some (.int k (bits .andNot k a b))
 |_=>none
def strBin(o:BinOp)(a b:List UInt8):Option V:=
 match o with
 |.add=>if a.length+b.length≤4611686018427387904 then some (.str (a++b)) else none
 |.eql=>some (.bool (decide (a=b)))
 |.neq=>some (.bool (!decide (a=b)))
 |.lss=>some (.bool (Op.bytesLess a b))
 |.leq=>some (.bool (Op.bytesLess a b||decide (a=b)))
 |.gtr=>some (.bool (!(Op.bytesLess a b||decide (a=b))))
 |.geq=>some (.bool (!Op.bytesLess a b))
 |_=>none
def V.isNilS:V→Option Bool
 |.bsl _ _ n=>if n=0 then none else some false
 |.bsx _ _ _=>some false
 |.fs _ _ rows=>if rows.isEmpty then none else some false
 |.d _ (.sl _ rows)=>if rows.isEmpty then none else some false
 |.d _ (.nils _)=>some true
 |.d _ (.emps _)=>some false
 |_=>none
def V.isNilP:V→Option Bool
 |.ptr _ _ _=>some false
 |.d _ (.ptr _)=>some false
 |.d _ .nilp=>some true
 |_=>none
def V.isNilI:V→Option Bool
 |.iface _ _=>some false
 |.d _ (.iface _ _)=>some false
 |.d _ .nilif=>some true
 |_=>none
def V.isNilF:V→Option Bool
 |.fn _ _=>some false
 |.d _ .nilfn=>some true
 |_=>none
def q2l:Nat→V→V→Option Bool
 |0,.d _ (.int k a),.d _ (.int k' b)=>if k=k' then some (a==b) else none
 |1,.d _ (.bool a),.d _ (.bool b)=>some (a==b)
 |2,.d _ (.str a),.d _ (.str b)=>some (decide (a=b))
 |3,v,_=>v.isNilS
 |4,v,_=>v.isNilP
 |5,v,_=>v.isNilI
 |6,v,_=>v.isNilF
 |_,_,_=>none
def q1R:List Nat→List V→List V→Option Bool
 |[],[],[]=>some true
 |k :: ks,a :: x,b :: y=>match q2l k a b,q1R ks x y with
  |some p,some q=>some (p&&q)
  |_,_=>none
 |_,_,_=>none
def q4M(neg agg:Bool)(ks:List Nat):V→V→Option V
 |.agg x,.agg y=>if agg then match q1R ks x y with
   |some p=>some (.bool (if neg then !p else p))
   |none=>none
  else none
 |x,y=>if agg then none else match q1R ks [x] [y] with
   |some p=>some (.bool (if neg then !p else p))
   |none=>none
def evBin(o:BinOp):V→V→Option V
 |.d _ (.int k a),.d _ (.int k' b)=>if k=k' then intBin o k a b else none
 |.d _ (.str a),.d _ (.str b)=>strBin o a b
 |_,_=>none
def evSh(l:Bool):V→V→Option V
 |.d _ (.int k a),.d _ (.int _ b)=>if 0≤b then some (.int k (if l then k.wrap (a*2 ^ min b.toNat k.bits) else a / 2 ^ min b.toNat k.bits)) else none
 |_,_=>none
def evUn(o:UnOp):V→Option V
 |.d _ (.bool b)=>match o with
  |.not=>some (.bool (!b))
  |_=>none
 |.d _ (.int k n)=>match o with
  |.neg=>some (.int k (k.wrap (0 - n)))
  |.xor=>some (.int k (bits .xor k (if k.signed then -1 else k.max) n))
  |_=>none
 |_=>none
def evFa(off:Nat):V→Option V
 |.ptr b i j=>some (.ptr b i (j+off))
 |.d c (.ptr cells)=>some (.d c (.ptr (cells.drop off)))
 |_=>none
def evIa(H:List (Nat×Blk))(k:Nat):V→V→Option V
 |.bsl b i len,.d _ (.int _ n)=>match look H b with
  |some blk=>if blk.k=k∧0≤n∧n<len then some (.ptr b (i+n.toNat) 0) else none
  |none=>none
 |.bsx b i len,.d _ (.int _ n)=>match look H b with
  |some blk=>if blk.k=k∧0≤n∧n<len then some (.ptr b (i+n.toNat) 0) else none
  |none=>none
 |.d c (.sl k' rows),.d _ (.int _ n)=>if k'=k∧0≤n then match rows[n.toNat]? with
   |some row=>some (.d c (.ptr row))
   |none=>none
  else none
 |.fs c k' rows,.d _ (.int _ n)=>if k'=k∧0≤n then match rows[n.toNat]? with
   |some row=>some (.d c (.ptr row))
   |none=>none
  else none
 |_,_=>none
def evAa(len k:Nat):V→V→Option V
 |.ptr b i j,.d _ (.int _ n)=>if 0≤n∧n<len then some (.ptr b i (j+n.toNat*k)) else none
 |.d c (.ptr cells),.d _ (.int _ n)=>if 0≤n∧n<len then some (.d c (.ptr (cells.drop (n.toNat*k)))) else none
 |_,_=>none
def evIx:V→V→Option V
 |.d _ (.str s),.d _ (.int _ n)=>if 0≤n then match s[n.toNat]? with
   |some b=>some (.int .u8 b.toNat)
   |none=>none
  else none
 |_,_=>none
def part(agg:Bool)(n:Nat)(cs:List V):Option V:=
 if agg then(if n≤cs.length then some (.agg (cs.take n)) else none) else if n=1 then cs.head? else none
def j28(off n:Nat)(agg:Bool):V→Option V
 |.agg cs=>part agg n (cs.drop off)
 |_=>none
def evAx(len k:Nat)(agg:Bool):V→V→Option V
 |.agg cs,.d _ (.int _ n)=>if 0≤n∧n<len then part agg k (cs.drop (n.toNat*k)) else none
 |_,_=>none
def evLd(H:List (Nat×Blk))(n:Nat)(agg:Bool):V→Option V
 |.ptr b i j=>match look H b with
  |some blk=>match blk.row? i with
   |some row=>part agg n (row.drop j)
   |none=>none
  |none=>none
 |.d c (.ptr cells)=>part agg n (cells.map (mkd c))
 |_=>none
def evExt(i:Nat):V→Option V
 |.tup vs=>vs[i]?
 |_=>none
def evLen:Bool→V→Option V
 |true,.d _ (.str s)=>some (.int .i64 s.length)
 |false,.d _ (.sl _ rows)=>some (.int .i64 rows.length)
 |false,.fs _ _ rows=>some (.int .i64 rows.length)
 |false,.bsl _ _ len=>some (.int .i64 len)
 |false,.bsx _ _ len=>some (.int .i64 len)
 |_,_=>none
def q5n:Bool→V→Option (Option Int)
 |true,.d _ (.int _ n)=>some (some n)
 |false,_=>some none
 |_,_=>none
def V.isStr:V→Bool
 |.d _ (.str _)=>true
 |_=>false
def q6V(H:List (Nat×Blk))(b k:Nat):Bool:=match look H b with
 |some blk=>blk.k==k
 |none=>false
def z7h(H:List (Nat×Blk))(b:Nat):Nat:=match look H b with
 |some (.dat _ _ rows)=>rows.length
 |some (.mix _ rows)=>rows.length
 |_=>0
def q89(H:List (Nat×Blk))(bl bh bm:Bool)(k0:Nat):V→V→V→V→Option V
 |x,lo,hi,mx=>match q5n bl lo,q5n bh hi,q5n bm mx with
  |some lo,some hi,some mx=>
   let l:=(lo.getD 0).toNat
   if 0≤lo.getD 0 then
    match x with
    |.d c (.str s)=>match mx with
     |none=>
      let h:=hi.getD s.length
      if lo.getD 0≤h∧h≤s.length then some (.d c (.str ((s.drop l).take (h.toNat - l)))) else none
     |some _=>none
    |.d c (.sl k rows)=>if k≠k0 then none else
     let h:=hi.getD rows.length
     if lo.getD 0≤h∧h≤rows.length then
      match mx with
      |none=>some (.d c (.sl k ((rows.drop l).take (h.toNat - l))))
      |some m=>if m=h then some (.fs c k ((rows.drop l).take (h.toNat - l))) else none
     else none
    |.fs c k rows=>if k≠k0 then none else
     let h:=hi.getD rows.length
     if lo.getD 0≤h∧h≤rows.length then
      match mx with
      |none=>some (.d c (.sl k ((rows.drop l).take (h.toNat - l))))
      |some m=>if m=h then some (.fs c k ((rows.drop l).take (h.toNat - l))) else none
     else none
    |.bsl b i len=>if !q6V H b k0 then none else
     let h:=hi.getD len
     if lo.getD 0≤h∧h≤len then
      match mx with
      |none=>some (.bsl b (i+l) (h.toNat - l))
      |some m=>if m=h then some (.bsl b (i+l) (h.toNat - l)) else none
     else none
    |.bsx b i len=>if !q6V H b k0 then none else
     let h:=hi.getD len
     if lo.getD 0≤h∧(h≤len∨i+h≤z7h H b) then
      match mx with
      |none=>some (.bsx b (i+l) (h.toNat - l))
      |some _=>none
     else none
    |_=>none
   else none
  |_,_,_=>none
def V.cells:V→List V
 |.agg cs=>cs
 |v=>[v]
def splice{α:Type}(off:Nat)(new cells:List α):List α:=cells.take off++new++cells.drop (off+new.length)
def V.cell:V→Bool
 |.agg _|.tup _|.junk=>false
 |_=>true
def V.laid:V→Bool
 |.agg _=>true
 |v=>v.cell
def evSet(off n:Nat):V→V→Option V
 |e,.agg cs=>if e.laid&&e.cells.length==n&&decide (off+n≤cs.length) then some (.agg (splice off e.cells cs)) else none
 |_,_=>none
def q0D(k:IntKind):V→Option V
 |.d _ (.int _ n)=>some (.int k (k.wrap n))
 |_=>none
def q88(H:List (Nat×Blk))(ok:Bool)(kk:Nat):V→V→V→Option V
 |z,.map b,.d _ k=>match look H b with
  |some blk=>match blk.entries with
   |some es=>match q6y kk k es with
    |some (some v)=>some (if ok then .tup [v,.bool true] else v)
    |some none=>some (if ok then .tup [z,.bool false] else z)
    |none=>none
   |none=>none
  |none=>none
 |z,.d _ .nilm,.d _ _=>some (if ok then .tup [z,.bool false] else z)
 |_,_,_=>none
def q2p:List (D×V)→Bool
 |(.nils _,_) :: _=>true
 |(.emps _,_) :: _=>true
 |_=>false
def z4t(H:List (Nat×Blk)):V→Option V
 |.map b=>match look H b with
  |some blk=>match blk.entries with
   |some es=>if q2p es then none else some (.int .i64 es.length)
   |none=>none
  |none=>none
 |_=>none
def q0b:Nat→List (Nat×Blk)→V→Option D
 |_,_,.d _ x=>some x
 |_,_,.fs _ k rows=>some (.sl k rows)
 |n+1,H,.bsl b i len=>match look H b with
  |some (.dat _ k rows)=>if i+len≤rows.length then some (.sl k ((rows.drop i).take len)) else none
  |some (.mix k rows)=>if i+len≤rows.length then(mapO (fun r:List V=>mapO (q0b n H) r) ((rows.drop i).take len)).map (.sl k) else none
  |some (.map _)=>none
  |none=>none
 |n+1,H,.bsx b i len=>match look H b with
  |some (.dat _ k rows)=>if i+len≤rows.length then some (.sl k ((rows.drop i).take len)) else none
  |some (.mix k rows)=>if i+len≤rows.length then(mapO (fun r:List V=>mapO (q0b n H) r) ((rows.drop i).take len)).map (.sl k) else none
  |some (.map _)=>none
  |none=>none
 |n+1,H,.ptr b i j=>match look H b with
  |some blk=>match blk.row? i with
   |some row=>(mapO (q0b n H) (row.drop j)).map .ptr
   |none=>none
  |none=>none
 |n+1,H,.iface t v=>match v with
  |.agg _=>none
  |v=>(q0b n H v).map fun x=>.iface t [x]
 |_,_,_=>none
def viewDepth:Nat:=6
def q5l:List (List D)→Option (List UInt8)
 |[]=>some []
 |[.int .u8 n] :: r=>match q5l r with
  |some l=>some (UInt8.ofNat n.toNat :: l)
  |none=>none
 |_=>none
def b2sD:D→Option V
 |.sl 1 rows=>(q5l rows).map V.str
 |_=>none
def z5R(H:List (Nat×Blk))(v:V):Option V:=match q0b viewDepth H v with
 |some d=>b2sD d
 |none=>none
def z8Y:V→Option V
 |.d _ (.str l)=>some (.d true (.sl 1 (l.map fun b=>[D.int .u8 (b.toNat:Int)])))
 |_=>none
def j27:V→Option V
 |.d _ (.int _ n)=>some (.str (Utf8.encode n).data.toList)
 |_=>none
def view(H:List (Nat×Blk)):V→Option V
 |.agg cs=>(mapO (q0b viewDepth H) cs).map fun ds=>.agg (ds.map (.d false))
 |.fn f caps=>(mapO (q0b viewDepth H) caps).map fun ds=>.fn f (ds.map (.d false))
 |v=>(q0b viewDepth H v).map (.d false)
def V.own1:V→Bool
 |.d ..|.fs ..=>false
 |_=>true
def V.own:V→Bool
 |.agg cs=>cs.any V.own1
 |.fn _ cs=>cs.any V.own1
 |v=>v.own1
def V.new1:V→Bool
 |.d c x=>c||x.flat
 |.fs c _ _=>c
 |_=>false
def V.new:V→Bool
 |.agg cs=>cs.all V.new1
 |.tup vs=>vs.all fun v=>match v with
  |.agg cs=>cs.all V.new1
  |v=>v.new1
 |v=>v.new1
def V.renew1:V→V
 |.d c x=>if x.flat then .d c x else .d true x
 |.fs _ k r=>.fs true k r
 |v=>v
def V.renew:V→V
 |.agg cs=>.agg (cs.map V.renew1)
 |.tup vs=>.tup (vs.map fun v=>match v with
  |.agg cs=>.agg (cs.map V.renew1)
  |v=>v.renew1)
 |v=>v.renew1
def V.flat1:V→Bool
 |.d _ x=>x.flat
 |_=>false
def V.flatV:V→Bool
 |.agg cs=>cs.all V.flat1
 |v=>v.flat1
def q9R(C:Cx)(f:FuncId)(vs:List V):Bool:=vs.all V.new&&!vs.all V.flatV&&C.loc f
def indexed(news:List Blk):List (Nat×Blk):=news.zipIdx.map fun(b,i)=>(i,b)
def q5M(C:Cx)(H:List (Nat×Blk))(f:FuncId)(vs:List V):Option V:=
 match mapO (view H) vs with
 |some ws=>match C.call f ws with
  |some (r,[])=>if q9R C f vs then some r.renew else if vs.any V.own&&!r.new then none else some r
  |some (r,news)=>if vs.any V.own then none else view (indexed news) r
  |_=>none
 |none=>none
def ev(C:Cx)(s:S):E→Option V
 |.sl t=>look s.rho t
 |.int k n=>some (.int k n)
 |.bool b=>some (.bool b)
 |.str l=>some (.str l)
 |.nilsl k=>some (.fs true k [])
 |.nilp=>some (.d false .nilp)
 |.nilif=>some (.d false .nilif)
 |.nilfn=>some (.d false .nilfn)
 |.nilm=>some (.d false .nilm)
 |.glob g=>match C.glob g with
  |some cs=>if q74 cs then none else some (.d false (.ptr cs))
  |none=>none
 |.un o a=>match ev C s a with
  |some v=>evUn o v
  |none=>none
 |.bin o a b=>match ev C s a,ev C s b with
  |some v,some u=>evBin o v u
  |_,_=>none
 |.eqs neg agg ks a b=>match ev C s a,ev C s b with
  |some v,some u=>q4M neg agg ks v u
  |_,_=>none
 |.and a b=>match ev C s a,ev C s b with
  |some (.d _ (.bool x)),some (.d _ (.bool y))=>some (.bool (x&&y))
  |some (.d _ (.bool false)),_=>some (.bool false)
  |_,_=>none
 |.or a b=>match ev C s a,ev C s b with
  |some (.d _ (.bool x)),some (.d _ (.bool y))=>some (.bool (x||y))
  |some (.d _ (.bool true)),_=>some (.bool true)
  |_,_=>none
 |.cond c a b=>match ev C s c with
  |some (.d _ (.bool x))=>if x then ev C s a else ev C s b
  |_=>none
 |.fa off a=>match ev C s a with
  |some v=>evFa off v
  |none=>none
 |.fld off n g a=>match ev C s a with
  |some v=>j28 off n g v
  |none=>none
 |.ia k a i=>match ev C s a,ev C s i with
  |some v,some u=>evIa s.heap k v u
  |_,_=>none
 |.aa len k a i=>match ev C s a,ev C s i with
  |some v,some u=>evAa len k v u
  |_,_=>none
 |.ix a i=>match ev C s a,ev C s i with
  |some v,some u=>evIx v u
  |_,_=>none
 |.sh l a b=>match ev C s a,ev C s b with
  |some v,some u=>evSh l v u
  |_,_=>none
 |.ax len k g a i=>match ev C s a,ev C s i with
  |some v,some u=>evAx len k g v u
  |_,_=>none
 |.ld n g a=>match ev C s a with
  |some v=>evLd s.heap n g v
  |none=>none
 |.ext i a=>match ev C s a with
  |some v=>evExt i v
  |none=>none
 |.len str a=>match ev C s a with
  |some v=>evLen str v
  |none=>none
 |.cut str bl bh bm k a lo hi mx=>match ev C s a,ev C s lo,ev C s hi,ev C s mx with
  |some v,some l,some h,some m=>if str==v.isStr then q89 s.heap bl bh bm k v l h m else none
  |_,_,_,_=>none
 |.agg cs=>match ev C s cs with
  |some (.tup vs)=>some (.agg vs)
  |_=>none
 |.set off n e b=>match ev C s e,ev C s b with
  |some v,some u=>evSet off n v u
  |_,_=>none
 |.mki t a=>match ev C s a with
  |some v=>some (.iface t v)
  |none=>none
 |.mkf f caps=>match ev C s caps with
  |some (.tup vs)=>some (.fn f vs)
  |_=>none
 |.conv k a=>match ev C s a with
  |some v=>q0D k v
  |none=>none
 |.lkp ok kk z m k=>match ev C s z,ev C s m,ev C s k with
  |some z,some m,some k=>q88 s.heap ok kk z m k
  |_,_,_=>none
 |.mlen a=>match ev C s a with
  |some v=>z4t s.heap v
  |none=>none
 |.b2s a=>match ev C s a with
  |some v=>z5R s.heap v
  |none=>none
 |.s2r a=>match ev C s a with
  |some v=>z8Y v
  |none=>none
 |.i2s a=>match ev C s a with
  |some v=>j27 v
  |none=>none
 |.call f args=>match ev C s args with
  |some (.tup vs)=>q5M C s.heap f vs
  |_=>none
 |.callv f args=>match ev C s f,ev C s args with
  |some (.fn f caps),some (.tup vs)=>q5M C s.heap f (vs++caps)
  |_,_=>none
 |.nil=>some (.tup [])
 |.cons a b=>match ev C s a,ev C s b with
  |some v,some (.tup vs)=>some (.tup (v :: vs))
  |_,_=>none
end Go.Vm
end

section
namespace Go.Vm
open Go.RowKit
inductive RepD(w:World)(F:Nat→Prop):Value→D→Prop
 |int (k:IntKind) (n:Int):RepD w F (.int k n) (.int k n)
 |bool (b:Bool):RepD w F (.bool b) (.bool b)
 |str (s:ByteArray):RepD w F (.string s) (.str s.data.toList)
 |sl0 (a:Option Addr) (cap k:Nat):(a=none→cap=0)→RepD w F (.slice a 0 cap) (.sl k [])
 |sl (b o len cap k:Nat) (rows:List (List D)) (g:Nat→Nat→Value):rows.length=len→len≤cap→F b→(∀ r∈rows,r.length=k)→
   (∀ i j r d,rows[i]? = some r→r[j]? = some d→w.cell? ⟨b,o+(i*k+j),none⟩=some (g i j))→
   (∀ i j r d,rows[i]? = some r→r[j]? = some d→RepD w F (g i j) d)→RepD w F (.slice (some ⟨b,o,none⟩) len cap) (.sl k rows)
 |ptr (b o:Nat) (cells:List D) (g:Nat→Value):F b→(∀ j d,cells[j]? = some d→w.cell? ⟨b,o+j,none⟩=some (g j))→
   (∀ j d,cells[j]? = some d→RepD w F (g j) d)→RepD w F (.pointer (some ⟨b,o,none⟩)) (.ptr cells)
 |nilp:RepD w F (.pointer none) .nilp
 |nilif:RepD w F .nilIface .nilif
 |nilfn:RepD w F .nilFunc .nilfn
 |nils (k:Nat):RepD w F (.slice none 0 0) (.nils k)
 |emps (a:Addr) (cap k:Nat):RepD w F (.slice (some a) 0 cap) (.emps k)
 |nilm:RepD w F (.map none) .nilm
 |iface (t:TypeId) (v:Value) (d:D):RepD w F v d→RepD w F (.iface t v) (.iface t [d])
theorem RepD.oneCell{w:World}{F:Nat→Prop}{v:Value}{d:D}(h:RepD w F v d):v.oneCell'=true:=by
 cases h <;> rfl
theorem RepD.mono{w w':World}{F F':Nat→Prop}(hF:∀ b,F b→F' b∧w'.heap[b]? = w.heap[b]?){v:Value}{d:D}(h:RepD w F v d):RepD w' F' v d:=by
 induction h with
 |int k n=>exact .int k n
 |bool b=>exact .bool b
 |str s=>exact .str s
 |sl0 a cap k h=>exact .sl0 a cap k h
 |sl b o len cap k rows g h1 h2 h3 h4 h5 _ ih=>
  refine .sl b o len cap k rows g h1 h2 (hF b h3).1 h4 (fun i j r d hr hd=>?_) ih
  rw[←h5 i j r d hr hd]
  exact World.cell?_of_block (w:=w) (hF b h3).2
 |ptr b o cells g h3 h5 _ ih=>
  refine .ptr b o cells g (hF b h3).1 (fun j d hd=>?_) ih
  rw[←h5 j d hd]
  exact World.cell?_of_block (w:=w) (hF b h3).2
 |nilp=>exact .nilp
 |nilif=>exact .nilif
 |nilfn=>exact .nilfn
 |nils k=>exact .nils k
 |emps a cap k=>exact .emps a cap k
 |nilm=>exact .nilm
 |iface t v d _ ih=>exact .iface t v d ih
theorem RepD.flat{w w':World}{F F':Nat→Prop}{v:Value}{d:D}(h:RepD w F v d)(hd:d.flat=true):RepD w' F' v d:=by
 cases h <;> first|(simp [D.flat] at hd;done)|constructor
theorem RepD.flat0{w w':World}{F F':Nat→Prop}{v:Value}{d:D}(h:RepD w F v d)(hd:d.flat0=true):RepD w' F' v d:=by
 cases h with
 |sl0 a cap k h=>exact .sl0 a cap k h
 |sl b o len cap k rows g h1 h2 h3 h4 h5 h6=>
  simp only[D.flat0,List.isEmpty_iff] at hd
  subst hd
  obtain rfl:len=0:=by simpa using h1.symm
  exact .sl0 _ _ _ (fun h=>by cases h)
 |ptr=>simp [D.flat0] at hd
 |iface=>simp [D.flat0] at hd
 |_=>constructor
structure Loc where
 blk:Nat
 k:Nat
 ext:Nat
def New(F:Nat→Prop)(base:Nat)(b:Nat):Prop:=F b∧base≤b
def col(F:Nat→Prop)(base:Nat):Bool→Nat→Prop
 |true=>New F base
 |false=>F
theorem q2B{F:Nat→Prop}{base:Nat}{c:Bool}{b:Nat}(h:col F base c b):F b:=by
 cases c
 ·exact h
 ·exact h.1
inductive RepV(w:World)(F:Nat→Prop)(base:Nat)(σ:Nat→Option Loc):Value→V→Prop
 |d (c:Bool) (v:Value) (x:D):RepD w (col F base c) v x→RepV w F base σ v (.d c x)
 |fs (c:Bool) (a:Option Addr) (len k:Nat) (rows:List (List D)):RepD w (col F base c) (.slice a len len) (.sl k rows)→RepV w F base σ (.slice a len len) (.fs c k rows)
 |ptr (b i j:Nat) (l:Loc):σ b=some l→RepV w F base σ (.pointer (some ⟨l.blk,i*l.k+j,none⟩)) (.ptr b i j)
 |bsl0 (a:Option Addr) (b i:Nat):RepV w F base σ (.slice a 0 0) (.bsl b i 0)
 |bsl (b i len cap:Nat) (l:Loc):σ b=some l→len≤cap→i+cap≤l.ext→RepV w F base σ (.slice (some ⟨l.blk,i*l.k,none⟩) len cap) (.bsl b i len)
 |bsx (b i len cap:Nat) (l:Loc) (a:Addr):σ b=some l→len≤cap→i+cap=l.ext→(0<cap→a=⟨l.blk,i*l.k,none⟩)→RepV w F base σ (.slice (some a) len cap) (.bsx b i len)
 |agg (cs:Array Value) (vs:List V):cs.size=vs.length→(∀(j:Nat) (v:Value) (x:V),cs[j]? = some v→vs[j]? = some x→RepV w F base σ v x)→(∀ v∈cs,v.oneCell'=true)→RepV w F base σ (.agg cs) (.agg vs)
 |tup (cs:Array Value) (vs:List V):cs.size=vs.length→(∀(j:Nat) (v:Value) (x:V),cs[j]? = some v→vs[j]? = some x→RepV w F base σ v x)→RepV w F base σ (.tuple cs) (.tup vs)
 |fn (f:FuncId) (cs:Array Value) (vs:List V):cs.size=vs.length→(∀(j:Nat) (v:Value) (x:V),cs[j]? = some v→vs[j]? = some x→RepV w F base σ v x)→RepV w F base σ (.func (.func f) #[] cs) (.fn f vs)
 |iface (t:TypeId) (v:Value) (x:V):RepV w F base σ v x→RepV w F base σ (.iface t v) (.iface t x)
 |map (b:Nat) (l:Loc):σ b=some l→RepV w F base σ (.map (some l.blk)) (.map b)
 |junk (v:Value):RepV w F base σ v .junk
def V.ref0(p:Nat→Bool):V→Bool
 |.ptr b _ _=>p b
 |.bsl b _ _=>p b
 |.bsx b _ _=>p b
 |.map b=>p b
 |.d _ _=>false
 |.fs _ _ _=>false
 |_=>true
def V.drop1(p:Nat→Bool):V→V
 |.ptr b i j=>if p b then .junk else .ptr b i j
 |.bsl b i len=>if p b then .junk else .bsl b i len
 |.bsx b i len=>if p b then .junk else .bsx b i len
 |.map b=>if p b then .junk else .map b
 |.agg _=>.junk
 |.tup _=>.junk
 |.fn f cs=>if cs.any (V.ref0 p) then .junk else .fn f cs
 |.iface t v=>if v.ref0 p then .junk else .iface t v
 |v=>v
def V.forget(p:Nat→Bool):V→V
 |.agg cs=>.agg (cs.map (V.drop1 p))
 |.tup cs=>.tup (cs.map fun v=>match v with
  |.agg cs=>.agg (cs.map (V.drop1 p))
  |v=>v.drop1 p)
 |v=>v.drop1 p
variable {w w':World}{F F':Nat→Prop}{base:Nat}{σ σ':Nat→Option Loc}
theorem q5E(hF:∀ b,F b→F' b∧w'.heap[b]? = w.heap[b]?)(c:Bool):∀ b,col F base c b→col F' base c b∧w'.heap[b]? = w.heap[b]?:=by
 intro b h
 cases c
 ·exact hF b h
 ·exact⟨⟨(hF b h.1).1,h.2⟩,(hF b h.1).2⟩
theorem RepV.mono(hF:∀ b,F b→F' b∧w'.heap[b]? = w.heap[b]?)(hσ:∀ b l,σ b=some l→σ' b=some l){v:Value}{x:V}(h:RepV w F base σ v x):RepV w' F' base σ' v x:=by
 induction h with
 |d c v x h=>exact .d c v x (h.mono (q5E hF c))
 |fs c a len k rows h=>exact .fs c a len k rows (h.mono (q5E hF c))
 |ptr b i j l h=>exact .ptr b i j l (hσ b l h)
 |bsl0 a b i=>exact .bsl0 a b i
 |bsl b i len cap l h h1 h2=>exact .bsl b i len cap l (hσ b l h) h1 h2
 |bsx b i len cap l a h h1 h2 h3=>exact .bsx b i len cap l a (hσ b l h) h1 h2 h3
 |agg cs vs h _ h1 ih=>exact .agg cs vs h ih h1
 |tup cs vs h _ ih=>exact .tup cs vs h ih
 |fn f cs vs h _ ih=>exact .fn f cs vs h ih
 |iface t v x _ ih=>exact .iface t v x ih
 |map b l h=>exact .map b l (hσ b l h)
 |junk v=>exact .junk v
theorem RepV.mono'{base':Nat}(hc:∀ c b,col F base c b→col F' base' c b∧w'.heap[b]? = w.heap[b]?)(hσ:∀ b l,σ b=some l→σ' b=some l){v:Value}{x:V}(h:RepV w F base σ v x):RepV w' F' base' σ' v x:=by
 induction h with
 |d c v x h=>exact .d c v x (h.mono (hc c))
 |fs c a len k rows h=>exact .fs c a len k rows (h.mono (hc c))
 |ptr b i j l h=>exact .ptr b i j l (hσ b l h)
 |bsl0 a b i=>exact .bsl0 a b i
 |bsl b i len cap l h h1 h2=>exact .bsl b i len cap l (hσ b l h) h1 h2
 |bsx b i len cap l a h h1 h2 h3=>exact .bsx b i len cap l a (hσ b l h) h1 h2 h3
 |agg cs vs h _ h1 ih=>exact .agg cs vs h ih h1
 |tup cs vs h _ ih=>exact .tup cs vs h ih
 |fn f cs vs h _ ih=>exact .fn f cs vs h ih
 |iface t v x _ ih=>exact .iface t v x ih
 |map b l h=>exact .map b l (hσ b l h)
 |junk v=>exact .junk v
theorem RepV.keep0(hF:∀ b,F b→F' b∧w'.heap[b]? = w.heap[b]?){p:Nat→Bool}(hσ:∀ b l,σ b=some l→p b=false→σ' b=some l){v:Value}{x:V}(hx:x.ref0 p=false)(h:RepV w F base σ v x) :
  RepV w' F' base σ' v x:=by
 cases h with
 |d c v x h=>exact .d c v x (h.mono (q5E hF c))
 |fs c a len k rows h=>exact .fs c a len k rows (h.mono (q5E hF c))
 |ptr b i j l h=>exact .ptr b i j l (hσ b l h hx)
 |bsl0 a b i=>exact .bsl0 a b i
 |bsl b i len cap l h h1 h2=>exact .bsl b i len cap l (hσ b l h hx) h1 h2
 |bsx b i len cap l a h h1 h2 h3=>exact .bsx b i len cap l a (hσ b l h hx) h1 h2 h3
 |map b l h=>exact .map b l (hσ b l h hx)
 |_=>simp [V.ref0] at hx
theorem RepV.drop1(hF:∀ b,F b→F' b∧w'.heap[b]? = w.heap[b]?){p:Nat→Bool}(hσ:∀ b l,σ b=some l→p b=false→σ' b=some l){v:Value}{x:V}(h:RepV w F base σ v x) :
  RepV w' F' base σ' v (x.drop1 p):=by
 cases x with
 |d c y=>exact h.keep0 hF hσ rfl
 |fs c k y=>exact h.keep0 hF hσ rfl
 |ptr b i j=>
  simp only[V.drop1]
  split
  ·exact .junk _
  ·rename_i hp;exact h.keep0 hF hσ (by simpa [V.ref0] using hp)
 |bsl b i j=>
  simp only[V.drop1]
  split
  ·exact .junk _
  ·rename_i hp;exact h.keep0 hF hσ (by simpa [V.ref0] using hp)
 |bsx b i j=>
  simp only[V.drop1]
  split
  ·exact .junk _
  ·rename_i hp;exact h.keep0 hF hσ (by simpa [V.ref0] using hp)
 |map b=>
  simp only[V.drop1]
  split
  ·exact .junk _
  ·rename_i hp;exact h.keep0 hF hσ (by simpa [V.ref0] using hp)
 |agg cs=>exact .junk _
 |tup cs=>exact .junk _
 |fn f cs=>
  simp only[V.drop1]
  split
  ·exact .junk _
  ·rename_i hp
   cases h with
   |fn _ vs _ h1 h2=>
    refine .fn f _ _ h1 (fun j v x hv hx=>(h2 j v x hv hx).keep0 hF hσ ?_)
    simp only[Bool.not_eq_true,List.any_eq_false] at hp
    exact hp x (List.mem_of_getElem? hx)
 |iface t y=>
  simp only[V.drop1]
  split
  ·exact .junk _
  ·rename_i hp
   cases h with
   |iface _ u _ h=>exact .iface t _ _ (h.keep0 hF hσ (by simpa using hp))
 |junk=>exact .junk _
theorem RepV.forget(hF:∀ b,F b→F' b∧w'.heap[b]? = w.heap[b]?){p:Nat→Bool}(hσ:∀ b l,σ b=some l→p b=false→σ' b=some l){v:Value}{x:V}(h:RepV w F base σ v x) :
  RepV w' F' base σ' v (x.forget p):=by
 have one:∀ {v:Value} {x:V},RepV w F base σ v x→RepV w' F' base σ' v (x.drop1 p):=fun h=>h.drop1 hF hσ
 cases x with
 |agg vs=>
  cases h with
  |agg cs _ h hh h1=>
   refine .agg cs _ (by simp [h]) (fun j v x hv hx=>?_) h1
   simp only[List.getElem?_map,Option.map_eq_some_iff] at hx
   obtain⟨y,hy,rfl⟩:=hx
   exact one (hh j v y hv hy)
 |tup vs=>
  cases h with
  |tup cs _ h hh=>
   refine .tup cs _ (by simp [h]) (fun j v x hv hx=>?_)
   simp only[List.getElem?_map,Option.map_eq_some_iff] at hx
   obtain⟨y,hy,rfl⟩:=hx
   have hr:=hh j v y hv hy
   cases y with
   |agg us=>
    cases hr with
    |agg cs _ h hh h1=>
     refine .agg cs _ (by simp [h]) (fun j v x hv hx=>?_) h1
     simp only[List.getElem?_map,Option.map_eq_some_iff] at hx
     obtain⟨y,hy,rfl⟩:=hx
     exact one (hh j v y hv hy)
   |d c y=>exact one hr
   |fs c k y=>exact one hr
   |ptr b i j=>exact one hr
   |bsl b i j=>exact one hr
   |bsx b i j=>exact one hr
   |tup y=>exact one hr
   |fn f y=>exact one hr
   |iface t y=>exact one hr
   |map b=>exact one hr
   |junk=>exact one hr
 |d c y=>exact one h
 |fs c k y=>exact one h
 |ptr b i j=>exact one h
 |bsl b i j=>exact one h
 |bsx b i j=>exact one h
 |fn f y=>exact one h
 |iface t y=>exact one h
 |map b=>exact one h
 |junk=>exact one h
theorem RepV.toBsl{v:Value}{b i len:Nat}(h:RepV w F base σ v (.bsx b i len)):RepV w F base σ v (.bsl b i len):=by
 cases h with
 |bsx _ _ _ cap l a h h1 h2 h3=>
  by_cases hc:0<cap
  ·rw[h3 hc]
   exact .bsl b i len cap l h h1 (by omega)
  ·obtain rfl:cap=0:=by omega
   obtain rfl:len=0:=by omega
   exact .bsl0 _ _ _
theorem RepV.int{k:IntKind}{n:Int}:RepV w F base σ (.int k n) (.int k n):=.d _ _ _ (.int k n)
theorem RepV.bool{b:Bool}:RepV w F base σ (.bool b) (.bool b):=.d _ _ _ (.bool b)
theorem RepV.str{s:ByteArray}:RepV w F base σ (.string s) (.str s.data.toList):=.d _ _ _ (.str s)
theorem RepV.int_inv{c:Bool}{k:IntKind}{n:Int}{v:Value}(h:RepV w F base σ v (.d c (.int k n))):v=.int k n:=by
 cases h with|d _ _ _ h=>cases h;rfl
theorem RepV.bool_inv{c:Bool}{b:Bool}{v:Value}(h:RepV w F base σ v (.d c (.bool b))):v=.bool b:=by
 cases h with|d _ _ _ h=>cases h;rfl
theorem RepV.str_inv{c:Bool}{s:List UInt8}{v:Value}(h:RepV w F base σ v (.d c (.str s))):∃ t:ByteArray,v=.string t∧s=t.data.toList:=by
 cases h with|d _ _ _ h=>cases h;exact⟨_,rfl,rfl⟩
theorem RepV.mkd{c:Bool}{v:Value}{x:D}(h:RepD w (col F base c) v x):RepV w F base σ v (Vm.mkd c x):=by
 unfold Vm.mkd
 split
 ·rename_i hf;exact .d _ _ _ (h.flat hf)
 ·exact .d _ _ _ h
theorem RepV.oneCell{v:Value}{x:V}(h:RepV w F base σ v x)(hx:x.cell=true):v.oneCell'=true:=by
 cases h <;> first|rfl|(simp [V.cell] at hx;done)|(rename_i h;exact h.oneCell)
def MapRel(w:World)(F:Nat→Prop)(base:Nat)(σ:Nat→Option Loc)(es:Array MapEntry)(ds:List (D×V)):Prop:=
 es.size=ds.length∧∀(i:Nat) (e:MapEntry) (p:D×V),es[i]? = some e→ds[i]? = some p→p.1.flat=true∧RepD w F e.key p.1∧RepV w F base σ e.val p.2
theorem MapRel.transM{base':Nat}{es:Array MapEntry}{ds:List (D×V)}{f:V→V}(hf:∀ q∈ds,∀ v,RepV w F base σ v q.2→RepV w' F' base' σ' v (f q.2))(h:MapRel w F base σ es ds) :
  MapRel w' F' base' σ' es (ds.map fun p=>(p.1,f p.2)):=by
 refine⟨by simp [h.1],fun i e p he hp=>?_⟩
 simp only[List.getElem?_map,Option.map_eq_some_iff] at hp
 obtain⟨q,hq,rfl⟩:=hp
 obtain⟨h1,h2,h3⟩:=h.2 i e q he hq
 exact⟨h1,h2.flat h1,hf q (List.mem_of_getElem? hq) _ h3⟩
theorem MapRel.trans{base':Nat}{es:Array MapEntry}{ds:List (D×V)}{f:V→V}(hf:∀ v x,RepV w F base σ v x→RepV w' F' base' σ' v (f x))(h:MapRel w F base σ es ds) :
  MapRel w' F' base' σ' es (ds.map fun p=>(p.1,f p.2)):=by
 refine⟨by simp [h.1],fun i e p he hp=>?_⟩
 simp only[List.getElem?_map,Option.map_eq_some_iff] at hp
 obtain⟨q,hq,rfl⟩:=hp
 obtain⟨h1,h2,h3⟩:=h.2 i e q he hq
 exact⟨h1,h2.flat h1,hf _ _ h3⟩
theorem MapRel.trans0{base':Nat}{es:Array MapEntry}{ds:List (D×V)}(hf:∀ v x,RepV w F base σ v x→RepV w' F' base' σ' v x)(h:MapRel w F base σ es ds):MapRel w' F' base' σ' es ds:=by
 have:=h.trans (f:=fun x=>x) hf
 simpa using this
def BufV(σ:Nat→Option Loc)(v:Value):V→Prop
 |.bsl b i n=>i=0∧((n=0∧v=.slice none 0 0)∨∃ l,σ b=some l∧0<n∧v=.slice (some ⟨l.blk,0,none⟩) n l.ext)
 |_=>True
def q2Z(l:List UInt8):List Value:=l.map fun b=>.int .u8 b.toNat
def MemObj(w:World)(σ:Nat→Option Loc)(l:Loc)(es:Array MapEntry)(ck:Nat)(ds:List (D×V)):Prop:=
 (w.heap[l.blk]? = some (.map es ck)∧l.ext=0∧q2p ds=false)∨
 (∃(T:TypeId) (p v:Value) (x:V),ds=[(.nils T,x)]∧w.heap[l.blk]? = some (.cells #[p,v] T (0,0))∧(p=.pointer none∨p=.pointer (some ⟨l.blk,0,none⟩))∧BufV σ v x)∨
 ∃(T:TypeId) (cur:Array Value) (fz:Nat×Nat) (bs:List UInt8),ds.map (·.1)=[.emps T,.str bs]∧w.heap[l.blk]? = some (.cells cur T fz)∧fz.2≤bs.length∧bs.length≤l.ext∧cur.size=l.ext∧l.ext≤maxLen∧cur.toList.take bs.length=q2Z bs
theorem j0y(f:V→V)(ds:List (D×V)):(ds.map fun p=>(p.1,f p.2)).map (·.1)=ds.map (·.1):=by simp
theorem z2T(f:V→V)(ds:List (D×V)):q2p (ds.map fun p=>(p.1,f p.2))=q2p ds:=by
 cases ds with
 |nil=>rfl
 |cons q ds=>obtain⟨k,v⟩:=q;cases k <;> rfl
theorem MemObj.of{l:Loc}{ck:Nat}{es:Array MapEntry}{ds:List (D×V)}{f:V→V}(hw:w'.heap[l.blk]? = w.heap[l.blk]?)(hf:∀ q∈ds,∀ v,BufV σ v q.2→BufV σ' v (f q.2))(h:MemObj w σ l es ck ds):MemObj w' σ' l es ck (ds.map fun p=>(p.1,f p.2)):=by
 rcases h with⟨h,hx,ht⟩|⟨T,p,v,x,h1,h2,h3,h4⟩|⟨T,cur,fz,bs,h1,h2,h3⟩
 ·exact .inl ⟨by rw[hw];exact h,hx,by rw[z2T];exact ht⟩
 ·subst h1
  exact .inr (.inl ⟨T,p,v,f x,rfl,by rw[hw];exact h2,h3,hf (.nils T,x) (by simp) v h4⟩)
 ·exact .inr (.inr ⟨T,cur,fz,bs,by rw[j0y];exact h1,by rw[hw];exact h2,h3⟩)
theorem BufV.mono{v:Value}{x:V}(hσ:∀ b l,σ b=some l→σ' b=some l)(h:BufV σ v x):BufV σ' v x:=by
 cases x with
 |bsl b i n=>
  obtain⟨h0,h|⟨l,h1,h2⟩⟩:=h
  ·exact⟨h0,.inl h⟩
  ·exact⟨h0,.inr ⟨l,hσ b l h1,h2⟩⟩
 |_=>trivial
theorem MemObj.of0{l:Loc}{ck:Nat}{es:Array MapEntry}{ds:List (D×V)}(hw:w'.heap[l.blk]? = w.heap[l.blk]?)(hσ:∀ b l,σ b=some l→σ' b=some l)(h:MemObj w σ l es ck ds):MemObj w' σ' l es ck ds:=by
 have:=h.of (f:=fun x=>x) hw fun q _ v=>BufV.mono hσ
 simpa using this
theorem BufV.forget{p:Nat→Bool}(hσ:∀ b l,σ b=some l→p b=false→σ' b=some l){v:Value}{x:V}(h:BufV σ v x):BufV σ' v (x.forget p):=by
 cases x with
 |bsl b i n=>
  simp only[V.forget,V.drop1]
  split
  ·trivial
  ·rename_i hp
   obtain⟨h0,h|⟨l,h1,h2⟩⟩:=h
   ·exact⟨h0,.inl h⟩
   ·exact⟨h0,.inr ⟨l,hσ b l h1 (by simpa using hp),h2⟩⟩
 |bsx b i j=>simp only[V.forget,V.drop1];split <;> trivial
 |d=>trivial
 |fs=>trivial
 |ptr b i j=>simp only[V.forget,V.drop1];split <;> trivial
 |agg=>trivial
 |tup=>trivial
 |fn f cs=>simp only[V.forget,V.drop1];split <;> trivial
 |iface t v=>simp only[V.forget,V.drop1];split <;> trivial
 |map b=>simp only[V.forget,V.drop1];split <;> trivial
 |junk=>trivial
theorem MemObj.map{l:Loc}{ck:Nat}{es:Array MapEntry}{ds:List (D×V)}(ht:q2p ds=false)(h:MemObj w σ l es ck ds):w.heap[l.blk]? = some (.map es ck)∧l.ext=0:=by
 rcases h with h|⟨T,p,v,x,h1,_⟩|⟨T,cur,fz,bs,h1,_⟩
 ·exact⟨h.1,h.2.1⟩
 ·subst h1;simp [q2p] at ht
 ·cases ds with
  |nil=>simp at h1
  |cons q ds=>
   obtain⟨k,v⟩:=q
   simp only[List.map_cons,List.cons.injEq] at h1
   rw[h1.1] at ht
   simp [q2p] at ht
def RowAt(w:World)(b:Nat)(cs:Array Value)(T:TypeId):Prop:=∃ fz:Nat×Nat,w.heap[b]? = some (.cells cs T fz)∧(fz=(0,0)∨cs.size≤fz.1)
theorem RowAt.mk0{w:World}{b:Nat}{cs:Array Value}{T:TypeId}(h:w.heap[b]? = some (.cells cs T (0,0))):RowAt w b cs T:=⟨_,h,.inl rfl⟩
theorem RowAt.of{w w':World}{b:Nat}{cs:Array Value}{T:TypeId}(h:RowAt w b cs T)(e:w'.heap[b]? = w.heap[b]?):RowAt w' b cs T:=by
 obtain⟨fz,h1,h2⟩:=h
 exact⟨fz,e.trans h1,h2⟩
theorem RowAt.set{w:World}{b:Nat}{cs cs':Array Value}{T:TypeId}(h:RowAt w b cs T)(hs:cs'.size=cs.size):RowAt (w.setRow b cs') b cs' T:=by
 obtain⟨fz,h1,h2⟩:=h
 exact⟨fz,setRow_heap w b cs cs' T fz h1,h2.imp id fun h=>by rw[hs];exact h⟩
theorem RowAt.cell{w:World}{b:Nat}{cs:Array Value}{T:TypeId}(h:RowAt w b cs T)(j:Nat):w.cell? ⟨b,j,none⟩=cs[j]?:=by
 obtain⟨fz,h1,h2⟩:=h
 exact cell_of_row w b j cs T fz h1
theorem q16(P:Program)(g o:Nat)(t:TypeId)(fz:Nat×Nat):∀(vs:List Value)(i:Nat)(cur:Array Value)(w:World),w.heap[g]? = some (.cells cur t fz)→(fz=(0,0)∨cur.size≤fz.1)→o+i+vs.length≤cur.size→(∀ v∈vs,v.oneCell'=true)→
  (storeCells ⟨g,o,none⟩ vs i).run P w=.ok () (w.setRow g (cur.toList.take (o+i)++vs++cur.toList.drop (o+i+vs.length)).toArray)
 |[],i,cur,w,hg,_,_,_=>by
  simp only[storeCells,List.append_nil,List.length_nil,Nat.add_zero,List.take_append_drop,Array.toArray_toList]
  rw[setRow_self w g cur t fz hg]
  rfl
 |v :: rest,i,cur,w,hg,hfz,hl,h1=>by
  have hi:o+i<cur.size:=by simp at hl;omega
  have hadd:(⟨g,o,none⟩:Addr).add i=⟨g,o+i,none⟩:=by unfold Addr.add;split <;> simp_all
  have hcell:w.cell? ⟨g,o+i,none⟩=some cur[o+i]:=by simp [World.cell?,hg,hi]
  have hfro:w.frozen? ⟨g,o+i,none⟩=false:=by
   obtain⟨lo,hi'⟩:=fz
   simp only[World.frozen?,hg,Bool.and_eq_false_iff,decide_eq_false_iff_not]
   rcases hfz with h|h
   ·cases h;right;omega
   ·left;simp only at h;omega
  have hst:(store ((⟨g,o,none⟩:Addr).add i) v).run P w=.ok () (w.setRow g (cur.setIfInBounds (o+i) v)):=by
   rw[hadd,run_store P w _ v _ (h1 v (by simp)),hcell]
   simp [hfro,setCell_eq_setRow w g (o+i) cur t fz v hg]
  have ih:=q16 P g o t fz rest (i+1) (cur.setIfInBounds (o+i) v) (w.setRow g (cur.setIfInBounds (o+i) v)) (setRow_heap w g cur _ t _ hg) (by simpa using hfz) (by simp at hl⊢;omega) (fun x hx=>h1 x (by simp [hx]))
  simp only[storeCells,Sem.run_bind,hst,Result.andThen_ok,ih,setRow_setRow]
  congr 3
  have e:=list_seg_step cur.toList (o+i) v rest (by simp at hl⊢;omega)
  simpa [Array.toList_setIfInBounds,Nat.add_assoc] using e
def BlkRel(w:World)(F:Nat→Prop)(base:Nat)(σ:Nat→Option Loc)(b:Nat)(blk:Blk):Prop:=
 (blk.n=0∧σ b=none)∨
 (∃(l:Loc) (es:Array MapEntry) (clock:Nat) (ds:List (D×V)),blk=.map ds∧σ b=some l∧MemObj w σ l es clock ds∧l.k=0∧True∧MapRel w F base σ es ds)∨
 ∃(l:Loc) (cs:Array Value) (T:TypeId),σ b=some l∧RowAt w l.blk cs T∧l.k=blk.k∧blk.n≤l.ext∧cs.size=l.ext*l.k∧
  (∀ i row,blk.row? i=some row→row.length=blk.k∧∀ j x,row[j]? = some x→∃ v,cs[i*l.k+j]? = some v∧v.oneCell'=true∧RepV w F base σ v x)∧blk.entries=none
theorem BlkRel.kk{b:Nat}{blk:Blk}{l:Loc}(h:BlkRel w F base σ b blk)(hl:σ b=some l):l.k=blk.k:=by
 rcases h with⟨_,hn⟩|⟨l',es,ck,ds,rfl,hl',_,hk,_⟩|⟨l',cs,T,hl',hw,hk,_⟩
 ·rw[hn] at hl;cases hl
 ·obtain rfl:l=l':=by rw[hl] at hl';exact Option.some.inj hl'
  exact hk
 ·obtain rfl:l=l':=by rw[hl] at hl';exact Option.some.inj hl'
  exact hk
structure HeapRel(w:World)(F:Nat→Prop)(X:Nat→Nat→Prop)(base:Nat)(σ:Nat→Option Loc)(nx:Nat)(H:List (Nat×Blk)):Prop where
 blk:∀ b blk,look H b=some blk→BlkRel w F base σ b blk
 inj:∀ b b' l l',σ b=some l→σ b'=some l'→l.blk=l'.blk→b=b'
 own:∀ b l,σ b=some l→b<nx∧¬ F l.blk∧(base≤l.blk∨X b l.blk)∧l.blk<w.heap.size
 fro:∀ b,F b→b<w.heap.size
end Go.Vm
end

section
namespace Go.Vm
open Go.RowKit
variable {P:Program}{w:World}{F:Nat→Prop}{X:Nat→Nat→Prop}{base nx:Nat}{σ:Nat→Option Loc}{H:List (Nat×Blk)}
theorem z4a(c:Bool)(x:D):∃ c',mkd c x=.d c' x:=by unfold mkd;split <;> exact⟨_,rfl⟩
def q4Q(H:List (Nat×Blk)):V→Option (List V)
 |.ptr b i j=>match look H b with
  |some blk=>match blk.row? i with
   |some row=>some (row.drop j)
   |none=>none
  |none=>none
 |.d c (.ptr cells)=>some (cells.map (mkd c))
 |_=>none
theorem z84(n:Nat)(agg:Bool)(p:V):evLd H n agg p=(q4Q H p).bind (part agg n):=by
 unfold evLd q4Q
 cases p with
 |ptr b i j=>
  cases h:look H b with
  |none=>simp [h]
  |some blk=>cases hr:blk.row? i <;> simp [h,hr]
 |d c x=>cases x <;> rfl
 |_=>rfl
theorem q6P(hH:HeapRel w F X base σ nx H){p:V}{xs:List V}(hp:q4Q H p=some xs){v:Value}(hv:RepV w F base σ v p) :
  ∃ b o,v=.pointer (some ⟨b,o,none⟩)∧∀(m:Nat) (x:V),xs[m]? = some x→∃ u,w.cell? ⟨b,o+m,none⟩=some u∧u.oneCell'=true∧RepV w F base σ u x:=by
 cases hv with
 |d c v x h=>
  cases h with
  |ptr b o cells g hF hc hg=>
   simp only[q4Q,Option.some.injEq] at hp
   subst hp
   refine⟨b,o,rfl,fun m x hx=>?_⟩
   simp only[List.getElem?_map,Option.map_eq_some_iff] at hx
   obtain⟨d,hd,rfl⟩:=hx
   exact⟨g m,hc m d hd,(hg m d hd).oneCell,.mkd (hg m d hd)⟩
  |_=>simp [q4Q] at hp
 |ptr b i j l hl=>
  simp only[q4Q] at hp
  cases hb:look H b with
  |none=>simp [hb] at hp
  |some blk=>
   cases hr:blk.row? i with
   |none=>simp [hb,hr] at hp
   |some row=>
    simp only[hb,hr,Option.some.injEq] at hp
    subst hp
    rcases hH.blk b blk hb with⟨_,hn⟩|⟨l',es,ck,ds,rfl,_⟩|⟨l',cs,T,hl',hw,hk,hn,hsz,hrow,_⟩
    ·rw[hn] at hl;cases hl
    ·simp [Blk.row?] at hr
    ·obtain rfl:l=l':=by rw[hl] at hl';exact Option.some.inj hl'
     refine⟨l.blk,i*l.k+j,rfl,fun m x hx=>?_⟩
     rw[List.getElem?_drop] at hx
     obtain⟨u,hu,h1,hR⟩:=(hrow i row hr).2 (j+m) x hx
     refine⟨u,?_,h1,hR⟩
     rw[hw.cell,←hu]
     congr 1
     omega
 |_=>simp [q4Q] at hp
theorem add_lit(b o m:Nat):(⟨b,o,none⟩:Addr).add m=⟨b,o+m,none⟩:=by
 unfold Addr.add;split <;> simp_all
theorem q8R{b o n:Nat}{xs:List V}(hn:n≤xs.length)
  (h:∀(m:Nat) (x:V),xs[m]? = some x→∃ u,w.cell? ⟨b,o+m,none⟩=some u∧u.oneCell'=true∧RepV w F base σ u x) :
  ∃ cs:Array Value,(loadCells ⟨b,o,none⟩ n).run P w=.ok cs w∧RepV w F base σ (.agg cs) (.agg (xs.take n))∧cs.size=n:=by
 have hx:∀ m,m<n→∃ x,xs[m]? = some x:=fun m hm=>⟨_,List.getElem?_eq_getElem (by omega)⟩
 have hrun:=run_loadCells (P:=P) w ⟨b,o,none⟩ n (fun m=>(w.cell? ⟨b,o+m,none⟩).getD undef) (fun m hm=>by
  obtain⟨x,hx⟩:=hx m hm
  obtain⟨u,hu,_⟩:=h m x hx
  rw[add_lit,hu];rfl)
 refine⟨_,hrun,.agg _ _ (by simp;omega) (fun j v x hv hxx=>?_) (fun v hv=>?_),by simp⟩
 ·simp only[List.getElem?_toArray,List.getElem?_map,Option.map_eq_some_iff] at hv
  obtain⟨m,hm,rfl⟩:=hv
  rw[List.getElem?_range] at hm
  ·obtain rfl:j=m:=by simpa using hm
   rw[List.getElem?_take] at hxx
   split at hxx
   ·obtain⟨u,hu,_,hR⟩:=h j x hxx
    rw[hu];exact hR
   ·cases hxx
  ·rw[List.getElem?_take] at hxx
   split at hxx
   ·assumption
   ·cases hxx
 ·simp only[List.mem_toArray,List.mem_map,List.mem_range] at hv
  obtain⟨m,hm,rfl⟩:=hv
  obtain⟨x,hx⟩:=hx m hm
  obtain⟨u,hu,h1,_⟩:=h m x hx
  rw[hu];exact h1
def q3s:TypeDesc→Bool
 |.struct _|.array _ _=>true
 |_=>false
def z3F(P:Program)(t:TypeId):Bool:=match P.underlying t with
 |some d=>q3s d
 |none=>false
theorem q4Z{t:TypeId}{d:TypeDesc}(h:P.underlying t=some d)(w:World):(isAgg t).run P w=.ok (q3s d) w:=by
 unfold isAgg
 rw[Sem.run_bind,run_underlying h]
 cases d <;> rfl
theorem q1t{t:TypeId}{i:TypeInfo}(h:P.info? t=some i)(w:World):(sizeOf t).run P w=.ok i.size w:=by
 simp [sizeOf,typeInfo,h]
theorem q6q{t:TypeId}{d:TypeDesc}{i:TypeInfo}(ht:P.underlying t=some d)(hi:P.info? t=some i){b o:Nat}{xs:List V}{r:V}
  (h:∀(m:Nat) (x:V),xs[m]? = some x→∃ u,w.cell? ⟨b,o+m,none⟩=some u∧u.oneCell'=true∧RepV w F base σ u x)
  (hr:part (q3s d) i.size xs=some r):∃ v,(loadVar t ⟨b,o,none⟩).run P w=.ok v w∧RepV w F base σ v r:=by
 cases hd:q3s d with
 |true=>
  simp only[part,hd,if_true] at hr
  split at hr
  ·rename_i hn
   obtain rfl:=Option.some.inj hr
   obtain⟨cs,h1,h2,_⟩:=q8R (P:=P) hn h
   exact⟨_,by simp [loadVar,q4Z ht,hd,q1t hi,h1],h2⟩
  ·cases hr
 |false=>
  simp only[part,hd,Bool.false_eq_true,if_false] at hr
  split at hr
  ·cases xs with
   |nil=>simp at hr
   |cons x xs=>
    simp only[List.head?_cons,Option.some.injEq] at hr
    subst hr
    obtain⟨u,hu,_,hR⟩:=h 0 x rfl
    refine⟨u,?_,hR⟩
    simp only[Nat.add_zero] at hu
    simp [loadVar,q4Z ht,hd,hu]
  ·cases hr
def OpOk(P:Program)(w:World)(F:Nat→Prop)(base:Nat)(σ:Nat→Option Loc)(ρ:Operand→Value)(o:Oper)(r:V):Prop:=
 ∃ v,(execOp ρ o).run P w=.ok (.value v) w∧RepV w F base σ v r
variable {ρ:Operand→Value}{o:Oper}
theorem j2n{t:TypeId}{x:Operand}{d:TypeDesc}{i:TypeInfo}(ho:o.op=.load t x)(ht:P.underlying t=some d)(hi:P.info? t=some i)
  (hH:HeapRel w F X base σ nx H) {p r:V} (hx:RepV w F base σ (ρ x) p) (hr:evLd H i.size (q3s d) p=some r):OpOk P w F base σ ρ o r:=by
 rw[z84] at hr
 cases hc:q4Q H p with
 |none=>simp [hc] at hr
 |some xs=>
  simp only[hc,Option.bind_some] at hr
  obtain⟨b,of,hv,hcell⟩:=q6P hH hc hx
  obtain⟨v,h1,h2⟩:=q6q (P:=P) ht hi hcell hr
  refine⟨v,?_,h2⟩
  simp [execOp,ho,Instr.loadAt,hv,Instr.sureAddr,h1]
theorem z7v{x:Operand}(ho:o.op=.move x∨o.op=.assign x){r:V}(hx:RepV w F base σ (ρ x) r):OpOk P w F base σ ρ o r:=by
 refine⟨ρ x,?_,hx⟩
 rcases ho with h|h <;> simp [execOp,h]
theorem ok_fa{t:TypeId}{x:Operand}{n:Nat}{fs:Array Field}{f:Field}{i:TypeInfo}(ho:o.op=.fieldAddr t x n)(ht:P.underlying t=some (.struct fs))(hf:fs[n]? = some f)
  (hi:P.info? f.type=some i) (hs:i.size≠0) {p r:V} (hx:RepV w F base σ (ρ x) p) (hr:evFa f.offset p=some r):OpOk P w F base σ ρ o r:=by
 have fin:∀ b of,ρ x=.pointer (some ⟨b,of,none⟩)→(execOp ρ o).run P w=.ok (.value (.pointer (some ⟨b,of+f.offset,none⟩))) w:=fun b of hv=>by
  simp [execOp,ho,Instr.fieldAt,run_underlying ht,hf,hv,Instr.sureAddr,fieldPlace,q1t hi,hs,add_lit]
 generalize hu:ρ x=u at hx
 cases hx with
 |ptr b i j l hl=>
  simp only[evFa,Option.some.injEq] at hr
  subst hr
  refine⟨_,fin _ _ hu,?_⟩
  rw[show i*l.k+j+f.offset=i*l.k+(j+f.offset) by omega]
  exact .ptr b i (j+f.offset) l hl
 |d c v x h=>
  cases h with
  |ptr b of cells g hF hc hg=>
   simp only[evFa,Option.some.injEq] at hr
   subst hr
   refine⟨_,fin _ _ hu,.d _ _ _ (.ptr b _ _ (fun m=>g (f.offset+m)) hF (fun j d hd=>?_) (fun j d hd=>?_))⟩
   ·rw[List.getElem?_drop] at hd
    rw[←hc _ d hd]
    congr 2
    omega
   ·rw[List.getElem?_drop] at hd
    exact hg _ d hd
  |_=>simp [evFa] at hr
 |_=>simp [evFa] at hr
theorem j2a{b of len cap k:Nat}{rows:List (List D)}{row:List D}{n:Int}{c:Bool}(h:RepD w (col F base c) (.slice (some ⟨b,of,none⟩) len cap) (.sl k rows))
  (h0:0≤n) (hrow:rows[n.toNat]? = some row):n<len∧RepV w F base σ (.pointer (some ⟨b,of+n.toNat*k,none⟩)) (.d c (.ptr row)):=by
 cases h with
 |sl0 a cap=>simp at hrow
 |sl b o len cap k rows g h1 h2 h3 h4 h5 h6=>
  have hlt:n.toNat<rows.length:=(List.getElem?_eq_some_iff.1 hrow).1
  refine⟨by omega,.d _ _ _ (.ptr b _ _ (fun j=>g n.toNat j) h3 (fun j d hd=>?_) (fun j d hd=>h6 _ _ _ _ hrow hd))⟩
  rw[←h5 _ _ _ _ hrow hd]
  congr 2
  omega
theorem ok_ia{t e:TypeId}{x y:Operand}{i:TypeInfo}(ho:o.op=.indexAddr t x y)(ht:P.underlying t=some (.slice e))(hi:P.info? e=some i)
  (hH:HeapRel w F X base σ nx H) {p q r:V} (hx:RepV w F base σ (ρ x) p) (hy:RepV w F base σ (ρ y) q) (hr:evIa H i.size p q=some r):OpOk P w F base σ ρ o r:=by
 have fin:∀ b of len cap k (n:Int),ρ x=.slice (some ⟨b,of,none⟩) len cap→ρ y=.int k n→0≤n→n<len→
   (execOp ρ o).run P w=.ok (.value (.pointer (some ⟨b,of+n.toNat*i.size,none⟩))) w:=fun b of len cap k n hv hq h0 h1=>by
  have hw:((⟨b,of,none⟩:Addr).add (n.toNat*i.size))=⟨b,of+n.toNat*i.size,none⟩:=add_lit _ _ _
  simp [execOp,ho,Instr.indexAt,run_underlying ht,hv,hq,asIntOf,q1t hi,h0,h1,hw]
 have rowcase:∀(c:Bool) (k':Nat) (rows:List (List D)) (kd:IntKind) (n:Int) (a:Option Addr) (len cap:Nat),ρ x=.slice a len cap→ρ y=.int kd n→RepD w (col F base c) (.slice a len cap) (.sl k' rows)→
   (if k'=i.size∧0≤n then match rows[n.toNat]? with|some row=>some (V.d c (.ptr row))|none=>none else none)=some r→OpOk P w F base σ ρ o r:=by
  intro c k' rows kd n a len cap hu hv h hr
  split at hr
  ·rename_i hc
   obtain⟨hk,h0⟩:=hc
   cases hrow:rows[n.toNat]? with
   |none=>simp [hrow] at hr
   |some row=>
    simp only[hrow,Option.some.injEq] at hr
    subst hr
    cases h with
    |sl0=>simp at hrow
    |sl b of len cap k'' rows g h1 h2 h3 h4 h5 h6=>
     obtain⟨hn,hR⟩:=j2a (σ:=σ) (.sl b of len cap k' rows g h1 h2 h3 h4 h5 h6) h0 hrow
     rw[hk] at hR
     exact⟨_,fin _ _ _ _ _ n hu hv h0 hn,hR⟩
  ·cases hr
 generalize hu:ρ x=u at hx
 generalize hv:ρ y=v at hy
 cases q with
 |d cq xq=>
  cases xq with
  |int k n=>
   obtain rfl:=hy.int_inv
   cases hx with
   |bsl b i0 len cap l hl h1 h2=>
    simp only[evIa] at hr
    cases hb:look H b with
    |none=>simp [hb] at hr
    |some blk=>
     simp only[hb] at hr
     split at hr
     ·rename_i hc
      obtain⟨hk,h0,hn⟩:=hc
      obtain rfl:=Option.some.inj hr
      have hk':=(hH.blk b blk hb).kk hl
      refine⟨_,fin _ _ _ _ k n hu hv h0 hn,?_⟩
      rw[show i0*l.k+n.toNat*i.size=(i0+n.toNat)*l.k+0 by rw[←hk,←hk',Nat.add_mul];rfl]
      exact .ptr b _ 0 l hl
     ·cases hr
   |bsx b i0 len cap l a hl h1 h2 h3=>
    simp only[evIa] at hr
    cases hb:look H b with
    |none=>simp [hb] at hr
    |some blk=>
     simp only[hb] at hr
     split at hr
     ·rename_i hc
      obtain⟨hk,h0,hn⟩:=hc
      obtain rfl:=Option.some.inj hr
      have hk':=(hH.blk b blk hb).kk hl
      obtain rfl:=h3 (by omega)
      refine⟨_,fin _ _ _ _ k n hu hv h0 hn,?_⟩
      rw[show i0*l.k+n.toNat*i.size=(i0+n.toNat)*l.k+0 by rw[←hk,←hk',Nat.add_mul];rfl]
      exact .ptr b _ 0 l hl
     ·cases hr
   |bsl0 a b i0=>
    simp only[evIa] at hr
    cases hb:look H b with
    |none=>simp [hb] at hr
    |some blk=>
     simp only[hb] at hr
     split at hr
     ·rename_i hc;have:=hc.2.2;omega
     ·cases hr
   |d c v x h=>
    cases x with
    |sl k' rows=>
     cases h with
     |sl0 a cap _ hc=>exact rowcase c k' [] k n _ _ _ hu hv (.sl0 a cap _ hc) hr
     |sl b of len cap _ rows g h1 h2 h3 h4 h5 h6=>exact rowcase c k' rows k n _ _ _ hu hv (.sl b of len cap k' rows g h1 h2 h3 h4 h5 h6) hr
    |_=>simp [evIa] at hr
   |fs c a len k' rows h=>exact rowcase c k' rows k n _ _ _ hu hv h hr
   |_=>simp [evIa] at hr
  |_=>cases hx <;> first|(simp [evIa] at hr;done)|(rename_i x h;cases x <;> simp [evIa] at hr)
 |_=>cases hx <;> first|(simp [evIa] at hr;done)|(rename_i x h;cases x <;> simp [evIa] at hr)
end Go.Vm
end

section
namespace Go.Vm
open Go.RowKit
variable {P:Program}{w:World}{F:Nat→Prop}{X:Nat→Nat→Prop}{base nx:Nat}{σ:Nat→Option Loc}{H:List (Nat×Blk)}{ρ:Operand→Value}{o:Oper}
theorem OpOk.val{v:Value}{r:V}(h:(execOp ρ o).run P w=.ok (.value v) w)(hR:RepV w F base σ v r):OpOk P w F base σ ρ o r:=⟨v,h,hR⟩
theorem ok_aa{t e:TypeId}{x y:Operand}{len:Nat}{i:TypeInfo}(ho:o.op=.indexAddr t x y)(ht:P.underlying t=some (.array len e))(hi:P.info? e=some i)
  {p q r:V} (hx:RepV w F base σ (ρ x) p) (hy:RepV w F base σ (ρ y) q) (hr:evAa len i.size p q=some r):OpOk P w F base σ ρ o r:=by
 have fin:∀ b of k (n:Int),ρ x=.pointer (some ⟨b,of,none⟩)→ρ y=.int k n→0≤n→n<len→
   (execOp ρ o).run P w=.ok (.value (.pointer (some ⟨b,of+n.toNat*i.size,none⟩))) w:=fun b of k n hv hq h0 h1=>by
  have hw:((⟨b,of,none⟩:Addr).add (n.toNat*i.size))=⟨b,of+n.toNat*i.size,none⟩:=add_lit _ _ _
  simp [execOp,ho,Instr.indexAt,run_underlying ht,hv,hq,asIntOf,q1t hi,h0,h1,hw,Instr.sureAddr]
 generalize hu:ρ x=u at hx
 generalize hv:ρ y=v at hy
 cases q with
 |d cq xq=>
  cases xq with
  |int k n=>
   obtain rfl:=hy.int_inv
   cases hx with
   |ptr b i0 j l hl=>
    simp only[evAa] at hr
    split at hr
    ·rename_i hc
     obtain rfl:=Option.some.inj hr
     refine⟨_,fin _ _ k n hu hv hc.1 hc.2,?_⟩
     rw[Nat.add_assoc]
     exact .ptr b i0 _ l hl
    ·cases hr
   |d c v x h=>
    cases h with
    |ptr b of cells g hF hc hg=>
     simp only[evAa] at hr
     split at hr
     ·rename_i hh
      obtain rfl:=Option.some.inj hr
      refine⟨_,fin _ _ k n hu hv hh.1 hh.2,.d _ _ _ (.ptr b _ _ (fun m=>g (n.toNat*i.size+m)) hF (fun j d hd=>?_) (fun j d hd=>?_))⟩
      ·rw[List.getElem?_drop] at hd
       rw[←hc _ d hd]
       congr 2
       omega
      ·rw[List.getElem?_drop] at hd
       exact hg _ d hd
     ·cases hr
    |_=>simp [evAa] at hr
   |_=>simp [evAa] at hr
  |_=>cases hx <;> first|(simp [evAa] at hr;done)|(rename_i h;cases h <;> simp [evAa] at hr)
 |_=>cases hx <;> first|(simp [evAa] at hr;done)|(rename_i h;cases h <;> simp [evAa] at hr)
theorem z9f(s:ByteArray)(n:Nat):s[n]? = s.data.toList[n]?:=by
 cases h:s.data.toList[n]? with
 |none=>
  have:s.size≤n:=by
   have:=List.getElem?_eq_none_iff.1 h
   simpa using this
  simp [getElem?_def,Nat.not_lt.2 this]
 |some b=>
  obtain⟨hl,hb⟩:=List.getElem?_eq_some_iff.1 h
  have hl':n<s.size:=by simpa using hl
  simp only[getElem?_def,hl',dite_true]
  rw[←hb]
  rfl
theorem ok_ix{t:TypeId}{x y:Operand}(ho:o.op=.index t x y)(ht:P.underlying t=some .string)
  {p q r:V} (hx:RepV w F base σ (ρ x) p) (hy:RepV w F base σ (ρ y) q) (hr:evIx p q=some r):OpOk P w F base σ ρ o r:=by
 generalize hu:ρ x=u at hx
 generalize hv:ρ y=v at hy
 cases q with
 |d cq xq=>
  cases xq with
  |int k n=>
   obtain rfl:=hy.int_inv
   cases p with
   |d cp xp=>
    cases xp with
    |str s=>
     obtain⟨s,rfl,rfl⟩:=hx.str_inv
     simp only[evIx] at hr
     split at hr
     ·rename_i h0
      cases hb:s.data.toList[n.toNat]? with
      |none=>simp [hb] at hr
      |some b=>
       simp only[hb,Option.some.injEq] at hr
       subst hr
       refine⟨_,?_,.int⟩
       have hb':s[n.toNat]? = some b:=by rw[z9f];exact hb
       simp [execOp,ho,Instr.index,run_underlying ht,hu,hv,asIntOf,h0,hb']
     ·cases hr
    |_=>simp [evIx] at hr
   |_=>simp [evIx] at hr
  |_=>cases p <;> first|(simp [evIx] at hr;done)|(rename_i c x;cases x <;> simp [evIx] at hr)
 |_=>cases p <;> first|(simp [evIx] at hr;done)|(rename_i c x;cases x <;> simp [evIx] at hr)
theorem q9S{t:TypeId}{d:TypeDesc}{i:TypeInfo}(ht:P.underlying t=some d)(hi:P.info? t=some i){cs:Array Value}{vs:List V}{off:Nat}{r:V}
  (hcs:RepV w F base σ (.agg cs) (.agg vs)) (hr:part (q3s d) i.size (vs.drop off)=some r) :
  ∃ v,(Go.part t cs off).run P w=.ok v w∧RepV w F base σ v r:=by
 cases hcs with
 |agg _ _ hsz hall h1=>
  unfold Go.part
  cases hd:q3s d with
  |true=>
   simp only[part,hd,if_true] at hr
   split at hr
   ·rename_i hn
    obtain rfl:=Option.some.inj hr
    have hlen:off+i.size≤cs.size∨i.size=0:=by rw[List.length_drop] at hn;omega
    refine⟨_,by simp [q4Z ht,hd,q1t hi];rfl,.agg _ _ ?_ (fun j v x hv hx=>?_) (fun v hv=>?_)⟩
    ·simp only[Array.size_extract,List.length_take]
     rw[List.length_drop] at hn ⊢
     omega
    ·rw[List.getElem?_take] at hx
     split at hx
     ·rw[List.getElem?_drop] at hx
      rw[Array.getElem?_extract] at hv
      split at hv
      ·exact hall _ v x hv hx
      ·cases hv
     ·cases hx
    ·obtain⟨j,hj⟩:=Array.getElem?_of_mem hv
     rw[Array.getElem?_extract] at hj
     split at hj
     ·exact h1 v (Array.mem_of_getElem? hj)
     ·cases hj
   ·cases hr
  |false=>
   simp only[part,hd,Bool.false_eq_true,if_false] at hr
   split at hr
   ·rw[List.head?_drop] at hr
    have hlt:=(List.getElem?_eq_some_iff.1 hr).1
    have hv:cs[off]? = some cs[off]:=Array.getElem?_eq_getElem (by omega)
    exact⟨cs[off],by simp [q4Z ht,hd,hv],hall _ _ _ hv hr⟩
   ·cases hr
theorem j3W{t:TypeId}{x:Operand}{n:Nat}{fs:Array Field}{f:Field}{i:TypeInfo}{d:TypeDesc}(ho:o.op=.field t x n)(ht:P.underlying t=some (.struct fs))(hf:fs[n]? = some f)
  (hi:P.info? f.type=some i) (hd:P.underlying f.type=some d) {p r:V} (hx:RepV w F base σ (ρ x) p) (hr:j28 f.offset i.size (q3s d) p=some r):OpOk P w F base σ ρ o r:=by
 generalize hu:ρ x=u at hx
 cases hx with
 |agg cs vs h1 h2 h3=>
  obtain⟨v,hv,hR⟩:=q9S (P:=P) hd hi (.agg cs vs h1 h2 h3) hr
  exact⟨v,by simp [execOp,ho,Instr.field,run_underlying ht,hf,hu,asAgg,hv],hR⟩
 |_=>simp [j28] at hr
theorem ok_ax{t e:TypeId}{x y:Operand}{len:Nat}{i:TypeInfo}{d:TypeDesc}(ho:o.op=.index t x y)(ht:P.underlying t=some (.array len e))(hi:P.info? e=some i)(hd:P.underlying e=some d)
  {p q r:V} (hx:RepV w F base σ (ρ x) p) (hy:RepV w F base σ (ρ y) q) (hr:evAx len i.size (q3s d) p q=some r):OpOk P w F base σ ρ o r:=by
 generalize hu:ρ x=u at hx
 generalize hv:ρ y=v at hy
 cases q with
 |d cq xq=>
  cases xq with
  |int k n=>
   obtain rfl:=hy.int_inv
   cases hx with
   |agg cs vs h1 h2 h3=>
    simp only[evAx] at hr
    split at hr
    ·rename_i hn
     obtain⟨v,hv',hR⟩:=q9S (P:=P) hd hi (.agg cs vs h1 h2 h3) hr
     exact⟨v,by simp [execOp,ho,Instr.index,run_underlying ht,hu,hv,asIntOf,hn.1,hn.2,q1t hi,hv'],hR⟩
    ·cases hr
   |_=>simp [evAx] at hr
  |_=>cases hx <;> first|(simp [evAx] at hr;done)|(rename_i h;cases h <;> simp [evAx] at hr)
 |_=>cases hx <;> first|(simp [evAx] at hr;done)|(rename_i h;cases h <;> simp [evAx] at hr)
theorem j3X{x:Operand}{n:Nat}(ho:o.op=.extract x n){p r:V}(hx:RepV w F base σ (ρ x) p)(hr:evExt n p=some r):OpOk P w F base σ ρ o r:=by
 generalize hu:ρ x=u at hx
 cases hx with
 |tup cs vs h1 h2=>
  simp only[evExt] at hr
  have hlt:=(List.getElem?_eq_some_iff.1 hr).1
  have hv:cs[n]? = some cs[n]:=Array.getElem?_eq_getElem (by omega)
  exact⟨cs[n],by simp [execOp,ho,Instr.extract,hu,hv],h2 _ _ _ hv hr⟩
 |_=>simp [evExt] at hr
theorem RepD.slice_len{w:World}{F:Nat→Prop}{v:Value}{rows:List (List D)}{k:Nat}(h:RepD w F v (.sl k rows)):∃ a cap,v=.slice a rows.length cap:=by
 cases h with
 |sl0 a cap k h=>exact⟨a,cap,rfl⟩
 |sl b o len cap k rows g h1=>subst h1;exact⟨_,_,rfl⟩
theorem j2l{t:TypeId}{x:Operand}(ho:o.op=.call { callee:=.builtin .len,args:=#[x],argTypes:=#[t] })(ht:P.underlying t=some .string)
  {p r:V} (hx:RepV w F base σ (ρ x) p) (hr:evLen true p=some r):OpOk P w F base σ ρ o r:=by
 generalize hu:ρ x=u at hx
 cases p with
 |d c x=>
  cases x with
  |str s=>
   obtain⟨s,rfl,rfl⟩:=hx.str_inv
   simp only[evLen,Option.some.injEq] at hr
   subst hr
   refine⟨.int .i64 s.size,by simp [execOp,ho,resolve,invoke,builtin,Builtin.len_,run_underlying ht,hu,goInt],?_⟩
   have:s.data.toList.length=s.size:=by rw[Array.length_toList];rfl
   rw[this]
   exact .int
  |_=>simp [evLen] at hr
 |_=>simp [evLen] at hr
theorem j3U{t e:TypeId}{x:Operand}(ho:o.op=.call { callee:=.builtin .len,args:=#[x],argTypes:=#[t] })(ht:P.underlying t=some (.slice e))
  {p r:V} (hx:RepV w F base σ (ρ x) p) (hr:evLen false p=some r):OpOk P w F base σ ρ o r:=by
 have run:∀ a n cap,ρ x=.slice a n cap→(execOp ρ o).run P w=.ok (.value (.int .i64 n)) w:=fun a n cap hv=>by
  simp [execOp,ho,resolve,invoke,builtin,Builtin.len_,run_underlying ht,hv,goInt]
 generalize hu:ρ x=u at hx
 cases hx with
 |d c v x h=>
  cases x with
  |sl k rows=>
   simp only[evLen,Option.some.injEq] at hr
   subst hr
   obtain⟨a,cap,rfl⟩:=h.slice_len
   exact⟨_,run _ _ _ hu,.int⟩
  |_=>simp [evLen] at hr
 |fs c a len k rows h=>
  simp only[evLen,Option.some.injEq] at hr
  subst hr
  obtain⟨a',cap,hv⟩:=h.slice_len
  injection hv with h1 h2 h3
  subst h2
  exact⟨_,run _ _ _ hu,.int⟩
 |bsl0 a b i=>
  simp only[evLen,Option.some.injEq] at hr
  subst hr
  exact⟨_,run _ _ _ hu,.int⟩
 |bsl b i len cap l h1 h2 h3=>
  simp only[evLen,Option.some.injEq] at hr
  subst hr
  exact⟨_,run _ _ _ hu,.int⟩
 |bsx b i len cap l a h1 h2 h3 h4=>
  simp only[evLen,Option.some.injEq] at hr
  subst hr
  exact⟨_,run _ _ _ hu,.int⟩
 |_=>simp [evLen] at hr
end Go.Vm
end

section
namespace Go.Vm
open Go.RowKit
variable {P:Program} {w:World} {F:Nat→Prop} {X:Nat→Nat→Prop} {base nx:Nat} {σ:Nat→Option Loc} {H:List (Nat×Blk)} {ρ:Operand→Value} {o:Oper}
theorem z1l {bo:BinOp} {t:TypeId} {a b:ByteArray} {r:V} (hr:strBin bo a.data.toList b.data.toList=some r) :
    ∃ v,(binOp bo t (.string a) (.string b)).run P w=.ok v w∧RepV w F base σ v r:=by
  have hb:(binOp bo t (.string a) (.string b))=Op.stringOp bo a b:=by cases bo <;> rfl
  have eq:∀ x y:List UInt8,(x == y)=decide (x=y):=fun x y=>by
    by_cases h:x=y <;> simp [h]
  rw [hb]
  unfold Op.stringOp
  simp only [ByteArray.toList_eq,eq]
  cases bo <;> simp only [strBin] at hr <;> (try (cases hr;done)) <;> (try (obtain rfl:=Option.some.inj hr;exact ⟨_,rfl,.bool⟩))
  split at hr
  · rename_i hl
    obtain rfl:=Option.some.inj hr
    have hl':¬ (((a.size+b.size:Nat):Int) > IntKind.i64.max):=by
      have e1:a.data.toList.length=a.size:=by rw [Array.length_toList];rfl
      have e2:b.data.toList.length=b.size:=by rw [Array.length_toList];rfl
      rw [e1,e2] at hl
      have:IntKind.i64.max=9223372036854775807:=by decide
      omega
    refine ⟨.string (a++b),by rw [if_neg hl'];rfl,?_⟩
    have e:a.data.toList++b.data.toList=(a++b).data.toList:=by
      obtain ⟨⟨x⟩⟩:=a
      obtain ⟨⟨y⟩⟩:=b
      rw [ByteArray.mk_append_mk]
    rw [e]
    exact .str
  · cases hr
theorem z14 {bo:BinOp} {t:TypeId} {k:IntKind} {a b:Int} {r:V} (hr:intBin bo k a b=some r) :
    ∃ v,(binOp bo t (.int k a) (.int k b)).run P w=.ok v w∧RepV w F base σ v r:=by
  cases bo <;> simp only [intBin] at hr <;> (try (cases hr;done)) <;>
    first
    | (obtain rfl:=Option.some.inj hr;exact ⟨_,by simp only [binOp_add,binOp_sub,binOp_mul,binOp_and,binOp_or,binOp_xor,binOp_andNot,binOp_eql,binOp_neq,binOp_lss,binOp_leq,binOp_gtr,binOp_geq,Op.intArith,intBits_and,intBits_or,intBits_xor,intBits_andNot,Sem.run_pure] <;> (try rfl),by first | exact .int | exact .bool⟩)
    | (split at hr
       · cases hr
       · rename_i hb
         obtain rfl:=Option.some.inj hr
         exact ⟨_,by simp only [binOp_quo,binOp_rem,Op.intDiv,hb,if_false];rfl,.int⟩)
def q9Z:TypeDesc→Option Nat
  | .int _=>some 0
  | .bool=>some 1
  | .string=>some 2
  | _=>none
def q5V (P:Program):List Field→Nat→Option (List Nat)
  | [],_=>some []
  | f :: fs,n=>if f.offset=n∧f.name ≠ "_" then match P.underlying f.type with
      | some d=>match q9Z d,q5V P fs (n+1) with
        | some k,some ks=>some (k :: ks)
        | _,_=>none
      | none=>none
    else none
theorem z2x {k:Nat} {x y:V} {u v:Value} {b:Bool} (he:q2l k x y=some b) (hx:RepV w F base σ u x) (hy:RepV w F base σ v y) {t:TypeId} {d:TypeDesc} (ht:P.underlying t=some d) (hd:q9Z d=some k) (n:Nat) :
    (Op.equalIn (n+1) t u v).run P w=.ok b w:=by
  cases d <;> simp only [q9Z] at hd <;> (try (cases hd;done)) <;> obtain rfl:=Option.some.inj hd
  · cases x with
    | d c x=>
      cases y with
      | d c' y=>
        cases x <;> cases y <;> simp only [q2l] at he <;> (try (cases he;done))
        obtain rfl:=hx.bool_inv
        obtain rfl:=hy.bool_inv
        rw [← Option.some.inj he]
        exact run_equalIn_bool' w n t _ _ ht
      | _=>simp [q2l] at he
    | _=>simp [q2l] at he
  · cases x with
    | d c x=>
      cases y with
      | d c' y=>
        cases x <;> cases y <;> simp only [q2l] at he <;> (try (cases he;done))
        split at he
        · rename_i hk
          subst hk
          obtain rfl:=hx.int_inv
          obtain rfl:=hy.int_inv
          rw [← Option.some.inj he]
          exact run_equalIn_int w n t _ _ _ _ ht
        · cases he
      | _=>simp [q2l] at he
    | _=>simp [q2l] at he
  · cases x with
    | d c x=>
      cases y with
      | d c' y=>
        cases x <;> cases y <;> simp only [q2l] at he <;> (try (cases he;done))
        obtain ⟨p,rfl,rfl⟩:=hx.str_inv
        obtain ⟨q,rfl,rfl⟩:=hy.str_inv
        rw [run_equalIn_string w n t _ _ ht,ByteArray.toList_eq,ByteArray.toList_eq,← Option.some.inj he]
        congr 1
        by_cases h:p.data.toList=q.data.toList
        · simp [h]
        · rw [decide_eq_false h];exact beq_eq_false_iff_ne.2 h
      | _=>simp [q2l] at he
    | _=>simp [q2l] at he
theorem q7B {t:TypeId} {d:TypeDesc} (ht:P.underlying t=some d) {k:Nat} (hd:q9Z d=some k) {cs:Array Value} {n:Nat} {v:Value} (hv:cs[n]? = some v):(Go.part t cs n).run P w=.ok v w:=by
  unfold Go.part
  have:q3s d=false:=by cases d <;> first | rfl | (simp [q9Z] at hd)
  simp [q4Z ht,this,hv]
theorem q6O:∀ (fs:List Field) (n:Nat) (ks:List Nat) (x y:List V) (b:Bool) (xs ys:Array Value) (d:Nat),q5V P fs n=some ks→q1R ks x y=some b→
    (∀ j v z,xs[n+j]? = some v→x[j]? = some z→RepV w F base σ v z)→(∀ j v z,ys[n+j]? = some v→y[j]? = some z→RepV w F base σ v z)→xs.size=n+x.length→ys.size=n+y.length→
    (Op.eqFields (d+1) xs ys fs).run P w=.ok b w
  | [],n,ks,x,y,b,xs,ys,d,hk,he,_,_,_,_=>by
    obtain rfl:=Option.some.inj hk
    cases x <;> cases y <;> simp only [q1R] at he <;> first | (cases he;done) | (obtain rfl:=Option.some.inj he;simp [Op.eqFields])
  | f :: fs,n,ks,x,y,b,xs,ys,d,hk,he,hx,hy,hxs,hys=>by
    simp only [q5V] at hk
    split at hk
    · rename_i hf
      obtain ⟨hoff,hname⟩:=hf
      cases ht:P.underlying f.type with
      | none=>simp [ht] at hk
      | some td=>
        cases hkd:q9Z td with
        | none=>simp [ht,hkd] at hk
        | some k=>
          cases hks:q5V P fs (n+1) with
          | none=>simp [ht,hkd,hks] at hk
          | some ks'=>
            simp only [ht,hkd,hks,Option.some.injEq] at hk
            subst hk
            cases x with
            | nil=>simp [q1R] at he
            | cons a x=>
              cases y with
              | nil=>simp [q1R] at he
              | cons a' y=>
                simp only [q1R] at he
                cases hp:q2l k a a' with
                | none=>simp [hp] at he
                | some p=>
                  cases hq:q1R ks' x y with
                  | none=>simp [hp,hq] at he
                  | some q=>
                    simp only [hp,hq,Option.some.injEq] at he
                    subst he
                    have hu:xs[n]? = some (xs[n]'(by simp at hxs;omega)):=Array.getElem?_eq_getElem _
                    have hv:ys[n]? = some (ys[n]'(by simp at hys;omega)):=Array.getElem?_eq_getElem _
                    have e1:=z2x (P:=P) hp (hx 0 _ a hu rfl) (hy 0 _ a' hv rfl) ht hkd d
                    have ih:=q6O fs (n+1) ks' x y q xs ys d hks hq (fun j v z h1 h2=>hx (j+1) v z (by rw [← h1];congr 1;omega) (by simpa using h2))
                      (fun j v z h1 h2=>hy (j+1) v z (by rw [← h1];congr 1;omega) (by simpa using h2)) (by simp at hxs;omega) (by simp at hys;omega)
                    simp only [Op.eqFields,hname,ne_eq,not_false_eq_true,if_true,hoff,Sem.run_bind,q7B ht hkd hu,q7B ht hkd hv,Result.andThen_ok,e1]
                    cases p
                    · simp
                    · simpa using ih
    · cases hk
theorem q6h {bo:BinOp} {neg:Bool} {t t2:TypeId} {x y:Operand} {fs:Array Field} {ks:List Nat} (ho:o.op=.binOp bo t x y t2) (hbo:bo=if neg then .neq else .eql) (ht:P.underlying t=some (.struct fs))
    (hk:q5V P fs.toList 0=some ks) (hs:P.stoodInHeld t=false) (hg:P.eqGuardType P.depth t=false) {p q r:V} (hx:RepV w F base σ (ρ x) p) (hy:RepV w F base σ (ρ y) q) (hr:q4M neg true ks p q=some r):OpOk P w F base σ ρ o r:=by
  generalize hu:ρ x=u at hx
  generalize hv:ρ y=v at hy
  have hfo:P.fieldsOf t=fs:=by simp [Program.fieldsOf,ht]
  cases hx with
  | agg xs vs h1 h2 h3=>
    cases hy with
    | agg ys us g1 g2 g3=>
      simp only [q4M,if_true] at hr
      cases he:q1R ks vs us with
      | none=>simp [he] at hr
      | some b=>
        simp only [he,Option.some.injEq] at hr
        subst hr
        have hc:=q6O (P:=P) (w:=w) (F:=F) (base:=base) (σ:=σ) fs.toList 0 ks vs us b xs ys 9998 hk he (fun j v z a c=>h2 j v z (by simpa using a) c) (fun j v z a c=>g2 j v z (by simpa using a) c) (by omega) (by omega)
        have hrun:=run_equalIn_struct (P:=P) w 9999 t xs ys (by rw [hfo];exact ht) hs
        rw [hfo,hc] at hrun
        refine ⟨.bool (if neg then !b else b),?_,.bool⟩
        subst hbo
        cases neg
        · simp [execOp,ho,hu,hv,run_eqGuard_agg w .eql t x y xs ys hg,run_eql_struct w t xs ys,hrun]
        · simp [execOp,ho,hu,hv,run_eqGuard_agg w .neq t x y xs ys hg,run_neq_struct w t xs ys,hrun]
    | _=>simp [q4M] at hr
  | _=>simp [q4M] at hr
theorem q8G {bo:BinOp} {neg:Bool} {t t2:TypeId} {x y:Operand} (ho:o.op=.binOp bo t x y t2) (hbo:bo=if neg then .neq else .eql) (ht:P.underlying t=some .bool)
    {p q r:V} (hx:RepV w F base σ (ρ x) p) (hy:RepV w F base σ (ρ y) q) (hr:q4M neg false [1] p q=some r):OpOk P w F base σ ρ o r:=by
  have main:∀ a b c c',p=.d c (.bool a)→q=.d c' (.bool b)→OpOk P w F base σ ρ o r:=by
    rintro a b c c' rfl rfl
    have hu:=hx.bool_inv
    have hv:=hy.bool_inv
    simp only [q4M,Bool.false_eq_true,if_false,q1R,q2l,Bool.and_true,Option.some.injEq] at hr
    subst hr
    have hrun:=run_equalIn_bool' (P:=P) w 9999 t a b ht
    refine ⟨.bool (if neg then !(a == b) else (a == b)),?_,.bool⟩
    subst hbo
    cases neg
    · simp [execOp,ho,hu,hv,eqGuard_at_bool,binOp,Op.equal,Op.maxDepth,hrun]
    · simp [execOp,ho,hu,hv,eqGuard_at_bool,binOp,Op.equal,Op.maxDepth,hrun]
  cases p with
  | d c x=>
    cases q with
    | d c' y=>cases x <;> cases y <;> first | exact main _ _ _ _ rfl rfl | (simp [q4M,q1R,q2l] at hr;done)
    | _=>cases x <;> simp [q4M,q1R,q2l] at hr
  | agg _=>cases q <;> simp [q4M,q1R,q2l] at hr
  | _=>simp [q4M,q1R,q2l] at hr
theorem j3Y {bo:BinOp} {t t2:TypeId} {x y:Operand} (ho:o.op=.binOp bo t x y t2) {p q r:V} (hx:RepV w F base σ (ρ x) p) (hy:RepV w F base σ (ρ y) q) (hr:evBin bo p q=some r):OpOk P w F base σ ρ o r:=by
  cases p with
  | d c x1=>
    cases q with
    | d c' y1=>
      cases x1 <;> cases y1 <;> simp only [evBin] at hr <;> (try (cases hr;done))
      · split at hr
        · rename_i hk
          subst hk
          have hu:=hx.int_inv
          have hv:=hy.int_inv
          obtain ⟨v,hv',hR⟩:=z14 (P:=P) (w:=w) (F:=F) (base:=base) (σ:=σ) (t:=t) hr
          exact ⟨v,by simp [execOp,ho,hu,hv,eqGuard_at_int,hv'],hR⟩
        · cases hr
      · obtain ⟨a,hu,rfl⟩:=hx.str_inv
        obtain ⟨b,hv,rfl⟩:=hy.str_inv
        obtain ⟨v,hv',hR⟩:=z1l (P:=P) (w:=w) (F:=F) (base:=base) (σ:=σ) (t:=t) hr
        exact ⟨v,by simp [execOp,ho,hu,hv,eqGuard_at_string,hv'],hR⟩
    | _=>simp [evBin] at hr
  | _=>simp [evBin] at hr
theorem ok_sh {bo:BinOp} {l:Bool} {t t2:TypeId} {x y:Operand} (ho:o.op=.binOp bo t x y t2) (hb:bo=if l then .shl else .shr) {p q r:V} (hx:RepV w F base σ (ρ x) p) (hy:RepV w F base σ (ρ y) q) (hr:evSh l p q=some r):OpOk P w F base σ ρ o r:=by
  cases p with
  | d c x1=>
    cases q with
    | d c' y1=>
      cases x1 <;> cases y1 <;> simp only [evSh] at hr <;> (try (cases hr;done))
      split at hr
      · rename_i hk
        obtain rfl:=Option.some.inj hr
        have hu:=hx.int_inv
        have hv:=hy.int_inv
        subst hb
        cases l with
        | true=>exact ⟨_,by simp [execOp,ho,hu,hv,eqGuard_at_int,binOp_shl,shift_shl_any _ _ _ _ hk],.int⟩
        | false=>exact ⟨_,by simp [execOp,ho,hu,hv,eqGuard_at_int,binOp_shr,shift_shr_any _ _ _ _ hk],.int⟩
      · cases hr
    | _=>simp [evSh] at hr
  | _=>simp [evSh] at hr
theorem ok_un {uo:UnOp} {t:TypeId} {x:Operand} (ho:o.op=.unOp uo t x) {p r:V} (hx:RepV w F base σ (ρ x) p) (hr:evUn uo p=some r):OpOk P w F base σ ρ o r:=by
  cases p with
  | d c x1=>
    cases x1 <;> simp only [evUn] at hr <;> (try (cases hr;done))
    · have hu:=hx.int_inv
      cases uo <;> simp only at hr <;> (try (cases hr;done))
      all_goals obtain rfl:=Option.some.inj hr
      · exact ⟨_,by simp [execOp,ho,hu,Op.unary,Op.intArith],.int⟩
      · exact ⟨_,by simp [execOp,ho,hu,Op.unary,Op.intBits,bits],.int⟩
    · have hu:=hx.bool_inv
      cases uo <;> simp only at hr <;> (try (cases hr;done))
      obtain rfl:=Option.some.inj hr
      exact ⟨_,by simp [execOp,ho,hu,Op.unary],.bool⟩
  | _=>simp [evUn] at hr
theorem j2o {src dst:TypeId} {k:IntKind} {x:Operand} (ho:o.op=.convert src dst x) (hs:(P.underlying src).isSome=true) (hd:P.underlying dst=some (.int k)) {p r:V} (hx:RepV w F base σ (ρ x) p) (hr:q0D k p=some r):OpOk P w F base σ ρ o r:=by
  cases p with
  | d c x1=>
    cases x1 <;> simp only [q0D] at hr <;> (try (cases hr;done))
    have hu:=hx.int_inv
    obtain rfl:=Option.some.inj hr
    obtain ⟨d,hd'⟩:=Option.isSome_iff_exists.1 hs
    exact ⟨_,by simp [execOp,ho,hu,convert,run_underlying hd',run_underlying hd,Conv.intToInt],.int⟩
  | _=>simp [q0D] at hr
theorem j3P {t:TypeId} {x:Operand} {d:TypeDesc} (ho:o.op=.makeInterface t x) (ht:P.underlying t=some d) (hd:∀ ms,d≠.interface ms) {p:V} (hx:RepV w F base σ (ρ x) p):OpOk P w F base σ ρ o (.iface t p):=by
  refine ⟨.iface t (ρ x),?_,.iface t _ _ hx⟩
  cases d <;> simp_all [execOp,Instr.makeInterface,run_underlying ht]
theorem j3Q {f:FuncId} {caps:Array Operand} (ho:o.op=.makeFunc (.func f) #[] caps) {vs:List V} (hn:caps.size=vs.length) (hx:∀ (j:Nat) (x:Operand) (z:V),caps[j]? = some x→vs[j]? = some z→RepV w F base σ (ρ x) z):OpOk P w F base σ ρ o (.fn f vs):=by
  refine ⟨.func (.func f) #[] (caps.map ρ),by simp [execOp,ho,Instr.makeFunc],.fn f _ vs (by simp [hn]) (fun j v z hv hz=>?_)⟩
  simp only [Array.getElem?_map,Option.map_eq_some_iff] at hv
  obtain ⟨x,hx',rfl⟩:=hv
  exact hx j x z hx' hz
end Go.Vm
end

section
namespace Go.Vm
open Go.RowKit
variable {P:Program}{w:World}{F:Nat→Prop}{X:Nat→Nat→Prop}{base nx:Nat}{σ:Nat→Option Loc}{H:List (Nat×Blk)}{ρ:Operand→Value}{o:Oper}
def q4l(b:Bool)(x:Option Value)(n:Option Int):Prop:=
 match b,n with
 |true,some n=>∃ k,x=some (.int k n)
 |false,none=>x=none
 |_,_=>False
theorem q6Q{b:Bool}{x:Option Operand}{q:V}{n:Option Int}(hb:b=x.isSome)(hx:∀ y,x=some y→RepV w F base σ (ρ y) q)(hn:q5n b q=some n):q4l b (x.map ρ) n:=by
 cases x with
 |none=>
  subst hb
  simp only[Option.isSome_none,q5n,Option.some.injEq] at hn
  subst hn
  rfl
 |some y=>
  subst hb
  have hy:=hx y rfl
  simp only[Option.isSome_some] at hn ⊢
  cases q with
  |d c z=>
   cases z <;> simp only[q5n] at hn <;> (try(cases hn;done))
   obtain rfl:=Option.some.inj hn
   exact⟨_,by simp [hy.int_inv];rfl⟩
  |_=>simp [q5n] at hn
theorem q9M{isSlice:Bool}{len cap:Nat}{bl bh bm:Bool}{lo hi mx:Option Value}{l h m:Option Int}(hl:q4l bl lo l)(hh:q4l bh hi h)(hm:q4l bm mx m)
  (hlen:len≤cap) (hmh:bm=true→bh=true) (h0:0≤l.getD 0) (h1:l.getD 0≤h.getD len) (h2:h.getD len≤m.getD cap) (h3:m.getD cap≤cap) :
  (Instr.sliceBounds isSlice len cap lo hi mx).run P w=.ok ((l.getD 0).toNat,(h.getD len).toNat,(m.getD cap).toNat) w:=by
 have sb:∀(k:IntKind) (i:Int) (y:Nat) (code:BoundsCode),0≤i→i≤y→(Instr.sliceBound (.int k i) y code).run P w=.ok i.toNat w:=fun k i y code a b=>run_sliceBound w k i y code a b
 unfold Instr.sliceBounds
 cases bm <;> cases m <;> simp only[q4l] at hm
 ·subst hm
  cases bh <;> cases h <;> simp only[q4l] at hh
  ·subst hh
   cases bl <;> cases l <;> simp only[q4l] at hl
   ·subst hl;simp
   ·obtain⟨k,rfl⟩:=hl
    simp only[Option.getD_some,Option.getD_none] at *
    simp [sb k _ len .sliceB h0 h1]
  ·obtain⟨kh,rfl⟩:=hh
   rename_i hv
   simp only[Option.getD_some,Option.getD_none] at *
   have hsb:=fun code=>sb kh hv cap code (by omega) h2
   cases bl <;> cases l <;> simp only[q4l] at hl
   ·subst hl;simp [hsb]
   ·obtain⟨k,rfl⟩:=hl
    rename_i lv
    simp only[Option.getD_some] at *
    have hs2:=fun code=>sb k lv hv.toNat code h0 (by omega)
    simp [hsb,hs2]
 ·obtain⟨km,rfl⟩:=hm
  rename_i mv
  cases bh <;> cases h <;> simp only[q4l] at hh
  ·simp at hmh
  ·obtain⟨kh,rfl⟩:=hh
   rename_i hv
   simp only[Option.getD_some,Option.getD_none] at *
   have hsm:=fun code=>sb km mv cap code (by omega) h3
   have hsb:=fun code=>sb kh hv mv.toNat code (by omega) (by omega)
   cases bl <;> cases l <;> simp only[q4l] at hl
   ·subst hl;simp [hsb,hsm]
   ·obtain⟨k,rfl⟩:=hl
    rename_i lv
    simp only[Option.getD_some] at *
    have hs2:=fun code=>sb k lv hv.toNat code h0 (by omega)
    simp [hsb,hs2,hsm]
theorem RepD.cut{F:Nat→Prop}{a:Option Addr}{len cap k l h m:Nat}{rows:List (List D)}(hR:RepD w F (.slice a len cap) (.sl k rows))(hlh:l≤h)(hh:h≤len)(hm:h≤m)(hmc:m≤cap) :
  RepD w F (.slice (if m=l then a else a.map (·.add (l*k))) (h - l) (m - l)) (.sl k ((rows.drop l).take (h - l))):=by
 cases hR with
 |sl0 a cap k hc=>
  obtain rfl:h=0:=by omega
  obtain rfl:l=0:=by omega
  simp only[Nat.sub_self,List.take_zero,Nat.sub_zero]
  refine .sl0 _ _ _ (fun he=>?_)
  by_cases hm0:m=0
  ·exact hm0
  ·rw[if_neg hm0] at he
   cases a with
   |none=>have:=hc rfl;omega
   |some a=>simp at he
 |sl b o len cap k rows g h1 h2 h3 h4 h5 h6=>
  by_cases hz:h - l=0
  ·rw[hz]
   simp only[List.take_zero]
   refine .sl0 _ _ _ (fun he=>?_)
   by_cases hm0:m=l
   ·omega
   ·rw[if_neg hm0] at he;simp at he
  ·have hml:m≠l:=by omega
   rw[if_neg hml]
   simp only[Option.map_some]
   rw[add_lit]
   have key:∀ i r,((rows.drop l).take (h - l))[i]? = some r→rows[l+i]? = some r:=fun i r hr=>by
    rw[List.getElem?_take] at hr
    split at hr
    ·rwa [List.getElem?_drop] at hr
    ·cases hr
   refine .sl b _ _ _ k _ (fun i j=>g (l+i) j) (by rw[List.length_take,List.length_drop];omega) (by omega) h3 (fun r hr=>?_) (fun i j r d hr hd=>?_) (fun i j r d hr hd=>h6 _ _ _ _ (key i r hr) hd)
   ·exact h4 r (List.mem_of_mem_drop (List.mem_of_mem_take hr))
   ·rw[←h5 _ _ _ _ (key i r hr) hd,Nat.add_mul]
    congr 2
    omega
theorem z2i(s:ByteArray)(a b:Nat):(s.extract a b).data.toList=(s.data.toList.drop a).take (b - a):=by
 obtain⟨⟨l⟩⟩:=s
 rw[ByteArray.extract_mk]
theorem RepD.slice_cap{F:Nat→Prop}{a:Option Addr}{len cap k:Nat}{rows:List (List D)}(h:RepD w F (.slice a len cap) (.sl k rows)):len=rows.length∧len≤cap:=by
 cases h with
 |sl0=>simp
 |sl b o len cap k rows g h1 h2=>exact⟨h1.symm,h2⟩
theorem z1F{t e:TypeId}{x:Operand}{lo hi mx:Option Operand}{bl bh bm:Bool}{i:TypeInfo}(ho:o.op=.slice t x lo hi mx)(ht:P.underlying t=some (.slice e))(hi':P.info? e=some i)
  (hmh:bm=true→bh=true) (hbl:bl=lo.isSome) (hbh:bh=hi.isSome) (hbm:bm=mx.isSome) (hH:HeapRel w F X base σ nx H) {p ql qh qm r:V} (hx:RepV w F base σ (ρ x) p)
  (hl:∀ y,lo=some y→RepV w F base σ (ρ y) ql) (hh:∀ y,hi=some y→RepV w F base σ (ρ y) qh) (hm:∀ y,mx=some y→RepV w F base σ (ρ y) qm)
  (hns:∀ c s,p≠.d c (.str s)) (hr:q89 H bl bh bm i.size p ql qh qm=some r):OpOk P w F base σ ρ o r:=by
 simp only[q89] at hr
 cases hql:q5n bl ql with
 |none=>simp [hql] at hr
 |some l=>
  cases hqh:q5n bh qh with
  |none=>simp [hql,hqh] at hr
  |some h=>
   cases hqm:q5n bm qm with
   |none=>simp [hql,hqh,hqm] at hr
   |some m=>
    simp only[hql,hqh,hqm] at hr
    have Bl:=q6Q hbl hl hql
    have Bh:=q6Q hbh hh hqh
    have Bm:=q6Q hbm hm hqm
    split at hr
    case isFalse=>cases hr
    rename_i h0
    have fin:∀ a len cap,ρ x=.slice a len cap→len≤cap→l.getD 0≤h.getD len→h.getD len≤m.getD cap→m.getD cap≤cap→
      (execOp ρ o).run P w=.ok (.value (.slice (if(m.getD cap).toNat=(l.getD 0).toNat then a else a.map (·.add ((l.getD 0).toNat*i.size))) ((h.getD len).toNat - (l.getD 0).toNat) ((m.getD cap).toNat - (l.getD 0).toNat))) w:=by
     intro a len cap hu hc h1 h2 h3
     have hb:=q9M (P:=P) (w:=w) (isSlice:=true) (len:=len) (cap:=cap) Bl Bh Bm hc hmh h0 h1 h2 h3
     simp [execOp,ho,Instr.sliceAt,Instr.slice,run_underlying ht,hu,hb,q1t hi']
    have rowcase:∀(c:Bool) (k:Nat) (rows:List (List D)) (a:Option Addr) (len cap:Nat),ρ x=.slice a len cap→RepD w (col F base c) (.slice a len cap) (.sl k rows)→
      (if k≠i.size then none else if l.getD 0≤h.getD rows.length∧h.getD rows.length≤rows.length then
       match m with
       |none=>some (V.d c (.sl k ((rows.drop (l.getD 0).toNat).take ((h.getD rows.length).toNat - (l.getD 0).toNat))))
       |some m=>if m=h.getD rows.length then some (.fs c k ((rows.drop (l.getD 0).toNat).take ((h.getD rows.length).toNat - (l.getD 0).toNat))) else none
       else none)=some r→OpOk P w F base σ ρ o r:=by
     intro c k rows a len cap hu hR hr
     split at hr
     ·cases hr
     ·rename_i hk
      have hk:k=i.size:=by simpa using hk
      obtain⟨hlen,hcap⟩:=hR.slice_cap
      split at hr
      ·rename_i hc
       obtain⟨hc1,hc2⟩:=hc
       subst hlen
       cases m with
       |none=>
        obtain rfl:=Option.some.inj hr
        have hR':=hR.cut (l:=(l.getD 0).toNat) (h:=(h.getD rows.length).toNat) (m:=cap) (by omega) (by omega) (by omega) (Nat.le_refl _)
        refine⟨_,fin a _ cap hu hcap hc1 (by simp only[Option.getD_none];omega) (by simp),?_⟩
        simp only[Option.getD_none,Int.toNat_natCast,←hk]
        exact .d _ _ _ hR'
       |some mv=>
        simp only at hr
        split at hr
        ·rename_i hm'
         obtain rfl:=Option.some.inj hr
         have hR':=hR.cut (l:=(l.getD 0).toNat) (h:=(h.getD rows.length).toNat) (m:=mv.toNat) (by omega) (by omega) (by omega) (by omega)
         refine⟨_,fin a _ cap hu hcap hc1 (by simp only[Option.getD_some];omega) (by simp only[Option.getD_some];omega),?_⟩
         simp only[Option.getD_some,←hk]
         rw[←hm'] at hR' ⊢
         exact .fs _ _ _ _ _ hR'
        ·cases hr
      ·cases hr
    generalize hu:ρ x=u at hx
    cases hx with
    |d c v x h=>
     cases x with
     |sl k rows=>
      obtain⟨a,cap,rfl⟩:=h.slice_len
      exact rowcase c k rows a _ cap hu h hr
     |str s=>exact absurd rfl (hns c s)
     |_=>simp at hr
    |fs c a len k rows h=>exact rowcase c k rows a len len hu h hr
    |bsl b i0 len cap lc hlc h1 h2=>
     simp only at hr
     split at hr
     ·cases hr
     ·rename_i hw
      have hwid:∃ blk,look H b=some blk∧blk.k=i.size:=by
       simp only[q6V] at hw
       cases hb:look H b with
       |none=>simp [hb] at hw
       |some blk=>exact⟨blk,rfl,by simpa [hb] using hw⟩
      obtain⟨blk,hb,hk⟩:=hwid
      have hlk:lc.k=i.size:=by
       rw[(hH.blk b blk hb).kk hlc,hk]
      split at hr
      ·rename_i hc
       obtain⟨hc1,hc2⟩:=hc
       have both:∀ mv:Int,h.getD len≤mv→mv≤cap→RepV w F base σ (.slice (if mv.toNat=(l.getD 0).toNat then some ⟨lc.blk,i0*lc.k,none⟩ else(some ⟨lc.blk,i0*lc.k,none⟩:Option Addr).map (·.add ((l.getD 0).toNat*i.size))) ((h.getD len).toNat - (l.getD 0).toNat) (mv.toNat - (l.getD 0).toNat)) (.bsl b (i0+(l.getD 0).toNat) ((h.getD len).toNat - (l.getD 0).toNat)):=by
        intro mv hm1 hm2
        by_cases he:mv.toNat=(l.getD 0).toNat
        ·rw[if_pos he,he,Nat.sub_self,show(h.getD len).toNat - (l.getD 0).toNat=0 by omega]
         exact .bsl0 _ _ _
        ·rw[if_neg he]
         simp only[Option.map_some,add_lit]
         rw[←hlk,←Nat.add_mul]
         exact .bsl b _ _ _ lc hlc (by omega) (by omega)
       cases m with
       |none=>
        obtain rfl:=Option.some.inj hr
        refine⟨_,fin _ _ cap hu h1 hc1 (by simp only[Option.getD_none];omega) (by simp),?_⟩
        simp only[Option.getD_none]
        exact both cap (by omega) (Int.le_refl _)
       |some mv=>
        simp only at hr
        split at hr
        ·rename_i hm'
         obtain rfl:=Option.some.inj hr
         refine⟨_,fin _ _ cap hu h1 hc1 (by simp only[Option.getD_some];omega) (by simp only[Option.getD_some];omega),?_⟩
         simp only[Option.getD_some]
         exact both mv (by omega) (by omega)
        ·cases hr
      ·cases hr
    |bsx b i0 len cap lc a hlc h1 h2 h3=>
     simp only at hr
     split at hr
     ·cases hr
     ·rename_i hw
      have hwid:∃ blk,look H b=some blk∧blk.k=i.size:=by
       simp only[q6V] at hw
       cases hb:look H b with
       |none=>simp [hb] at hw
       |some blk=>exact⟨blk,rfl,by simpa [hb] using hw⟩
      obtain⟨blk,hb,hk⟩:=hwid
      have hlk:lc.k=i.size:=by
       rw[(hH.blk b blk hb).kk hlc,hk]
      have hroom:z7h H b≤lc.ext:=by
       simp only[z7h,hb]
       rcases hH.blk b blk hb with⟨_,e⟩|⟨l',es,ck,ds,rfl,_⟩|⟨l',cs,T,e,_,_,e2,_⟩
       ·rw[e] at hlc;cases hlc
       ·exact Nat.zero_le _
       ·obtain rfl:lc=l':=by rw[hlc] at e;exact Option.some.inj e
        cases blk with
        |dat c k rows=>exact e2
        |mix k rows=>exact e2
        |map es=>exact Nat.zero_le _
      split at hr
      ·rename_i hc
       obtain⟨hc1,hc2⟩:=hc
       cases m with
       |none=>
        obtain rfl:=Option.some.inj hr
        refine⟨_,fin _ _ cap hu h1 hc1 (by simp only[Option.getD_none];omega) (by simp),?_⟩
        simp only[Option.getD_none,Int.toNat_natCast]
        by_cases he:cap=(l.getD 0).toNat
        ·rw[if_pos he,he,Nat.sub_self,show(h.getD len).toNat - (l.getD 0).toNat=0 by omega]
         exact .bsx b _ _ 0 lc _ hlc (Nat.le_refl _) (by omega) (by omega)
        ·obtain rfl:=h3 (by omega)
         rw[if_neg he]
         simp only[Option.map_some,add_lit]
         rw[←hlk,←Nat.add_mul]
         exact .bsx b _ _ _ lc _ hlc (by omega) (by omega) (fun _=>rfl)
       |some mv=>cases hr
      ·cases hr
    |bsl0 a b i0=>
     simp only at hr
     split at hr
     ·cases hr
     ·split at hr
      ·rename_i hc
       obtain⟨hc1,hc2⟩:=hc
       cases m with
       |none=>
        obtain rfl:=Option.some.inj hr
        refine⟨_,fin _ _ 0 hu (Nat.le_refl _) hc1 (by simp only[Option.getD_none];omega) (by simp),?_⟩
        simp only[Option.getD_none]
        rw[show(h.getD (0:Nat)).toNat - (l.getD 0).toNat=0 by omega,show((0:Nat):Int).toNat - (l.getD 0).toNat=0 by omega]
        exact .bsl0 _ _ _
       |some mv=>
        simp only at hr
        split at hr
        ·rename_i hm'
         obtain rfl:=Option.some.inj hr
         refine⟨_,fin _ _ 0 hu (Nat.le_refl _) hc1 (by simp only[Option.getD_some];omega) (by simp only[Option.getD_some];omega),?_⟩
         simp only[Option.getD_some]
         rw[show(h.getD (0:Nat)).toNat - (l.getD 0).toNat=0 by omega,show mv.toNat - (l.getD 0).toNat=0 by omega]
         exact .bsl0 _ _ _
        ·cases hr
      ·cases hr
    |_=>simp at hr
theorem z0q{t:TypeId}{x:Operand}{lo hi:Option Operand}{bl bh:Bool}{k:Nat}(ho:o.op=.slice t x lo hi none)(ht:P.underlying t=some .string)
  (hbl:bl=lo.isSome) (hbh:bh=hi.isSome) {p ql qh qm r:V} (hx:RepV w F base σ (ρ x) p)
  (hl:∀ y,lo=some y→RepV w F base σ (ρ y) ql) (hh:∀ y,hi=some y→RepV w F base σ (ρ y) qh)
  (hs:∃ c s,p=.d c (.str s)) (hr:q89 H bl bh false k p ql qh qm=some r):OpOk P w F base σ ρ o r:=by
 obtain⟨c,s,rfl⟩:=hs
 obtain⟨s,hu,rfl⟩:=hx.str_inv
 simp only[q89] at hr
 cases hql:q5n bl ql with
 |none=>simp [hql] at hr
 |some l=>
  cases hqh:q5n bh qh with
  |none=>simp [hql,hqh] at hr
  |some h=>
   have hb0:q5n false qm=some none:=rfl
   simp only[hql,hqh,hb0] at hr
   have Bl:=q6Q hbl hl hql
   have Bh:=q6Q hbh hh hqh
   have hsz:s.data.toList.length=s.size:=by rw[Array.length_toList];rfl
   split at hr
   ·rename_i h0
    split at hr
    ·rename_i hc
     rw[hsz] at hc hr
     obtain⟨hc1,hc2⟩:=hc
     obtain rfl:=Option.some.inj hr
     have hb:=q9M (P:=P) (w:=w) (isSlice:=false) (len:=s.size) (cap:=s.size) (bm:=false) (mx:=none) (m:=none) Bl Bh rfl (Nat.le_refl _) (by simp) h0 hc1 (by simpa using hc2) (by simp)
     refine⟨.string (s.extract (l.getD 0).toNat (h.getD s.size).toNat),by simp [execOp,ho,Instr.sliceAt,Instr.slice,run_underlying ht,hu,hb],?_⟩
     rw[←z2i]
     exact .d _ _ _ (.str _)
    ·cases hr
   ·cases hr
end Go.Vm
end

section
namespace Go.Vm
open Go.RowKit
variable {P:Program}{w:World}{F:Nat→Prop}{X:Nat→Nat→Prop}{base nx:Nat}{σ:Nat→Option Loc}{H:List (Nat×Blk)}{ρ:Operand→Value}{o:Oper}
theorem RepV.cells{v:Value}{u:V}(h:RepV w F base σ v u)(hu:u.laid=true):v.cells.size=u.cells.length∧(∀(j:Nat)(a:Value)(x:V),v.cells[j]? = some a→u.cells[j]? = some x→RepV w F base σ a x)∧(∀ a∈v.cells,a.oneCell'=true):=by
 have one:∀ {v:Value} {u:V},RepV w F base σ v u→u.cell=true→v.cells = #[v]∧u.cells=[u]∧v.oneCell'=true:=fun {v u} h hu=>by
  have h1:=h.oneCell hu
  refine⟨by cases v <;> first|rfl|(simp [Value.oneCell'] at h1),by cases u <;> first|rfl|(simp [V.cell] at hu),h1⟩
 have fin:∀ {v:Value} {u:V},RepV w F base σ v u→u.cell=true→v.cells.size=u.cells.length∧(∀(j:Nat) (a:Value) (x:V),v.cells[j]? = some a→u.cells[j]? = some x→RepV w F base σ a x)∧(∀ a∈v.cells,a.oneCell'=true):=fun {v u} h hu=>by
  obtain⟨e1,e2,e3⟩:=one h hu
  rw[e1,e2]
  refine⟨rfl,fun j a x ha hx=>?_,fun a ha=>?_⟩
  ·cases j with
   |zero=>simp at ha hx;subst ha;subst hx;exact h
   |succ j=>simp at hx
  ·simp at ha;subst ha;exact e3
 cases u with
 |agg xs=>
  cases h with
  |agg cs vs h1 h2 h3=>exact⟨h1,h2,h3⟩
 |tup _=>simp [V.laid,V.cell] at hu
 |junk=>simp [V.laid,V.cell] at hu
 |_=>exact fin h rfl
theorem q5d(off:Nat):∀(l:List Value)(k:Nat)(cells:Array Value),off+k+l.length≤cells.size→
  ((l.zipIdx k).foldl (fun cs (c,j)=>cs.setIfInBounds (off+j) c) cells).size=cells.size∧
  ∀ j,((l.zipIdx k).foldl (fun cs (c,j)=>cs.setIfInBounds (off+j) c) cells)[j]? = if off+k≤j∧j<off+k+l.length then l[j - (off+k)]? else cells[j]?
 |[],k,cells,_=>by
  refine⟨rfl,fun j=>?_⟩
  rw[if_neg (by simp)]
  rfl
 |c :: l,k,cells,h=>by
  simp only[List.length_cons] at h
  simp only[List.zipIdx_cons,List.foldl_cons]
  obtain⟨h1,h2⟩:=q5d off l (k+1) (cells.setIfInBounds (off+k) c) (by rw[Array.size_setIfInBounds];omega)
  refine⟨by rw[h1];simp,fun j=>?_⟩
  rw[h2]
  by_cases hj:j=off+k
  ·subst hj
   rw[if_neg (by omega),if_pos (by simp)]
   rw[Array.getElem?_setIfInBounds_self_of_lt (by omega)]
   simp
  ·by_cases hr:off+(k+1)≤j∧j<off+(k+1)+l.length
   ·rw[if_pos hr,if_pos (by simp;omega),show j - (off+k)=(j - (off+(k+1)))+1 by omega]
    simp
   ·rw[if_neg hr,if_neg (by simp;omega),Array.getElem?_setIfInBounds_ne (by omega)]
theorem q4o{α:Type}{off:Nat}{new cells:List α}(h:off+new.length≤cells.length)(j:Nat):(splice off new cells)[j]? = if off≤j∧j<off+new.length then new[j - off]? else cells[j]?:=by
 unfold splice
 have h1:(cells.take off).length=off:=by rw[List.length_take];omega
 by_cases h2:j<off
 ·rw[List.append_assoc,List.getElem?_append_left (by omega),List.getElem?_take,if_pos h2,if_neg (by omega)]
 ·by_cases h3:j<off+new.length
  ·rw[List.append_assoc,List.getElem?_append_right (by omega),List.getElem?_append_left (by omega),if_pos (by omega),h1]
  ·rw[List.getElem?_append_right (by rw[List.length_append];omega),List.length_append,h1,List.getElem?_drop,if_neg (by omega)]
   congr 1
   omega
theorem q3v{α:Type}{off:Nat}{new cells:List α}(h:off+new.length≤cells.length):(splice off new cells).length=cells.length:=by
 unfold splice
 simp only[List.length_append,List.length_take,List.length_drop]
 omega
theorem z69{cells:Array Value}{xs:List V}{v:Value}{u r:V}{off n:Nat}(hc:RepV w F base σ (.agg cells) (.agg xs))(hv:RepV w F base σ v u)(hr:evSet off n u (.agg xs)=some r) :
  v.cells.size=n∧off+v.cells.size≤cells.size∧RepV w F base σ (.agg (v.cells.toList.zipIdx.foldl (fun cs (c,j)=>cs.setIfInBounds (off+j) c) cells)) r:=by
 simp only[evSet] at hr
 split at hr
 ·rename_i hh
  simp only[Bool.and_eq_true,beq_iff_eq,decide_eq_true_eq] at hh
  obtain⟨⟨hlaid,hn⟩,hlen⟩:=hh
  obtain rfl:=Option.some.inj hr
  obtain⟨g1,g2,g3⟩:=hv.cells hlaid
  cases hc with
  |agg _ _ c1 c2 c3=>
   refine⟨by omega,by omega,?_⟩
   obtain⟨f1,f2⟩:=q5d off v.cells.toList 0 cells (by simp;omega)
   refine .agg _ _ (by rw[f1,q3v (by omega),c1]) (fun j a x ha hx=>?_) (fun a ha=>?_)
   ·rw[f2] at ha
    rw[q4o (by omega)] at hx
    simp only[Nat.add_zero,Array.length_toList,g1,Array.getElem?_toList] at ha
    split at hx
    ·rename_i hj
     rw[if_pos hj] at ha
     exact g2 _ a x ha hx
    ·rename_i hj
     rw[if_neg hj] at ha
     exact c2 _ a x ha hx
   ·obtain⟨j,hj⟩:=Array.getElem?_of_mem ha
    rw[f2] at hj
    simp only[Nat.add_zero,Array.length_toList,Array.getElem?_toList] at hj
    split at hj
    ·exact g3 a (Array.mem_of_getElem? hj)
    ·exact c3 a (Array.mem_of_getElem? hj)
 ·cases hr
inductive Fills(w:World)(F:Nat→Prop)(base:Nat)(σ:Nat→Option Loc)(place:Nat→Option (Nat×Nat)):List (Nat×Value)→V→V→Prop
 |nil (x:V):Fills w F base σ place [] x x
 |cons (i off n:Nat) (v:Value) (rest:List (Nat×Value)) (u x y z:V):place i=some (off,n)→RepV w F base σ v u→evSet off n u x=some y→Fills w F base σ place rest y z→Fills w F base σ place ((i,v) :: rest) x z
theorem z5K{place:Nat→Option (Nat×Nat)}{parts:List (Nat×Value)}{x z:V}(h:Fills w F base σ place parts x z):∀ {cells:Array Value},RepV w F base σ (.agg cells) x→(∃ xs,x=.agg xs)→
  ∃ cs,Instr.fill place cells parts=some cs∧RepV w F base σ (.agg cs) z:=by
 induction h with
 |nil x=>intro cells hc _;exact⟨cells,rfl,hc⟩
 |cons i off n v rest u x y z hp hv hr hrest ih=>
  rintro cells hc ⟨xs,rfl⟩
  obtain⟨h1,h2,h3⟩:=z69 hc hv hr
  obtain⟨cs,hcs,hR⟩:=ih h3 (by
   simp only[evSet] at hr
   split at hr
   ·exact⟨_,(Option.some.inj hr).symm⟩
   ·cases hr)
  refine⟨cs,?_,hR⟩
  have hno:(decide (v.cells.size≠n)||decide (off+v.cells.size>cells.size))=false:=by simp;omega
  rw[Instr.fill,hp]
  simp only[hno,Bool.false_eq_true,if_false]
  rw[←Array.foldl_toList,Array.toList_zipIdx]
  exact hcs
def q7Y(P:Program)(t:TypeId):Option (Nat→Option (Nat×Nat)):=
 match P.underlying t with
 |some (.array _ e)=>match P.info? e with
  |some ie=>some fun i=>some (i*ie.size,ie.size)
  |none=>none
 |some (.struct fields)=>match fields.toList.mapM (fun f=>(P.info? f.type).map fun i=>(f.offset,i.size)) with
  |some places=>some (places.toArray[·]?)
  |none=>none
 |_=>none
theorem j0g{t:TypeId}{parts:Array (Nat×Operand)}{place:Nat→Option (Nat×Nat)}{it:TypeInfo}{z:Value}{zs:List V}{r:V}(ho:o.op=.build t parts)(hp:q7Y P t=some place)(hi:P.info? t=some it)(hz:it.zero=some z)
  (hzs:RepV w F base σ (.agg z.cells) (.agg zs)) (hf:Fills w F base σ place (parts.toList.map fun(i,x)=>(i,ρ x)) (.agg zs) r):OpOk P w F base σ ρ o r:=by
 obtain⟨cs,hcs,hR⟩:=z5K hf hzs ⟨_,rfl⟩
 refine⟨.agg cs,?_,hR⟩
 have hb:P.built t (parts.map fun(i,x)=>(i,ρ x)).toList=some cs:=by
  unfold Program.built
  unfold q7Y at hp
  rw[hi]
  cases hu:P.underlying t with
  |none=>simp [hu] at hp
  |some d=>
   cases d <;> try(simp [hu] at hp;done)
   case array n e=>
    cases hie:P.info? e with
    |none=>simp [hu,hie] at hp
    |some ie=>
     simp only[hu,hie,Option.some.injEq] at hp
     subst hp
     simpa [hz,hie] using hcs
   case struct fields=>
    cases hm:fields.toList.mapM (fun f=>(P.info? f.type).map fun i=>(f.offset,i.size)) with
    |none=>simp [hu,hm] at hp
    |some places=>
     simp only[hu,hm,Option.some.injEq] at hp
     subst hp
     simpa [hz,hm] using hcs
 simp only[execOp,ho,Sem.run_bind,run_build w t _ cs hb,Result.andThen_ok,Sem.run_pure]
theorem z3a{c a b:Operand}{x:Bool}(ho:o.op=.pick c a b)(hc:ρ c=.bool x){r:V}(ha:x=true→RepV w F base σ (ρ a) r)(hb:x=false→RepV w F base σ (ρ b) r):OpOk P w F base σ ρ o r:=by
 cases x
 ·exact⟨ρ b,by simp [execOp,ho,hc,asBool],hb rfl⟩
 ·exact⟨ρ a,by simp [execOp,ho,hc,asBool],ha rfl⟩
end Go.Vm
end

section
namespace Go.Vm
open Go.RowKit
theorem q0n{α β:Type}{f:α→Option β}:∀ {l:List α}{r:List β},mapO f l=some r→r.length=l.length∧∀(j:Nat)(x:α),l[j]? = some x→∃ y,r[j]? = some y∧f x=some y
  |[],r,h=>by
    obtain rfl:=Option.some.inj h
    exact⟨rfl,fun j x hx=>by simp at hx⟩
  |a :: l,r,h=>by
    simp only[mapO] at h
    cases ha:f a with
    |none=>simp [ha] at h
    |some b=>
      cases hl:mapO f l with
      |none=>simp [ha,hl] at h
      |some bs=>
        simp only[ha,hl,Option.some.injEq] at h
        subst h
        obtain⟨h1,h2⟩:=q0n hl
        refine⟨by simp [h1],fun j x hx=>?_⟩
        cases j with
        |zero=>simp at hx;subst hx;exact⟨b,rfl,ha⟩
        |succ j=>simpa using h2 j x (by simpa using hx)
variable {P:Program}{w:World}{F:Nat→Prop}{X:Nat→Nat→Prop}{base nx:Nat}{σ:Nat→Option Loc}{H:List (Nat×Blk)}
def All(F:Nat→Prop)(σ:Nat→Option Loc)(b:Nat):Prop:=F b∨∃ i l,σ i=some l∧l.blk=b
theorem RepV.toD{v:Value}{c:Bool}{x:D}(h:RepV w F base σ v (.d c x)):RepD w (All F σ) v x:=by
  cases h with
  |d _ _ _ h=>exact h.mono fun b hb=>⟨.inl (q2B hb),rfl⟩
theorem RepV.mkd_toD{v:Value}{c:Bool}{x:D}(h:RepV w F base σ v (Vm.mkd c x)):RepD w (All F σ) v x:=by
  obtain⟨c',hc⟩:=z4a c x
  rw[hc] at h
  exact h.toD
theorem q3T(hH:HeapRel w F X base σ nx H){b i:Nat}{blk:Blk}{l:Loc}{row:List V}(hb:look H b=some blk)(hl:σ b=some l)(hr:blk.row? i=some row) :
    l.k=blk.k∧row.length=l.k∧∀ j x,row[j]? = some x→∃ v,w.cell? ⟨l.blk,i*l.k+j,none⟩=some v∧v.oneCell'=true∧RepV w F base σ v x:=by
  rcases hH.blk b blk hb with⟨_,hn⟩|⟨l',es,ck,ds,rfl,_⟩|⟨l',cs,T,hl',hw,hk,hn,hsz,hrow,_⟩
  · rw[hn] at hl;cases hl
  · simp [Blk.row?] at hr
  · obtain rfl:l=l':=by rw[hl] at hl';exact Option.some.inj hl'
    refine⟨hk,by rw[hk];exact(hrow i row hr).1,fun j x hx=>?_⟩
    obtain⟨v,hv,h1,hR⟩:=(hrow i row hr).2 j x hx
    exact⟨v,by rw[hw.cell];exact hv,h1,hR⟩
@[simp] theorem z2N (n:Nat) (H:List (Nat×Blk)) (c:Bool) (y:D):q0b n H (.d c y)=some y:=by cases n <;> rfl
@[simp] theorem z0g (n:Nat) (H:List (Nat×Blk)) (c:Bool) (k:Nat) (rows:List (List D)):q0b n H (.fs c k rows)=some (.sl k rows):=by cases n <;> rfl
theorem q22(hH:HeapRel w F X base σ nx H):∀(n:Nat)(x:V)(d:D)(v:Value),q0b n H x=some d→RepV w F base σ v x→RepD w (All F σ) v d:=by
  have simple:∀(n:Nat) (x:V) (d:D) (v:Value),(∃ c y,x=.d c y)∨(∃ c k rows,x=.fs c k rows)→q0b n H x=some d→RepV w F base σ v x→RepD w (All F σ) v d:=by
    rintro n x d v (⟨c,y,rfl⟩|⟨c,k,rows,rfl⟩) h hR
    · rw[z2N] at h
      obtain rfl:=Option.some.inj h
      exact hR.toD
    · rw[z0g] at h
      obtain rfl:=Option.some.inj h
      cases hR with
      |fs _ _ _ _ _ h=>exact h.mono fun b hb=>⟨.inl (q2B hb),rfl⟩
  intro n
  induction n with
  |zero=>
    intro x d v h hR
    cases x with
    |d c y=>exact simple 0 _ d v (.inl ⟨_,_,rfl⟩) h hR
    |fs c k rows=>exact simple 0 _ d v (.inr ⟨_,_,_,rfl⟩) h hR
    |_=>simp [q0b] at h
  |succ n ih=>
    have bslC:∀(b i len:Nat) (d:D) (v:Value),q0b (n+1) H (.bsl b i len)=some d→RepV w F base σ v (.bsl b i len)→RepD w (All F σ) v d:=by
      intro b i len d v h hR
      simp only[q0b] at h
      cases hb:look H b with
      |none=>simp [hb] at h
      |some blk=>
        have main:∀(k:Nat) (rows':List (List D)),blk.k=k→rows'.length=len→i+len≤blk.n→
            (∀ i' r,rows'[i']? = some r→∃ row,blk.row? (i+i')=some row∧row.length=r.length∧∀(j:Nat) (d:D) (v:Value),r[j]? = some d→(∀ x,row[j]? = some x→RepV w F base σ v x)→RepD w (All F σ) v d)→
            RepD w (All F σ) v (.sl k rows'):=by
          intro k rows' hk hlen hin hcell
          cases hR with
          |bsl0 a _ _=>
            obtain rfl:=List.eq_nil_of_length_eq_zero hlen
            exact .sl0 _ _ _ (fun _=>rfl)
          |bsl _ _ _ cap l hl h1 h2=>
            refine .sl _ _ _ _ k _ (fun i' j=>(w.cell? ⟨l.blk,(i+i')*l.k+j,none⟩).getD undef) hlen h1 (.inr ⟨b,l,hl,rfl⟩) (fun r hr=>?_) (fun i' j r d hr hd=>?_) (fun i' j r d hr hd=>?_)
            · obtain⟨i',hi'⟩:=List.getElem?_of_mem hr
              obtain⟨row,hrow,hlr,_⟩:=hcell i' r hi'
              obtain⟨e1,e2,_⟩:=q3T hH hb hl hrow
              omega
            · obtain⟨row,hrow,hlr,_⟩:=hcell i' r hr
              obtain⟨e1,e2,e3⟩:=q3T hH hb hl hrow
              have hj:j<row.length:=by rw[hlr];exact(List.getElem?_eq_some_iff.1 hd).1
              obtain⟨u,hu,_⟩:=e3 j _ (List.getElem?_eq_getElem hj)
              rw[hu,←hk,←e1]
              simp only[Option.getD_some]
              rw[←hu,Nat.add_mul]
              congr 2
              omega
            · obtain⟨row,hrow,hlr,hx⟩:=hcell i' r hr
              obtain⟨e1,e2,e3⟩:=q3T hH hb hl hrow
              have hj:j<row.length:=by rw[hlr];exact(List.getElem?_eq_some_iff.1 hd).1
              obtain⟨u,hu,_,hRu⟩:=e3 j _ (List.getElem?_eq_getElem hj)
              refine hx j d _ hd (fun x hxx=>?_)
              rw[hu]
              have:row[j]? = some row[j]:=List.getElem?_eq_getElem hj
              rw[this] at hxx
              obtain rfl:=Option.some.inj hxx
              exact hRu
        cases blk with
        |dat c k rows=>
          simp only[hb] at h
          split at h
          · rename_i hin
            obtain rfl:=Option.some.inj h
            refine main k _ rfl (by rw[List.length_take,List.length_drop];omega) hin (fun i' r hr=>?_)
            rw[List.getElem?_take] at hr
            split at hr
            · rw[List.getElem?_drop] at hr
              refine⟨r.map (mkd c),by simp [Blk.row?,hr],by simp,fun j d v hd hx=>(hx (mkd c d) (by simp [hd])).mkd_toD⟩
            · cases hr
          · cases h
        |map es=>simp [hb] at h
        |mix k rows=>
          simp only[hb] at h
          split at h
          · rename_i hin
            cases hm:mapO (fun r:List V=>mapO (q0b n H) r) ((rows.drop i).take len) with
            |none=>simp [hm] at h
            |some rows'=>
              simp only[hm,Option.map_some,Option.some.injEq] at h
              subst h
              obtain⟨m1,m2⟩:=q0n hm
              have hl1:((rows.drop i).take len).length=len:=by rw[List.length_take,List.length_drop];omega
              refine main k _ rfl (by omega) hin (fun i' r hr=>?_)
              have hlt:i'<len:=by have:=(List.getElem?_eq_some_iff.1 hr).1;omega
              have hrow:((rows.drop i).take len)[i']? = some (((rows.drop i).take len)[i']'(by omega)):=List.getElem?_eq_getElem _
              obtain⟨y,hy,hmr⟩:=m2 i' _ hrow
              rw[hr] at hy
              obtain rfl:=Option.some.inj hy
              obtain⟨n1,n2⟩:=q0n hmr
              refine⟨_,by rw[List.getElem?_take,if_pos hlt,List.getElem?_drop] at hrow;exact hrow,n1.symm,fun j d v hd hx=>?_⟩
              have hj:j<(((rows.drop i).take len)[i']'(by omega)).length:=by rw[←n1];exact(List.getElem?_eq_some_iff.1 hd).1
              obtain⟨y,hy,hv⟩:=n2 j _ (List.getElem?_eq_getElem hj)
              rw[hd] at hy
              obtain rfl:=Option.some.inj hy
              exact ih _ _ v hv (hx _ (List.getElem?_eq_getElem hj))
          · cases h
    intro x d v h hR
    cases x with
    |d c y=>exact simple _ _ d v (.inl ⟨_,_,rfl⟩) h hR
    |fs c k rows=>exact simple _ _ d v (.inr ⟨_,_,_,rfl⟩) h hR
    |bsl b i len=>exact bslC b i len d v h hR
    |bsx b i len=>exact bslC b i len d v (by simpa only[q0b] using h) hR.toBsl
    |ptr b i j=>
      simp only[q0b] at h
      cases hb:look H b with
      |none=>simp [hb] at h
      |some blk=>
        cases hr:blk.row? i with
        |none=>simp [hb,hr] at h
        |some row=>
          simp only[hb,hr] at h
          cases hm:mapO (q0b n H) (row.drop j) with
          |none=>simp [hm] at h
          |some ds=>
            simp only[hm,Option.map_some,Option.some.injEq] at h
            subst h
            obtain⟨m1,m2⟩:=q0n hm
            cases hR with
            |ptr _ _ _ l hl=>
              obtain⟨e1,e2,e3⟩:=q3T hH hb hl hr
              have cell:∀ m d,ds[m]? = some d→∃ u,w.cell? ⟨l.blk,i*l.k+j+m,none⟩=some u∧RepD w (All F σ) u d:=by
                intro m d hd
                have hlt:m<(row.drop j).length:=by rw[←m1];exact(List.getElem?_eq_some_iff.1 hd).1
                obtain⟨y,hy,hv⟩:=m2 m _ (List.getElem?_eq_getElem hlt)
                rw[hd] at hy
                obtain rfl:=Option.some.inj hy
                have hx:row[j+m]? = some ((row.drop j)[m]):=by rw[←List.getElem?_drop];exact List.getElem?_eq_getElem hlt
                obtain⟨u,hu,_,hRu⟩:=e3 _ _ hx
                exact⟨u,by rw[←hu];congr 2;omega,ih _ _ u hv hRu⟩
              refine .ptr _ _ _ (fun m=>(w.cell? ⟨l.blk,i*l.k+j+m,none⟩).getD undef) (.inr ⟨b,l,hl,rfl⟩) (fun m d hd=>?_) (fun m d hd=>?_)
              · obtain⟨u,hu,_⟩:=cell m d hd
                rw[hu];rfl
              · obtain⟨u,hu,hR⟩:=cell m d hd
                rw[hu];exact hR
    |iface t x=>
      have notagg:∃ y,q0b n H x=some y∧d=.iface t [y]:=by
        cases x <;> simp only[q0b] at h <;> (try(cases h;done)) <;>
          (simp only[Option.map_eq_some_iff] at h
           obtain⟨y,h1,h2⟩:=h
           exact⟨y,by first|exact h1|(rw[z2N];exact h1)|(rw[z0g];exact h1),h2.symm⟩)
      obtain⟨y,hy,rfl⟩:=notagg
      cases hR with
      |iface _ u _ hu=>exact .iface t u y (ih x y u hy hu)
    |_=>simp [q0b] at h
theorem q8j{n:Nat}{x:V}{d:D}{v:Value}(hx:x.own1=false)(h:q0b n H x=some d)(hR:RepV w F base σ v x):RepD w F v d:=by
  cases x <;> simp only[V.own1] at hx <;> (try(cases hx;done))
  · rw[z2N] at h
    obtain rfl:=Option.some.inj h
    cases hR with
    |d _ _ _ h=>exact h.mono fun b hb=>⟨q2B hb,rfl⟩
  · rw[z0g] at h
    obtain rfl:=Option.some.inj h
    cases hR with
    |fs _ _ _ _ _ h=>exact h.mono fun b hb=>⟨q2B hb,rfl⟩
end Go.Vm
end

section
namespace Go.Vm
open Go.RowKit
variable {P:Program}{w:World}{F:Nat→Prop}{X:Nat→Nat→Prop}{base nx:Nat}{σ:Nat→Option Loc}{H:List (Nat×Blk)}
def j2B:List D→Value
 |[_,.int _ t,.int _ b,.int _ o]=>.iface t.toNat (.agg #[.pointer (some ⟨b.toNat,o.toNat,none⟩)])
 |_=>.int .i64 0
def GlobRel(w:World)(F:Nat→Prop)(G:Nat→Option (List D)):Prop:=
 ∀ g cells,G g=some cells→if q74 cells=true then F g∧w.cell? ⟨g,0,none⟩=some (j2B cells) else
  RepD w F (.pointer (some ⟨g,0,none⟩)) (.ptr cells)∧∃ cs t fz,w.heap[g]? = some (.cells cs t fz)∧cs.size=cells.length
def Reps(w:World)(F:Nat→Prop)(base:Nat)(σ:Nat→Option Loc)(vals:Array Value)(vs:List V):Prop:=
 vals.size=vs.length∧∀(j:Nat) (v:Value) (x:V),vals[j]? = some v→vs[j]? = some x→RepV w F base σ v x
def q2o(P:Program)(G:Nat→Option (List D))(f:FuncId)(args:List V)(r:V)(news:List Blk):Prop:=
 ∀(w:World) (F:Nat→Prop) (vals:Array Value),(∀ b,F b→b<w.heap.size)→GlobRel w F G→Reps w F w.heap.size (fun _=>none) vals args→
  Calls P f vals w fun e w'=>∃ v F' σ',e=.returned v∧Below w.heap.size w w'∧(∀ b,F' b→F b∨w.heap.size≤b)∧
   RepV w' F' w.heap.size σ' v r∧HeapRel w' F' (fun _ _=>False) w.heap.size σ' news.length (indexed news)
structure Frame(X:Nat→Nat→Prop)(base:Nat)(w w':World):Prop where
 os:w'.os=w.os
 tape:w'.tape=w.tape
 output:w'.output=w.output
 size:w.heap.size≤w'.heap.size
 block:∀ k,k<base→(∀ b,¬ X b k)→w'.heap[k]? = w.heap[k]?
def OwnB(σ:Nat→Option Loc)(b k:Nat):Prop:=∃ l,σ b=some l∧l.blk=k
def q56(P:Program)(G:Nat→Option (List D))(f:FuncId)(args:List V)(blks:List Blk)(r:V)(blks':List Blk)(mv:List Nat):Prop:=
 ∀(w:World) (F:Nat→Prop) (σ:Nat→Option Loc) (vals:Array Value),GlobRel w F G→HeapRel w F (OwnB σ) w.heap.size σ blks.length (indexed blks)→Reps w F w.heap.size σ vals args→
  Calls P f vals w fun e w'=>∃ v F' σ',e=.returned v∧Frame (OwnB σ) w.heap.size w w'∧(∀ b,F b→F' b)∧(∀ b,F' b→F b∨w.heap.size≤b)∧
   RepV w' F' w.heap.size σ' v r∧HeapRel w' F' (OwnB σ) w.heap.size σ' blks'.length (indexed blks')∧∀ i l,i<blks.length→σ i=some l→i∉mv→σ' i=some l
def PanV(pv:Value)(v:V):Prop:=∀(w:World)(F:Nat→Prop)(base:Nat)(σ:Nat→Option Loc),RepV w F base σ pv v
def z3G(P:Program)(G:Nat→Option (List D))(f:FuncId)(args:List V)(blks:List Blk)(v:V):Prop:=
 ∀(w:World) (F:Nat→Prop) (σ:Nat→Option Loc) (vals:Array Value),GlobRel w F G→HeapRel w F (OwnB σ) w.heap.size σ blks.length (indexed blks)→Reps w F w.heap.size σ vals args→
  Calls P f vals w fun e w'=>∃(pv:Value) (F':Nat→Prop),e=.panicked [{ v:=pv,recovered:=false }]∧PanV pv v∧Frame (OwnB σ) w.heap.size w w'∧(∀ b,F b→F' b)∧(∀ b,F' b→F b∨w.heap.size≤b)∧∀ b,F' b→b<w'.heap.size
def q0p(P:Program)(f:FuncId):Bool:=
 match P.funcs[f]? with
 |some fn=>fn.body.isSome&&fn.name != "runtime.NumGoroutine"
 |none=>false
structure Cx.Sound(P:Program)(C:Cx):Prop where
 pure:∀ f args r news,C.call f args=some (r,news)→q0p P f=true∧q2o P C.glob f args r news
 loc:∀ f args r news,C.loc f=true→C.call f args=some (r,news)→q2o P (fun _=>none) f args r news
 eff:∀ f args blks r blks' mv,C.eff f args blks=some (r,blks',mv)→q0p P f=true∧q56 P C.glob f args blks r blks' mv
 pan:∀ f args blks v,C.pan f args blks=some v→q0p P f=true∧z3G P C.glob f args blks v
structure After(w w':World)(F F':Nat→Prop):Prop where
 below:Below w.heap.size w w'
 sub:∀ b,F b→F' b
 old:∀ b,F' b→F b∨w.heap.size≤b
 lt:∀ b,F' b→b<w'.heap.size
theorem GlobRel.mono{w':World}{F':Nat→Prop}{G:Nat→Option (List D)}(hF:∀ b,F b→F' b∧w'.heap[b]? = w.heap[b]?)(h:GlobRel w F G):GlobRel w' F' G:=
 fun g cells hg=>by
  have hx:=h g cells hg
  split at hx
  ·rename_i hh
   rw[if_pos hh]
   exact⟨(hF g hx.1).1,(World.cell?_of_block (w:=w) (hF g hx.1).2).trans hx.2⟩
  ·rename_i hh
   rw[if_neg hh]
   obtain⟨h1,cs,t,fz,h2,h3⟩:=hx
   have hg':F g:=by cases h1 with|ptr _ _ _ _ hf _ _=>exact hf
   exact⟨h1.mono hF,cs,t,fz,by rw[(hF g hg').2];exact h2,h3⟩
theorem q6X(hH:HeapRel w F X base σ nx H){x y:V}{v:Value}(hy:view H x=some y)(hR:RepV w F base σ v x)(b':Nat) :
  RepV w (All F σ) b' (fun _=>none) v y:=by
 have one:∀(x:V) (v:Value),(q0b viewDepth H x).map (V.d false)=some y→RepV w F base σ v x→RepV w (All F σ) b' (fun _=>none) v y:=by
  intro x v hy hR
  cases hd:q0b viewDepth H x with
  |none=>simp [hd] at hy
  |some d=>
   simp only[hd,Option.map_some,Option.some.injEq] at hy
   subst hy
   exact .d _ _ _ (q22 hH _ _ _ _ hd hR)
 have many:∀(cs:Array Value) (vs:List V) (ds:List D),cs.size=vs.length→(∀(j:Nat) (v:Value) (x:V),cs[j]? = some v→vs[j]? = some x→RepV w F base σ v x)→mapO (q0b viewDepth H) vs=some ds→
   cs.size=(ds.map (V.d false)).length∧∀(j:Nat) (v:Value) (x:V),cs[j]? = some v→(ds.map (V.d false))[j]? = some x→RepV w (All F σ) b' (fun _=>none) v x:=by
  intro cs vs ds h1 h2 hm
  obtain⟨m1,m2⟩:=q0n hm
  refine⟨by simp [m1,h1],fun j v x hv hx=>?_⟩
  simp only[List.getElem?_map,Option.map_eq_some_iff] at hx
  obtain⟨d,hd,rfl⟩:=hx
  have hj:j<vs.length:=by rw[←m1];exact(List.getElem?_eq_some_iff.1 hd).1
  obtain⟨y,hy,hvd⟩:=m2 j _ (List.getElem?_eq_getElem hj)
  rw[hd] at hy
  obtain rfl:=Option.some.inj hy
  exact .d _ _ _ (q22 hH _ _ _ _ hvd (h2 j v _ hv (List.getElem?_eq_getElem hj)))
 cases x with
 |agg xs=>
  simp only[view] at hy
  cases hm:mapO (q0b viewDepth H) xs with
  |none=>simp [hm] at hy
  |some ds=>
   simp only[hm,Option.map_some,Option.some.injEq] at hy
   subst hy
   cases hR with
   |agg cs _ h1 h2 h3=>
    obtain⟨g1,g2⟩:=many cs xs ds h1 h2 hm
    exact .agg _ _ g1 g2 h3
 |fn f xs=>
  simp only[view] at hy
  cases hm:mapO (q0b viewDepth H) xs with
  |none=>simp [hm] at hy
  |some ds=>
   simp only[hm,Option.map_some,Option.some.injEq] at hy
   subst hy
   cases hR with
   |fn _ cs _ h1 h2=>
    obtain⟨g1,g2⟩:=many cs xs ds h1 h2 hm
    exact .fn _ _ _ g1 g2
 |d c y=>exact one (.d c y) v hy hR
 |fs c k rows=>exact one (.fs c k rows) v hy hR
 |ptr b i j=>exact one (.ptr b i j) v hy hR
 |bsl b i n=>exact one (.bsl b i n) v hy hR
 |bsx b i n=>exact one (.bsx b i n) v hy hR
 |tup vs=>exact one (.tup vs) v hy hR
 |iface t y=>exact one (.iface t y) v hy hR
 |map b=>exact one (.map b) v hy hR
 |junk=>exact one (.junk) v hy hR
theorem q6Y{x y:V}{v:Value}(hx:x.own=false)(hy:view H x=some y)(hR:RepV w F base σ v x)(b':Nat) :
  RepV w F b' (fun _=>none) v y:=by
 have one:∀(x:V) (v:Value),x.own1=false→(q0b viewDepth H x).map (V.d false)=some y→RepV w F base σ v x→RepV w F b' (fun _=>none) v y:=by
  intro x v hx hy hR
  cases hd:q0b viewDepth H x with
  |none=>simp [hd] at hy
  |some d=>
   simp only[hd,Option.map_some,Option.some.injEq] at hy
   subst hy
   exact .d _ _ _ (q8j hx hd hR)
 have many:∀(cs:Array Value) (vs:List V) (ds:List D),vs.any V.own1=false→cs.size=vs.length→(∀(j:Nat) (v:Value) (x:V),cs[j]? = some v→vs[j]? = some x→RepV w F base σ v x)→mapO (q0b viewDepth H) vs=some ds→
   cs.size=(ds.map (V.d false)).length∧∀(j:Nat) (v:Value) (x:V),cs[j]? = some v→(ds.map (V.d false))[j]? = some x→RepV w F b' (fun _=>none) v x:=by
  intro cs vs ds h0 h1 h2 hm
  obtain⟨m1,m2⟩:=q0n hm
  refine⟨by simp [m1,h1],fun j v x hv hx=>?_⟩
  simp only[List.getElem?_map,Option.map_eq_some_iff] at hx
  obtain⟨d,hd,rfl⟩:=hx
  have hj:j<vs.length:=by rw[←m1];exact(List.getElem?_eq_some_iff.1 hd).1
  obtain⟨y,hy,hvd⟩:=m2 j _ (List.getElem?_eq_getElem hj)
  rw[hd] at hy
  obtain rfl:=Option.some.inj hy
  have h00:(vs[j]).own1=false:=by
   rw[List.any_eq_false] at h0
   simpa using h0 _ (List.getElem_mem hj)
  exact .d _ _ _ (q8j h00 hvd (h2 j v _ hv (List.getElem?_eq_getElem hj)))
 cases x with
 |agg xs=>
  simp only[view] at hy
  cases hm:mapO (q0b viewDepth H) xs with
  |none=>simp [hm] at hy
  |some ds=>
   simp only[hm,Option.map_some,Option.some.injEq] at hy
   subst hy
   cases hR with
   |agg cs _ h1 h2 h3=>
    obtain⟨g1,g2⟩:=many cs xs ds hx h1 h2 hm
    exact .agg _ _ g1 g2 h3
 |fn f xs=>
  simp only[view] at hy
  cases hm:mapO (q0b viewDepth H) xs with
  |none=>simp [hm] at hy
  |some ds=>
   simp only[hm,Option.map_some,Option.some.injEq] at hy
   subst hy
   cases hR with
   |fn _ cs _ h1 h2=>
    obtain⟨g1,g2⟩:=many cs xs ds hx h1 h2 hm
    exact .fn _ _ _ g1 g2
 |d c y=>exact one (.d c y) v hx hy hR
 |fs c k rows=>exact one (.fs c k rows) v hx hy hR
 |ptr b i j=>exact one (.ptr b i j) v hx hy hR
 |bsl b i n=>exact one (.bsl b i n) v hx hy hR
 |bsx b i n=>exact one (.bsx b i n) v hx hy hR
 |tup vs=>exact one (.tup vs) v hx hy hR
 |iface t y=>exact one (.iface t y) v hx hy hR
 |map b=>exact one (.map b) v hx hy hR
 |junk=>exact one (.junk) v hx hy hR
theorem RepV.of_new{w:World}{F F':Nat→Prop}{b b':Nat}{σ σ':Nat→Option Loc}{v:Value}{x:V}(hx:x.new=true)(hF:∀ a,F a→b≤a→F' a∧b'≤a)(h:RepV w F b σ v x):RepV w F' b' σ' v x:=by
 have one:∀ {v:Value} {x:V},x.new1=true→RepV w F b σ v x→RepV w F' b' σ' v x:=by
  intro v x hx h
  cases h with
  |d c v x h=>
   simp only[V.new1,Bool.or_eq_true] at hx
   by_cases hf:x.flat=true
   ·exact .d _ _ _ (h.flat hf)
   ·rcases hx with rfl|hx
    ·exact .d _ _ _ (h.mono fun a ha=>⟨hF a ha.1 ha.2,rfl⟩)
    ·exact absurd hx hf
  |fs c a len k rows h=>
   simp only[V.new1] at hx
   subst hx
   exact .fs _ _ _ _ _ (h.mono fun a ha=>⟨hF a ha.1 ha.2,rfl⟩)
  |_=>simp [V.new1] at hx
 cases h with
 |agg cs vs h1 h2 h3=>
  simp only[V.new,List.all_eq_true] at hx
  exact .agg _ _ h1 (fun j v x hv hxx=>one (hx x (List.mem_of_getElem? hxx)) (h2 j v x hv hxx)) h3
 |tup cs vs h1 h2=>
  simp only[V.new,List.all_eq_true] at hx
  refine .tup _ _ h1 (fun j v x hv hxx=>?_)
  have hm:=hx x (List.mem_of_getElem? hxx)
  have hR:=h2 j v x hv hxx
  cases x with
  |agg us=>
   cases hR with
   |agg cs vs g1 g2 g3=>
    simp only[List.all_eq_true] at hm
    exact .agg _ _ g1 (fun j v x hv hxx=>one (hm x (List.mem_of_getElem? hxx)) (g2 j v x hv hxx)) g3
  |d c y=>exact one hm hR
  |fs c k rows=>exact one hm hR
  |_=>simp [V.new1] at hm
 |d c v x h=>exact one hx (.d c v x h)
 |fs c a len k rows h=>exact one hx (.fs c a len k rows h)
 |_=>simp [V.new,V.new1] at hx
theorem q4t{vs ws:List V}{vals:Array Value}(hm:mapO (view H) vs=some ws)(hv:Reps w F base σ vals vs){R:Value→V→Prop}
  (hR:∀ v x y,x∈vs→view H x=some y→RepV w F base σ v x→R v y):vals.size=ws.length∧∀(j:Nat) (v:Value) (x:V),vals[j]? = some v→ws[j]? = some x→R v x:=by
 obtain⟨m1,m2⟩:=q0n hm
 refine⟨by rw[m1];exact hv.1,fun j v x hvj hxj=>?_⟩
 have hj:j<vs.length:=by rw[←m1];exact(List.getElem?_eq_some_iff.1 hxj).1
 obtain⟨y,hy,hvd⟩:=m2 j _ (List.getElem?_eq_getElem hj)
 rw[hxj] at hy
 obtain rfl:=Option.some.inj hy
 exact hR v _ x (List.getElem_mem hj) hvd (hv.2 j v _ hvj (List.getElem?_eq_getElem hj))
theorem z9Y{x y:V}{v:Value}(hx:x.new=true)(hy:view H x=some y)(hR:RepV w F base σ v x)(b':Nat):RepV w (New F base) b' (fun _=>none) v y:=by
 have cell:∀ {v:Value} {x:V} {d:D},x.new1=true→q0b viewDepth H x=some d→RepV w F base σ v x→RepV w (New F base) b' (fun _=>none) v (.d false d):=by
  intro v x d hx hd hR
  cases x with
  |d c y=>
   rw[show q0b viewDepth H (.d c y)=some y from rfl] at hd
   obtain rfl:=Option.some.inj hd
   simp only[V.new1,Bool.or_eq_true] at hx
   cases hR with
   |d _ _ _ h=>
    cases c with
    |true=>exact .d _ _ _ h
    |false=>exact .d _ _ _ (h.flat (by simpa using hx))
  |fs c k rows=>
   rw[show q0b viewDepth H (.fs c k rows)=some (.sl k rows) from rfl] at hd
   obtain rfl:=Option.some.inj hd
   simp only[V.new1] at hx
   subst hx
   cases hR with
   |fs _ a len _ _ h=>exact .d _ _ _ h
  |_=>simp [V.new1] at hx
 cases x with
 |agg cs=>
  simp only[V.new,List.all_eq_true] at hx
  simp only[view,Option.map_eq_some_iff] at hy
  obtain⟨ds,hm,rfl⟩:=hy
  cases hR with
  |agg vs _ h1 h2 h3=>
   obtain⟨m1,m2⟩:=q0n hm
   refine .agg _ _ (by simp [m1,h1]) (fun j v x hv hx'=>?_) h3
   simp only[List.getElem?_map,Option.map_eq_some_iff] at hx'
   obtain⟨d,hd,rfl⟩:=hx'
   have hj:j<cs.length:=by rw[←m1];exact(List.getElem?_eq_some_iff.1 hd).1
   obtain⟨y,hy,hvd⟩:=m2 j _ (List.getElem?_eq_getElem hj)
   rw[hd] at hy
   obtain rfl:=Option.some.inj hy
   exact cell (hx _ (List.getElem_mem hj)) hvd (h2 j v _ hv (List.getElem?_eq_getElem hj))
 |d c z=>
  simp only[view,Option.map_eq_some_iff] at hy
  obtain⟨d,hd,rfl⟩:=hy
  exact cell (by simpa [V.new] using hx) hd hR
 |fs c k rows=>
  simp only[view,Option.map_eq_some_iff] at hy
  obtain⟨d,hd,rfl⟩:=hy
  exact cell (by simpa [V.new] using hx) hd hR
 |tup vs=>
  simp only[view,Option.map_eq_some_iff] at hy
  obtain⟨d,hd,rfl⟩:=hy
  simp [viewDepth,q0b] at hd
 |_=>simp [V.new,V.new1] at hx
theorem z23{F' G:Nat→Prop}{b0:Nat}{σ':Nat→Option Loc}(hF:∀ b,F' b→G b∧base≤b)(hσ:∀ b l,σ' b=some l→σ b=some l){v:Value}{r:V}(h:RepV w F' b0 σ' v r):RepV w G base σ v r.renew:=by
 have hc:∀ c b,col F' b0 c b→col G base c b∧w.heap[b]? = w.heap[b]?:=fun c b hb=>by
  have:=hF b (q2B hb)
  cases c
  ·exact⟨this.1,rfl⟩
  ·exact⟨this,rfl⟩
 have cell:∀ {v:Value} {x:V},RepV w F' b0 σ' v x→RepV w G base σ v x.renew1:=by
  intro v x h
  cases x with
  |d c y=>
   simp only[V.renew1]
   cases h with
   |d _ _ _ h=>
    split
    ·rename_i hf;exact .d _ _ _ (h.flat hf)
    ·exact .d _ _ _ (h.mono fun b hb=>⟨hF b (q2B hb),rfl⟩)
  |fs c k rows=>
   cases h with
   |fs _ a len _ _ h=>exact .fs _ _ _ _ _ (h.mono fun b hb=>⟨hF b (q2B hb),rfl⟩)
  |_=>exact h.mono' hc hσ
 have aggc:∀ {v:Value} {cs:List V},RepV w F' b0 σ' v (.agg cs)→RepV w G base σ v (.agg (cs.map V.renew1)):=by
  intro v cs h
  cases h with
  |agg vs _ h1 h2 h3=>
   refine .agg _ _ (by simp [h1]) (fun j v x hv hx=>?_) h3
   simp only[List.getElem?_map,Option.map_eq_some_iff] at hx
   obtain⟨y,hy,rfl⟩:=hx
   exact cell (h2 j v y hv hy)
 cases r with
 |agg cs=>exact aggc h
 |tup us=>
  cases h with
  |tup vs _ h1 h2=>
   refine .tup _ _ (by simp [h1]) (fun j v x hv hx=>?_)
   simp only[List.getElem?_map,Option.map_eq_some_iff] at hx
   obtain⟨y,hy,rfl⟩:=hx
   have hj:=h2 j v y hv hy
   cases y with
   |agg cs=>exact aggc hj
   |_=>exact cell hj
 |_=>exact cell h
theorem q7J{C:Cx}(hC:C.Sound P)(hH:HeapRel w F X base σ nx H)(hG:GlobRel w F C.glob)(hb:base≤w.heap.size){f:FuncId}{vs:List V}{vals:Array Value}{r:V}
  (hv:Reps w F base σ vals vs) (hr:q5M C H f vs=some r) :
  q0p P f=true∧Calls P f vals w fun e w'=>∃ v F',e=.returned v∧After w w' F F'∧RepV w' F' base σ v r:=by
 simp only[q5M] at hr
 cases hm:mapO (view H) vs with
 |none=>simp [hm] at hr
 |some ws=>
  simp only[hm] at hr
  cases hc:C.call f ws with
  |none=>simp [hc] at hr
  |some rn=>
   obtain⟨r',news⟩:=rn
   cases news with
   |cons b0 nr=>
    simp only[hc] at hr
    split at hr
    ·cases hr
    rename_i hown
    obtain⟨hcl,pc⟩:=hC.pure f ws r' _ hc
    refine⟨hcl,?_⟩
    have ho':∀ x∈vs,x.own=false:=by simpa using hown
    have hargs:=q4t (R:=RepV w F w.heap.size (fun _=>none)) hm hv (fun v x y hx hy hR=>q6Y (ho' x hx) hy hR _)
    refine(pc w F vals hH.fro hG hargs).mono fun e w' ⟨v,F',σ',he,hbel,hF',hRv,hHr⟩=>?_
    have hA:=q6X hHr hr hRv base
    have hAF:∀ b,All F' σ' b→F b∨w.heap.size≤b:=by
     rintro b (hb'|⟨i,l,hl,rfl⟩)
     ·exact hF' b hb'
     ·exact .inr ((hHr.own i l hl).2.2.1.resolve_right fun h=>h)
    refine⟨v,fun b=>F b∨(All F' σ' b∧w.heap.size≤b),he,⟨hbel,fun b hb'=>.inl hb',fun b hb'=>hb'.imp id (·.2),fun b hb'=>?_⟩,?_⟩
    ·rcases hb' with hb'|⟨hb'|⟨i,l,hl,rfl⟩,_⟩
     ·exact Nat.lt_of_lt_of_le (hH.fro b hb') hbel.size
     ·exact hHr.fro b hb'
     ·exact(hHr.own i l hl).2.2.2
    ·refine hA.mono' (fun c b hb'=>⟨?_,rfl⟩) (fun b l hl=>by cases hl)
     have key:∀ b,All F' σ' b→F b∨(All F' σ' b∧w.heap.size≤b):=fun b h=>(hAF b h).imp id fun h2=>⟨h,h2⟩
     cases c
     ·exact key b hb'
     ·exact⟨key b hb'.1,hb'.2⟩
   |nil=>
    simp only[hc] at hr
    by_cases hps:q9R C f vs=true
    ·rw[if_pos hps] at hr
     obtain rfl:=Option.some.inj hr
     simp only[q9R,Bool.and_eq_true,List.all_eq_true] at hps
     obtain⟨⟨hnew,_⟩,hloc⟩:=hps
     obtain⟨hcl,_⟩:=hC.pure f ws r' [] hc
     have pc:=hC.loc f ws r' [] hloc hc
     refine⟨hcl,?_⟩
     have hargs:=q4t (R:=RepV w (New F base) w.heap.size (fun _=>none)) hm hv (fun v x y hx hy hR=>z9Y (hnew x hx) hy hR _)
     refine(pc w (New F base) vals (fun b hb'=>hH.fro b hb'.1) (fun g cells hg=>by cases hg) hargs).mono fun e w' ⟨v,F',σ',he,hbel,hF',hRv,hHr⟩=>?_
     refine⟨v,fun b=>F b∨(F' b∧w.heap.size≤b),he,⟨hbel,fun b hb'=>.inl hb',fun b hb'=>hb'.imp id (·.2),fun b hb'=>?_⟩,z23 (fun b hb'=>?_) (fun b l hl=>?_) hRv⟩
     ·rcases hb' with hb'|hb'
      ·exact Nat.lt_of_lt_of_le (hH.fro b hb') hbel.size
      ·exact hHr.fro b hb'.1
     ·rcases hF' b hb' with h|h
      ·exact⟨.inl h.1,h.2⟩
      ·exact⟨.inr ⟨hb',h⟩,Nat.le_trans hb h⟩
     ·have:=(hHr.own b l hl).1
      simp at this
    rw[if_neg hps] at hr
    split at hr
    ·cases hr
    ·rename_i hown
     obtain rfl:=Option.some.inj hr
     obtain⟨hcl,pc⟩:=hC.pure f ws r' [] hc
     refine⟨hcl,?_⟩
     by_cases ho:vs.any V.own=true
     ·have hnew:r'.new=true:=by
       simp only[ho,Bool.true_and,Bool.not_eq_true',Bool.not_eq_false] at hown
       simpa using hown
      have hargs:=q4t (R:=RepV w (All F σ) w.heap.size (fun _=>none)) hm hv (fun v x y _ hy hR=>q6X hH hy hR _)
      refine(pc w (All F σ) vals (fun b hb'=>?_) (hG.mono fun b hb'=>⟨.inl hb',rfl⟩) hargs).mono fun e w' ⟨v,F',σ',he,hbel,hF',hRv,hHr⟩=>?_
      ·rcases hb' with hb'|⟨i,l,hl,rfl⟩
       ·exact hH.fro b hb'
       ·exact(hH.own i l hl).2.2.2
      ·refine⟨v,fun b=>F b∨(F' b∧w.heap.size≤b),he,⟨hbel,fun b hb'=>.inl hb',fun b hb'=>hb'.imp id (·.2),fun b hb'=>?_⟩,hRv.of_new hnew fun a ha hle=>⟨.inr ⟨ha,hle⟩,Nat.le_trans hb hle⟩⟩
       rcases hb' with hb'|hb'
       ·exact Nat.lt_of_lt_of_le (hH.fro b hb') hbel.size
       ·exact hHr.fro b hb'.1
     ·have ho':∀ x∈vs,x.own=false:=by
       simpa using ho
      have hargs:=q4t (R:=RepV w F w.heap.size (fun _=>none)) hm hv (fun v x y hx hy hR=>q6Y (ho' x hx) hy hR _)
      refine(pc w F vals hH.fro hG hargs).mono fun e w' ⟨v,F',σ',he,hbel,hF',hRv,hHr⟩=>?_
      refine⟨v,fun b=>F b∨(F' b∧w.heap.size≤b),he,⟨hbel,fun b hb'=>.inl hb',fun b hb'=>hb'.imp id (·.2),fun b hb'=>?_⟩,?_⟩
      ·rcases hb' with hb'|hb'
       ·exact Nat.lt_of_lt_of_le (hH.fro b hb') hbel.size
       ·exact hHr.fro b hb'.1
      ·refine hRv.mono' (fun c b hb'=>⟨?_,rfl⟩) (fun b l hl=>?_)
       ·cases c
        ·rcases hF' b hb' with h|h
         ·exact .inl h
         ·exact .inr ⟨hb',h⟩
        ·exact⟨.inr ⟨hb'.1,hb'.2⟩,Nat.le_trans hb hb'.2⟩
       ·have:=(hHr.own b l hl).1
        simp at this
end Go.Vm
end

section
namespace Go.Vm
inductive Mk where
 |box (e:E)
 |mks (k:Nat) (zero len cap:E)
 |lits (k:Nat) (rows:E)
 |callo (f:FuncId) (args:E)
 |mkm
 |bld (t e:Nat)
 |s2b (a:E)
 deriving DecidableEq,Inhabited
inductive Wr where
 |store (n:Nat) (a v:E)
 |app (k:Nat) (a b:E)
 |calle (f:FuncId) (args:E)
 |mset (kk:Nat) (m k v:E)
 |mclr (m:E)
 |mark (a:E)
 |panic (a:E)
 deriving DecidableEq,Inhabited
structure Seg where
 mks:List (Nat×Mk)
 lets:List (Nat×E)
 chk:List E
 wr:Option (Option Nat×Wr)
 keep:List Nat
 cnt:Nat
 aux:List (List Nat)
 wg:List (E×Bool)
 late:List E
 deriving DecidableEq,Inhabited
structure Pre where
 fz:List Nat
 sg:Option (Nat×Bool)
 deriving DecidableEq,Inhabited
inductive C where
 |skip
 |regg (m:Nat) (l:List (Pre×Seg))
 |regl (l:List Seg)
 |regp (π:List Nat) (l:List Seg)
 |ownc (t j k:Nat)
 |reg (l:List Seg)
 |seq (a b:C)
 |cond (e:E) (a b:C)
 |block (id:Nat) (c:C)
 |loop (c:C)
 |exit (id:Nat)
 |scope (c:C) (labels:C)
 |lnil
 |lcons (l:Nat) (c labels:C)
 |label (l:Nat)
 |goto (l:Nat)
 |ret
 |tidy (m:Nat) (slots:List Nat)
 |own (t k:Nat)
 |frz (m t j:Nat)
 |keep (slots:List Nat)
 |stuck
 deriving DecidableEq,Inhabited
def asD:V→Option D
 |.d _ x=>some x
 |.fs _ k rows=>some (.sl k rows)
 |_=>none
def mkBlk(k:Nat)(rows:List (List V)):Blk:=match mapO (mapO asD) rows with
 |some ds=>.dat (rows.all (·.all V.new1)) k ds
 |none=>.mix k rows
def Blk.set(blk:Blk)(i j:Nat)(cells:List V):Option Blk:=
 match blk with
 |.dat c k rows=>match rows[i]? with
  |some row=>if j+cells.length≤row.length then match mapO asD cells with
    |some ds=>some (.dat (c&&cells.all V.new1) k (rows.set i (splice j ds row)))
    |none=>some (.mix k ((rows.map (·.map (mkd c))).set i (splice j cells (row.map (mkd c)))))
   else none
  |none=>none
 |.map _=>none
 |.mix k rows=>match rows[i]? with
  |some row=>if j+cells.length≤row.length then some (.mix k (rows.set i (splice j cells row))) else none
  |none=>none
inductive Rows where
 |dat (c:Bool) (rows:List (List D))
 |mix (rows:List (List V))
def q2q(H:List (Nat×Blk))(k:Nat):V→Option Rows
 |.d c (.sl k' rows)=>if k'=k then some (.dat (c||q0R rows) rows) else none
 |.fs c k' rows=>if k'=k then some (.dat (c||q0R rows) rows) else none
 |.d _ (.nils k')=>if k'=k then some (.dat true []) else none
 |.d _ (.emps k')=>if k'=k then some (.dat true []) else none
 |.bsl b i len=>match look H b with
  |some (.dat c k' rows)=>if k'=k∧i+len≤rows.length then some (.dat (c||q0R rows) ((rows.drop i).take len)) else none
  |some (.mix k' rows)=>if k'=k∧i+len≤rows.length then some (.mix ((rows.drop i).take len)) else none
  |some (.map _)=>none
  |none=>none
 |_=>none
def Rows.n:Rows→Nat
 |.dat _ rows=>rows.length
 |.mix rows=>rows.length
def Rows.vs:Rows→List (List V)
 |.dat c rows=>rows.map (·.map (mkd c))
 |.mix rows=>rows
def Blk.app:Blk→Rows→Blk
 |.dat c k rows,.dat c' more=>.dat (c&&c') k (rows++more)
 |.dat c k rows,.mix more=>.mix k (rows.map (·.map (mkd c))++more)
 |.mix k rows,more=>.mix k (rows++more.vs)
 |.map es,_=>.map es
def Rows.blk(k:Nat):Rows→Blk
 |.dat c rows=>.dat c k rows
 |.mix rows=>.mix k rows
def Blk.forget(p:Nat→Bool):Blk→Blk
 |.dat c k rows=>.dat c k rows
 |.mix k rows=>.mix k (rows.map (·.map (V.drop1 p)))
 |.map es=>.map (es.map fun q=>(q.1,q.2.forget p))
def forgetR(p:Nat→Bool)(ρ:List (Nat×V)):List (Nat×V):=ρ.map fun(t,v)=>(t,v.forget p)
def forgetH(p:Nat→Bool)(H:List (Nat×Blk)):List (Nat×Blk):=H.map fun(b,k)=>(b,k.forget p)
def most:Nat:=1099511627776
def tupOf:V→Option (List V)
 |.tup vs=>some vs
 |_=>none
def V.shift(n:Nat):V→V
 |.ptr b i j=>.ptr (b+n) i j
 |.bsl b i len=>.bsl (b+n) i len
 |.bsx b i len=>.bsx (b+n) i len
 |.agg cs=>.agg (cs.map fun v=>match v with
  |.ptr b i j=>.ptr (b+n) i j
  |.bsl b i len=>.bsl (b+n) i len
  |.bsx b i len=>.bsx (b+n) i len
  |.d c x=>.d c x
  |.fs c k r=>.fs c k r
  |_=>.junk)
 |.tup cs=>.tup (cs.map fun v=>match v with
  |.ptr b i j=>.ptr (b+n) i j
  |.bsl b i len=>.bsl (b+n) i len
  |.bsx b i len=>.bsx (b+n) i len
  |.d c x=>.d c x
  |.fs c k r=>.fs c k r
  |.agg cs=>.agg (cs.map fun v=>match v with
   |.ptr b i j=>.ptr (b+n) i j
   |.bsl b i len=>.bsl (b+n) i len
   |.bsx b i len=>.bsx (b+n) i len
   |.d c x=>.d c x
   |.fs c k r=>.fs c k r
   |_=>.junk)
  |_=>.junk)
 |.d c x=>.d c x
 |.fs c k r=>.fs c k r
 |_=>.junk
def Blk.plain:Blk→Bool
 |.dat ..=>true
 |.mix ..=>false
 |.map _=>false
def Blk.new:Blk→Bool
 |.dat c _ _=>c
 |.mix ..=>false
 |.map _=>false
def V.newR:V→Bool
 |.ptr ..|.bsl ..|.bsx ..|.map _=>true
 |v=>v.new1
def V.new2:V→Bool
 |.agg cs=>cs.all V.newR
 |.tup vs=>vs.all fun v=>match v with
  |.agg cs=>cs.all V.newR
  |v=>v.newR
 |v=>v.newR
def Blk.lays:Blk→Bool
 |.map _=>false
 |_=>true
def Blk.newM:Blk→Bool
 |.dat c _ _=>c
 |.mix _ rows=>rows.all (·.all fun v=>v.new2)
 |.map _=>false
def Blk.shift(n:Nat):Blk→Blk
 |.dat c k rows=>.dat c k rows
 |.mix k rows=>.mix k (rows.map (·.map (V.shift n)))
 |.map es=>.map es
inductive Lost where
 |none
 |some (b:Nat)
 |many (l:List Nat)
def Lost.ids:Lost→List Nat
 |.none=>[]
 |.some b=>[b]
 |.many l=>l
mutual
def V.refs:V→List Nat
 |.ptr b _ _=>[b]
 |.bsl b _ _=>[b]
 |.bsx b _ _=>[b]
 |.agg cs=>refsL cs
 |.tup cs=>refsL cs
 |.fn _ cs=>refsL cs
 |.iface _ v=>v.refs
 |.map b=>[b]
 |_=>[]
def refsL:List V→List Nat
 |[]=>[]
 |v :: r=>v.refs++refsL r
end
mutual
def V.ren(g:Nat→Nat):V→V
 |.ptr b i j=>.ptr (g b) i j
 |.bsl b i n=>.bsl (g b) i n
 |.bsx b i n=>.bsx (g b) i n
 |.agg cs=>.agg (renL g cs)
 |.tup cs=>.tup (renL g cs)
 |.fn f cs=>.fn f (renL g cs)
 |.iface t v=>.iface t (v.ren g)
 |.d c x=>.d c x
 |.fs c k r=>.fs c k r
 |.map b=>.map (g b)
 |.junk=>.junk
def renL(g:Nat→Nat):List V→List V
 |[]=>[]
 |v :: r=>v.ren g :: renL g r
end
mutual
def V.within(p:Nat→Bool):V→Bool
 |.ptr b _ _=>p b
 |.bsl b _ _=>p b
 |.bsx b _ _=>p b
 |.agg cs=>withinL p cs
 |.tup cs=>withinL p cs
 |.fn _ cs=>withinL p cs
 |.iface _ v=>v.within p
 |.d _ _=>true
 |.fs _ _ _=>true
 |.map b=>p b
 |.junk=>true
def withinL(p:Nat→Bool):List V→Bool
 |[]=>true
 |v :: r=>v.within p&&withinL p r
end
mutual
def V.dim:V→V
 |.d _ x=>.d false x
 |.fs _ k r=>.fs false k r
 |.agg cs=>.agg (dimL cs)
 |.tup cs=>.tup (dimL cs)
 |.fn f cs=>.fn f (dimL cs)
 |.iface t v=>.iface t v.dim
 |.ptr b i j=>.ptr b i j
 |.bsl b i n=>.bsl b i n
 |.bsx b i n=>.bsx b i n
 |.map b=>.map b
 |.junk=>.junk
def dimL:List V→List V
 |[]=>[]
 |v :: r=>v.dim :: dimL r
end
def Blk.refs:Blk→List Nat
 |.dat _ _ _=>[]
 |.mix _ rows=>rows.flatMap refsL
 |.map es=>es.flatMap fun q=>q.2.refs
def Blk.ren(g:Nat→Nat):Blk→Blk
 |.dat c k rows=>.dat c k rows
 |.mix k rows=>.mix k (rows.map (renL g))
 |.map es=>.map (es.map fun q=>(q.1,q.2.ren g))
def Blk.within(p:Nat→Bool):Blk→Bool
 |.dat _ _ _=>true
 |.mix _ rows=>rows.all (withinL p)
 |.map es=>es.all fun q=>q.2.within p
def Blk.dim:Blk→Blk
 |.dat _ k rows=>.dat false k rows
 |.mix k rows=>.mix k (rows.map dimL)
 |.map es=>.map (es.map fun q=>(q.1,q.2.dim))
def q03(H:List (Nat×Blk)):Nat→List Nat→List Nat→List Nat
 |0,done,_=>done
 |_+1,done,[]=>done
 |n+1,done,b :: todo=>if done.contains b then q03 H n done todo else q03 H n (done++[b]) (todo++(match look H b with|some k=>k.refs|none=>[]))
def refN(H:List (Nat×Blk)):Nat:=(H.map fun p=>p.2.refs.length).sum
def closedB(H:List (Nat×Blk))(bs:List Nat):Bool:=bs.all fun b=>match look H b with
 |some k=>k.within bs.contains
 |none=>false
def q1L(bs:List Nat)(nx:Nat)(i:Nat):Nat:=match bs[i]? with
 |some b=>b
 |none=>nx+(i - bs.length)
def putAll(H:List (Nat×Blk))(g:Nat→Nat):Nat→List Blk→List (Nat×Blk)
 |_,[]=>H
 |i,k :: r=>putAll (put H (g i) (k.ren g)) g (i+1) r
def handed(H:List (Nat×Blk))(bs:List Nat):Option (List Blk):=mapO (fun b=>(look H b).map fun k=>k.dim.ren bs.idxOf) bs
def q0q(l:List Nat)(H:List (Nat×Blk)):List (Nat×Blk):=match l with
 |[]=>H
 |l=>forgetH l.contains H
def q9z(C:Cx)(nx:Nat)(H:List (Nat×Blk))(f:FuncId)(vs:List V)(bs:List Nat):Option (List (Nat×Blk)×V×Lost×Nat):=
 if decide bs.Nodup&&vs.all (V.within bs.contains)&&closedB H bs then
  match handed H bs with
  |some blks=>match C.eff f (vs.map fun v=>v.dim.ren bs.idxOf) blks with
   |some (r,blks',mv)=>if bs.length≤blks'.length then some (putAll (q0q (mv.map (q1L bs nx)) H) (q1L bs nx) 0 blks',r.ren (q1L bs nx),.many (mv.map (q1L bs nx)),nx+(blks'.length - bs.length)) else none
   |none=>none
  |none=>none
 else none
abbrev dynF:Nat:=4294967295
def q1I(f:FuncId)(vs:List V):Option (FuncId×List V):=if f==dynF then(match vs with
 |.fn g caps :: r=>some (g,r++caps)
 |_=>none) else some (f,vs)
abbrev z7R:Nat:=1000000000
def q7D:List (Nat×V)→Bool
 |[]=>false
 |(t,_) :: r=>if t=z7R then true else q7D r
theorem q5R:∀ ρ:List (Nat×V),q7D ρ=(look ρ z7R).isSome
 |[]=>rfl
 |(t,v) :: r=>by
  simp only[q7D,look]
  split
  ·rfl
  ·exact q5R r
def z0x:List Nat→List (Nat×V)
 |[]=>[]
 |t :: r=>if t=z7R then [(t,.junk)] else z0x r
def evMk(C:Cx)(s:S):Mk→Option (V×List Blk)
 |.box e=>match ev C s e with
  |some v=>if v.laid then some (.ptr s.nx 0 0,[.mix v.cells.length [v.cells]]) else none
  |none=>none
 |.mks k zero len cap=>match ev C s zero,ev C s len,ev C s cap with
  |some (.tup zs),some (.d _ (.int _ n)),some (.d _ (.int _ c))=>match mapO asD zs with
   |some ds=>if 0≤n∧n≤c∧c≤most∧ds.length=k∧0<k∧ds.all D.flat0 then some (bif q7D s.rho then .bsx s.nx 0 n.toNat else .bsl s.nx 0 n.toNat,[.dat true k (List.replicate n.toNat ds)]) else none
   |none=>none
  |_,_,_=>none
 |.lits k rows=>match ev C s rows with
  |some (.tup vs)=>if vs.all (fun v=>v.laid&&v.cells.length==k)&&decide (0<k) then some (.bsl s.nx 0 vs.length,[mkBlk k (vs.map V.cells)]) else none
  |_=>none
 |.callo f args=>match ev C s args with
  |some (.tup vs)=>match mapO (view s.heap) vs with
   |some ws=>match C.call f ws with
    |some (r,news)=>if news.all Blk.plain&&(!vs.any V.own||(r.new2&&news.all Blk.new)) then some (r.shift s.nx,news)
     else if news.all Blk.lays&&(!vs.any V.own||(r.new2&&news.all Blk.newM)) then some (r.shift s.nx,news.map (Blk.shift s.nx)) else none
    |none=>none
   |none=>none
  |_=>none
 |.mkm=>some (.map s.nx,[.map []])
 |.bld t e=>some (.ptr s.nx 0 0,[.map [(.nils t,.bsl (s.nx+1) 0 0)],.map [(.emps e,.d false .nilp),(.str [],.d false .nilp)]])
 |.s2b a=>match ev C s a with
  |some (.d _ (.str l))=>if l.length≤most then some (.bsl s.nx 0 l.length,[.dat true 1 (l.map fun b=>[D.int .u8 (b.toNat:Int)])]) else none
  |_=>none
def addBlks(H:List (Nat×Blk))(nx:Nat):List Blk→List (Nat×Blk)
 |[]=>H
 |b :: r=>addBlks ((nx,b) :: H) (nx+1) r
def q2A(C:Cx)(s:S):List (Nat×Mk)→Option (S×List Blk)
 |[]=>some (s,[])
 |(d,m) :: r=>match evMk C s m with
  |some (v,news)=>match q2A C ⟨put s.rho d v,s.heap,s.nx+news.length,s.mv⟩ r with
   |some (s',more)=>some (s',news++more)
   |none=>none
  |none=>none
def q2U(C:Cx)(s:S):List (Nat×E)→Option (List (Nat×V))
 |[]=>some []
 |(d,e) :: r=>match ev C s e,q2U C s r with
  |some v,some l=>some ((d,v) :: l)
  |_,_=>none
def q6E(C:Cx)(s:S):List E→Bool
 |[]=>true
 |e :: r=>(ev C s e).isSome&&q6E C s r
def evWr(C:Cx)(s:S)(H:List (Nat×Blk)):Wr→Option (List (Nat×Blk)×V×Lost×Nat)
 |.store n a v=>match ev C s a,ev C s v with
  |some (.ptr b i j),some x=>if x.laid&&x.cells.length==n then match look H b with
    |some blk=>match blk.set i j x.cells with
     |some blk'=>some (put H b blk',.junk,.none,s.nx)
     |none=>none
    |none=>none
   else none
  |_,_=>none
 |.app k a b=>match ev C s a,ev C s b with
  |some x,some y=>match q2q H k y with
   |some rows=>match x with
    |.bsl id i len=>match look H id with
     |some blk=>if i=0∧blk.n=len∧blk.k=k∧len+rows.n≤most then some (put H id (blk.app rows),.bsl id 0 (len+rows.n),.some id,s.nx) else none
     |none=>none
    |.fs _ k' []=>if k'=k∧rows.n≤most then some ((s.nx,rows.blk k) :: H,.bsl s.nx 0 rows.n,.none,s.nx+1) else none
    |_=>none
   |none=>none
  |_,_=>none
 |.calle f args=>match ev C s args with
  |some (.tup vs)=>match q1I f vs with
   |some (g,ws)=>q9z C s.nx H g ws (q03 H (refN H+64) [] (refsL ws))
   |none=>none
  |_=>none
 |.mset kk m k v=>match ev C s m,ev C s k,ev C s v with
  |some (.map b),some (.d _ d),some x=>if x.laid then match look H b with
    |some blk=>match blk.entries with
     |some es=>match setE kk d x es with
      |some es'=>some (put H b (.map es'),.junk,.none,s.nx)
      |none=>none
     |none=>none
    |none=>none
   else none
  |_,_,_=>none
 |.mark a=>match ev C s a with
  |some (.bsl id i len)=>if 0<len then match look H id with
    |some blk=>if blk.entries.isNone then some (H,.bsl id i len,.none,s.nx) else none
    |none=>none
   else none
  |_=>none
 |.mclr m=>match ev C s m with
  |some (.map b)=>match look H b with
   |some blk=>match blk.entries with
    |some es=>if q2p es then none else some (put H b (.map []),.junk,.none,s.nx)
    |none=>none
   |none=>none
  |_=>none
 |.panic _=>none
def lose(p:Lost)(ρ:List (Nat×V)):List (Nat×V):=match p with
 |.some b=>forgetR (·== b) ρ
 |.none=>ρ
 |.many []=>ρ
 |.many l=>forgetR l.contains ρ
def loseH(p:Lost)(H:List (Nat×Blk)):List (Nat×Blk):=match p with
 |.some b=>forgetH (·== b) H
 |.none=>H
 |.many _=>H
def wonB(C:Cx)(s:S):List (E×Bool)→Option Bool
 |[]=>some true
 |(e,b) :: r=>match wonB C s r with
  |some true=>match ev C s e with
   |some (.d _ (.bool x))=>some (x==b)
   |_=>none
  |r=>r
def q5h(C:Cx)(s:S)(g:Seg):Option S:=
 match q2A C s g.mks with
 |some (s1,news)=>match q2U C s1 g.lets with
  |some l=>if q6E C s1 g.chk then match g.wr with
    |none=>some ⟨l++q0e s1.rho g.keep,addBlks s.heap s.nx news,s1.nx,s.mv⟩
    |some (d,wr)=>match wonB C s1 g.wg with
     |some true=>match evWr C s1 (addBlks s.heap s.nx news) wr with
      |some (H,v,p,nx)=>match d with
       |some d=>some ⟨(d,v) :: lose p (l++q0e s1.rho g.keep),loseH p H,nx,p.ids++s.mv⟩
       |none=>some ⟨lose p (l++q0e s1.rho g.keep),loseH p H,nx,p.ids++s.mv⟩
      |none=>none
     |some false=>some ⟨l++q0e s1.rho g.keep,addBlks s.heap s.nx news,s1.nx,s.mv⟩
     |none=>none
   else none
  |none=>none
 |none=>none
def q35(l:List Nat):V→V
 |.d c x=>.d c x
 |.fs c k rows=>.fs c k rows
 |.ptr b i j=>if l.contains b then .junk else .ptr b i j
 |.bsl b i n=>if l.contains b then .junk else .bsl b i n
 |.bsx b i n=>if l.contains b then .junk else .bsx b i n
 |.map b=>if l.contains b then .junk else .map b
 |_=>.junk
def q3r(l:List Nat)(H:List (Nat×Blk))(s:S):S:=⟨s.rho.map fun(t,v)=>(t,q35 l v),H,s.nx,s.mv⟩
def q1V(s s':S):List Nat:=s'.mv.take (s'.mv.length - s.mv.length)
theorem z7F(s:S)(ρ:List (Nat×V))(H:List (Nat×Blk))(nx:Nat)(l:List Nat):q1V s ⟨ρ,H,nx,l++s.mv⟩=l:=by
 simp [q1V]
def j17:V→V→Bool
 |.bsl b i n,.bsl b' i' n'=>b==b'&&i==i'&&n==n'
 |.bsx b i n,.bsx b' i' n'=>b==b'&&i==i'&&n==n'
 |.ptr b i j,.ptr b' i' j'=>b==b'&&i==i'&&j==j'
 |.fs c k [],.fs c' k' []=>c==c'&&k==k'
 |_,_=>false
def Blk.common:Blk→Blk→Option Blk
 |.mix k rows,.mix k' rows'=>if k=k' then some (.mix k' (rows'.zipIdx.map fun q=>q.1.zipIdx.map fun y=>match(rows.getD q.2 [])[y.2]? with
   |some x=>if j17 x y.1 then y.1 else .junk
   |none=>.junk)) else none
 |_,_=>none
def z1V(H H1:List (Nat×Blk))(stay:Bool)(b:Nat):Option Blk:=if stay then look H b else match look H b,look H1 b with
 |some x,some y=>x.common y
 |_,_=>none
theorem q48(f:Nat→Option Blk):∀(H:List (Nat×Blk))(b:Nat)(k:Blk),look (H.filterMap fun p=>(f p.1).map fun q=>(p.1,q)) b=some k→f b=some k
 |[],b,k,h=>by simp [look] at h
 |(c,x) :: H,b,k,h=>by
  simp only[List.filterMap_cons] at h
  cases hf:f c with
  |none=>rw[hf] at h;exact q48 f H b k h
  |some q=>
   rw[hf] at h
   simp only[Option.map_some,look] at h
   split at h
   ·rename_i e;subst e;rw[hf];exact h
   ·exact q48 f H b k h
def Blk.still:Blk→Bool
 |.dat ..=>true
 |.mix _ rows=>rows.all fun r=>r.all fun v=>!v.own1
 |.map _=>false
def q4X(H:List (Nat×Blk))(b:Nat):Bool:=match look H b with
 |some k=>k.still
 |none=>false
theorem z1m{k:Blk}(h:k.still=true)(p:Nat→Bool):k.forget p=k:=by
 cases k with
 |dat c k rows=>rfl
 |map es=>cases h
 |mix k rows=>
  simp only[Blk.still,List.all_eq_true,Bool.not_eq_true'] at h
  simp only[Blk.forget]
  congr 1
  have:∀ r∈rows,r.map (V.drop1 p)=r:=fun r hr=>by
   have hv:∀ v∈r,V.drop1 p v=v:=fun v hv=>by
    have:=h r hr v hv
    cases v <;> simp [V.own1] at this <;> rfl
   conv=>rhs;rw[←List.map_id r]
   exact List.map_congr_left hv
  conv=>rhs;rw[←List.map_id rows]
  exact List.map_congr_left this
theorem q1k{p:Nat→Bool}:∀ {H:List (Nat×Blk)}{b:Nat}{k:Blk},look H b=some k→k.still=true→look (forgetH p H) b=some k
 |[],b,k,h,_=>by simp [look] at h
 |(c,q) :: H,b,k,h,hs=>by
  simp only[forgetH,List.map_cons,look] at h ⊢
  split at h
  ·rename_i e
   obtain rfl:=Option.some.inj h
   rw[if_pos e,z1m hs]
  ·rename_i e
   rw[if_neg e]
   exact q1k h hs
theorem q7R{l:List Nat}{H:List (Nat×Blk)}{b:Nat}{k:Blk}(h:look H b=some k)(hs:l=[]∨k.still=true):look (q0q l H) b=some k:=by
 cases l with
 |nil=>exact h
 |cons a l=>
  rcases hs with hs|hs
  ·cases hs
  ·exact q1k h hs
def q36(C:Cx)(s:S)(g:Seg)(mv:List Nat)(H1:List (Nat×Blk)):List (Nat×Blk):=match g.wr,q2A C s g.mks with
 |some (_,.calle f args),some (s1,news)=>(match ev C s1 args with
  |some (.tup vs)=>match q1I f vs with
   |some (_,ws)=>s.heap.filterMap fun p=>(z1V s.heap H1 (!(q03 (addBlks s.heap s.nx news) (refN (addBlks s.heap s.nx news)+64) [] (refsL ws)).contains p.1&&(decide (mv=[])||q4X s.heap p.1)) p.1).map fun k=>(p.1,k)
   |none=>[]
  |_=>[])
 |some (_,.store _ a _),some (s1,_)=>if mv=[] then(match ev C s1 a with
  |some (.ptr b _ _)=>s.heap.filter fun p=>p.1 != b
  |_=>[]) else []
 |_,_=>[]
def q5U(l:List Nat):V→Prop
 |.ptr b _ _=>l.contains b=false
 |.bsl b _ _=>l.contains b=false
 |.bsx b _ _=>l.contains b=false
 |.map b=>l.contains b=false
 |v=>v.own=false
def z1T(C:Cx)(s:S)(mv:List Nat)(H1:List (Nat×Blk))(g:Seg):Prop:=∀ e∈g.late,∀ s1 news,q2A C s g.mks=some (s1,news)→∃ v,ev C (q3r mv (q36 C s g mv H1) s1) e=some v∧ev C s1 e=some v∧q5U mv v
open Classical in
noncomputable def q04(C:Cx)(s:S)(g:Seg):Option S:=match q5h C s g with
 |some s'=>if z1T C s (q1V s s') s'.heap g then some s' else none
 |none=>none
noncomputable def q3t(C:Cx)(s:S):List Seg→Option S
 |[]=>some s
 |g :: r=>match q04 C s g with
  |some s'=>q3t C s' r
  |none=>none
def z7e(K:Cx)(s s2:S)(g:Seg):Prop:=∀ e∈g.late,∀ s1 news,q2A K s g.mks=some (s1,news)→ev K s2 e=ev K s1 e
open Classical in
noncomputable def q09(K:Cx)(s:S):List Seg→Option S
 |[]=>some s
 |g :: r=>match q04 K s g with
  |some s'=>if r=[]∨z7e K s s' g then q09 K s' r else none
  |none=>none
inductive Ex where
 |nrm
 |exit (id:Nat)
 |goto (l:Nat)
 |ret
 |pan (v:V)
def iter(f:S→Option (Ex×S)):Nat→S→Option (Ex×S)
 |0,_=>none
 |n+1,s=>match f s with
  |some (.nrm,s')=>iter f n s'
  |r=>r
open Classical in
noncomputable def q5H(f:S→Option (Ex×S))(s:S):Option (Ex×S):=
 if h:∃ n,(iter f n s).isSome then iter f h.choose s else none
def q37(f:Nat→Option (S→Option (Ex×S))):Nat→Option (Ex×S)→Option (Ex×S)
 |0,_=>none
 |n+1,r=>match r with
  |some (.goto l,s)=>match f l with
   |some g=>q37 f n (g s)
   |none=>none
  |r=>r
open Classical in
noncomputable def z3S(f:Nat→Option (S→Option (Ex×S)))(r:Option (Ex×S)):Option (Ex×S):=
 if h:∃ n,(q37 f n r).isSome then q37 f h.choose r else none
def q7P(m:Nat)(slots:List Nat)(s:S):Option S:=
 let ρ:=q0e s.rho slots
 let bs:=q03 s.heap (refN s.heap+64) [] (List.range m++refsL (ρ.map (·.2)))
 if decide bs.Nodup&&decide (bs.take m=List.range m)&&ρ.all (fun p=>p.2.within bs.contains)&&closedB s.heap bs then
  some ⟨ρ.map fun p=>(p.1,p.2.ren bs.idxOf),bs.zipIdx.filterMap fun p=>(look s.heap p.1).map fun k=>(p.2,k.ren bs.idxOf),bs.length,(List.range m).filter s.mv.contains⟩
 else none
def frzS(m t j:Nat)(s:S):S:=
 match look s.rho t with
 |some (.ptr b 0 0)=>match look s.heap b with
  |some (.mix k [row])=>match row[j]? with
   |some (.bsl b' 0 n)=>match look s.heap b' with
    |some (.dat c k' rows)=>if n=rows.length∧0<n∧m≤b'∧b'≠b then
      ⟨forgetR (·== b') s.rho,put (put (forgetH (·== b') s.heap) b' (.dat true k' [])) b (.mix k [(row.map (V.drop1 (·== b'))).set j (.d c (.sl k' rows))]),s.nx,s.mv⟩ else s
    |_=>s
   |_=>s
  |_=>s
 |_=>s
def frzV(m t:Nat)(s:S):S:=
 match look s.rho t with
 |some (.bsl b 0 n)=>match look s.heap b with
  |some (.dat c k rows)=>if n=rows.length∧0<n∧m≤b then⟨put (forgetR (·== b) s.rho) t (.d c (.sl k rows)),put (forgetH (·== b) s.heap) b (.dat true k []),s.nx,s.mv⟩ else s
  |_=>s
 |some (.ptr b 0 0)=>match look s.heap b with
  |some (.mix k [row])=>match mapO asD row with
   |some ds=>if m≤b∧0<ds.length then⟨put (forgetR (·== b) s.rho) t (.d (row.all V.new1) (.ptr ds)),put (forgetH (·== b) s.heap) b (.dat true k []),s.nx,s.mv⟩ else s
   |none=>s
  |_=>s
 |_=>s
def frzL(m:Nat)(l:List Nat)(s:S):S:=l.foldl (fun s t=>frzV m t s) s
def q5P(t j k:Nat)(s:S):S:=
 match look s.rho t with
 |some (.ptr b 0 0)=>match look s.heap b with
  |some (.mix k0 [row])=>match row[j]? with
   |some (.fs _ k' [])=>if k'=k then⟨s.rho,(s.nx,.dat true k []) :: put s.heap b (.mix k0 [row.set j (.bsl s.nx 0 0)]),s.nx+1,s.mv⟩ else s
   |_=>s
  |_=>s
 |_=>s
def q1l(g:Seg):List Nat:=g.keep.filter fun t=>!(g.mks.map (·.1)).contains t
theorem q9X:∀(sl:List Nat)(t:Nat)(v:V),look (z0x sl) t=some v→v=.junk
 |[],t,v,h=>by simp [z0x,look] at h
 |a :: r,t,v,h=>by
  simp only[z0x] at h
  split at h
  ·simp only[look] at h
   split at h
   ·exact(Option.some.inj h).symm
   ·cases h
  ·exact q9X r t v h
theorem z4d{α:Type}:∀(l r:List (Nat×α))(t:Nat)(v:α),look (l++r) t=some v→look l t=some v∨look r t=some v
 |[],r,t,v,h=>.inr h
 |(k,u) :: l,r,t,v,h=>by
  simp only[List.cons_append,look] at h ⊢
  split at h
  ·rename_i e;rw[if_pos e];exact .inl h
  ·rename_i e;rw[if_neg e];exact z4d l r t v h
def skipM(s:S)(keep:List Nat):S:=⟨q0e s.rho keep++z0x keep,s.heap,s.nx,s.mv⟩
def z1p(s:S)(keep:List Nat):S:=⟨q0e s.rho keep,s.heap,s.nx,s.mv⟩
noncomputable def q87(C:Cx)(s:S)(p:Pre)(g:Seg):Option S:=match p.sg with
 |none=>q04 C s g
 |some (t,b)=>match look s.rho t with
  |some (.d _ (.bool x))=>if x=b then q04 C s g else some (z1p s (q1l g))
  |_=>none
noncomputable def q34(m:Nat)(C:Cx)(s:S):List (Pre×Seg)→Option S
 |[]=>some s
 |(p,g) :: r=>match q87 C (frzL m p.fz s) p g with
  |some s'=>q34 m C s' r
  |none=>none
def V.flatD:V→Bool
 |.d _ x=>x.flat
 |_=>false
def V.flatP:V→Bool
 |.d _ x=>x.flat
 |.iface _ (.agg cs)=>cs.all V.flatD
 |.iface _ v=>v.flatD
 |_=>false
def V.isIf:V→Bool
 |.iface _ _=>true
 |_=>false
def panS(s:S)(nx:Nat)(keep:List Nat)(bs:List Nat):S:=⟨lose (.many bs) (q0e s.rho keep),(q0q bs s.heap).filter fun p=>!bs.contains p.1,nx,bs++s.mv⟩
def q8C(C:Cx)(s:S)(nx:Nat)(H:List (Nat×Blk))(keep:List Nat)(f:FuncId)(vs:List V)(bs:List Nat):Option (Ex×S):=
 if decide bs.Nodup&&vs.all (V.within bs.contains)&&closedB H bs then
  match handed H bs with
  |some blks=>match C.pan f (vs.map fun v=>v.dim.ren bs.idxOf) blks with
   |some v=>some (.pan v,panS s nx keep bs)
   |none=>none
  |none=>none
 else none
def q4j(C:Cx)(s s1:S)(H:List (Nat×Blk))(keep:List Nat):Wr→Option (Ex×S)
 |.calle f args=>match ev C s1 args with
  |some (.tup vs)=>match q1I f vs with
   |some (g,ws)=>q8C C s s1.nx H keep g ws (q03 H (refN H+64) [] (refsL ws))
   |none=>none
  |_=>none
 |.panic e=>match ev C s1 e with
  |some v=>if v.flatP&&v.isIf then some (.pan v,panS s s1.nx keep []) else none
  |none=>none
 |_=>none
def q4T(C:Cx)(s:S)(g:Seg):Option (Ex×S):=match q2A C s g.mks with
 |some (s1,news)=>match q2U C s1 g.lets with
  |some _=>if q6E C s1 g.chk then match g.wr with
    |some (_,wr)=>match wonB C s1 g.wg with
     |some true=>q4j C s s1 (addBlks s.heap s.nx news) (q1l g) wr
     |_=>none
    |none=>none
   else none
  |none=>none
 |none=>none
noncomputable def q3n(C:Cx)(s:S):List Seg→Option (Ex×S)
 |[]=>none
 |g :: r=>match q04 C s g with
  |some s'=>q3n C s' r
  |none=>q4T C s g
open Classical in
noncomputable def q1T(C:Cx)(s:S):List Seg→Option (Ex×S)
 |[]=>none
 |g :: r=>match q04 C s g with
  |some s'=>if z7e C s s' g then q1T C s' r else none
  |none=>q4T C s g
noncomputable def exec(X:Cx):C→S→Option (Ex×S)
 |.skip,s=>some (.nrm,s)
 |.regg m l,s=>match q34 m X s l with
  |some s'=>some (.nrm,s')
  |none=>none
 |.regl l,s=>match q09 X s l with
  |some s'=>some (.nrm,s')
  |none=>q1T X s l
 |.regp _ l,s=>match q09 X s l with
  |some s'=>some (.nrm,s')
  |none=>q1T X s l
 |.ownc t j k,s=>some (.nrm,q5P t j k s)
 |.reg l,s=>match q3t X s l with
  |some s'=>some (.nrm,s')
  |none=>q3n X s l
 |.seq a b,s=>match exec X a s with
  |some (.nrm,s')=>exec X b s'
  |r=>r
 |.cond e a b,s=>match ev X s e with
  |some (.d _ (.bool x))=>if x then exec X a s else exec X b s
  |_=>none
 |.block id c,s=>match exec X c s with
  |some (.exit i,s')=>if i=id then some (.nrm,s') else some (.exit i,s')
  |r=>r
 |.loop c,s=>q5H (exec X c) s
 |.exit id,s=>some (.exit id,s)
 |.scope c ls,s=>z3S (fun l=>labelled X ls l) (exec X c s)
 |.lnil,_=>none
 |.lcons _ _ _,_=>none
 |.label _,s=>some (.nrm,s)
 |.goto l,s=>some (.goto l,s)
 |.ret,s=>some (.ret,s)
 |.tidy m slots,s=>match q7P m slots s with
  |some s'=>some (.nrm,s')
  |none=>none
 |.own t k,s=>match look s.rho t with
  |some (.fs _ k' [])=>if k'=k then some (.nrm,⟨put s.rho t (.bsl s.nx 0 0),(s.nx,.dat true k []) :: s.heap,s.nx+1,s.mv⟩) else some (.nrm,s)
  |_=>some (.nrm,s)
 |.frz m t j,s=>some (.nrm,frzS m t j s)
 |.keep sl,s=>some (.nrm,skipM s sl)
 |.stuck,_=>none
 where
 labelled (X:Cx):C→Nat→Option (S→Option (Ex×S))
  |.lcons l c ls,l'=>if l=l' then some (exec X c) else labelled X ls l'
  |_,_=>none
end Go.Vm
end

section
namespace Go.Vm
open Go.RowKit
variable {P:Program}{w:World}{F:Nat→Prop}{base nx:Nat}{σ:Nat→Option Loc}{ρ:Operand→Value}{o:Oper}
def nilK(d:TypeDesc)(y:Operand):Option Nat:=match d,y with
 |.slice _,.const (.slice none 0 0)=>some 3
 |.pointer _,.const (.pointer none)=>some 4
 |.interface _,.const .nilIface=>some 5
 |.func ..,.const .nilFunc=>some 6
 |_,_=>none
theorem evNil{neg:Bool}{k:Nat}{p q r:V}(hk:3≤k)(hr:q4M neg false [k] p q=some r):∃ b,q2l k p q=some b∧r=.bool (if neg then !b else b):=by
 have:∀ x y,(match q1R [k] [x] [y] with|some p=>some (V.bool (if neg=true then !p else p))|none=>none)=some r→∃ b,q2l k x y=some b∧r=.bool (if neg then !b else b):=by
  intro x y h
  simp only[q1R] at h
  cases hc:q2l k x y with
  |none=>simp [hc] at h
  |some b=>
   simp only[hc,Bool.and_true,Option.some.injEq] at h
   exact⟨b,rfl,h.symm⟩
 unfold q4M at hr
 split at hr
 ·simp at hr
 ·simp only[Bool.false_eq_true,if_false] at hr
  exact this _ _ hr
theorem z1X{v:Value}{x:V}{b:Bool}(h:RepV w F base σ v x)(hb:x.isNilS=some b):∃ a n c,v=.slice a n c∧a.isNone=b:=by
 cases h with
 |d c v y h=>
  cases h with
  |sl0 a cap k _=>simp [V.isNilS] at hb
  |sl b of len cap k rows g h1 h2 h3 h4 h5 h6=>
   simp only[V.isNilS] at hb
   split at hb
   ·cases hb
   ·exact⟨_,_,_,rfl,by simpa using hb⟩
  |nils k=>exact⟨_,_,_,rfl,by simpa [V.isNilS] using hb⟩
  |emps a cap k=>exact⟨_,_,_,rfl,by simpa [V.isNilS] using hb⟩
  |_=>simp [V.isNilS] at hb
 |fs c a len k rows h=>
  simp only[V.isNilS] at hb
  split at hb
  ·cases hb
  ·rename_i hr
   cases h with
   |sl0 a cap k _=>simp at hr
   |sl b of len cap k rows g h1 h2 h3 h4 h5 h6=>exact⟨_,_,_,rfl,by simpa using hb⟩
 |bsl0 a b i=>simp [V.isNilS] at hb
 |bsx b i len cap l a hl h1 h2 h3=>exact⟨_,_,_,rfl,by simpa [V.isNilS] using hb⟩
 |bsl b i len cap l hl h1 h2=>
  simp only[V.isNilS] at hb
  split at hb
  ·cases hb
  ·exact⟨_,_,_,rfl,by simpa using hb⟩
 |_=>simp [V.isNilS] at hb
theorem z1Y{v:Value}{x:V}{b:Bool}(h:RepV w F base σ v x)(hb:x.isNilP=some b):∃ a,v=.pointer a∧a.isNone=b:=by
 cases h with
 |d c v y h=>cases h <;> first|(simp [V.isNilP] at hb;done)|exact⟨_,rfl,by simpa [V.isNilP] using hb⟩
 |ptr b i j l hl=>exact⟨_,rfl,by simpa [V.isNilP] using hb⟩
 |_=>simp [V.isNilP] at hb
theorem z1Z{v:Value}{x:V}{b:Bool}(h:RepV w F base σ v x)(hb:x.isNilI=some b):(v=.nilIface∧b=true)∨(∃ t u,v=.iface t u∧b=false):=by
 cases h with
 |d c v y h=>
  cases h <;> first|(simp [V.isNilI] at hb;done)|skip
  ·exact .inl ⟨rfl,by simpa [V.isNilI] using hb.symm⟩
  ·exact .inr ⟨_,_,rfl,by simpa [V.isNilI] using hb.symm⟩
 |iface t v x h=>exact .inr ⟨_,_,rfl,by simpa [V.isNilI] using hb.symm⟩
 |_=>simp [V.isNilI] at hb
theorem z12{v:Value}{x:V}{b:Bool}(h:RepV w F base σ v x)(hb:x.isNilF=some b):(v=.nilFunc∧b=true)∨(∃ f c d,v=.func f c d∧b=false):=by
 cases h with
 |d c v y h=>
  cases h <;> first|(simp [V.isNilF] at hb;done)|skip
  ·exact .inl ⟨rfl,by simpa [V.isNilF] using hb.symm⟩
 |fn f cs vs h1 h2=>exact .inr ⟨_,_,_,rfl,by simpa [V.isNilF] using hb.symm⟩
 |_=>simp [V.isNilF] at hb
theorem eq_ii{t:TypeId}{ms:Array (String×TypeId)}(ht:P.underlying t=some (.interface ms)):(Op.equal t .nilIface .nilIface).run P w=.ok true w:=by
 have:∀ d,(Op.equalIn (d+1) t .nilIface .nilIface).run P w=.ok true w:=fun d=>by simp [Op.equalIn,run_underlying ht]
 exact this 9999
theorem eq_iv{t u:TypeId}{z:Value}{ms:Array (String×TypeId)}(ht:P.underlying t=some (.interface ms)):(Op.equal t (.iface u z) .nilIface).run P w=.ok false w:=by
 have:∀ d,(Op.equalIn (d+1) t (.iface u z) .nilIface).run P w=.ok false w:=fun d=>by simp [Op.equalIn,run_underlying ht]
 exact this 9999
theorem eq_ff{t:TypeId}{a b:Array TypeId}{c:Bool}(ht:P.underlying t=some (.func a b c)):(Op.equal t .nilFunc .nilFunc).run P w=.ok true w:=by
 have:∀ d,(Op.equalIn (d+1) t .nilFunc .nilFunc).run P w=.ok true w:=fun d=>by simp [Op.equalIn,run_underlying ht]
 exact this 9999
theorem eq_fv{t:TypeId}{f:Fn}{g z:Array Value}{a b:Array TypeId}{c:Bool}(ht:P.underlying t=some (.func a b c)):(Op.equal t (.func f g z) .nilFunc).run P w=.ok false w:=by
 have:∀ d,(Op.equalIn (d+1) t (.func f g z) .nilFunc).run P w=.ok false w:=fun d=>by simp [Op.equalIn,run_underlying ht]
 exact this 9999
theorem q7C{bo:BinOp}{neg:Bool}{t t2:TypeId}{x y:Operand}{d:TypeDesc}{k:Nat}(ho:o.op=.binOp bo t x y t2)(hbo:bo=if neg then .neq else .eql)(ht:P.underlying t=some d)(hk:nilK d y=some k)(hρ:∀ c,ρ (.const c)=c)
  {p q r:V} (hx:RepV w F base σ (ρ x) p) (hr:q4M neg false [k] p q=some r):OpOk P w F base σ ρ o r:=by
 have h3:3≤k:=by
  unfold nilK at hk
  split at hk <;> first|(cases hk;done)|(obtain rfl:=Option.some.inj hk;omega)
 obtain⟨b,hc,rfl⟩:=evNil h3 hr
 have fin:∀ z,y=.const z→(eqGuard bo t x y (ρ x) z).run P w=.ok () w→(Op.equal t (ρ x) z).run P w=.ok b w→(bo=.eql→binOp bo t (ρ x) z=(do pure (.bool (←Op.equal t (ρ x) z))))→(bo=.neq→binOp bo t (ρ x) z=(do pure (.bool (!(←Op.equal t (ρ x) z)))))→OpOk P w F base σ ρ o (.bool (if neg then !b else b)):=by
  rintro z rfl hg he h1 h2
  refine⟨.bool (if neg then !b else b),?_,.bool⟩
  subst hbo
  cases neg
  ·have h1:=h1 rfl
   simp only[Bool.false_eq_true,if_false] at h1 hg ⊢
   simp [execOp,ho,hρ,hg,h1,he]
  ·have h2:=h2 rfl
   simp only[if_true] at h2 hg ⊢
   simp [execOp,ho,hρ,hg,h2,he]
 unfold nilK at hk
 split at hk
 ·obtain rfl:=Option.some.inj hk
  obtain⟨a,n,c,hv,rfl⟩:=z1X hx hc
  refine fin _ rfl ?_ (by rw[hv];exact run_equal_slice_nil w t _ a n c ht) ?_ ?_
  ·rw[hv,eqGuard_at_slice];rfl
  ·rintro rfl;rw[hv];rfl
  ·rintro rfl;rw[hv];rfl
 ·obtain rfl:=Option.some.inj hk
  obtain⟨a,hv,rfl⟩:=z1Y hx hc
  have hp:P.underlying t=some (.pointer (P.pointee t)):=by
   rw[ht];simp [Program.pointee,ht]
  refine fin _ rfl ?_ (by rw[hv];exact run_equal_pointer_nil w t a hp) ?_ ?_
  ·rw[hv,eqGuard_at_pointer];rfl
  ·rintro rfl;rw[hv];rfl
  ·rintro rfl;rw[hv];rfl
 ·obtain rfl:=Option.some.inj hk
  rcases z1Z hx hc with⟨hv,rfl⟩|⟨u,z,hv,rfl⟩
  ·refine fin _ rfl ?_ ?_ ?_ ?_
   ·rw[hv,eqGuard_nil_constR];rfl
   ·rw[hv];exact eq_ii ht
   ·rintro rfl;rw[hv];rfl
   ·rintro rfl;rw[hv];rfl
  ·refine fin _ rfl ?_ ?_ ?_ ?_
   ·rw[hv,eqGuard_at_iface];rfl
   ·rw[hv];exact eq_iv ht
   ·rintro rfl;rw[hv];rfl
   ·rintro rfl;rw[hv];rfl
 ·obtain rfl:=Option.some.inj hk
  rcases z12 hx hc with⟨hv,rfl⟩|⟨f,g,z,hv,rfl⟩
  ·refine fin _ rfl ?_ ?_ ?_ ?_
   ·rw[hv,eqGuard_at_nilFunc];rfl
   ·rw[hv];exact eq_ff ht
   ·rintro rfl;rw[hv];rfl
   ·rintro rfl;rw[hv];rfl
  ·refine fin _ rfl ?_ ?_ ?_ ?_
   ·rw[hv,eqGuard_at_func];rfl
   ·rw[hv];exact eq_fv ht
   ·rintro rfl;rw[hv];rfl
   ·rintro rfl;rw[hv];rfl
 ·cases hk
theorem z3b{x:Operand}(ho:o.op=.nilCheck x){p r:V}(hx:RepV w F base σ (ρ x) p)(hr:evFa 0 p=some r):OpOk P w F base σ ρ o r:=by
 generalize hu:ρ x=u at hx
 cases hx with
 |ptr b i j l hl=>
  simp only[evFa,Option.some.injEq] at hr
  subst hr
  exact⟨_,by simp [execOp,ho,hu],.ptr b i (j+0) l hl⟩
 |d c v y h=>
  cases h with
  |ptr b of cells g hF hc hg=>
   simp only[evFa,Option.some.injEq,List.drop_zero] at hr
   subst hr
   exact⟨_,by simp [execOp,ho,hu],.d _ _ _ (.ptr b of cells g hF hc hg)⟩
  |_=>simp [evFa] at hr
 |_=>simp [evFa] at hr
theorem z5p{x y:Operand}{t t':TypeId}{k:IntKind}{a b:Int}(ho:o.op=.call { callee:=.builtin .min,args:=#[x,y],argTypes:=#[t,t'] })(hx:ρ x=.int k a)(hy:ρ y=.int k b):(execOp ρ o).run P w=.ok (.value (.int k (if b<a then b else a))) w:=by
 simp [execOp,ho,resolve,invoke,builtin,hx,hy,run_min_int2]
theorem z5q{x y:Operand}{t t':TypeId}{k:IntKind}{a b:Int}(ho:o.op=.call { callee:=.builtin .max,args:=#[x,y],argTypes:=#[t,t'] })(hx:ρ x=.int k a)(hy:ρ y=.int k b):(execOp ρ o).run P w=.ok (.value (.int k (if b>a then b else a))) w:=by
 simp [execOp,ho,resolve,invoke,builtin,hx,hy,run_max_int2]
theorem j3R{x y:Operand}{t t':TypeId}{k:IntKind}{a b:Int}(ho:o.op=.call { callee:=.builtin .min,args:=#[x,y],argTypes:=#[t,t'] })(hx:ρ x=.int k a)(hy:ρ y=.int k b):OpOk P w F base σ ρ o (.int k (if b<a then b else a)):=
 ⟨_,by simp [execOp,ho,resolve,invoke,builtin,hx,hy,run_min_int2],.int⟩
theorem j3S{x y:Operand}{t t':TypeId}{k:IntKind}{a b:Int}(ho:o.op=.call { callee:=.builtin .max,args:=#[x,y],argTypes:=#[t,t'] })(hx:ρ x=.int k a)(hy:ρ y=.int k b):OpOk P w F base σ ρ o (.int k (if b>a then b else a)):=
 ⟨_,by simp [execOp,ho,resolve,invoke,builtin,hx,hy,run_max_int2],.int⟩
end Go.Vm
end

section
namespace Go.Vm
open Go.RowKit
variable {P:Program}{w:World}{F:Nat→Prop}{X:Nat→Nat→Prop}{base nx:Nat}{σ:Nat→Option Loc}{ρ:Operand→Value}{o:Oper}{H:List (Nat×Blk)}
def q27:TypeDesc→Option Nat
 |.int _=>some 0
 |.bool=>some 1
 |.string=>some 2
 |_=>none
theorem q8T{dk:TypeDesc}{kk:Nat}(hkk:q27 dk=some kk){w1:World}{F1:Nat→Prop}{u v:Value}{d d':D}{b:Bool}(h:q3A kk d d'=some b)(h1:RepD w1 F1 u d)(h2:RepD w F v d') :
  Instr.sameNow dk u v=some b∧(b=true→u=v):=by
 cases dk <;> simp only[q27,Option.some.injEq] at hkk <;> (try(cases hkk;done)) <;> subst hkk
 ·cases d <;> cases d' <;> simp only[q3A] at h <;> (try(cases h;done))
  cases h1;cases h2
  obtain rfl:=Option.some.inj h
  exact⟨rfl,fun h=>by simpa using h⟩
 ·cases d <;> cases d' <;> simp only[q3A] at h <;> (try(cases h;done))
  cases h1;cases h2
  split at h
  ·rename_i hk
   subst hk
   obtain rfl:=Option.some.inj h
   exact⟨by simp [Instr.sameNow],fun h=>by simpa using h⟩
  ·cases h
 ·cases d <;> cases d' <;> simp only[q3A] at h <;> (try(cases h;done))
  cases h1 with|str s=>cases h2 with|str t=>
  obtain rfl:=Option.some.inj h
  have e:(s==t)=decide (s.data.toList=t.data.toList):=by
   rw[Bool.eq_iff_iff,MapKept.bytes_beq,decide_eq_true_eq]
   constructor
   ·rintro rfl;rfl
   ·intro h
    obtain⟨a⟩:=s;obtain⟨b⟩:=t
    simp only at h
    congr 1
    exact Array.toList_inj.1 h
  refine⟨by simp only[Instr.sameNow,e],fun h=>?_⟩
  rw[decide_eq_true_eq] at h
  obtain⟨a⟩:=s;obtain⟨b⟩:=t
  simp only at h
  congr 2
  exact Array.toList_inj.1 h
theorem q80{dk:TypeDesc}{kk:Nat}(hkk:q27 dk=some kk){w1:World}{F1:Nat→Prop}{u:Value}{d:D}(hu:RepD w1 F1 u d):∀(es:List MapEntry)(ds:List (D×V))(n:Nat)(r:Option V),es.length=ds.length→
  (∀(i:Nat) (e:MapEntry) (p:D×V),es[i]? = some e→ds[i]? = some p→p.1.flat=true∧RepD w F e.key p.1∧RepV w F base σ e.val p.2)→q6y kk d ds=some r→
  (r=none∧Instr.findNow dk u es n=some none)∨∃ x j e,r=some x∧Instr.findNow dk u es n=some (some (n+j,e.val))∧es[j]? = some e∧e.key=u∧RepV w F base σ e.val x
 |[],[],n,r,_,_,h=>by
  simp only[q6y,Option.some.injEq] at h
  exact .inl ⟨h.symm,rfl⟩
 |[],_ :: _,_,_,hl,_,_=>by simp at hl
 |_ :: _,[],_,_,hl,_,_=>by simp at hl
 |e :: es,(k',v) :: ds,n,r,hl,hr,h=>by
  obtain⟨_,g2,g3⟩:=hr 0 e (k',v) rfl rfl
  simp only[q6y] at h
  cases hk:q3A kk d k' with
  |none=>simp [hk] at h
  |some b=>
   obtain⟨q1,q2⟩:=q8T hkk hk hu g2
   cases b with
   |true=>
    simp only[hk,Option.some.injEq] at h
    exact .inr ⟨v,0,e,h.symm,by simp [Instr.findNow,q1],rfl,(q2 rfl).symm,g3⟩
   |false=>
    simp only[hk] at h
    rcases q80 hkk hu es ds (n+1) r (by simpa using hl) (fun i e p h1 h2=>hr (i+1) e p (by simpa using h1) (by simpa using h2)) h with⟨h1,h2⟩|⟨x,j,e',h1,h2,h3,h4,h5⟩
    ·exact .inl ⟨h1,by simp [Instr.findNow,q1,h2]⟩
    ·exact .inr ⟨x,j+1,e',h1,by simp [Instr.findNow,q1,h2];omega,by simpa using h3,h4,h5⟩
theorem q4D{kt:TypeId}{dk:TypeDesc}{kk:Nat}(hd:P.underlying kt=some dk)(hkk:q27 dk=some kk)(e:Bool)(n:Nat)(u:Value):(Instr.checkKey e (n+1) kt u).run P w=.ok () w:=by
 unfold Instr.checkKey
 simp only[Sem.run_bind,run_underlying hd,Result.andThen]
 cases dk <;> simp only[q27] at hkk <;> (try(cases hkk;done)) <;> cases u <;> rfl
theorem q6n(hH:HeapRel w F X base σ nx H){b:Nat}{l:Loc}{blk:Blk}{ds:List (D×V)}(hl:σ b=some l)(hb:look H b=some blk)(he:blk.entries=some ds)(hg:q2p ds=false):∃ es ck,w.heap[l.blk]? = some (.map es ck)∧blk=.map ds∧l.k=0∧l.ext=0∧MapRel w F base σ es ds:=by
 rcases hH.blk b blk hb with⟨_,hn⟩|⟨l',es,ck,ds',rfl,h1,h2,h3,h4,h5⟩|⟨_,_,_,_,_,_,_,_,_,h7⟩
 ·rw[hn] at hl;cases hl
 ·obtain rfl:l=l':=by rw[hl] at h1;exact Option.some.inj h1
  simp only[Blk.entries,Option.some.injEq] at he
  subst he
  exact⟨es,ck,(h2.map hg).1,rfl,h3,(h2.map hg).2,h5⟩
 ·rw[h7] at he;cases he
theorem q7g(kk:Nat)(k:D)(T:Nat):q3A kk k (.nils T)=none:=by
 unfold q3A
 split <;> first|rfl|(rename_i h;cases h)
theorem q7h(kk:Nat)(k:D)(T:Nat):q3A kk k (.emps T)=none:=by
 unfold q3A
 split <;> first|rfl|(rename_i h;cases h)
theorem z8A{kk:Nat}{k:D}{ds:List (D×V)}{q:Option V}(h:q6y kk k ds=some q):q2p ds=false:=by
 cases ds with
 |nil=>rfl
 |cons p ds=>
  obtain⟨d,v⟩:=p
  cases d with
  |nils T=>simp only[q6y,q7g] at h;cases h
  |emps T=>simp only[q6y,q7h] at h;cases h
  |_=>rfl
theorem j3T{t kt et:TypeId}{dk:TypeDesc}{kk:Nat}{x y:Operand}{ok:Bool}{z:Value}{i:TypeInfo}(ho:o.op=.lookup t x y ok)(ht:P.underlying t=some (.map kt et))(hk:P.underlying kt=some dk)(hkk:q27 dk=some kk)
  (hi:P.info? et=some i) (hz:i.zero=some z) (hH:HeapRel w F X base σ nx H) {vz vm vk r:V} (hvz:RepV w F base σ z vz) (hx:RepV w F base σ (ρ x) vm) (hy:RepV w F base σ (ρ y) vk) (hr:q88 H ok kk vz vm vk=some r):OpOk P w F base σ ρ o r:=by
 have hzero:(zeroValue et).run P w=.ok z w:=by simp [zeroValue,typeInfo,hi,hz]
 have pack:∀(v:Value) (x:V) (b:Bool),RepV w F base σ v x→RepV w F base σ (.tuple #[v,.bool b]) (.tup [x,.bool b]):=fun v x b h=>.tup _ _ rfl fun j u y hu hy=>by
  match j with
  |0=>simp at hu hy;subst hu;subst hy;exact h
  |1=>simp at hu hy;subst hu;subst hy;exact .bool
  |j+2=>simp at hu
 cases vm with
 |map b=>
  cases vk with
  |d c k=>
   simp only[q88] at hr
   cases hb:look H b with
   |none=>simp [hb] at hr
   |some blk=>
    cases he:blk.entries with
    |none=>simp [hb,he] at hr
    |some ds=>
     simp only[hb,he] at hr
     generalize hxv:ρ x=xv at hx
     cases hx with
     |map _ l hl=>
      generalize hyv:ρ y=yv at hy
      cases hy with
      |d _ _ _ hyd=>
      cases hf:q6y kk k ds with
      |none=>simp [hf] at hr
      |some q=>
       obtain⟨es,ck,h1,rfl,_,_,h5⟩:=q6n hH hl hb he (z8A hf)
       have hck:=q4D (P:=P) (w:=w) hk hkk es.isEmpty 9999 yv
       rcases q80 (base:=base) (σ:=σ) hkk (w:=w) (F:=F) hyd es.toList ds 0 q (by simpa using h5.1) (fun i e p h1 h2=>h5.2 i e p (by simpa using h1) h2) hf with⟨rfl,g2⟩|⟨x',j,e,rfl,g2,g3,g4,g5⟩
       ·simp only[hf,Option.some.injEq] at hr
        subst hr
        have hfk:=MapKept.run_findKey (P:=P) (w:=w) hk g2
        cases ok with
        |true=>exact⟨.tuple #[z,.bool false],by simp [execOp,ho,hxv,hyv,Instr.lookup,run_underlying ht,MapKept.run_getObj_map h1,hck,hfk,hzero,Result.andThen],pack _ _ _ hvz⟩
        |false=>exact⟨z,by simp [execOp,ho,hxv,hyv,Instr.lookup,run_underlying ht,MapKept.run_getObj_map h1,hck,hfk,hzero,Result.andThen],hvz⟩
       ·simp only[hf,Option.some.injEq] at hr
        subst hr
        have hfk:=MapKept.run_findKey (P:=P) (w:=w) hk g2
        cases ok with
        |true=>exact⟨.tuple #[e.val,.bool true],by simp [execOp,ho,hxv,hyv,Instr.lookup,run_underlying ht,MapKept.run_getObj_map h1,hck,hfk,Result.andThen],pack _ _ _ g5⟩
        |false=>exact⟨e.val,by simp [execOp,ho,hxv,hyv,Instr.lookup,run_underlying ht,MapKept.run_getObj_map h1,hck,hfk,Result.andThen],g5⟩
  |_=>simp [q88] at hr
 |d c m=>
  cases m with
  |nilm=>
   cases vk with
   |d c' k=>
    simp only[q88,Option.some.injEq] at hr
    subst hr
    generalize hxv:ρ x=xv at hx
    cases hx with
    |d _ _ _ hx=>
     cases hx
     have hck:=q4D (P:=P) (w:=w) hk hkk true 9999 (ρ y)
     have hfk:=MapKept.run_findKey (P:=P) (w:=w) (k:=ρ y) (l:=[]) hk rfl
     cases ok with
     |true=>exact⟨.tuple #[z,.bool false],by simp [execOp,ho,hxv,Instr.lookup,run_underlying ht,hck,hfk,hzero,Result.andThen],pack _ _ _ hvz⟩
     |false=>exact⟨z,by simp [execOp,ho,hxv,Instr.lookup,run_underlying ht,hck,hfk,hzero,Result.andThen],hvz⟩
   |_=>simp [q88] at hr
  |_=>simp [q88] at hr
 |_=>simp [q88] at hr
theorem j2m{t kt et:TypeId}{x:Operand}(ho:o.op=.call { callee:=.builtin .len,args:=#[x],argTypes:=#[t] })(ht:P.underlying t=some (.map kt et))(hH:HeapRel w F X base σ nx H){vm r:V}(hx:RepV w F base σ (ρ x) vm)(hr:z4t H vm=some r):OpOk P w F base σ ρ o r:=by
 cases vm with
 |map b=>
  simp only[z4t] at hr
  cases hb:look H b with
  |none=>simp [hb] at hr
  |some blk=>
   cases he:blk.entries with
   |none=>simp [hb,he] at hr
   |some ds=>
    simp only[hb,he] at hr
    split at hr
    ·cases hr
    rename_i hg
    simp only[Option.some.injEq] at hr
    subst hr
    generalize hxv:ρ x=xv at hx
    cases hx with
    |map _ l hl=>
     obtain⟨es,ck,h1,rfl,_,_,h5⟩:=q6n hH hl hb he (by simpa using hg)
     refine⟨.int .i64 es.size,?_,by rw[h5.1];exact .int⟩
     simp [execOp,ho,hxv,resolve,invoke,builtin,Builtin.len_,run_underlying ht,MapKept.run_getObj_map h1,Result.andThen,goInt]
 |_=>simp [z4t] at hr
theorem z0f:∀(rows:List (List D))(l:List UInt8),q5l rows=some l→∃ ns:List Int,rows=ns.map (fun n=>[D.int .u8 n])∧l=ns.map fun n=>UInt8.ofNat n.toNat
 |[],l,h=>⟨[],rfl,(Option.some.inj h).symm⟩
 |r :: rows,l,h=>by
  unfold q5l at h
  split at h
  ·rename_i h1;cases h1
  ·rename_i n r' h1
   simp only[List.cons.injEq] at h1
   obtain⟨rfl,rfl⟩:=h1
   cases hb:q5l rows with
   |none=>rw[hb] at h;cases h
   |some l'=>
    rw[hb] at h
    obtain⟨ns,h2,h3⟩:=z0f rows l' hb
    exact⟨n :: ns,by rw[h2];rfl,by rw[←Option.some.inj h,h3];rfl⟩
  ·cases h
theorem q9P:∀(ns:List Int)(s:ByteArray),(ns.foldl (fun r n=>r.push (UInt8.ofNat n.toNat)) s).data.toList=s.data.toList++ns.map fun n=>UInt8.ofNat n.toNat
 |[],s=>by simp
 |n :: ns,s=>by
  simp only[List.foldl_cons,List.map_cons]
  rw[q9P ns]
  simp [ByteArray.push]
theorem j3Z{src dst e:TypeId}{x:Operand}(ho:o.op=.convert src dst x)(hs:P.underlying src=some (.slice e))(he:P.underlying e=some (.int .u8))(hd:P.underlying dst=some .string)(hH:HeapRel w F X base σ nx H){v r:V}(hx:RepV w F base σ (ρ x) v)(hr:z5R H v=some r):OpOk P w F base σ ρ o r:=by
 unfold z5R at hr
 cases hd':q0b viewDepth H v with
 |none=>rw[hd'] at hr;cases hr
 |some d=>
  rw[hd'] at hr
  have hv:=q22 hH _ _ _ _ hd' hx
  replace hr:b2sD d=some r:=hr
  unfold b2sD at hr
  split at hr
  ·rename_i rows
   cases hb:q5l rows with
   |none=>rw[hb] at hr;cases hr
   |some l=>
    rw[hb] at hr
    obtain rfl:=Option.some.inj hr
    obtain⟨ns,rfl,rfl⟩:=z0f rows l hb
    generalize hxv:ρ x=xv at hv
    have fin:∀ s:ByteArray,(Conv.bytesToString xv).run P w=.ok (.string s) w→s.data.toList=ns.map (fun n=>UInt8.ofNat n.toNat)→(∃ a n c,xv=.slice a n c)→OpOk P w F base σ ρ o (V.str (ns.map fun n=>UInt8.ofNat n.toNat)):=by
     rintro s hs' hl ⟨a,n,c,rfl⟩
     refine⟨.string s,?_,by rw[←hl];exact .str⟩
     simp only[execOp,ho,hxv,Sem.run_bind,Sem.run_pure,run_convert_bytes_string w src dst e a n c hs he hd,hs',Result.andThen]
    generalize hrows:ns.map (fun n=>[D.int .u8 n])=rows at hv
    cases hv with
    |sl0 a cap _ hc=>
     have:ns=[]:=by simpa using hrows
     subst this
     cases a with
     |none=>exact fin .empty (by simp [Conv.bytesToString,Sem.run_pure]) rfl ⟨_,_,_,rfl⟩
     |some a=>exact fin .empty (by have:=run_bytesToString (P:=P) w a 0 cap [] (run_loadCells_list w a [] (fun j v h=>by simp at h));simpa using this) rfl ⟨_,_,_,rfl⟩
    |sl b o' len cap _ _ g h1 h2 h3 h4 h5 h6=>
     have hcell:∀(j:Nat) (v:Value),(ns.map (Value.int .u8))[j]? = some v→w.cell? ((⟨b,o',none⟩:Addr).add j)=some v:=by
      intro j v hj
      simp only[List.getElem?_map,Option.map_eq_some_iff] at hj
      obtain⟨n,hn,rfl⟩:=hj
      have hrow:rows[j]? = some [D.int .u8 n]:=by rw[←hrows];simp [hn]
      have e1:=h5 j 0 _ _ hrow rfl
      have e2:=h6 j 0 _ _ hrow rfl
      cases e2':g j 0 with
      |int k m=>
       rw[e2'] at e1 e2
       cases e2
       rw[←e1]
       congr 1
       simp [Addr.add]
      |_=>rw[e2'] at e2;cases e2
     have hl:=run_loadCells_list (P:=P) w ⟨b,o',none⟩ (ns.map (Value.int .u8)) hcell
     have hlen:(ns.map (Value.int .u8)).length=len:=by rw[List.length_map,←h1,←hrows,List.length_map]
     rw[hlen] at hl
     exact fin _ (run_bytesToString (P:=P) w ⟨b,o',none⟩ len cap ns hl) (by rw[q9P];simp) ⟨_,_,_,rfl⟩
  ·cases hr
theorem j3V{src dst:TypeId}{k:IntKind}{x:Operand}(ho:o.op=.convert src dst x)(hs:P.underlying src=some (.int k))(hd:P.underlying dst=some .string){v r:V}(hx:RepV w F base σ (ρ x) v)(hr:j27 v=some r):OpOk P w F base σ ρ o r:=by
 unfold j27 at hr
 split at hr
 ·rename_i c k' n
  obtain rfl:=Option.some.inj hr
  have hv:=hx.int_inv
  refine⟨.string (Utf8.encode n),?_,.str⟩
  simp [execOp,ho,hv,convert,run_underlying hs,run_underlying hd,Conv.intToString,Sem.run_pure]
 ·cases hr
end Go.Vm
end

section
namespace Go.Vm
open Go.RowKit
def q3z:List E→E
 |[]=>.nil
 |e :: r=>.cons e (q3z r)
theorem q3p(X:Cx)(s:S):∀(l:List E)(r:V),ev X s (q3z l)=some r→∃ vs,r=.tup vs∧mapO (ev X s) l=some vs
 |[],r,h=>⟨[],(Option.some.inj h).symm,rfl⟩
 |e :: l,r,h=>by
  simp only[q3z,ev] at h
  cases he:ev X s e with
  |none=>simp [he] at h
  |some v=>
   cases hl:ev X s (q3z l) with
   |none=>simp [he,hl] at h
   |some u=>
    obtain⟨vs,rfl,hm⟩:=q3p X s l u hl
    simp only[he,hl,Option.some.injEq] at h
    exact⟨v :: vs,h.symm,by simp [mapO,he,hm]⟩
def q9k(P:Program):(fuel:Nat)→TypeId→Nat→TypeId
 |0,t,_=>t
 |n+1,t,off=>match P.underlying t with
  |some (.struct fs)=>match fs.toList.find? (fun f=>decide (f.offset≤off)&&decide (off<f.offset+P.cellsOf f.type)) with
   |some f=>q9k P n f.type (off - f.offset)
   |none=>t
  |some (.array _ e)=>q9k P n e (off % P.cellsOf e)
  |_=>t
def q7t(P:Program)(t:TypeId):Value→Option E
 |.int k n=>some (.int k n)
 |.bool b=>some (.bool b)
 |.string s=>some (.str s.data.toList)
 |.slice none 0 0=>match P.underlying t with
  |some (.slice e)=>some (.nilsl (P.cellsOf e))
  |_=>some (.nilsl 0)
 |.pointer none=>some .nilp
 |.nilIface=>some .nilif
 |.nilFunc=>some .nilfn
 |.map none=>some .nilm
 |_=>none
def q5k(P:Program)(t:TypeId):Value→Option E
 |.agg cs=>(mapO (fun(v,i)=>q7t P (q9k P 8 t i) v) cs.toList.zipIdx).map fun es=>.agg (q3z es)
 |v=>q7t P t v
variable {P:Program}{w:World}{F:Nat→Prop}{X:Nat→Nat→Prop}{base nx:Nat}{σ:Nat→Option Loc}{H:List (Nat×Blk)}{K:Cx}{s:S}
theorem q54{t:TypeId}{v:Value}{e:E}{r:V}(he:q7t P t v=some e)(hr:ev K s e=some r):RepV w F base σ v r∧v.oneCell'=true:=by
 cases v with
 |int k n=>obtain rfl:=Option.some.inj he;obtain rfl:=Option.some.inj hr;exact⟨.int,rfl⟩
 |bool b=>obtain rfl:=Option.some.inj he;obtain rfl:=Option.some.inj hr;exact⟨.bool,rfl⟩
 |string b=>obtain rfl:=Option.some.inj he;obtain rfl:=Option.some.inj hr;exact⟨.str,rfl⟩
 |nilFunc=>obtain rfl:=Option.some.inj he;obtain rfl:=Option.some.inj hr;exact⟨.d _ _ _ .nilfn,rfl⟩
 |map m=>
  cases m with
  |none=>obtain rfl:=Option.some.inj he;obtain rfl:=Option.some.inj hr;exact⟨.d _ _ _ .nilm,rfl⟩
  |some _=>cases he
 |nilIface=>obtain rfl:=Option.some.inj he;obtain rfl:=Option.some.inj hr;exact⟨.d _ _ _ .nilif,rfl⟩
 |pointer a=>
  cases a with
  |none=>obtain rfl:=Option.some.inj he;obtain rfl:=Option.some.inj hr;exact⟨.d _ _ _ .nilp,rfl⟩
  |some a=>simp [q7t] at he
 |slice a n c=>
  cases a with
  |some a=>simp [q7t] at he
  |none=>
   cases n with
   |succ n=>simp [q7t] at he
   |zero=>
    cases c with
    |succ c=>simp [q7t] at he
    |zero=>
     refine⟨?_,rfl⟩
     have:∃ k,e=.nilsl k:=by
      simp only[q7t] at he
      split at he <;> exact⟨_,(Option.some.inj he).symm⟩
     obtain⟨k,rfl⟩:=this
     obtain rfl:=Option.some.inj hr
     exact .fs _ _ _ _ _ (.sl0 _ _ _ fun _=>rfl)
 |_=>simp [q7t] at he
theorem q4g{t:TypeId}{v:Value}{e:E}{r:V}(he:q5k P t v=some e)(hr:ev K s e=some r):RepV w F base σ v r:=by
 cases v with
 |agg cs=>
  simp only[q5k,Option.map_eq_some_iff] at he
  obtain⟨es,hm,rfl⟩:=he
  simp only[ev] at hr
  cases hl:ev K s (q3z es) with
  |none=>simp [hl] at hr
  |some u=>
   obtain⟨vs,rfl,hvs⟩:=q3p K s es u hl
   simp only[hl,Option.some.injEq] at hr
   subst hr
   obtain⟨a1,a2⟩:=q0n hm
   obtain⟨b1,b2⟩:=q0n hvs
   have key:∀(j:Nat) (v:Value),cs[j]? = some v→∃ e r,es[j]? = some e∧vs[j]? = some r∧RepV w F base σ v r∧v.oneCell'=true:=by
    intro j v hv
    obtain⟨e,he,hc⟩:=a2 j (v,j) (by simp [List.getElem?_zipIdx,hv])
    obtain⟨r,hr,hev⟩:=b2 j e he
    obtain⟨h1,h2⟩:=q54 (w:=w) (F:=F) (base:=base) (σ:=σ) hc hev
    exact⟨e,r,he,hr,h1,h2⟩
   refine .agg _ _ (by rw[b1,a1];simp) (fun j v x hv hx=>?_) (fun v hv=>?_)
   ·obtain⟨e,r,_,hr,h1,_⟩:=key j v hv
    rw[hx] at hr
    obtain rfl:=Option.some.inj hr
    exact h1
   ·obtain⟨j,hj⟩:=Array.getElem?_of_mem hv
    obtain⟨e,r,_,_,_,h2⟩:=key j v hj
    exact h2
 |_=>simp only[q5k] at he;exact(q54 he hr).1
abbrev Env:=List (Nat×E)
def Env.get(env:Env)(t:Nat):E:=(look env t).getD (.sl t)
def q0j(P:Program)(env:Env)(t:TypeId):Operand→Option E
 |.tmp n=>some (env.get n)
 |.const v=>q5k P t v
 |.global g=>some (.glob g)
 |.func f=>some (.mkf f .nil)
def optE(P:Program)(env:Env):Option Operand→Option E
 |some x=>q0j P env 0 x
 |none=>some .nil
inductive Kd where
 |pure (e:E)
 |mk (m:Mk)
 |wr (w:Wr)
 deriving DecidableEq,Inhabited
def z3X(P:Program)(env:Env)(place:Nat→Option (Nat×Nat))(ty:Nat→TypeId):List (Nat×Operand)→E→Option E
 |[],b=>some b
 |(i,x) :: r,b=>match place i,q0j P env (ty i) x with
  |some (off,n),some e=>z3X P env place ty r (.set off n e b)
  |_,_=>none
def j2D(P:Program)(t:TypeId)(i:Nat):TypeId:=
 match P.underlying t with
 |some (.struct fs)=>((fs[i]?).map (·.type)).getD 0
 |some (.array _ e)=>e
 |_=>0
def z4e(k:IntKind)(o:BinOp)(a b:E):E:=.cond (.and (.bin .eql (.bin .and b (.int k 0)) (.bin .and b (.int k 0))) (.bin o b a)) b a
def z27(P:Program)(env:Env)(o:Oper):Option E:=
 match o.op with
 |.move x|.assign x=>q0j P env o.type x
 |.pick c a b=>match q0j P env 0 c,q0j P env o.type a,q0j P env o.type b with
  |some ec,some ea,some eb=>some (if ea=.bool true then .or ec eb else if eb=.bool false then .and ec ea else .cond ec ea eb)
  |_,_,_=>none
 |.load t x=>match P.underlying t,P.info? t,q0j P env 0 x with
  |some d,some i,some e=>some (.ld i.size (q3s d) e)
  |_,_,_=>none
 |.binOp op t x y _=>match P.underlying t,q0j P env t x,q0j P env t y with
  |some (.int _),some a,some b=>match op with
   |.shl=>some (.sh true a b)
   |.shr=>some (.sh false a b)
   |_=>some (.bin op a b)
  |some .string,some a,some b=>some (.bin op a b)
  |some .bool,some a,some b=>match op with
   |.eql=>some (.eqs false false [1] a b)
   |.neq=>some (.eqs true false [1] a b)
   |_=>none
  |some (.struct fs),some a,some b=>match q5V P fs.toList 0 with
   |some ks=>if !P.stoodInHeld t&&!P.eqGuardType P.depth t then match op with
     |.eql=>some (.eqs false true ks a b)
     |.neq=>some (.eqs true true ks a b)
     |_=>none
    else none
   |none=>none
  |some d,some a,some b=>match nilK d y with
   |some k=>match op with
    |.eql=>some (.eqs false false [k] a b)
    |.neq=>some (.eqs true false [k] a b)
    |_=>none
   |none=>none
  |_,_,_=>none
 |.nilCheck x=>(q0j P env 0 x).map (.fa 0)
 |.unOp op t x=>(q0j P env t x).map (.un op)
 |.convert src dst x=>match P.underlying src,P.underlying dst,q0j P env src x with
  |some (.int _),some (.int k),some e=>some (.conv k e)
  |some (.int _),some .string,some e=>some (.i2s e)
  |some (.slice t),some .string,some e=>match P.underlying t with
   |some (.int .u8)=>some (.b2s e)
   |_=>none
  |_,_,_=>none
 |.fieldAddr t x f=>match P.underlying t,q0j P env 0 x with
  |some (.struct fs),some e=>match fs[f]? with
   |some fd=>match P.info? fd.type with
    |some i=>if i.size≠0 then some (.fa fd.offset e) else none
    |none=>none
   |none=>none
  |_,_=>none
 |.field t x f=>match P.underlying t,q0j P env t x with
  |some (.struct fs),some e=>match fs[f]? with
   |some fd=>match P.info? fd.type,P.underlying fd.type with
    |some i,some d=>some (.fld fd.offset i.size (q3s d) e)
    |_,_=>none
   |none=>none
  |_,_=>none
 |.indexAddr t x y=>match P.underlying t,q0j P env t x,q0j P env 0 y with
  |some (.slice e),some a,some b=>(P.info? e).map fun i=>.ia i.size a b
  |some (.array len e),some a,some b=>(P.info? e).map fun i=>.aa len i.size a b
  |_,_,_=>none
 |.index t x y=>match P.underlying t,q0j P env t x,q0j P env 0 y with
  |some .string,some a,some b=>some (.ix a b)
  |some (.array len e),some a,some b=>match P.info? e,P.underlying e with
   |some i,some d=>some (.ax len i.size (q3s d) a b)
   |_,_=>none
  |_,_,_=>none
 |.lookup t m k ok=>match P.underlying t with
  |some (.map kt et)=>match P.underlying kt,P.info? et with
   |some dk,some i=>match q27 dk,i.zero with
    |some kk,some z=>match q5k P et z,q0j P env t m,q0j P env kt k with
     |some ez,some em,some ek=>some (.lkp ok kk ez em ek)
     |_,_,_=>none
    |_,_=>none
   |_,_=>none
  |_=>none
 |.extract x i=>(q0j P env 0 x).map (.ext i)
 |.slice t x lo hi mx=>match P.underlying t,q0j P env t x,optE P env lo,optE P env hi,optE P env mx with
  |some (.slice e),some a,some l,some h,some m=>if mx.isSome&&!hi.isSome then none else(P.info? e).map fun i=>.cut false lo.isSome hi.isSome mx.isSome i.size a l h m
  |some .string,some a,some l,some h,some m=>if mx.isSome then none else some (.cut true lo.isSome hi.isSome false 0 a l h m)
  |_,_,_,_,_=>none
 |.build t parts=>match q7Y P t,P.info? t with
  |some place,some it=>match it.zero with
   |some z=>match q5k P t (.agg z.cells) with
    |some b=>z3X P env place (j2D P t) parts.toList b
    |none=>none
   |none=>none
  |_,_=>none
 |.makeInterface t x=>match P.underlying t,q0j P env t x with
  |some (.interface _),_=>none
  |some _,some e=>some (.mki t e)
  |_,_=>none
 |.makeFunc (.func f) first caps=>if first.isEmpty then(mapO (q0j P env 0) caps.toList).map fun es=>.mkf f (q3z es) else none
 |.call { callee:=.builtin .len,args,argTypes }=>match args.toList,argTypes.toList with
  |[x],[t]=>match P.underlying t,q0j P env t x with
   |some (.slice _),some e=>some (.len false e)
   |some .string,some e=>some (.len true e)
   |some (.map _ _),some e=>some (.mlen e)
   |_,_=>none
  |_,_=>none
 |.call { callee:=.builtin .min,args,argTypes }=>match args.toList,argTypes.toList with
  |[x,y],[t,t']=>match P.underlying t,q0j P env t x,q0j P env t' y with
   |some (.int k),some a,some b=>some (z4e k .lss a b)
   |_,_,_=>none
  |_,_=>none
 |.call { callee:=.builtin .max,args,argTypes }=>match args.toList,argTypes.toList with
  |[x,y],[t,t']=>match P.underlying t,q0j P env t x,q0j P env t' y with
   |some (.int k),some a,some b=>some (z4e k .gtr a b)
   |_,_,_=>none
  |_,_=>none
 |.call { callee:=.value (.func f),args,argTypes }=>if q0p P f then(mapO (fun(x,i)=>q0j P env (argTypes.getD i 0) x) args.toList.zipIdx).map fun es=>.call f (q3z es) else none
 |.call { callee:=.value (.tmp t),args,argTypes }=>(mapO (fun(x,i)=>q0j P env (argTypes.getD i 0) x) args.toList.zipIdx).map fun es=>.callv (env.get t) (q3z es)
 |_=>none
def Held(P:Program)(K:Cx)(s:S)(env:Env)(w:World)(F:Nat→Prop)(base:Nat)(σ:Nat→Option Loc)(a:Act)(x:Operand):Prop:=
 ∀ t e r,q0j P env t x=some e→ev K s e=some r→RepV w F base σ (a.eval x) r
theorem q7l{env:Env}{a:Act}{v:Value}:Held P K s env w F base σ a (.const v):=fun _ _ _ he hr=>q4g he hr
theorem q8W{env:Env}{a:Act}{f:Nat}:Held P K s env w F base σ a (.func f):=fun t e r he hr=>by
 obtain rfl:=Option.some.inj he
 simp only[ev,Option.some.injEq] at hr
 subst hr
 exact .fn f #[] [] rfl (fun j v x hv hx=>by simp at hx)
theorem q8V{env:Env}{a:Act}{g:Nat}(hG:GlobRel w F K.glob):Held P K s env w F base σ a (.global g):=fun t e r he hr=>by
 obtain rfl:=Option.some.inj he
 simp only[ev] at hr
 cases hg:K.glob g with
 |none=>simp [hg] at hr
 |some cs=>
  simp only[hg] at hr
  have hx:=hG g cs hg
  split at hr
  ·cases hr
  ·rename_i hh
   rw[if_neg hh] at hx
   simp only[Option.some.injEq] at hr
   subst hr
   exact .d _ _ _ hx.1
theorem z0C{env:Env}{a:Act}{t:Nat}(h:∀ r,ev K s (env.get t)=some r→RepV w F base σ (a.tmps.getD t undef) r):Held P K s env w F base σ a (.tmp t):=fun _ e r he hr=>by
 obtain rfl:=Option.some.inj he
 exact h r hr
end Go.Vm
end

section
namespace Go.Vm
open Go.RowKit
variable {P:Program}{w:World}{F:Nat→Prop}{X:Nat→Nat→Prop}{base nx:Nat}{σ:Nat→Option Loc}{K:Cx}{s:S}{a:Act}{o:Oper}{env:Env}
theorem z3H{r:V}(h:OpOk P w F base σ a.eval o r){next:Act→World→Prop}{Q:Exit→Act→World→Prop}(hn:∀ v,RepV w F base σ v r→next (a.put o.dst v) w):o.wp P a w next Q:=by
 obtain⟨v,hv,hR⟩:=h
 unfold Oper.wp
 rw[hv]
 exact hn v hR
theorem q3g{f:FuncId}(h:q0p P f=true)(args:Array Value):(callFunc f args).run P w=.ok (.enter f args) w:=by
 unfold q0p at h
 cases hf:P.funcs[f]? with
 |none=>simp [hf] at h
 |some fn=>
  simp only[hf,Bool.and_eq_true,bne_iff_ne,ne_eq] at h
  obtain⟨h1,h2⟩:=h
  have h4:fn.body≠none:=by intro hb;simp [hb] at h1
  simp [callFunc,hf,h2,h4]
theorem q20{f:FuncId}{vals:Array Value}{c:Call}{fv:Operand}{first caps:Array Value}(ho:o.op=.call c)(hc:c.callee=.value fv)(hf:a.eval fv=.func (.func f) #[] caps)(hcl:q0p P f=true)(hv:vals=c.args.map a.eval++caps)
  {R:Value→World→Prop} (hcalls:Calls P f vals w fun e w'=>∃ v,e=.returned v∧R v w') {next:Act→World→Prop} {Q:Exit→Act→World→Prop} (hn:∀ v w',R v w'→next (a.put o.dst v) w'):o.wp P a w next Q:=by
 unfold Oper.wp
 have hrun:(execOp a.eval o).run P w=.ok (.enter f vals) w:=by
  simp only[execOp,ho,resolve,hc,hf,Deferred.ofValue,Sem.run_bind,Sem.run_pure,Result.andThen_ok,invoke,Array.empty_append,←hv,q3g hcl]
 rw[hrun]
 exact hcalls.mono fun e w' ⟨v,he,hR⟩=>by subst he;exact hn v w' hR
theorem q3i{t:Nat→TypeId}{args:List Operand}{es:List E}{vs:List V}{s:S}(hops:∀ x∈args,Held P K s env w F base σ a x)(n:Nat)
  (hm:mapO (fun(p:Operand×Nat)=>q0j P env (t p.2) p.1) (args.zipIdx n)=some es) (hv:mapO (ev K s) es=some vs):Reps w F base σ (args.toArray.map a.eval) vs:=by
 obtain⟨a1,a2⟩:=q0n hm
 obtain⟨b1,b2⟩:=q0n hv
 refine⟨by simp [b1,a1],fun j v x hvj hxj=>?_⟩
 simp only[List.map_toArray,List.getElem?_toArray,List.getElem?_map,Option.map_eq_some_iff] at hvj
 obtain⟨y,hy,rfl⟩:=hvj
 obtain⟨e,he,hoe⟩:=a2 j (y,n+j) (by simp [List.getElem?_zipIdx,hy])
 obtain⟨r,hr,hev⟩:=b2 j e he
 rw[hxj] at hr
 obtain rfl:=Option.some.inj hr
 exact hops y (List.mem_of_getElem? hy) _ e x hoe hev
theorem q8B{s:S}{place:Nat→Option (Nat×Nat)}{ty:Nat→TypeId}:∀ {parts:List (Nat×Operand)}{b e:E}{x r:V},(∀ p∈parts,Held P K s env w F base σ a p.2)→z3X P env place ty parts b=some e→ev K s e=some r→
  ∃ x,ev K s b=some x∧Fills w F base σ place (parts.map fun(i,x)=>(i,a.eval x)) x r
 |[],b,e,x,r,_,he,hr=>by
  obtain rfl:=Option.some.inj he
  exact⟨r,hr,.nil r⟩
 |(i,y) :: parts,b,e,x,r,hops,he,hr=>by
  simp only[z3X] at he
  cases hp:place i with
  |none=>simp [hp] at he
  |some on=>
   obtain⟨off,n⟩:=on
   cases hy:q0j P env (ty i) y with
   |none=>simp [hp,hy] at he
   |some ey=>
    simp only[hp,hy] at he
    obtain⟨z,hz,hf⟩:=q8B (x:=x) (fun p hp=>hops p (List.mem_cons_of_mem _ hp)) he hr
    simp only[ev] at hz
    cases h1:ev K s ey with
    |none=>simp [h1] at hz
    |some u=>
     cases h2:ev K s b with
     |none=>simp [h1,h2] at hz
     |some x0=>
      simp only[h1,h2] at hz
      exact⟨x0,rfl,.cons i off n _ _ u x0 z r hp (hops (i,y) (List.mem_cons_self ..) _ ey u hy h1) hz hf⟩
theorem After.refl(hF:∀ b,F b→b<w.heap.size):After w w F F:=⟨Below.refl _ _,fun _ h=>h,fun _ h=>.inl h,hF⟩
theorem j4S{o:BinOp}{k:IntKind}{ex ey:E}{r:V}(ho:o=.lss∨o=.gtr)(h:ev K s (z4e k o ex ey)=some r) :
  ∃ c a c2 b,ev K s ex=some (.d c (.int k a))∧ev K s ey=some (.d c2 (.int k b))∧RepV w F base σ (.int k (if(if o=.lss then decide (b<a) else decide (a<b)) then b else a)) r:=by
 simp only[z4e,ev] at h
 cases hy:ev K s ey with
 |none=>simp [hy] at h
 |some y=>
  cases y with
  |d c2 dy=>
   cases dy with
   |int k2 b=>
    by_cases hk:k2=k
    ·subst hk
     cases hx:ev K s ex with
     |none=>simp [hy,hx,evBin,intBin] at h
     |some x=>
      simp only[hy,hx,evBin,if_true,intBin,beq_self_eq_true] at h
      cases x with
      |d c dx=>
       cases dx with
       |int k3 a=>
        by_cases hk3:k2=k3
        ·subst hk3
         refine⟨c,a,c2,b,rfl,rfl,?_⟩
         rcases ho with rfl|rfl
         ·simp only[if_true,evBin,intBin,Bool.true_and] at h ⊢
          split at h
          ·rename_i hb
           rw[if_pos hb]
           obtain rfl:=Option.some.inj h
           exact .d _ _ _ (.int _ _)
          ·rename_i hb
           rw[if_neg hb]
           obtain rfl:=Option.some.inj h
           exact .d _ _ _ (.int _ _)
         ·simp only[if_true,evBin,intBin,Bool.true_and,reduceCtorEq,if_false] at h ⊢
          split at h
          ·rename_i hb
           rw[if_pos hb]
           obtain rfl:=Option.some.inj h
           exact .d _ _ _ (.int _ _)
          ·rename_i hb
           rw[if_neg hb]
           obtain rfl:=Option.some.inj h
           exact .d _ _ _ (.int _ _)
        ·simp [evBin,hk3] at h
       |_=>simp [evBin] at h
      |_=>simp [evBin] at h
    ·simp [hy,evBin,hk] at h
   |_=>simp [hy,evBin] at h
  |_=>simp [hy,evBin] at h
set_option maxHeartbeats 1000000 in
theorem z1A{e:E}{r:V}(hne:∀ c x y,o.op≠.pick c x y)(he:z27 P env o=some e)(hev:ev K s e=some r)(hops:∀ x∈o.op.operands.toList,Held P K s env w F base σ a x)
  (hH:HeapRel w F X base σ nx s.heap) (hG:GlobRel w F K.glob) (hb:base≤w.heap.size) (hK:K.Sound P) {next:Act→World→Prop} {Q:Exit→Act→World→Prop}
  (hn:∀ v w' F',After w w' F F'→RepV w' F' base σ v r→next (a.put o.dst v) w'):o.wp P a w next Q:=by
 have good:OpOk P w F base σ a.eval o r→o.wp P a w next Q:=fun h=>z3H h fun v hR=>hn v w F (.refl hH.fro) hR
 have held:∀ x,x∈o.op.operands.toList→∀ t e r,q0j P env t x=some e→ev K s e=some r→RepV w F base σ (a.eval x) r:=hops
 unfold z27 at he
 cases hop:o.op with
 |move x=>
  simp only[hop] at he held
  exact good (z7v (.inl hop) (held x (by simp [Op.operands]) _ _ _ he hev))
 |assign x=>
  simp only[hop] at he held
  exact good (z7v (.inr hop) (held x (by simp [Op.operands]) _ _ _ he hev))
 |pick c x y=>exact absurd hop (hne c x y)
 |load t x=>
  simp only[hop] at he held
  cases ht:P.underlying t with
  |none=>simp [ht] at he
  |some d=>
   cases hi:P.info? t with
   |none=>simp [ht,hi] at he
   |some i=>
    cases hx:q0j P env 0 x with
    |none=>simp [ht,hi,hx] at he
    |some ex=>
     simp only[ht,hi,hx,Option.some.injEq] at he
     subst he
     simp only[ev] at hev
     cases hv:ev K s ex with
     |none=>simp [hv] at hev
     |some v=>
      simp only[hv] at hev
      exact good (j2n hop ht hi hH (held x (by simp [Op.operands]) _ _ _ hx hv) hev)
 |binOp bo t x y t2=>
  simp only[hop] at he held
  cases ht:P.underlying t with
  |none=>simp [ht] at he
  |some d=>
   cases hx:q0j P env t x with
   |none=>cases d <;> simp [ht,hx] at he
   |some ex=>
    cases hy:q0j P env t y with
    |none=>cases d <;> simp [ht,hx,hy] at he
    |some ey=>
     have hX:=fun v hv=>held x (by simp [Op.operands]) _ _ v hx hv
     have hY:=fun v hv=>held y (by simp [Op.operands]) _ _ v hy hv
     have bin:e=.bin bo ex ey→o.wp P a w next Q:=by
      rintro rfl
      simp only[ev] at hev
      cases hv:ev K s ex with
      |none=>simp [hv] at hev
      |some v=>
       cases hu:ev K s ey with
       |none=>simp [hv,hu] at hev
       |some u=>
        simp only[hv,hu] at hev
        exact good (j3Y hop (hX v hv) (hY u hu) hev)
     have eqs:∀ neg agg ks,e=.eqs neg agg ks ex ey→(∀ v u,RepV w F base σ (a.eval x) v→RepV w F base σ (a.eval y) u→q4M neg agg ks v u=some r→OpOk P w F base σ a.eval o r)→o.wp P a w next Q:=by
      rintro neg agg ks rfl hh
      simp only[ev] at hev
      cases hv:ev K s ex with
      |none=>simp [hv] at hev
      |some v=>
       cases hu:ev K s ey with
       |none=>simp [hv,hu] at hev
       |some u=>
        simp only[hv,hu] at hev
        exact good (hh v u (hX v hv) (hY u hu) hev)
     cases d <;> simp only[ht,hx,hy] at he <;> (try(cases he;done))
     case bool=>
      cases bo <;> simp only at he <;> (try(cases he;done))
      ·exact eqs false false [1] (Option.some.inj he).symm fun v u h1 h2 h3=>q8G (neg:=false) hop rfl ht h1 h2 h3
      ·exact eqs true false [1] (Option.some.inj he).symm fun v u h1 h2 h3=>q8G (neg:=true) hop rfl ht h1 h2 h3
     case slice e'=>
      cases hk:nilK (.slice e') y with
      |none=>simp [hk] at he
      |some k=>
       simp only[hk] at he
       cases bo <;> simp only at he <;> (try(cases he;done))
       ·exact eqs false false [k] (Option.some.inj he).symm fun v u h1 h2 h3=>q7C (neg:=false) hop rfl ht hk (fun _=>rfl) h1 h3
       ·exact eqs true false [k] (Option.some.inj he).symm fun v u h1 h2 h3=>q7C (neg:=true) hop rfl ht hk (fun _=>rfl) h1 h3
     case pointer e'=>
      cases hk:nilK (.pointer e') y with
      |none=>simp [hk] at he
      |some k=>
       simp only[hk] at he
       cases bo <;> simp only at he <;> (try(cases he;done))
       ·exact eqs false false [k] (Option.some.inj he).symm fun v u h1 h2 h3=>q7C (neg:=false) hop rfl ht hk (fun _=>rfl) h1 h3
       ·exact eqs true false [k] (Option.some.inj he).symm fun v u h1 h2 h3=>q7C (neg:=true) hop rfl ht hk (fun _=>rfl) h1 h3
     case interface e'=>
      cases hk:nilK (.interface e') y with
      |none=>simp [hk] at he
      |some k=>
       simp only[hk] at he
       cases bo <;> simp only at he <;> (try(cases he;done))
       ·exact eqs false false [k] (Option.some.inj he).symm fun v u h1 h2 h3=>q7C (neg:=false) hop rfl ht hk (fun _=>rfl) h1 h3
       ·exact eqs true false [k] (Option.some.inj he).symm fun v u h1 h2 h3=>q7C (neg:=true) hop rfl ht hk (fun _=>rfl) h1 h3
     case func e1 e2 e3=>
      cases hk:nilK (.func e1 e2 e3) y with
      |none=>simp [hk] at he
      |some k=>
       simp only[hk] at he
       cases bo <;> simp only at he <;> (try(cases he;done))
       ·exact eqs false false [k] (Option.some.inj he).symm fun v u h1 h2 h3=>q7C (neg:=false) hop rfl ht hk (fun _=>rfl) h1 h3
       ·exact eqs true false [k] (Option.some.inj he).symm fun v u h1 h2 h3=>q7C (neg:=true) hop rfl ht hk (fun _=>rfl) h1 h3
     case int=>
      have shf:∀ l,e=.sh l ex ey→bo=(if l then .shl else .shr)→o.wp P a w next Q:=by
       rintro l rfl hb
       simp only[ev] at hev
       cases hv:ev K s ex with
       |none=>simp [hv] at hev
       |some v=>
        cases hu:ev K s ey with
        |none=>simp [hv,hu] at hev
        |some u=>
         simp only[hv,hu] at hev
         exact good (ok_sh hop hb (hX v hv) (hY u hu) hev)
      cases bo <;> simp only at he <;> first|exact bin (Option.some.inj he).symm|exact shf true (Option.some.inj he).symm rfl|exact shf false (Option.some.inj he).symm rfl
     case string=>exact bin (Option.some.inj he).symm
     case struct fs=>
      cases hk:q5V P fs.toList 0 with
      |none=>simp [hk] at he
      |some ks=>
       simp only[hk] at he
       split at he
       ·rename_i hc
        simp only[Bool.and_eq_true,Bool.not_eq_true'] at hc
        cases bo <;> simp only at he <;> (try(cases he;done))
        ·exact eqs false true ks (Option.some.inj he).symm fun v u h1 h2 h3=>q6h (neg:=false) hop rfl ht hk hc.1 hc.2 h1 h2 h3
        ·exact eqs true true ks (Option.some.inj he).symm fun v u h1 h2 h3=>q6h (neg:=true) hop rfl ht hk hc.1 hc.2 h1 h2 h3
       ·cases he
 |nilCheck x=>
  simp only[hop] at he held
  cases hx:q0j P env 0 x with
  |none=>simp [hx] at he
  |some ex=>
   simp only[hx,Option.map_some,Option.some.injEq] at he
   subst he
   simp only[ev] at hev
   cases hv:ev K s ex with
   |none=>simp [hv] at hev
   |some v=>
    simp only[hv] at hev
    exact good (z3b hop (held x (by simp [Op.operands]) _ _ _ hx hv) hev)
 |unOp uo t x=>
  simp only[hop] at he held
  cases hx:q0j P env t x with
  |none=>simp [hx] at he
  |some ex=>
   simp only[hx,Option.map_some,Option.some.injEq] at he
   subst he
   simp only[ev] at hev
   cases hv:ev K s ex with
   |none=>simp [hv] at hev
   |some v=>
    simp only[hv] at hev
    exact good (ok_un hop (held x (by simp [Op.operands]) _ _ _ hx hv) hev)
 |convert src dst x=>
  simp only[hop] at he held
  cases hs:P.underlying src with
  |none=>simp [hs] at he
  |some ds=>
   cases hd:P.underlying dst with
   |none=>cases ds <;> simp [hs,hd] at he
   |some dd=>
    cases hx:q0j P env src x with
    |none=>cases ds <;> cases dd <;> simp [hs,hd,hx] at he
    |some ex=>
     cases ds <;> simp only[hs,hd,hx] at he <;> (try(cases he;done))
     ·cases dd <;> simp only at he <;> (try(cases he;done))
      all_goals
       obtain rfl:=Option.some.inj he
       simp only[ev] at hev
       cases hv:ev K s ex with
       |none=>simp [hv] at hev
       |some v=>
        simp only[hv] at hev
        first
        |exact good (j2o hop (by simp [hs]) hd (held x (by simp [Op.operands]) _ _ _ hx hv) hev)
        |exact good (j3V hop hs hd (held x (by simp [Op.operands]) _ _ _ hx hv) hev)
     ·rename_i el
      cases dd <;> simp only at he <;> (try(cases he;done))
      split at he
      ·rename_i hel
       obtain rfl:=Option.some.inj he
       simp only[ev] at hev
       cases hv:ev K s ex with
       |none=>simp [hv] at hev
       |some v=>
        simp only[hv] at hev
        exact good (j3Z hop hs hel hd hH (held x (by simp [Op.operands]) _ _ _ hx hv) hev)
      ·cases he
 |fieldAddr t x f=>
  simp only[hop] at he held
  cases ht:P.underlying t with
  |none=>simp [ht] at he
  |some d=>
   cases hx:q0j P env 0 x with
   |none=>cases d <;> simp [ht,hx] at he
   |some ex=>
    cases d <;> simp only[ht,hx] at he <;> (try(cases he;done))
    rename_i fs
    cases hf:fs[f]? with
    |none=>simp [hf] at he
    |some fd=>
     cases hi:P.info? fd.type with
     |none=>simp [hf,hi] at he
     |some i=>
      simp only[hf,hi] at he
      split at he
      ·rename_i hs
       obtain rfl:=Option.some.inj he
       simp only[ev] at hev
       cases hv:ev K s ex with
       |none=>simp [hv] at hev
       |some v=>
        simp only[hv] at hev
        exact good (ok_fa hop ht hf hi hs (held x (by simp [Op.operands]) _ _ _ hx hv) hev)
      ·cases he
 |field t x f=>
  simp only[hop] at he held
  cases ht:P.underlying t with
  |none=>simp [ht] at he
  |some d=>
   cases hx:q0j P env t x with
   |none=>cases d <;> simp [ht,hx] at he
   |some ex=>
    cases d <;> simp only[ht,hx] at he <;> (try(cases he;done))
    rename_i fs
    cases hf:fs[f]? with
    |none=>simp [hf] at he
    |some fd=>
     cases hi:P.info? fd.type with
     |none=>simp [hf,hi] at he
     |some i=>
      cases hd:P.underlying fd.type with
      |none=>simp [hf,hi,hd] at he
      |some dd=>
       simp only[hf,hi,hd,Option.some.injEq] at he
       subst he
       simp only[ev] at hev
       cases hv:ev K s ex with
       |none=>simp [hv] at hev
       |some v=>
        simp only[hv] at hev
        exact good (j3W hop ht hf hi hd (held x (by simp [Op.operands]) _ _ _ hx hv) hev)
 |indexAddr t x y=>
  simp only[hop] at he held
  cases ht:P.underlying t with
  |none=>simp [ht] at he
  |some d=>
   cases hx:q0j P env t x with
   |none=>cases d <;> simp [ht,hx] at he
   |some ex=>
    cases hy:q0j P env 0 y with
    |none=>cases d <;> simp [ht,hx,hy] at he
    |some ey=>
     cases d <;> simp only[ht,hx,hy] at he <;> (try(cases he;done))
     case slice el=>
      cases hi:P.info? el with
      |none=>simp [hi] at he
      |some i=>
       simp only[hi,Option.map_some,Option.some.injEq] at he
       subst he
       simp only[ev] at hev
       cases hv:ev K s ex with
       |none=>simp [hv] at hev
       |some v=>
        cases hu:ev K s ey with
        |none=>simp [hv,hu] at hev
        |some u=>
         simp only[hv,hu] at hev
         exact good (ok_ia hop ht hi hH (held x (by simp [Op.operands]) _ _ _ hx hv) (held y (by simp [Op.operands]) _ _ _ hy hu) hev)
     case array len el=>
      cases hi:P.info? el with
      |none=>simp [hi] at he
      |some i=>
       simp only[hi,Option.map_some,Option.some.injEq] at he
       subst he
       simp only[ev] at hev
       cases hv:ev K s ex with
       |none=>simp [hv] at hev
       |some v=>
        cases hu:ev K s ey with
        |none=>simp [hv,hu] at hev
        |some u=>
         simp only[hv,hu] at hev
         exact good (ok_aa hop ht hi (held x (by simp [Op.operands]) _ _ _ hx hv) (held y (by simp [Op.operands]) _ _ _ hy hu) hev)
 |index t x y=>
  simp only[hop] at he held
  cases ht:P.underlying t with
  |none=>simp [ht] at he
  |some d=>
   cases hx:q0j P env t x with
   |none=>cases d <;> simp [ht,hx] at he
   |some ex=>
    cases hy:q0j P env 0 y with
    |none=>cases d <;> simp [ht,hx,hy] at he
    |some ey=>
     cases d <;> simp only[ht,hx,hy] at he <;> (try(cases he;done))
     case string=>
      obtain rfl:=Option.some.inj he
      simp only[ev] at hev
      cases hv:ev K s ex with
      |none=>simp [hv] at hev
      |some v=>
       cases hu:ev K s ey with
       |none=>simp [hv,hu] at hev
       |some u=>
        simp only[hv,hu] at hev
        exact good (ok_ix hop ht (held x (by simp [Op.operands]) _ _ _ hx hv) (held y (by simp [Op.operands]) _ _ _ hy hu) hev)
     case array len el=>
      cases hi:P.info? el with
      |none=>simp [hi] at he
      |some i=>
       cases hd:P.underlying el with
       |none=>simp [hi,hd] at he
       |some dd=>
        simp only[hi,hd,Option.some.injEq] at he
        subst he
        simp only[ev] at hev
        cases hv:ev K s ex with
        |none=>simp [hv] at hev
        |some v=>
         cases hu:ev K s ey with
         |none=>simp [hv,hu] at hev
         |some u=>
          simp only[hv,hu] at hev
          exact good (ok_ax hop ht hi hd (held x (by simp [Op.operands]) _ _ _ hx hv) (held y (by simp [Op.operands]) _ _ _ hy hu) hev)
 |lookup t m k ok=>
  simp only[hop] at he held
  cases ht:P.underlying t with
  |none=>simp [ht] at he
  |some d=>
   cases d <;> simp only[ht] at he <;> (try(cases he;done))
   rename_i kt et
   cases hk:P.underlying kt with
   |none=>simp [hk] at he
   |some dk=>
    cases hi:P.info? et with
    |none=>simp [hk,hi] at he
    |some i=>
     cases hkk:q27 dk with
     |none=>simp [hk,hi,hkk] at he
     |some kk=>
      cases hz:i.zero with
      |none=>simp [hk,hi,hkk,hz] at he
      |some z=>
       cases hc:q5k P et z with
       |none=>simp [hk,hi,hkk,hz,hc] at he
       |some ez=>
        cases hm:q0j P env t m with
        |none=>simp [hk,hi,hkk,hz,hc,hm] at he
        |some em=>
         cases hy:q0j P env kt k with
         |none=>simp [hk,hi,hkk,hz,hc,hm,hy] at he
         |some ek=>
          simp only[hk,hi,hkk,hz,hc,hm,hy,Option.some.injEq] at he
          subst he
          simp only[ev] at hev
          cases h1:ev K s ez with
          |none=>simp [h1] at hev
          |some vz=>
           cases h2:ev K s em with
           |none=>simp [h1,h2] at hev
           |some vm=>
            cases h3:ev K s ek with
            |none=>simp [h1,h2,h3] at hev
            |some vk=>
             simp only[h1,h2,h3] at hev
             exact good (j3T hop ht hk hkk hi hz hH (q4g hc h1) (held m (by simp [Op.operands]) _ _ _ hm h2) (held k (by simp [Op.operands]) _ _ _ hy h3) hev)
 |extract x i=>
  simp only[hop] at he held
  cases hx:q0j P env 0 x with
  |none=>simp [hx] at he
  |some ex=>
   simp only[hx,Option.map_some,Option.some.injEq] at he
   subst he
   simp only[ev] at hev
   cases hv:ev K s ex with
   |none=>simp [hv] at hev
   |some v=>
    simp only[hv] at hev
    exact good (j3X hop (held x (by simp [Op.operands]) _ _ _ hx hv) hev)
 |slice t x lo hi mx=>
  simp only[hop] at he held
  have opt:∀(y:Option Operand) (ey:E) (q:V),optE P env y=some ey→ev K s ey=some q→(∀ z,y=some z→z∈(Op.slice t x lo hi mx).operands.toList)→∀ z,y=some z→RepV w F base σ (a.eval z) q:=by
   rintro y ey q h1 h2 h3 z rfl
   exact held z (h3 z rfl) _ _ _ h1 h2
  cases ht:P.underlying t with
  |none=>simp [ht] at he
  |some d=>
   cases hx:q0j P env t x with
   |none=>cases d <;> simp [ht,hx] at he
   |some ex=>
    cases hl:optE P env lo with
    |none=>cases d <;> simp [ht,hx,hl] at he
    |some el=>
     cases hh:optE P env hi with
     |none=>cases d <;> simp [ht,hx,hl,hh] at he
     |some eh=>
      cases hm:optE P env mx with
      |none=>cases d <;> simp [ht,hx,hl,hh,hm] at he
      |some em=>
       have fin:∀ str bm k,e=.cut str lo.isSome hi.isSome bm k ex el eh em→(∀ v ql qh qm,str=v.isStr→RepV w F base σ (a.eval x) v→(∀ z,lo=some z→RepV w F base σ (a.eval z) ql)→(∀ z,hi=some z→RepV w F base σ (a.eval z) qh)→(∀ z,mx=some z→RepV w F base σ (a.eval z) qm)→
         q89 s.heap lo.isSome hi.isSome bm k v ql qh qm=some r→OpOk P w F base σ a.eval o r)→o.wp P a w next Q:=by
        rintro str bm k rfl hfin
        simp only[ev] at hev
        cases hv:ev K s ex with
        |none=>simp [hv] at hev
        |some v=>
         cases h1:ev K s el with
         |none=>simp [hv,h1] at hev
         |some ql=>
          cases h2:ev K s eh with
          |none=>simp [hv,h1,h2] at hev
          |some qh=>
           cases h3:ev K s em with
           |none=>simp [hv,h1,h2,h3] at hev
           |some qm=>
            simp only[hv,h1,h2,h3] at hev
            split at hev
            case isFalse=>cases hev
            rename_i hstr
            exact good (hfin v ql qh qm (by simpa using hstr) (held x (by simp [Op.operands]) _ _ _ hx hv) (opt lo el ql hl h1 (fun z hz=>by simp [Op.operands,hz])) (opt hi eh qh hh h2 (fun z hz=>by simp [Op.operands,hz])) (opt mx em qm hm h3 (fun z hz=>by simp [Op.operands,hz])) hev)
       cases d <;> simp only[ht,hx,hl,hh,hm] at he <;> (try(cases he;done))
       case slice el'=>
        split at he
        ·cases he
        ·rename_i hmh
         cases hi':P.info? el' with
         |none=>simp [hi'] at he
         |some i=>
          simp only[hi',Option.map_some,Option.some.injEq] at he
          exact fin _ _ _ he.symm fun v ql qh qm h0 h1 h2 h3 h4 h5=>z1F hop ht hi' (by simp only[Bool.and_eq_true,Bool.not_eq_true'] at hmh;cases hi <;> cases mx <;> simp_all) rfl rfl rfl hH h1 h2 h3 h4 (by rintro c s rfl;simp [V.isStr] at h0) h5
       case string=>
        split at he
        ·cases he
        ·rename_i hmx
         obtain rfl:mx=none:=by cases mx <;> simp_all
         exact fin true false 0 (Option.some.inj he).symm fun v ql qh qm h0 h1 h2 h3 h4 h5=>z0q hop ht rfl rfl h1 h2 h3 (by cases v <;> simp only[V.isStr] at h0 <;> (try(cases h0;done));rename_i c d;cases d <;> simp at h0;exact⟨_,_,rfl⟩) h5
 |build t parts=>
  simp only[hop] at he held
  cases hp:q7Y P t with
  |none=>simp [hp] at he
  |some place=>
   cases hi:P.info? t with
   |none=>simp [hp,hi] at he
   |some it=>
    cases hz:it.zero with
    |none=>simp [hp,hi,hz] at he
    |some z=>
     cases hc:q5k P t (.agg z.cells) with
     |none=>simp [hp,hi,hz,hc] at he
     |some b=>
      simp only[hp,hi,hz,hc] at he
      obtain⟨x0,hx0,hf⟩:=q8B (a:=a) (w:=w) (F:=F) (base:=base) (σ:=σ) (x:=.junk) (fun p hp=>held p.2 (by simp only[Op.operands,List.toList_toArray,List.mem_map];exact⟨p,hp,rfl⟩)) he hev
      have hz':RepV w F base σ (.agg z.cells) x0:=q4g hc hx0
      have:∃ zs,x0=.agg zs:=by
       simp only[q5k,Option.map_eq_some_iff] at hc
       obtain⟨es,_,rfl⟩:=hc
       simp only[ev] at hx0
       split at hx0
       ·exact⟨_,(Option.some.inj hx0).symm⟩
       ·cases hx0
      obtain⟨zs,rfl⟩:=this
      exact good (j0g hop hp hi hz hz' hf)
 |makeInterface t x=>
  simp only[hop] at he held
  cases ht:P.underlying t with
  |none=>simp [ht] at he
  |some d=>
   cases hx:q0j P env t x with
   |none=>cases d <;> simp [ht,hx] at he
   |some ex=>
    have fin:e=.mki t ex→(∀ ms,d≠.interface ms)→o.wp P a w next Q:=by
     rintro rfl hd
     simp only[ev] at hev
     cases hv:ev K s ex with
     |none=>simp [hv] at hev
     |some v=>
      simp only[hv,Option.some.injEq] at hev
      subst hev
      exact good (j3P hop ht hd (held x (by simp [Op.operands]) _ _ _ hx hv))
    cases d <;> simp only[ht,hx] at he <;> first|(cases he;done)|exact fin (Option.some.inj he).symm (fun ms h=>by cases h)
 |makeFunc fn first caps=>
  simp only[hop] at he held
  cases fn with
  |func f=>
   simp only at he
   split at he
   ·rename_i hf
    obtain rfl:first = #[]:=by simpa using hf
    cases hm:mapO (q0j P env 0) caps.toList with
    |none=>simp [hm] at he
    |some es=>
     simp only[hm,Option.map_some,Option.some.injEq] at he
     subst he
     simp only[ev] at hev
     cases hl:ev K s (q3z es) with
     |none=>simp [hl] at hev
     |some u=>
      obtain⟨vs,rfl,hvs⟩:=q3p K s es u hl
      simp only[hl,Option.some.injEq] at hev
      subst hev
      obtain⟨a1,a2⟩:=q0n hm
      obtain⟨b1,b2⟩:=q0n hvs
      refine good (j3Q hop (by rw[b1,a1];simp) fun j x z hx hz=>?_)
      obtain⟨e,he,hoe⟩:=a2 j x (by simpa using hx)
      obtain⟨r,hr,hev⟩:=b2 j e he
      rw[hz] at hr
      obtain rfl:=Option.some.inj hr
      exact held x (by simp [Op.operands];exact Array.mem_of_getElem? hx) _ e z hoe hev
   ·cases he
  |_=>simp at he
 |call c=>
  obtain⟨callee,args,argTypes⟩:=c
  simp only[hop] at he held
  cases callee with
  |builtin b=>
   cases b <;> simp only at he <;> (try(cases he;done))
   case min=>
    obtain⟨args⟩:=args
    obtain⟨argTypes⟩:=argTypes
    match args,argTypes,he,hop,held with
    |[x,y],[t,t'],he,hop,held=>
     simp only at he
     cases ht:P.underlying t with
     |none=>simp [ht] at he
     |some d=>
      cases hx:q0j P env t x with
      |none=>cases d <;> simp [ht,hx] at he
      |some ex=>
       cases hy:q0j P env t' y with
       |none=>cases d <;> simp [ht,hx,hy] at he
       |some ey=>
        cases d <;> simp only[ht,hx,hy] at he <;> (try(cases he;done))
        obtain rfl:=Option.some.inj he
        obtain⟨c,a1,c2,b1,h1,h2,h3⟩:=j4S (w:=w) (F:=F) (base:=base) (σ:=σ) (o:=.lss) (.inl rfl) hev
        obtain⟨v,hv,_⟩:=j3R (P:=P) (w:=w) (F:=F) (base:=base) (σ:=σ) hop (held x (by simp [Op.operands,Call.operands]) _ _ _ hx h1).int_inv (held y (by simp [Op.operands,Call.operands]) _ _ _ hy h2).int_inv
        refine good ⟨_,z5p hop (held x (by simp [Op.operands,Call.operands]) _ _ _ hx h1).int_inv (held y (by simp [Op.operands,Call.operands]) _ _ _ hy h2).int_inv,?_⟩
        simpa using h3
    |[],_,he,_,_=>simp at he
    |[_],_,he,_,_=>simp at he
    |_ :: _ :: _ :: _,_,he,_,_=>simp at he
    |[_,_],[],he,_,_=>simp at he
    |[_,_],[_],he,_,_=>simp at he
    |[_,_],_ :: _ :: _ :: _,he,_,_=>simp at he
   case max=>
    obtain⟨args⟩:=args
    obtain⟨argTypes⟩:=argTypes
    match args,argTypes,he,hop,held with
    |[x,y],[t,t'],he,hop,held=>
     simp only at he
     cases ht:P.underlying t with
     |none=>simp [ht] at he
     |some d=>
      cases hx:q0j P env t x with
      |none=>cases d <;> simp [ht,hx] at he
      |some ex=>
       cases hy:q0j P env t' y with
       |none=>cases d <;> simp [ht,hx,hy] at he
       |some ey=>
        cases d <;> simp only[ht,hx,hy] at he <;> (try(cases he;done))
        obtain rfl:=Option.some.inj he
        obtain⟨c,a1,c2,b1,h1,h2,h3⟩:=j4S (w:=w) (F:=F) (base:=base) (σ:=σ) (o:=.gtr) (.inr rfl) hev
        obtain⟨v,hv,_⟩:=j3S (P:=P) (w:=w) (F:=F) (base:=base) (σ:=σ) hop (held x (by simp [Op.operands,Call.operands]) _ _ _ hx h1).int_inv (held y (by simp [Op.operands,Call.operands]) _ _ _ hy h2).int_inv
        refine good ⟨_,z5q hop (held x (by simp [Op.operands,Call.operands]) _ _ _ hx h1).int_inv (held y (by simp [Op.operands,Call.operands]) _ _ _ hy h2).int_inv,?_⟩
        simpa using h3
    |[],_,he,_,_=>simp at he
    |[_],_,he,_,_=>simp at he
    |_ :: _ :: _ :: _,_,he,_,_=>simp at he
    |[_,_],[],he,_,_=>simp at he
    |[_,_],[_],he,_,_=>simp at he
    |[_,_],_ :: _ :: _ :: _,he,_,_=>simp at he
   obtain⟨args⟩:=args
   obtain⟨argTypes⟩:=argTypes
   match args,argTypes,he,hop,held with
   |[x],[t],he,hop,held=>
    simp only at he
    cases ht:P.underlying t with
    |none=>simp [ht] at he
    |some d=>
     cases hx:q0j P env t x with
     |none=>cases d <;> simp [ht,hx] at he
     |some ex=>
      cases d <;> simp only[ht,hx] at he <;> (try(cases he;done))
      all_goals
       obtain rfl:=Option.some.inj he
       simp only[ev] at hev
       cases hv:ev K s ex with
       |none=>simp [hv] at hev
       |some v=>
        simp only[hv] at hev
        first
        |exact good (j3U hop ht (held x (by simp [Op.operands,Call.operands]) _ _ _ hx hv) hev)
        |exact good (j2l hop ht (held x (by simp [Op.operands,Call.operands]) _ _ _ hx hv) hev)
        |exact good (j2m hop ht hH (held x (by simp [Op.operands,Call.operands]) _ _ _ hx hv) hev)
   |[],_,he,_,_=>simp at he
   |_ :: _ :: _,_,he,_,_=>simp at he
   |[_],[],he,_,_=>simp at he
   |[_],_ :: _ :: _,he,_,_=>simp at he
  |invoke rc m=>simp at he
  |value fv=>
   cases fv with
   |func f=>
    simp only at he
    split at he
    ·rename_i hcl
     cases hm:mapO (fun(x:Operand×Nat)=>q0j P env (argTypes.getD x.2 0) x.1) args.toList.zipIdx with
     |none=>rw[hm] at he;cases he
     |some es=>
      simp only[hm,Option.map_some,Option.some.injEq] at he
      subst he
      simp only[ev] at hev
      cases hl:ev K s (q3z es) with
      |none=>simp [hl] at hev
      |some u=>
       obtain⟨vs,rfl,hvs⟩:=q3p K s es u hl
       simp only[hl] at hev
       have hreps:=q3i (t:=fun i=>argTypes.getD i 0) (a:=a) (args:=args.toList) (fun x hx=>held x (by simp [Op.operands,Call.operands];exact .inr (by simpa using hx))) 0 hm hvs
       simp only[Array.toArray_toList] at hreps
       obtain⟨_,hc⟩:=q7J hK hH hG hb hreps hev
       exact q20 (first:=#[]) (R:=fun v w'=>∃ F',After w w' F F'∧RepV w' F' base σ v r) hop rfl rfl hcl (by simp) (hc.mono fun e w' ⟨v,F',he,h1,h2⟩=>⟨v,he,F',h1,h2⟩) fun v w' ⟨F',h1,h2⟩=>hn v w' F' h1 h2
    ·cases he
   |tmp t=>
    simp only at he
    cases hm:mapO (fun(x:Operand×Nat)=>q0j P env (argTypes.getD x.2 0) x.1) args.toList.zipIdx with
    |none=>rw[hm] at he;cases he
    |some es=>
     simp only[hm,Option.map_some,Option.some.injEq] at he
     subst he
     simp only[ev] at hev
     cases hfv:ev K s (env.get t) with
     |none=>simp [hfv] at hev
     |some fv=>
      cases hl:ev K s (q3z es) with
      |none=>cases fv <;> simp [hfv,hl] at hev
      |some u=>
       obtain⟨vs,rfl,hvs⟩:=q3p K s es u hl
       cases fv with
       |fn f caps=>
        simp only[hfv,hl] at hev
        have hreps:=q3i (t:=fun i=>argTypes.getD i 0) (a:=a) (args:=args.toList) (fun x hx=>held x (by simp [Op.operands,Call.operands];exact .inr (by simpa using hx))) 0 hm hvs
        simp only[Array.toArray_toList] at hreps
        have hfun:=held (.tmp t) (by simp [Op.operands,Call.operands]) 0 _ _ rfl hfv
        generalize hfe:a.eval (.tmp t)=fval at hfun
        cases hfun with
        |fn _ cs _ g1 g2=>
         have hall:Reps w F base σ (args.map a.eval++cs) (vs++caps):=by
          refine⟨by have:=hreps.1;simp only[Array.size_append,List.length_append];omega,fun j v x hv hx=>?_⟩
          have hsz:(args.map a.eval).size=vs.length:=hreps.1
          rw[Array.getElem?_append] at hv
          rw[List.getElem?_append] at hx
          by_cases hj:j<vs.length
          ·rw[if_pos (by omega)] at hv
           rw[if_pos hj] at hx
           exact hreps.2 j v x hv hx
          ·rw[if_neg (by omega)] at hv
           rw[if_neg hj] at hx
           rw[hsz] at hv
           exact g2 _ v x hv hx
         obtain⟨hcl,hc⟩:=q7J hK hH hG hb hall hev
         exact q20 (first:=#[]) (R:=fun v w'=>∃ F',After w w' F F'∧RepV w' F' base σ v r) hop rfl hfe hcl rfl (hc.mono fun e w' ⟨v,F',he,h1,h2⟩=>⟨v,he,F',h1,h2⟩) fun v w' ⟨F',h1,h2⟩=>hn v w' F' h1 h2
       |_=>simp [hfv,hl] at hev
   |_=>simp at he
 |_=>simp [hop] at he
end Go.Vm
end

section
namespace Go.Vm
open Go.RowKit
variable {P:Program}{w w':World}{F F':Nat→Prop}{X:Nat→Nat→Prop}{base nx:Nat}{σ σ':Nat→Option Loc}{K:Cx}{s:S}{a:Act}{o:Oper}{env:Env}{H:List (Nat×Blk)}
theorem BlkRel.mono{b:Nat}{blk:Blk}(hF:∀ b,F b→F' b∧w'.heap[b]? = w.heap[b]?)(hσ:∀ b l,σ b=some l→σ' b=some l)(hn:σ b=none→σ' b=none)(hw:∀ l,σ b=some l→w'.heap[l.blk]? = w.heap[l.blk]?)
  (h:BlkRel w F base σ b blk):BlkRel w' F' base σ' b blk:=by
 rcases h with⟨h1,h2⟩|⟨l,es,ck,ds,rfl,h1,h2,h3,h4,h5⟩|⟨l,cs,T,h1,h2,h3,h4,h5,h6,h7⟩
 ·exact .inl ⟨h1,hn h2⟩
 ·exact .inr (.inl ⟨l,es,ck,ds,rfl,hσ b l h1,h2.of0 (hw l h1) hσ,h3,h4,h5.trans0 fun v x h=>h.mono hF hσ⟩)
 ·exact .inr <| .inr ⟨l,cs,T,hσ b l h1,h2.of (hw l h1),h3,h4,h5,fun i row hr=>⟨(h6 i row hr).1,fun j x hx=>by
   obtain⟨v,g1,g2,g3⟩:=(h6 i row hr).2 j x hx
   exact⟨v,g1,g2,g3.mono hF hσ⟩⟩,h7⟩
theorem HeapRel.after(hH:HeapRel w F X base σ nx H)(h:After w w' F F'):HeapRel w' F' X base σ nx H:=by
 have hF:∀ b,F b→F' b∧w'.heap[b]? = w.heap[b]?:=fun b hb=>⟨h.sub b hb,h.below.block b (hH.fro b hb)⟩
 refine⟨fun b blk hb=>(hH.blk b blk hb).mono hF (fun _ _ h=>h) (fun h=>h) (fun l hl=>h.below.block _ (hH.own b l hl).2.2.2),hH.inj,fun b l hl=>?_,h.lt⟩
 obtain⟨h1,h2,h3,h4⟩:=hH.own b l hl
 refine⟨h1,fun hf=>?_,h3,Nat.lt_of_lt_of_le h4 h.below.size⟩
 rcases h.old _ hf with hf|hf
 ·exact h2 hf
 ·omega
def ext(σ:Nat→Option Loc)(n:Nat)(l:Loc):Nat→Option Loc:=fun b=>if b=n then some l else σ b
theorem q5W{n:Nat}{l:Loc}(hn:σ n=none):∀ b l',σ b=some l'→ext σ n l b=some l':=fun b l' h=>by
 unfold ext
 split
 ·rename_i hb;subst hb;rw[hn] at h;cases h
 ·exact h
theorem q2Q{n:Nat}{l:Loc}:ext σ n l n=some l:=by simp [ext]
theorem HeapRel.alloc(hH:HeapRel w F X base σ nx H)(hb:base≤w.heap.size){n:Nat}(hn:σ n=none)(hlt:n<nx)(hdom:∀ b blk,look H b=some blk→b<n)(k e:Nat)(ob:Obj) :
  HeapRel (w.alloc ob) F X base (ext σ n ⟨w.heap.size,k,e⟩) nx H:=by
 have hF:∀ b,F b→F b∧(w.alloc ob).heap[b]? = w.heap[b]?:=fun b h=>⟨h,Below.heap_alloc w ob b (hH.fro b h)⟩
 refine⟨fun b blk hbk=>(hH.blk b blk hbk).mono hF (q5W hn) (fun h0=>?_) (fun l hl=>Below.heap_alloc w ob _ (hH.own b l hl).2.2.2),?_,fun b l hl=>?_,fun b h=>by have:=hH.fro b h;simp;omega⟩
 ·have:=hdom b blk hbk
  unfold ext
  rw[if_neg (by omega)]
  exact h0
 ·intro b b' l l' h1 h2 he
  unfold ext at h1 h2
  split at h1 <;> split at h2
  ·omega
  ·obtain rfl:=Option.some.inj h1
   have:=(hH.own b' l' h2).2.2.2
   simp at he;omega
  ·obtain rfl:=Option.some.inj h2
   have:=(hH.own b l h1).2.2.2
   simp at he;omega
  ·exact hH.inj b b' l l' h1 h2 he
 ·unfold ext at hl
  split at hl
  ·rename_i hbn
   obtain rfl:=Option.some.inj hl
   exact⟨by omega,fun hf=>by have:=hH.fro _ hf;simp at this,.inl hb,by simp⟩
  ·obtain⟨h1,h2,h3,h4⟩:=hH.own b l hl
   exact⟨h1,h2,h3,by simp;omega⟩
theorem q4R(hF:∀ b,F b→b<w.heap.size)(ob:Obj):After w (w.alloc ob) F F:=
 ⟨(Below.refl _ _).alloc (Nat.le_refl _) _,fun _ h=>h,fun _ h=>.inl h,fun b h=>by have:=hF b h;simp;omega⟩
theorem q2j(w:World)(ob:Obj):(w.alloc ob).heap[w.heap.size]? = some ob:=heap_alloc_new w ob
def z8i(i:TypeInfo):List Value→Bool
 |[.pointer none,.slice none 0 0]=>i.str == "strings.Builder"
 |_=>false
def j2z(i:TypeInfo):Value→Bool
 |.agg cs=>z8i i cs.toList
 |_=>false
theorem z8h{i:TypeInfo}{l:List Value}(h:z8i i l=true):l=[.pointer none,.slice none 0 0]:=by
 unfold z8i at h
 split at h
 ·rfl
 ·cases h
theorem j0A{i:TypeInfo}{z:Value}(h:j2z i z=true):z=.agg #[.pointer none,.slice none 0 0]:=by
 cases z with
 |agg cs=>
  obtain⟨l⟩:=cs
  rw[z8h (l:=l) h]
 |_=>cases h
def bldE(P:Program)(t:TypeId):TypeId:=match P.underlying t with
 |some (.struct fs)=>match(fs[1]?).map (·.type) with
  |some f=>match P.underlying f with
   |some (.slice e)=>e
   |_=>0
  |none=>0
 |_=>0
def mkK(P:Program)(env:Env)(o:Oper):Option Mk:=
 match o.op with
 |.box t x=>(q0j P env t x).map .box
 |.alloc t=>match P.info? t with
  |some i=>match i.zero with
   |some z=>if j2z i z then some (.bld t (bldE P t)) else(q5k P t z).map .box
   |none=>none
  |none=>none
 |.makeSlice t l c=>match P.underlying t,q0j P env 0 l,q0j P env 0 c with
  |some (.slice e),some el,some ec=>match P.info? e with
   |some i=>match i.zero with
    |some z=>if i.bytes≤64∧z.cells.size=i.size then(mapO (fun(v,j)=>q7t P (q9k P 8 e j) v) z.cells.toList.zipIdx).map fun es=>.mks i.size (q3z es) el ec else none
    |none=>none
   |none=>none
  |_,_,_=>none
 |.buildSlice t n parts=>match P.underlying t with
  |some (.slice e)=>match P.info? e with
   |some i=>match i.zero with
    |some z=>if parts.toList.map (·.1)=List.range n∧n*i.size≤16777216∧z.cells.size=i.size then(mapO (fun(p:Nat×Operand)=>q0j P env e p.2) parts.toList).map fun es=>.lits i.size (q3z es) else none
    |none=>none
   |none=>none
  |_=>none
 |.makeMap _ none=>some .mkm
 |.convert src dst x=>match P.underlying src,P.underlying dst,q0j P env src x with
  |some .string,some (.slice e),some ex=>match P.underlying e,P.info? e with
   |some (.int .u8),some i=>if i.size=1 then some (.s2b ex) else none
   |_,_=>none
  |_,_,_=>none
 |.call { callee:=.value (.func f),args,argTypes }=>if q0p P f then(mapO (fun(x,i)=>q0j P env (argTypes.getD i 0) x) args.toList.zipIdx).map fun es=>.callo f (q3z es) else none
 |_=>none
structure Made(w w':World)(F F':Nat→Prop)(X:Nat→Nat→Prop)(base:Nat)(σ σ':Nat→Option Loc)(nx:Nat)(H:List (Nat×Blk))(n:Nat)(news:List Blk):Prop where
 after:After w w' F F'
 old:∀ b l,σ b=some l→σ' b=some l
 only:∀ b,¬(n≤b∧b<n+news.length)→σ' b=σ b
 heap:HeapRel w' F' X base σ' nx H
 blk:∀ i blk,news[i]? = some blk→BlkRel w' F' base σ' (n+i) blk
theorem q73(hH:HeapRel w F X base σ nx H)(hb:base≤w.heap.size){n:Nat}(hn:σ n=none)(hlt:n<nx)(hdom:∀ b blk,look H b=some blk→b<n){blk:Blk}{e:Nat}{cs:Array Value}{T:TypeId}
  (hent:blk.entries=none) (he:blk.n≤e) (hsz:cs.size=e*blk.k) (hrow:∀ i row,blk.row? i=some row→row.length=blk.k∧∀ j x,row[j]? = some x→∃ v,cs[i*blk.k+j]? = some v∧v.oneCell'=true∧RepV w F base σ v x) :
  Made w (w.alloc (.cells cs T)) F F X base σ (ext σ n ⟨w.heap.size,blk.k,e⟩) nx H n [blk]:=by
 refine⟨q4R hH.fro _,q5W hn,fun b hb=>?_,hH.alloc hb hn hlt hdom _ _ _,fun i blk' hi=>?_⟩
 ·unfold ext
  rw[if_neg (by simp at hb;omega)]
 ·cases i with
  |succ i=>simp at hi
  |zero=>
   simp at hi
   subst hi
   refine .inr <| .inr ⟨⟨w.heap.size,blk.k,e⟩,cs,T,q2Q,RowAt.mk0 (q2j w _),rfl,he,hsz,fun i row hr=>⟨(hrow i row hr).1,fun j x hx=>?_⟩,hent⟩
   obtain⟨v,h1,h2,h3⟩:=(hrow i row hr).2 j x hx
   exact⟨v,h1,h2,h3.mono (fun b h=>⟨h,Below.heap_alloc w _ b (hH.fro b h)⟩) (q5W hn)⟩
theorem z7T(hH:HeapRel w F X base σ nx H)(hb:base≤w.heap.size){n:Nat}(hn:σ n=none)(hlt:n<nx)(hdom:∀ b blk,look H b=some blk→b<n){blk:Blk}{e:Nat}{cs:Array Value}{T:TypeId}{fz:Nat×Nat}(hfz:cs.size≤fz.1)
  (hent:blk.entries=none) (he:blk.n≤e) (hsz:cs.size=e*blk.k) (hrow:∀ i row,blk.row? i=some row→row.length=blk.k∧∀ j x,row[j]? = some x→∃ v,cs[i*blk.k+j]? = some v∧v.oneCell'=true∧RepV w F base σ v x) :
  Made w (w.drew.alloc (.cells cs T fz)) F F X base σ (ext σ n ⟨w.heap.size,blk.k,e⟩) nx H n [blk]:=by
 have hD:HeapRel w.drew F X base σ nx H:=⟨fun b k hk=>BlkRel.mono (w:=w) (w':=w.drew) (fun b h=>⟨h,rfl⟩) (fun _ _ h=>h) (fun h=>h) (fun _ _=>rfl) (hH.blk b k hk),hH.inj,hH.own,hH.fro⟩
 have hA:=q4R (w:=w.drew) hD.fro (.cells cs T fz)
 refine⟨⟨⟨hA.below.1,hA.below.2,hA.below.3,hA.below.4,hA.below.5⟩,hA.2,hA.3,hA.4⟩,q5W hn,fun b hb=>?_,hD.alloc hb hn hlt hdom _ _ _,fun i blk' hi=>?_⟩
 ·unfold ext
  rw[if_neg (by simp at hb;omega)]
 ·cases i with
  |succ i=>simp at hi
  |zero=>
   simp at hi
   subst hi
   refine .inr <| .inr ⟨⟨w.heap.size,blk.k,e⟩,cs,T,q2Q,⟨fz,q2j w.drew _,.inr hfz⟩,rfl,he,hsz,fun i row hr=>⟨(hrow i row hr).1,fun j x hx=>?_⟩,hent⟩
   obtain⟨v,h1,h2,h3⟩:=(hrow i row hr).2 j x hx
   exact⟨v,h1,h2,RepV.mono (w:=w) (fun b h=>⟨h,Below.heap_alloc w.drew _ b (hH.fro b h)⟩) (q5W hn) h3⟩
theorem j0o(hH:HeapRel w F X base σ nx H)(hb:base≤w.heap.size){n:Nat}(hn:σ n=none)(hlt:n<nx)(hdom:∀ b blk,look H b=some blk→b<n)(ck:Nat) :
  Made w (w.alloc (.map #[] ck)) F F X base σ (ext σ n ⟨w.heap.size,0,0⟩) nx H n [.map []]:=by
 refine⟨q4R hH.fro _,q5W hn,fun b hb=>?_,hH.alloc hb hn hlt hdom _ _ _,fun i blk' hi=>?_⟩
 ·unfold ext
  rw[if_neg (by simp at hb;omega)]
 ·cases i with
  |succ i=>simp at hi
  |zero=>
   simp at hi
   subst hi
   exact .inr (.inl ⟨⟨w.heap.size,0,0⟩,#[],ck,[],rfl,q2Q,.inl ⟨q2j w _,rfl,rfl⟩,rfl,trivial,rfl,fun i e p he=>by simp at he⟩)
theorem j0p(hH:HeapRel w F X base σ nx H)(hb:base≤w.heap.size){n:Nat}(hn:σ n=none)(hn1:σ (n+1)=none)(hlt:n<nx)(hdom:∀ b blk,look H b=some blk→b<n)(T e:TypeId) :
  Made w (w.alloc (.cells #[.pointer none,.slice none 0 0] T)) F F X base σ (ext σ n ⟨w.heap.size,0,0⟩) nx H n [.map [(.nils T,.bsl (n+1) 0 0)],.map [(.emps e,.d false .nilp),(.str [],.d false .nilp)]]:=by
 refine⟨q4R hH.fro _,q5W hn,fun b hb=>?_,hH.alloc hb hn hlt hdom _ _ _,fun i blk' hi=>?_⟩
 ·unfold ext
  rw[if_neg (by simp at hb;omega)]
 ·match i,hi with
  |0,hi=>
   simp at hi
   subst hi
   refine .inr (.inl ⟨⟨w.heap.size,0,0⟩,#[⟨.slice none 0 0,.slice none 0 0,0⟩],0,_,rfl,q2Q,.inr (.inl ⟨T,.pointer none,.slice none 0 0,_,rfl,q2j w _,.inl rfl,rfl,.inl ⟨rfl,rfl⟩⟩),rfl,trivial,rfl,fun i e p he hp=>?_⟩)
   match i,he,hp with
   |0,he,hp=>
    simp at he hp
    subst he;subst hp
    exact⟨rfl,.nils T,.bsl0 none (n+1) 0⟩
   |i+1,he,hp=>simp at he
  |1,hi=>
   simp at hi
   subst hi
   refine .inl ⟨rfl,?_⟩
   unfold ext
   rw[if_neg (by omega)]
   exact hn1
  |i+2,hi=>simp at hi
theorem j08{n:Nat}{z:Value}{v:V}{T:TypeId}(hrun:(execOp a.eval o).run P w=.ok (.value (.pointer (some ⟨w.heap.size,0,none⟩))) (w.alloc (.cells z.cells T)))
  (hz:RepV w F base σ z v) (hl:v.laid=true) (hH:HeapRel w F X base σ nx H) (hb:base≤w.heap.size) (hn:σ n=none) (hlt:n<nx) (hdom:∀ b blk,look H b=some blk→b<n) {next:Act→World→Prop} {Q:Exit→Act→World→Prop}
  (hnext:∀ vv w' F' σ',Made w w' F F' X base σ σ' nx H n [.mix v.cells.length [v.cells]]→RepV w' F' base σ' vv (.ptr n 0 0)→next (a.put o.dst vv) w'):o.wp P a w next Q:=by
 unfold Oper.wp
 rw[hrun]
 obtain⟨h1,h2,h3⟩:=hz.cells hl
 have hm:=q73 (T:=T) hH hb hn hlt hdom (blk:=.mix v.cells.length [v.cells]) (e:=1) (cs:=z.cells) rfl (Nat.le_refl _) (by rw[h1];exact(Nat.one_mul _).symm) (fun i row hr=>by
  cases i with
  |succ i=>simp [Blk.row?] at hr
  |zero=>
   simp [Blk.row?] at hr
   subst hr
   refine⟨rfl,fun j x hx=>?_⟩
   have hj:j<z.cells.size:=by rw[h1];exact(List.getElem?_eq_some_iff.1 hx).1
   have hv:z.cells[j]? = some z.cells[j]:=Array.getElem?_eq_getElem hj
   exact⟨z.cells[j],by simp [Blk.k],h3 _ (Array.mem_of_getElem? hv),h2 j _ x hv hx⟩)
 refine hnext _ _ _ _ hm ?_
 have:=RepV.ptr (w:=w.alloc (.cells z.cells T)) (F:=F) (base:=base) (σ:=ext σ n ⟨w.heap.size,(Blk.mix v.cells.length [v.cells]).k,1⟩) n 0 0 ⟨w.heap.size,(Blk.mix v.cells.length [v.cells]).k,1⟩ q2Q
 simp only[Nat.zero_mul,Nat.add_zero] at this
 exact this
theorem q62(t:TypeId)(v:Value):(newVar t v).run P w=.ok ⟨w.heap.size,0,none⟩ (w.alloc (.cells v.cells t)):=by
 simp [newVar,newRow]
end Go.Vm
end

section
namespace Go.Vm
open Go.RowKit
variable {P:Program}{w w':World}{F F':Nat→Prop}{X:Nat→Nat→Prop}{base nx:Nat}{σ σ':Nat→Option Loc}{K:Cx}{s:S}{a:Act}{o:Oper}{env:Env}{H:List (Nat×Blk)}
theorem z2u{t:TypeId}{z:Array Value}{es:List E}{vs:List V}(hm:mapO (fun(p:Value×Nat)=>q7t P (q9k P 8 t p.2) p.1) z.toList.zipIdx=some es)(hv:mapO (ev K s) es=some vs) :
  vs.length=z.size∧∀(j:Nat) (v:Value) (x:V),z[j]? = some v→vs[j]? = some x→RepV w F base σ v x∧v.oneCell'=true:=by
 obtain⟨a1,a2⟩:=q0n hm
 obtain⟨b1,b2⟩:=q0n hv
 refine⟨by rw[b1,a1];simp,fun j v x hz hx=>?_⟩
 obtain⟨e,he,hc⟩:=a2 j (v,j) (by simp [List.getElem?_zipIdx,hz])
 obtain⟨r,hr,hev⟩:=b2 j e he
 rw[hx] at hr
 obtain rfl:=Option.some.inj hr
 exact q54 hc hev
theorem q6S{v:Value}{x:V}{d:D}(hd:asD x=some d)(h:RepV w F base σ v x):RepD w F v d∧(x.new1=true→RepD w (New F base) v d):=by
 cases x <;> simp only[asD] at hd <;> (try(cases hd;done)) <;> obtain rfl:=Option.some.inj hd
 ·cases h with
  |d c _ _ h=>
   refine⟨h.mono fun b hb=>⟨q2B hb,rfl⟩,fun hn=>?_⟩
   simp only[V.new1,Bool.or_eq_true] at hn
   rcases hn with rfl|hf
   ·exact h
   ·exact h.flat hf
 ·cases h with
  |fs c _ _ _ _ h=>
   refine⟨h.mono fun b hb=>⟨q2B hb,rfl⟩,fun hn=>?_⟩
   simp only[V.new1] at hn
   subst hn
   exact h
def z4i(w:World)(F:Nat→Prop)(base:Nat)(σ:Nat→Option Loc)(cs:Array Value)(k:Nat)(rows:List (List V)):Prop:=
 ∀ i row,rows[i]? = some row→row.length=k∧∀ j x,row[j]? = some x→∃ v,cs[i*k+j]? = some v∧v.oneCell'=true∧RepV w F base σ v x
theorem q6o{α β:Type}{f:α→Option β}{l:List α}{r:List β}(h:mapO f l=some r){j:Nat}{y:β}(hy:r[j]? = some y):∃ x,l[j]? = some x∧f x=some y:=by
 obtain⟨h1,h2⟩:=q0n h
 have hj:j<l.length:=by rw[←h1];exact(List.getElem?_eq_some_iff.1 hy).1
 obtain⟨y',hy',hf⟩:=h2 j _ (List.getElem?_eq_getElem hj)
 rw[hy] at hy'
 obtain rfl:=Option.some.inj hy'
 exact⟨_,List.getElem?_eq_getElem hj,hf⟩
theorem j2s(k:Nat)(rows:List (List V)):(mkBlk k rows).n=rows.length∧(mkBlk k rows).k=k:=by
 unfold mkBlk
 cases h:mapO (mapO asD) rows with
 |none=>exact⟨rfl,rfl⟩
 |some ds=>exact⟨(q0n h).1,rfl⟩
theorem z0v(k:Nat)(rows:List (List V)):(mkBlk k rows).entries=none:=by
 unfold mkBlk;split <;> rfl
theorem z5u{cs:Array Value}{k:Nat}{rows:List (List V)}(h:z4i w F base σ cs k rows) :
  ∀ i row,(mkBlk k rows).row? i=some row→row.length=k∧∀ j x,row[j]? = some x→∃ v,cs[i*k+j]? = some v∧v.oneCell'=true∧RepV w F base σ v x:=by
 unfold mkBlk
 cases hm:mapO (mapO asD) rows with
 |none=>exact h
 |some ds=>
  intro i row hr
  simp only[Blk.row?,Option.map_eq_some_iff] at hr
  obtain⟨dr,hdr,rfl⟩:=hr
  obtain⟨vr,hvr,hmr⟩:=q6o hm hdr
  obtain⟨g1,g2⟩:=h i vr hvr
  obtain⟨n1,n2⟩:=q0n hmr
  refine⟨by simp [n1,g1],fun j x hx=>?_⟩
  simp only[List.getElem?_map,Option.map_eq_some_iff] at hx
  obtain⟨d,hd,rfl⟩:=hx
  obtain⟨y,hy,had⟩:=q6o hmr hd
  obtain⟨v,h1,h2,h3⟩:=g2 j y hy
  refine⟨v,h1,h2,.mkd ?_⟩
  obtain⟨r1,r2⟩:=q6S had h3
  cases hc:rows.all (·.all V.new1) with
  |false=>exact r1
  |true=>
   rw[List.all_eq_true] at hc
   have:=hc vr (List.mem_of_getElem? hvr)
   rw[List.all_eq_true] at this
   exact r2 (this y (List.mem_of_getElem? hy))
theorem z4q(k:Nat):∀(vs:List Value)(i:Nat)(cells:Array Value),(∀ v∈vs,v.cells.size=k)→(i+vs.length)*k≤cells.size→
  ∃ cs,Instr.fill (fun i=>some (i*k,k)) cells ((List.range' i vs.length).zip vs)=some cs∧cs.size=cells.size∧
   (∀ m,m<i*k→cs[m]? = cells[m]?)∧∀(p:Nat) (v:Value) (j:Nat),vs[p]? = some v→j<k→cs[(i+p)*k+j]? = v.cells[j]?
 |[],i,cells,_,_=>⟨cells,rfl,rfl,fun _ _=>rfl,fun p v j h=>by simp at h⟩
 |v :: vs,i,cells,hk,hsz=>by
  have hv:=hk v (by simp)
  have hle:i*k+k≤cells.size:=by
   have:(i+1)*k≤(i+(v :: vs).length)*k:=Nat.mul_le_mul_right k (by simp)
   rw[Nat.add_mul,Nat.one_mul] at this
   omega
  obtain⟨f1,f2⟩:=q5d (i*k) v.cells.toList 0 cells (by simp only[Array.length_toList,hv];omega)
  obtain⟨cs,h1,h2,h3,h4⟩:=z4q k vs (i+1) (v.cells.toList.zipIdx.foldl (fun cs (c,j)=>cs.setIfInBounds (i*k+j) c) cells) (fun u hu=>hk u (by simp [hu])) (by rw[f1];simpa [Nat.add_assoc,Nat.add_comm 1] using hsz)
  refine⟨cs,?_,by rw[h2,f1],fun m hm=>?_,fun p u j hp hj=>?_⟩
  ·have hno:(decide (v.cells.size≠k)||decide (i*k+v.cells.size>cells.size))=false:=by simp [hv];omega
   simp only[List.length_cons,List.range'_succ,List.zip_cons_cons,Instr.fill,hno,Bool.false_eq_true,if_false]
   rw[←Array.foldl_toList,Array.toList_zipIdx]
   exact h1
  ·have hm2:m<(i+1)*k:=Nat.lt_of_lt_of_le hm (Nat.mul_le_mul_right k (by omega))
   rw[h3 m hm2,f2,if_neg (by omega)]
  ·cases p with
   |zero=>
    simp at hp
    subst hp
    have hlt:(i+0)*k+j<(i+1)*k:=by rw[Nat.add_zero,Nat.add_mul];omega
    rw[h3 _ hlt,f2,Nat.add_zero,if_pos (by simp [hv];omega)]
    simp
   |succ p=>
    have:=h4 p u j (by simpa using hp) hj
    rw[show i+(p+1)=i+1+p by omega]
    exact this
theorem z7Z{t e:TypeId}{len:Nat}{parts:Array (Nat×Operand)}{i:TypeInfo}{z:Value}{es:List E}{vs:List V}{n:Nat}(ho:o.op=.buildSlice t len parts)(ht:P.underlying t=some (.slice e))(hi:P.info? e=some i)(hz:i.zero=some z)
  (hidx:parts.toList.map (·.1)=List.range len) (hbig:len*i.size≤16777216) (hzs:z.cells.size=i.size) (hm:mapO (fun(p:Nat×Operand)=>q0j P env e p.2) parts.toList=some es) (hv:mapO (ev K s) es=some vs) (hpos:0<i.size)
  (hlaid:∀ v∈vs,v.laid=true∧v.cells.length=i.size) (hops:∀ p∈parts.toList,Held P K s env w F base σ a p.2) (hH:HeapRel w F X base σ nx H) (hb:base≤w.heap.size) (hn:σ n=none) (hlt:n<nx) (hdom:∀ b blk,look H b=some blk→b<n)
  {next:Act→World→Prop} {Q:Exit→Act→World→Prop}
  (hnext:∀ vv w' F' σ',Made w w' F F' X base σ σ' nx H n [mkBlk i.size (vs.map V.cells)]→RepV w' F' base σ' vv (.bsl n 0 vs.length)→next (a.put o.dst vv) w'):o.wp P a w next Q:=by
 obtain⟨a1,a2⟩:=q0n hm
 obtain⟨b1,b2⟩:=q0n hv
 have hlen:parts.toList.length=len:=by have:=congrArg List.length hidx;simpa using this
 have hlenv:vs.length=len:=by omega
 have hpart:∀(p:Nat) (y:Nat×Operand),parts.toList[p]? = some y→∃ x,vs[p]? = some x∧RepV w F base σ (a.eval y.2) x:=by
  intro p y hy
  obtain⟨e',he',hoe⟩:=a2 p y hy
  obtain⟨x,hx,hev⟩:=b2 p e' he'
  exact⟨x,hx,hops y (List.mem_of_getElem? hy) _ e' x hoe hev⟩
 let vals:=parts.toList.map fun p=>a.eval p.2
 have hvals:∀ v∈vals,v.cells.size=i.size:=by
  intro v hv'
  simp only[vals,List.mem_map] at hv'
  obtain⟨y,hy,rfl⟩:=hv'
  obtain⟨p,hp⟩:=List.getElem?_of_mem hy
  obtain⟨x,hx,hR⟩:=hpart p y hp
  obtain⟨l1,l2⟩:=hlaid x (List.mem_of_getElem? hx)
  rw[(hR.cells l1).1,l2]
 let zs:Array Value:=(Array.range (len*i.size)).map (z.cells[·% z.cells.size]!)
 obtain⟨cs,h1,h2,_,h4⟩:=z4q i.size vals 0 zs hvals (by simp [zs,vals];rw[show parts.size=len by simpa using hlen];exact Nat.le_refl _)
 have hzip:(List.range' 0 vals.length).zip vals=(parts.toList.map fun x=>(x.1,a.eval x.2)):=by
  have e1:List.range' 0 vals.length=parts.toList.map (·.1):=by
   rw[hidx,List.range_eq_range']
   simp only[vals,List.length_map,hlen]
  rw[e1]
  simp only[vals]
  rw[List.zip_map']
 rw[hzip] at h1
 have hsz:cs.size=len*i.size:=by rw[h2];simp [zs]
 have hrun:(execOp a.eval o).run P w=.ok (.value (.slice (some ⟨w.heap.size,0,none⟩) len len)) (w.alloc (.cells cs e)):=by
  have hno:¬(len*i.size>16777216):=by omega
  by_cases h0:len*i.size=0
  ·have hzs0:zs = #[]:=by
    apply Array.eq_empty_of_size_eq_zero
    simp [zs,h0]
   have h1':Instr.fill (fun i_1=>some (i_1*i.size,i.size)) #[] (parts.toList.map fun x=>(x.1,a.eval x.2))=some cs:=by rw[←hzs0];exact h1
   have hl0:len=0:=by rcases Nat.mul_eq_zero.1 h0 with h|h <;> omega
   simp [execOp,ho,Instr.buildSlice,run_underlying ht,q1t hi,hl0,newRow,h1',Array.range_zero']
  ·have h1':Instr.fill (fun i_1=>some (i_1*i.size,i.size)) (Array.map (fun x=>z.cells[x % z.cells.size]!) (Array.range (len*i.size))) (parts.toList.map fun x=>(x.1,a.eval x.2))=some cs:=h1
   simp [execOp,ho,Instr.buildSlice,run_underlying ht,q1t hi,hno,h0,zeroValue,typeInfo,hi,hz,newRow,h1']
 unfold Oper.wp
 rw[hrun]
 have hrows:z4i w F base σ cs i.size (vs.map V.cells):=by
  intro p row hr
  simp only[List.getElem?_map,Option.map_eq_some_iff] at hr
  obtain⟨x,hx,rfl⟩:=hr
  obtain⟨l1,l2⟩:=hlaid x (List.mem_of_getElem? hx)
  refine⟨l2,fun j y hy=>?_⟩
  have hp:p<parts.toList.length:=by have:=(List.getElem?_eq_some_iff.1 hx).1;omega
  obtain⟨x',hx',hR⟩:=hpart p _ (List.getElem?_eq_getElem hp)
  rw[hx] at hx'
  obtain rfl:=Option.some.inj hx'
  obtain⟨c1,c2,c3⟩:=hR.cells l1
  have hj:j<i.size:=by rw[←l2];exact(List.getElem?_eq_some_iff.1 hy).1
  have:=h4 p (a.eval (parts.toList[p]).2) j (by simp [vals,List.getElem?_map,List.getElem?_eq_getElem hp]) hj
  rw[Nat.zero_add] at this
  have hjc:j<(a.eval (parts.toList[p]).2).cells.size:=by omega
  have hcell:(a.eval (parts.toList[p]).2).cells[j]? = some ((a.eval (parts.toList[p]).2).cells[j]):=Array.getElem?_eq_getElem hjc
  exact⟨_,this.trans hcell,c3 _ (Array.mem_of_getElem? hcell),c2 j _ y hcell hy⟩
 obtain⟨n1,n2⟩:=j2s i.size (vs.map V.cells)
 have hmade:=q73 (T:=e) hH hb hn hlt hdom (blk:=mkBlk i.size (vs.map V.cells)) (e:=len) (cs:=cs) (z0v _ _) (by rw[n1];simp [hlenv]) (by rw[n2,hsz]) (fun p row hr=>by rw[n2];exact z5u hrows p row hr)
 refine hnext _ _ _ _ hmade ?_
 have:=RepV.bsl (w:=w.alloc (.cells cs e)) (F:=F) (base:=base) (σ:=ext σ n ⟨w.heap.size,(mkBlk i.size (vs.map V.cells)).k,len⟩) n 0 len len _ q2Q (Nat.le_refl _) (by simp)
 simp only[Nat.zero_mul] at this
 rw[hlenv]
 exact this
theorem j00{k i j:Nat}(h:j<k):(i*k+j) % k=j:=by
 rw[Nat.mul_comm,Nat.mul_add_mod,Nat.mod_eq_of_lt h]
theorem j0k{mk:Bool}{t e:TypeId}{l c:Operand}{i:TypeInfo}{z:Value}{es:List E}{zs:List V}{ds:List D}{n:Nat}{kl kc:IntKind}{lv cv:Int}(ho:o.op=.makeSlice t l c)(ht:P.underlying t=some (.slice e))(hi:P.info? e=some i)(hz:i.zero=some z)
  (hby:i.bytes≤64) (hzs:z.cells.size=i.size) (hm:mapO (fun(p:Value×Nat)=>q7t P (q9k P 8 e p.2) p.1) z.cells.toList.zipIdx=some es) (hv:mapO (ev K s) es=some zs) (had:mapO asD zs=some ds) (hflat:ds.all D.flat0=true) (hpos:0<i.size)
  (hl:a.eval l=.int kl lv) (hc:a.eval c=.int kc cv) (h0:0≤lv) (h1:lv≤cv) (h2:cv≤most) (hH:HeapRel w F X base σ nx H) (hb:base≤w.heap.size) (hn:σ n=none) (hlt:n<nx) (hdom:∀ b blk,look H b=some blk→b<n)
  {next:Act→World→Prop} {Q:Exit→Act→World→Prop}
  (hnext:∀ vv w' F' σ',Made w w' F F' X base σ σ' nx H n [.dat true i.size (List.replicate lv.toNat ds)]→RepV w' F' base σ' vv (bif mk then .bsx n 0 lv.toNat else .bsl n 0 lv.toNat)→next (a.put o.dst vv) w'):o.wp P a w next Q:=by
 have hmost:most=1099511627776:=rfl
 have hbytes:(i.bytes:Int)*cv≤281474976710656:=by
  have:(i.bytes:Int)*cv≤64*cv:=Int.mul_le_mul_of_nonneg_right (by omega) (by omega)
  omega
 have hr:=run_make (P:=P) w t e i z ht hi hz kl kc lv cv h0 h1 hbytes (by omega)
 unfold Oper.wp
 have hrun:(execOp a.eval o).run P w=.ok (.value (.slice (some ⟨w.heap.size,0,none⟩) lv.toNat cv.toNat)) (w.alloc (.cells (madeCells z.cells (cv.toNat*i.size)) e)):=by
  simp [execOp,ho,hl,hc,hr]
 rw[hrun]
 obtain⟨c1,c2⟩:=z2u (w:=w) (F:=F) (base:=base) (σ:=σ) hm hv
 obtain⟨d1,d2⟩:=q0n had
 have hlds:ds.length=i.size:=by omega
 have hmade:=q73 (T:=e) hH hb hn hlt hdom (blk:=.dat true i.size (List.replicate lv.toNat ds)) (e:=cv.toNat) (cs:=madeCells z.cells (cv.toNat*i.size)) rfl (by simp [Blk.n];omega) (by simp [Blk.k,size_madeCells]) (fun p row hr=>by
  simp only[Blk.row?,Option.map_eq_some_iff] at hr
  obtain⟨dr,hdr,rfl⟩:=hr
  have hp:=(List.getElem?_eq_some_iff.1 hdr).1
  simp only[List.length_replicate] at hp
  rw[List.getElem?_replicate,if_pos hp] at hdr
  obtain rfl:=Option.some.inj hdr
  refine⟨by simp [hlds,Blk.k],fun j x hx=>?_⟩
  simp only[List.getElem?_map,Option.map_eq_some_iff] at hx
  obtain⟨d,hd,rfl⟩:=hx
  obtain⟨y,hy,hyd⟩:=q6o had hd
  have hj:j<i.size:=by rw[←hlds];exact(List.getElem?_eq_some_iff.1 hd).1
  have hzj:z.cells[j]? = some z.cells[j]:=Array.getElem?_eq_getElem (by omega)
  obtain⟨r1,r2⟩:=c2 j _ y hzj hy
  refine⟨z.cells[j],?_,r2,.mkd ?_⟩
  ·have hin:p*i.size+j<cv.toNat*i.size:=by
    have:(p+1)*i.size≤cv.toNat*i.size:=Nat.mul_le_mul_right _ (by omega)
    rw[Nat.add_mul,Nat.one_mul] at this
    omega
   have hmod:(p*i.size+j) % z.cells.size=j:=by rw[hzs];exact j00 hj
   simp only[Blk.k,madeCells,Array.getElem?_map,Array.getElem?_range,hin,if_true,Option.map_some,hmod]
   simp [hzs,hj]
  ·have hf:d.flat0=true:=by rw[List.all_eq_true] at hflat;exact hflat d (List.mem_of_getElem? hd)
   exact(q6S hyd r1).1.flat0 hf)
 refine hnext _ _ _ _ hmade ?_
 have:=RepV.bsl (w:=w.alloc (.cells (madeCells z.cells (cv.toNat*i.size)) e)) (F:=F) (base:=base) (σ:=ext σ n ⟨w.heap.size,i.size,cv.toNat⟩) n 0 lv.toNat cv.toNat _ q2Q (by omega) (by simp)
 simp only[Nat.zero_mul] at this
 cases mk with
 |false=>exact this
 |true=>exact .bsx n 0 lv.toNat cv.toNat _ _ q2Q (by omega) (by simp) (fun _=>by simp)
end Go.Vm
end

section
namespace Go.Vm
open Go.RowKit
variable {P:Program}{w w':World}{F F':Nat→Prop}{X:Nat→Nat→Prop}{base nx:Nat}{σ σ':Nat→Option Loc}{K:Cx}{s:S}{a:Act}{o:Oper}{env:Env}{H:List (Nat×Blk)}
theorem j0s(l:List Blk):∀(k i:Nat),look ((l.zipIdx k).map fun(b,i)=>(i,b)) (k+i)=l[i]?:=by
 induction l with
 |nil=>intro k i;simp [look]
 |cons b l ih=>
  intro k i
  simp only[List.zipIdx_cons,List.map_cons,look]
  cases i with
  |zero=>simp
  |succ i=>
   rw[if_neg (by omega),show k+(i+1)=k+1+i by omega,ih]
   simp
theorem q3l(l:List Blk)(i:Nat):look (indexed l) i=l[i]?:=by
 have:=j0s l 0 i
 rw[Nat.zero_add] at this
 exact this
def join(σ:Nat→Option Loc)(n len:Nat)(τ:Nat→Option Loc):Nat→Option Loc:=fun b=>if n≤b∧b<n+len then τ (b - n) else σ b
theorem q6c{v:Value}{x:V}{n len:Nat}{τ:Nat→Option Loc}(hτ:∀ b l,τ b=some l→b<len)(h:RepV w F base τ v x) :
  (∀ b i j,x=.ptr b i j→RepV w F base (join σ n len τ) v (.ptr (b+n) i j))∧(∀ b i m,x=.bsl b i m→RepV w F base (join σ n len τ) v (.bsl (b+n) i m))∧(∀ b i m,x=.bsx b i m→RepV w F base (join σ n len τ) v (.bsx (b+n) i m)):=by
 have key:∀ b l,τ b=some l→join σ n len τ (b+n)=some l:=fun b l hl=>by
  have:=hτ b l hl
  unfold join
  rw[if_pos (by omega),Nat.add_sub_cancel]
  exact hl
 refine⟨?_,?_,?_⟩
 ·rintro b i j rfl
  cases h with
  |ptr _ _ _ l hl=>exact .ptr _ i j l (key b l hl)
 ·rintro b i m rfl
  cases h with
  |bsl0 a _ _=>exact .bsl0 _ _ _
  |bsl _ _ _ cap l hl h1 h2=>exact .bsl _ i m cap l (key b l hl) h1 h2
 ·rintro b i m rfl
  cases h with
  |bsx _ _ _ cap l a hl h1 h2 h3=>exact .bsx _ i m cap l a (key b l hl) h1 h2 h3
theorem q8r{v:Value}{x:V}{n len:Nat}{τ:Nat→Option Loc}(hτ:∀ b l,τ b=some l→b<len)(h:RepV w F base τ v x):RepV w F base (join σ n len τ) v (x.shift n):=by
 have cellC:∀ {v:Value} {x:V},RepV w F base τ v x→RepV w F base (join σ n len τ) v (match x with
   |.ptr b i j=>.ptr (b+n) i j
   |.bsl b i len=>.bsl (b+n) i len
   |.bsx b i len=>.bsx (b+n) i len
   |.d c x=>.d c x
   |.fs c k r=>.fs c k r
   |_=>.junk):=by
  intro v x h
  cases x with
  |ptr b i j=>exact(q6c hτ h).1 b i j rfl
  |bsl b i m=>exact(q6c hτ h).2.1 b i m rfl
  |bsx b i m=>exact(q6c hτ h).2.2 b i m rfl
  |d c y=>cases h with|d _ _ _ h=>exact .d _ _ _ h
  |fs c k y=>cases h with|fs _ _ _ _ _ h=>exact .fs _ _ _ _ _ h
  |_=>exact .junk _
 have aggC:∀(cs:Array Value) (vs:List V),cs.size=vs.length→(∀(j:Nat) (v:Value) (x:V),cs[j]? = some v→vs[j]? = some x→RepV w F base τ v x)→(∀ v∈cs,v.oneCell'=true)→
   RepV w F base (join σ n len τ) (.agg cs) (.agg (vs.map fun v=>match v with
    |.ptr b i j=>.ptr (b+n) i j
    |.bsl b i len=>.bsl (b+n) i len
    |.bsx b i len=>.bsx (b+n) i len
    |.d c x=>.d c x
    |.fs c k r=>.fs c k r
    |_=>.junk)):=by
  intro cs vs h1 h2 h3
  refine .agg _ _ (by simp [h1]) (fun j v x hv hx=>?_) h3
  simp only[List.getElem?_map,Option.map_eq_some_iff] at hx
  obtain⟨y,hy,rfl⟩:=hx
  exact cellC (h2 j v y hv hy)
 cases x with
 |ptr b i j=>exact(q6c hτ h).1 b i j rfl
 |bsl b i m=>exact(q6c hτ h).2.1 b i m rfl
 |bsx b i m=>exact(q6c hτ h).2.2 b i m rfl
 |d c y=>cases h with|d _ _ _ h=>exact .d _ _ _ h
 |fs c k y=>cases h with|fs _ _ _ _ _ h=>exact .fs _ _ _ _ _ h
 |agg vs=>cases h with|agg cs _ h1 h2 h3=>exact aggC cs vs h1 h2 h3
 |tup vs=>
  cases h with
  |tup cs _ h1 h2=>
   refine .tup _ _ (by simp [h1]) (fun j v x hv hx=>?_)
   simp only[List.getElem?_map,Option.map_eq_some_iff] at hx
   obtain⟨y,hy,rfl⟩:=hx
   have hR:=h2 j v y hv hy
   cases y with
   |agg us=>cases hR with|agg cs _ g1 g2 g3=>exact aggC cs us g1 g2 g3
   |ptr b i j=>exact(q6c hτ hR).1 b i j rfl
   |bsl b i m=>exact(q6c hτ hR).2.1 b i m rfl
   |bsx b i m=>exact(q6c hτ hR).2.2 b i m rfl
   |d c y=>cases hR with|d _ _ _ h=>exact .d _ _ _ h
   |fs c k y=>cases hR with|fs _ _ _ _ _ h=>exact .fs _ _ _ _ _ h
   |_=>exact .junk _
 |_=>exact .junk _
theorem RepV.of_new2{b b':Nat}{v:Value}{x:V}(hx:x.new2=true)(hF:∀ a,F a→b≤a→F' a∧b'≤a)(h:RepV w F b σ v x):RepV w F' b' σ v x:=by
 have one:∀ {v:Value} {x:V},x.newR=true→RepV w F b σ v x→RepV w F' b' σ v x:=by
  intro v x hx h
  cases h with
  |d c v x h=>
   simp only[V.newR,V.new1,Bool.or_eq_true] at hx
   by_cases hf:x.flat=true
   ·exact .d _ _ _ (h.flat hf)
   ·rcases hx with rfl|hx
    ·exact .d _ _ _ (h.mono fun a ha=>⟨hF a ha.1 ha.2,rfl⟩)
    ·exact absurd hx hf
  |fs c a len k rows h=>
   simp only[V.newR,V.new1] at hx
   subst hx
   exact .fs _ _ _ _ _ (h.mono fun a ha=>⟨hF a ha.1 ha.2,rfl⟩)
  |ptr b i j l hl=>exact .ptr b i j l hl
  |bsl0 a b i=>exact .bsl0 a b i
  |bsl b i len cap l h1 h2 h3=>exact .bsl b i len cap l h1 h2 h3
  |bsx b i len cap l a h1 h2 h3 h4=>exact .bsx b i len cap l a h1 h2 h3 h4
  |map b l hl=>exact .map b l hl
  |_=>simp [V.newR,V.new1] at hx
 cases x with
 |agg vs=>
  cases h with
  |agg cs _ h1 h2 h3=>
   simp only[V.new2,List.all_eq_true] at hx
   exact .agg _ _ h1 (fun j v x hv hxx=>one (hx x (List.mem_of_getElem? hxx)) (h2 j v x hv hxx)) h3
 |tup vs=>
  cases h with
  |tup cs _ h1 h2=>
   simp only[V.new2,List.all_eq_true] at hx
   refine .tup _ _ h1 (fun j v x hv hxx=>?_)
   have hm:=hx x (List.mem_of_getElem? hxx)
   have hR:=h2 j v x hv hxx
   cases x with
   |agg us=>
    cases hR with
    |agg cs _ g1 g2 g3=>
     simp only[List.all_eq_true] at hm
     exact .agg _ _ g1 (fun j v x hv hxx=>one (hm x (List.mem_of_getElem? hxx)) (g2 j v x hv hxx)) g3
   |d c y=>exact one hm hR
   |fs c k y=>exact one hm hR
   |ptr b i j=>exact one hm hR
   |bsl b i j=>exact one hm hR
   |bsx b i j=>exact one hm hR
   |map b=>exact one hm hR
   |_=>simp [V.newR,V.new1] at hm
 |d c y=>exact one hx h
 |fs c k y=>exact one hx h
 |ptr b i j=>exact one hx h
 |bsl b i j=>exact one hx h
 |bsx b i j=>exact one hx h
 |map b=>exact one hx h
 |_=>simp [V.new2,V.newR,V.new1] at hx
theorem z5o{news:List Blk}(h:news.all Blk.plain=true):news.all Blk.lays=true:=by
 rw[List.all_eq_true] at h ⊢
 intro b hb
 have:=h b hb
 cases b <;> simp_all [Blk.plain,Blk.lays]
theorem q8A{news:List Blk}(n:Nat)(h:news.all Blk.plain=true):news.map (Blk.shift n)=news:=by
 rw[List.all_eq_true] at h
 rw[List.map_congr_left (g:=id),List.map_id]
 intro b hb
 have:=h b hb
 cases b <;> simp_all [Blk.plain,Blk.shift]
theorem z5n{news:List Blk}(h:news.all Blk.plain=true)(h2:news.all Blk.new=true):news.all Blk.newM=true:=by
 rw[List.all_eq_true] at h h2 ⊢
 intro b hb
 have:=h b hb
 have:=h2 b hb
 cases b <;> simp_all [Blk.plain,Blk.new,Blk.newM]
theorem q9l(hK:K.Sound P)(hH:HeapRel w F X base σ nx H)(hG:GlobRel w F K.glob)(hb:base≤w.heap.size){f:FuncId}{vs ws:List V}{vals:Array Value}{r:V}{news:List Blk}{n:Nat}
  (hv:Reps w F base σ vals vs) (hm:mapO (view H) vs=some ws) (hc:K.call f ws=some (r,news)) (hplain:news.all Blk.lays=true) (hnew:(!vs.any V.own||(r.new2&&news.all Blk.newM))=true)
  (hn:∀ b,n≤b→b<n+news.length→σ b=none) (hlt:n+news.length≤nx) (hdom:∀ b blk,look H b=some blk→b<n) :
  Calls P f vals w fun e w'=>∃ v F' σ',e=.returned v∧Made w w' F F' X base σ σ' nx H n (news.map (Blk.shift n))∧RepV w' F' base σ' v (r.shift n):=by
 obtain⟨hcl,pc⟩:=hK.pure f ws r news hc
 have fin:∀(F1:Nat→Prop),(∀ b,F b→F1 b)→(∀ b,F1 b→b<w.heap.size)→((∀ b,F1 b→F b)∨(r.new2=true∧news.all Blk.newM=true))→
   Reps w F1 w.heap.size (fun _=>none) vals ws→Calls P f vals w fun e w'=>∃ v F' σ',e=.returned v∧Made w w' F F' X base σ σ' nx H n (news.map (Blk.shift n))∧RepV w' F' base σ' v (r.shift n):=by
  intro F1 hsub hlt1 hor hargs
  refine(pc w F1 vals hlt1 (hG.mono fun b hb'=>⟨hsub b hb',rfl⟩) hargs).mono fun e w' ⟨v,F',τ,he,hbel,hF',hRv,hHr⟩=>?_
  have hτ:∀ b l,τ b=some l→b<news.length∧w.heap.size≤l.blk∧¬ F' l.blk∧l.blk<w'.heap.size:=fun b l hl=>by
   obtain⟨h1,h2,h3,h4⟩:=hHr.own b l hl
   exact⟨h1,h3.resolve_right (fun h=>h),h2,h4⟩
  have hjo:∀ b l,σ b=some l→join σ n news.length τ b=some l:=fun b l hl=>by
   unfold join
   split
   ·rename_i hr
    rw[hn b hr.1 hr.2] at hl;cases hl
   ·exact hl
  have haf:After w w' F (fun b=>F b∨(F' b∧w.heap.size≤b)):=⟨hbel,fun b h=>.inl h,fun b h=>h.imp id (·.2),fun b h=>by
   rcases h with h|h
   ·exact Nat.lt_of_lt_of_le (hH.fro b h) hbel.size
   ·exact hHr.fro b h.1⟩
  have hFw:∀ b,F b→(F b∨(F' b∧w.heap.size≤b))∧w'.heap[b]? = w.heap[b]?:=fun b h=>⟨.inl h,hbel.block b (hH.fro b h)⟩
  have conv:∀ {u:Value} {x:V},((∀ b,F1 b→F b)∨x.new2=true)→RepV w' F' w.heap.size τ u x→RepV w' (fun b=>F b∨(F' b∧w.heap.size≤b)) base τ u x:=by
   intro u x hx h
   rcases hx with hx|hx
   ·refine h.mono' (fun c b hb'=>⟨?_,rfl⟩) (fun _ _ h=>h)
    cases c
    ·rcases hF' b hb' with h|h
     ·exact .inl (hx b h)
     ·exact .inr ⟨hb',h⟩
    ·exact⟨.inr ⟨hb'.1,hb'.2⟩,Nat.le_trans hb hb'.2⟩
   ·exact h.of_new2 hx fun b ha hle=>⟨.inr ⟨ha,hle⟩,Nat.le_trans hb hle⟩
  refine⟨v,fun b=>F b∨(F' b∧w.heap.size≤b),join σ n news.length τ,he,⟨haf,hjo,fun b hb'=>?_,⟨fun b blk hbk=>?_,?_,fun b l hl=>?_,haf.lt⟩,fun i blk hi=>?_⟩,?_⟩
  ·rw[List.length_map] at hb'
   unfold join
   rw[if_neg hb']
  ·refine(hH.blk b blk hbk).mono hFw hjo (fun h0=>?_) (fun l hl=>hbel.block _ (hH.own b l hl).2.2.2)
   have:=hdom b blk hbk
   unfold join
   rw[if_neg (by omega)]
   exact h0
  ·intro b b' l l' h1 h2 heq
   unfold join at h1 h2
   split at h1 <;> split at h2
   ·have:=hHr.inj _ _ _ _ h1 h2 heq
    omega
   ·have g1:=(hτ _ _ h1).2.1
    have g2:=(hH.own _ _ h2).2.2.2
    omega
   ·have g1:=(hτ _ _ h2).2.1
    have g2:=(hH.own _ _ h1).2.2.2
    omega
   ·exact hH.inj _ _ _ _ h1 h2 heq
  ·unfold join at hl
   split at hl
   ·rename_i hr
    obtain⟨h1,h2,h3,h4⟩:=hτ _ _ hl
    refine⟨by omega,fun hf=>?_,.inl (Nat.le_trans hb h2),h4⟩
    rcases hf with hf|hf
    ·have:=hH.fro _ hf;omega
    ·exact h3 hf.1
   ·obtain⟨h1,h2,h3,h4⟩:=hH.own _ _ hl
    refine⟨h1,fun hf=>?_,h3,Nat.lt_of_lt_of_le h4 hbel.size⟩
    rcases hf with hf|hf
    ·exact h2 hf
    ·omega
  ·rw[List.getElem?_map,Option.map_eq_some_iff] at hi
   obtain⟨blk,hi,rfl⟩:=hi
   have hblk:=hHr.blk i blk (by rw[q3l];exact hi)
   have hil:i<news.length:=(List.getElem?_eq_some_iff.1 hi).1
   have hji:∀ l,τ i=some l→join σ n news.length τ (n+i)=some l:=fun l hl=>by
    unfold join
    rw[if_pos (by omega),Nat.add_sub_cancel_left]
    exact hl
   have hpl:blk.lays=true:=by rw[List.all_eq_true] at hplain;exact hplain blk (List.mem_of_getElem? hi)
   rcases hblk with⟨h1,h2⟩|⟨_,_,_,_,rfl,_⟩|⟨l,cs,T,h1,h2,h3,h4,h5,h6,h7⟩
   ·refine .inl ⟨by cases blk <;> simp_all [Blk.shift,Blk.n],?_⟩
    unfold join
    rw[if_pos (by omega),Nat.add_sub_cancel_left]
    exact h2
   ·simp [Blk.lays] at hpl
   ·have hnn:(∀ b,F1 b→F b)∨blk.newM=true:=hor.imp id fun⟨_,hnb⟩=>by
     rw[List.all_eq_true] at hnb
     exact hnb _ (List.mem_of_getElem? hi)
    cases blk with
    |map=>simp [Blk.lays] at hpl
    |mix k rows=>
     refine .inr <| .inr ⟨l,cs,T,hji l h1,h2,h3,by simpa [Blk.shift,Blk.n] using h4,by simpa [Blk.shift,Blk.n] using h5,fun i' row hr=>?_,rfl⟩
     simp only[Blk.shift,Blk.row?,List.getElem?_map,Option.map_eq_some_iff] at hr
     obtain⟨row0,hr0,rfl⟩:=hr
     refine⟨by simpa [Blk.shift,Blk.k] using(h6 i' row0 hr0).1,fun j x hx=>?_⟩
     simp only[List.getElem?_map,Option.map_eq_some_iff] at hx
     obtain⟨y,hy,rfl⟩:=hx
     obtain⟨u,g1,g2,g3⟩:=(h6 i' row0 hr0).2 j y hy
     refine⟨u,g1,g2,q8r (fun b l hl=>(hτ b l hl).1) (conv (hnn.imp id fun hm=>?_) g3)⟩
     simp only[Blk.newM,List.all_eq_true] at hm
     exact hm row0 (List.mem_of_getElem? hr0) y (List.mem_of_getElem? hy)
    |dat c k rows=>
     refine .inr <| .inr ⟨l,cs,T,hji l h1,h2,h3,h4,h5,fun i' row hr=>⟨(h6 i' row hr).1,fun j x hx=>?_⟩,h7⟩
     obtain⟨u,g1,g2,g3⟩:=(h6 i' row hr).2 j x hx
     refine⟨u,g1,g2,?_⟩
     simp only[Blk.shift,Blk.row?,Option.map_eq_some_iff] at hr
     obtain⟨dr,hdr,rfl⟩:=hr
     simp only[List.getElem?_map,Option.map_eq_some_iff] at hx
     obtain⟨d,hd,rfl⟩:=hx
     have hx2:(∀ b,F1 b→F b)∨(mkd c d).new2=true:=by
      refine hnn.imp id fun hc=>?_
      have hc:c=true:=hc
      subst hc
      unfold mkd
      split
      ·rename_i hf;simp [V.new2,V.newR,V.new1,hf]
      ·simp [V.new2,V.newR,V.new1]
     have h7:=conv hx2 g3
     obtain⟨c',hc'⟩:=z4a c d
     rw[hc'] at h7 ⊢
     cases h7 with
     |d _ _ _ h=>exact .d _ _ _ h
  ·exact q8r (fun b l hl=>(hτ b l hl).1) (conv (hor.imp id (·.1)) hRv)
 by_cases ho:vs.any V.own=true
 ·have hnw:r.new2=true∧news.all Blk.newM=true:=by
   simp only[ho,Bool.not_true,Bool.false_or,Bool.and_eq_true] at hnew
   exact hnew
  refine fin (All F σ) (fun b h=>.inl h) (fun b h=>?_) (.inr hnw) (q4t (R:=RepV w (All F σ) w.heap.size (fun _=>none)) hm hv (fun v x y _ hy hR=>q6X hH hy hR _))
  rcases h with h|⟨i,l,hl,rfl⟩
  ·exact hH.fro b h
  ·exact(hH.own i l hl).2.2.2
 ·have ho':∀ x∈vs,x.own=false:=by simpa using ho
  exact fin F (fun _ h=>h) hH.fro (.inl fun _ h=>h) (q4t (R:=RepV w F w.heap.size (fun _=>none)) hm hv (fun v x y hx hy hR=>q6Y (ho' x hx) hy hR _))
set_option maxHeartbeats 1000000 in
theorem j2r{m:Mk}{v:V}{news:List Blk}(hm:mkK P env o=some m)(hev:evMk K s m=some (v,news))(hops:∀ x∈o.op.operands.toList,Held P K s env w F base σ a x)
  (hH:HeapRel w F X base σ nx s.heap) (hG:GlobRel w F K.glob) (hb:base≤w.heap.size) (hK:K.Sound P) (hn:∀ b,s.nx≤b→b<s.nx+news.length→σ b=none) (hlt:s.nx+news.length≤nx) (hdom:∀ b blk,look s.heap b=some blk→b<s.nx)
  {next:Act→World→Prop} {Q:Exit→Act→World→Prop}
  (hnext:∀ vv w' F' σ',Made w w' F F' X base σ σ' nx s.heap s.nx news→RepV w' F' base σ' vv v→next (a.put o.dst vv) w'):o.wp P a w next Q:=by
 have held:∀ x,x∈o.op.operands.toList→∀ t e r,q0j P env t x=some e→ev K s e=some r→RepV w F base σ (a.eval x) r:=hops
 have box:∀(e:E) (z:Value) (T:TypeId),m=.box e→(∀ v,ev K s e=some v→RepV w F base σ z v)→(execOp a.eval o).run P w=.ok (.value (.pointer (some ⟨w.heap.size,0,none⟩))) (w.alloc (.cells z.cells T))→o.wp P a w next Q:=by
  rintro e z T rfl hz hrun
  simp only[evMk] at hev
  cases he:ev K s e with
  |none=>simp [he] at hev
  |some u=>
   simp only[he] at hev
   split at hev
   ·rename_i hl
    simp only[Option.some.injEq,Prod.mk.injEq] at hev
    obtain⟨rfl,rfl⟩:=hev
    exact j08 hrun (hz u he) hl hH hb (hn _ (Nat.le_refl _) (by simp)) (by simp at hlt;omega) hdom hnext
   ·cases hev
 unfold mkK at hm
 cases hop:o.op with
 |box t x=>
  simp only[hop] at hm held
  cases hx:q0j P env t x with
  |none=>simp [hx] at hm
  |some e=>
   simp only[hx,Option.map_some,Option.some.injEq] at hm
   exact box e (a.eval x) t hm.symm (fun u hu=>held x (by simp [Op.operands]) _ _ u hx hu) (by simp [execOp,hop,Instr.box,q62])
 |alloc t=>
  simp only[hop] at hm
  cases hi:P.info? t with
  |none=>simp [hi] at hm
  |some i=>
   cases hz:i.zero with
   |none=>simp [hi,hz] at hm
   |some z=>
    simp only[hi,hz] at hm
    by_cases hbl:j2z i z=true
    ·rw[if_pos hbl] at hm
     obtain rfl:=Option.some.inj hm
     have hz':=j0A hbl
     subst hz'
     simp only[evMk,Option.some.injEq,Prod.mk.injEq] at hev
     obtain⟨rfl,rfl⟩:=hev
     have hmade:=j0p (F:=F) hH hb (hn _ (Nat.le_refl _) (by simp)) (hn _ (by omega) (by simp)) (by simp at hlt;omega) hdom t (bldE P t)
     have hrun:(execOp a.eval o).run P w=.ok (.value (.pointer (some ⟨w.heap.size,0,none⟩))) (w.alloc (.cells #[.pointer none,.slice none 0 0] t)):=by
      simp [execOp,hop,Instr.alloc,zeroValue,typeInfo,hi,hz,q62,Value.cells]
     unfold Oper.wp
     rw[hrun]
     refine hnext _ _ _ _ hmade ?_
     have:=RepV.ptr (w:=w.alloc (.cells #[.pointer none,.slice none 0 0] t)) (F:=F) (base:=base) (σ:=ext σ s.nx ⟨w.heap.size,0,0⟩) s.nx 0 0 ⟨w.heap.size,0,0⟩ q2Q
     simpa using this
    rw[if_neg hbl] at hm
    cases hc:q5k P t z with
    |none=>simp [hc] at hm
    |some e=>
     simp only[hc,Option.map_some,Option.some.injEq] at hm
     exact box e z t hm.symm (fun u hu=>q4g hc hu) (by simp [execOp,hop,Instr.alloc,zeroValue,typeInfo,hi,hz,q62])
 |makeSlice t l c=>
  simp only[hop] at hm held
  cases ht:P.underlying t with
  |none=>simp [ht] at hm
  |some d=>
   cases hl:q0j P env 0 l with
   |none=>cases d <;> simp [ht,hl] at hm
   |some el=>
    cases hc:q0j P env 0 c with
    |none=>cases d <;> simp [ht,hl,hc] at hm
    |some ec=>
     cases d <;> simp only[ht,hl,hc] at hm <;> (try(cases hm;done))
     rename_i e
     cases hi:P.info? e with
     |none=>simp [hi] at hm
     |some i=>
      cases hz:i.zero with
      |none=>simp [hi,hz] at hm
      |some z=>
       simp only[hi,hz] at hm
       split at hm
       ·rename_i hcnd
        cases hmm:mapO (fun(p:Value×Nat)=>q7t P (q9k P 8 e p.2) p.1) z.cells.toList.zipIdx with
        |none=>rw[hmm] at hm;cases hm
        |some es=>
         simp only[hmm,Option.map_some,Option.some.injEq] at hm
         subst hm
         simp only[evMk] at hev
         cases hzs:ev K s (q3z es) with
         |none=>simp [hzs] at hev
         |some u=>
          obtain⟨zs,rfl,hzv⟩:=q3p K s es u hzs
          cases hel:ev K s el with
          |none=>simp [hzs,hel] at hev
          |some vl=>
           cases hec:ev K s ec with
           |none=>cases vl <;> first|(simp [hzs,hel,hec] at hev;done)|(rename_i x;cases x <;> simp [hzs,hel,hec] at hev)
           |some vc=>
            have hL:=held l (by simp [Op.operands]) _ _ _ hl hel
            have hC:=held c (by simp [Op.operands]) _ _ _ hc hec
            simp only[hzs,hel,hec] at hev
            split at hev
            ·rename_i _ zs' _ kl lv _ kc cv e1 e2 e3
             obtain rfl:=V.tup.inj (Option.some.inj e1)
             obtain rfl:=Option.some.inj e2
             obtain rfl:=Option.some.inj e3
             split at hev
             ·rename_i ds had
              split at hev
              ·rename_i hh
               simp only[Option.some.injEq,Prod.mk.injEq] at hev
               obtain⟨rfl,rfl⟩:=hev
               obtain⟨h0,h1,h2,h3,h4,h5⟩:=hh
               exact j0k hop ht hi hz hcnd.1 hcnd.2 hmm hzv had h5 h4 hL.int_inv hC.int_inv h0 h1 h2 hH hb (hn _ (Nat.le_refl _) (by simp)) (by simp at hlt;omega) hdom hnext
              ·cases hev
             ·cases hev
            ·cases hev
       ·cases hm
 |buildSlice t len parts=>
  simp only[hop] at hm held
  cases ht:P.underlying t with
  |none=>simp [ht] at hm
  |some d=>
   cases d <;> simp only[ht] at hm <;> (try(cases hm;done))
   rename_i e
   cases hi:P.info? e with
   |none=>simp [hi] at hm
   |some i=>
    cases hz:i.zero with
    |none=>simp [hi,hz] at hm
    |some z=>
     simp only[hi,hz] at hm
     split at hm
     ·rename_i hcnd
      cases hmm:mapO (fun(p:Nat×Operand)=>q0j P env e p.2) parts.toList with
      |none=>rw[hmm] at hm;cases hm
      |some es=>
       simp only[hmm,Option.map_some,Option.some.injEq] at hm
       subst hm
       simp only[evMk] at hev
       cases hzs:ev K s (q3z es) with
       |none=>simp [hzs] at hev
       |some u=>
        obtain⟨vs,rfl,hvs⟩:=q3p K s es u hzs
        simp only[hzs] at hev
        split at hev
        ·rename_i hh
         simp only[Bool.and_eq_true,decide_eq_true_eq,List.all_eq_true,beq_iff_eq] at hh
         simp only[Option.some.injEq,Prod.mk.injEq] at hev
         obtain⟨rfl,rfl⟩:=hev
         exact z7Z hop ht hi hz hcnd.1 hcnd.2.1 hcnd.2.2 hmm hvs hh.2 (fun v hv=>hh.1 v hv) (fun p hp=>held p.2 (by simp only[Op.operands,List.toList_toArray,List.mem_map];exact⟨p,hp,rfl⟩)) hH hb (hn _ (Nat.le_refl _) (by simp)) (by simp at hlt;omega) hdom hnext
        ·cases hev
     ·cases hm
 |call c=>
  obtain⟨callee,args,argTypes⟩:=c
  simp only[hop] at hm held
  cases callee with
  |value fv=>
   cases fv with
   |func f=>
    simp only at hm
    split at hm
    ·rename_i hcl
     cases hmm:mapO (fun(x:Operand×Nat)=>q0j P env (argTypes.getD x.2 0) x.1) args.toList.zipIdx with
     |none=>rw[hmm] at hm;cases hm
     |some es=>
      simp only[hmm,Option.map_some,Option.some.injEq] at hm
      subst hm
      simp only[evMk] at hev
      cases hl:ev K s (q3z es) with
      |none=>simp [hl] at hev
      |some u=>
       obtain⟨vs,rfl,hvs⟩:=q3p K s es u hl
       simp only[hl] at hev
       cases hvw:mapO (view s.heap) vs with
       |none=>simp [hvw] at hev
       |some ws=>
        simp only[hvw] at hev
        cases hkc:K.call f ws with
        |none=>simp [hkc] at hev
        |some rn=>
         obtain⟨r,news'⟩:=rn
         simp only[hkc] at hev
         split at hev
         ·rename_i hh
          simp only[Bool.and_eq_true] at hh
          simp only[Option.some.injEq,Prod.mk.injEq] at hev
          obtain⟨rfl,rfl⟩:=hev
          have hreps:=q3i (t:=fun i=>argTypes.getD i 0) (a:=a) (args:=args.toList) (fun x hx=>held x (by simp [Op.operands,Call.operands];exact .inr (by simpa using hx))) 0 hmm hvs
          simp only[Array.toArray_toList] at hreps
          have hc:=q9l hK hH hG hb hreps hvw hkc (z5o hh.1) (by
           have h2:=hh.2
           simp only[Bool.or_eq_true,Bool.and_eq_true] at h2 ⊢
           exact h2.imp id fun h3=>⟨h3.1,z5n hh.1 h3.2⟩) hn hlt hdom
          rw[q8A _ hh.1] at hc
          exact q20 (first:=#[]) (R:=fun v w'=>∃ F' σ',Made w w' F F' X base σ σ' nx s.heap s.nx news'∧RepV w' F' base σ' v (r.shift s.nx)) hop rfl rfl hcl (by simp) (hc.mono fun e w' ⟨v,F',σ',he,h1,h2⟩=>⟨v,he,F',σ',h1,h2⟩) fun v w' ⟨F',σ',h1,h2⟩=>hnext v w' F' σ' h1 h2
         ·split at hev
          ·rename_i hh
           simp only[Bool.and_eq_true] at hh
           simp only[Option.some.injEq,Prod.mk.injEq] at hev
           obtain⟨rfl,rfl⟩:=hev
           have hreps:=q3i (t:=fun i=>argTypes.getD i 0) (a:=a) (args:=args.toList) (fun x hx=>held x (by simp [Op.operands,Call.operands];exact .inr (by simpa using hx))) 0 hmm hvs
           simp only[Array.toArray_toList] at hreps
           rw[List.length_map] at hn hlt
           have hc:=q9l hK hH hG hb hreps hvw hkc hh.1 hh.2 hn hlt hdom
           exact q20 (first:=#[]) (R:=fun v w'=>∃ F' σ',Made w w' F F' X base σ σ' nx s.heap s.nx (news'.map (Blk.shift s.nx))∧RepV w' F' base σ' v (r.shift s.nx)) hop rfl rfl hcl (by simp) (hc.mono fun e w' ⟨v,F',σ',he,h1,h2⟩=>⟨v,he,F',σ',h1,h2⟩) fun v w' ⟨F',σ',h1,h2⟩=>hnext v w' F' σ' h1 h2
          ·cases hev
    ·cases hm
   |_=>simp at hm
  |_=>simp at hm
 |makeMap t rs=>
  cases rs with
  |some _=>simp [hop] at hm
  |none=>
   simp only[hop,Option.some.injEq] at hm
   subst hm
   simp only[evMk,Option.some.injEq,Prod.mk.injEq] at hev
   obtain⟨rfl,rfl⟩:=hev
   have hmade:=j0o (F:=F) hH hb (hn _ (Nat.le_refl _) (by simp)) (by simp at hlt;omega) hdom 0
   have hrun:(execOp a.eval o).run P w=.ok (.value (.map (some w.heap.size))) (w.alloc (.map #[] 0)):=by
    simp [execOp,hop,Instr.makeMap,run_newObj]
   unfold Oper.wp
   rw[hrun]
   exact hnext _ _ _ _ hmade (.map s.nx ⟨w.heap.size,0,0⟩ q2Q)
 |convert src dst x=>
  simp only[hop] at hm held
  split at hm
  case h_2=>cases hm
  rename_i e ex hs hd hx
  split at hm
  case h_2=>cases hm
  rename_i i he hi
  split at hm
  case isFalse=>cases hm
  rename_i hsz
  obtain rfl:=Option.some.inj hm
  simp only[evMk] at hev
  split at hev
  case h_2=>cases hev
  rename_i c l hv
  split at hev
  case isFalse=>cases hev
  rename_i hl
  simp only[Option.some.injEq,Prod.mk.injEq] at hev
  obtain⟨rfl,rfl⟩:=hev
  have hA:=held x (by simp [Op.operands]) _ _ _ hx hv
  obtain⟨sb,hsv,hsl⟩:=hA.str_inv
  have hrun:(execOp a.eval o).run P w=.ok (.value (.slice (some ⟨w.heap.size,0,none⟩) sb.size (grownCap w sb.size 0 e))) (w.drew.alloc (.cells (bytesRow sb (grownCap w sb.size 0 e)) e ((bytesRow sb (grownCap w sb.size 0 e)).size,(bytesRow sb (grownCap w sb.size 0 e)).size+1))):=by
   have:=run_bytes_of_string w src dst e sb hs hd he
   simp [execOp,hop,hsv,this]
  unfold Oper.wp
  rw[hrun]
  subst hsl
  have hsize:sb.size=sb.data.toList.length:=by simp
  have hg:=grownCap_ge w sb.size 0 e
  generalize grownCap w sb.size 0 e=cap at hg
  have hcs:(bytesRow sb cap).size=cap:=by
   unfold bytesRow
   have:sb.data.size=sb.size:=rfl
   simp only[Array.size_append,Array.size_map,Array.size_replicate,this]
   omega
  have hmade:=z7T (F:=F) (T:=e) (fz:=((bytesRow sb cap).size,(bytesRow sb cap).size+1)) hH hb (hn _ (Nat.le_refl _) (by simp)) (by simp at hlt;omega) hdom (blk:=.dat true 1 (sb.data.toList.map fun b=>[D.int .u8 (b.toNat:Int)])) (e:=cap) (cs:=bytesRow sb cap) (Nat.le_refl _) rfl (by simp [Blk.n];omega) (by rw[hcs];simp [Blk.k]) (fun j row hr=>by
   simp only[Blk.row?,List.getElem?_map,Option.map_eq_some_iff] at hr
   obtain⟨_,⟨b,hb2,rfl⟩,rfl⟩:=hr
   refine⟨rfl,fun j' x hx=>?_⟩
   cases j' with
   |succ j'=>simp at hx
   |zero=>
    simp only[List.map_cons,List.map_nil,List.getElem?_cons_zero,Option.some.injEq] at hx
    subst hx
    have hj:j<sb.data.size:=by
     have:=(List.getElem?_eq_some_iff.1 hb2).1
     simpa using this
    refine⟨.int .u8 (b.toNat:Int),?_,rfl,.d _ _ _ (.int _ _)⟩
    have e1:=bytesRow_at sb cap j hj
    have e2:sb.data[j]=b:=by
     have:=(List.getElem?_eq_some_iff.1 hb2).2
     simpa using this
    rw[e2] at e1
    simpa [Blk.k] using e1)
  refine hnext _ _ _ _ hmade ?_
  have:=RepV.bsl (w:=w.drew.alloc (.cells (bytesRow sb cap) e ((bytesRow sb cap).size,(bytesRow sb cap).size+1))) (F:=F) (base:=base) (σ:=ext σ s.nx ⟨w.heap.size,1,cap⟩) s.nx 0 sb.data.toList.length cap ⟨w.heap.size,1,cap⟩ q2Q (by rw[←hsize];exact hg) (by simp)
  rw[hsize]
  simpa [Blk.k] using this
 |_=>simp [hop] at hm
end Go.Vm
end

section
namespace Go.Vm
open Go.RowKit
variable {P:Program}{w w':World}{F F':Nat→Prop}{X:Nat→Nat→Prop}{base nx:Nat}{σ σ':Nat→Option Loc}{K:Cx}{s:S}{a:Act}{o:Oper}{env:Env}{H:List (Nat×Blk)}
theorem Frame.refl(X:Nat→Nat→Prop)(base:Nat)(w:World):Frame X base w w:=⟨rfl,rfl,rfl,Nat.le_refl _,fun _ _ _=>rfl⟩
theorem Frame.trans{w1 w2 w3:World}(h:Frame X base w1 w2)(k:Frame X base w2 w3):Frame X base w1 w3:=
 ⟨k.os.trans h.os,k.tape.trans h.tape,k.output.trans h.output,Nat.le_trans h.size k.size,fun i hi hx=>(k.block i hi hx).trans (h.block i hi hx)⟩
theorem Frame.of_after{w w':World}(h:After w w' F F')(hb:base≤w.heap.size):Frame X base w w':=
 ⟨h.below.os,h.below.tape,h.below.output,h.below.size,fun k hk _=>h.below.block k (by omega)⟩
theorem Frame.setRow{g:Nat}{cs:Array Value}{b:Nat}(hg:base≤g∨X b g):Frame X base w (w.setRow g cs):=
 ⟨rfl,rfl,rfl,by simp,fun k hk hx=>setRow_other w g k cs (by rintro rfl;rcases hg with h|h;omega;exact hx b h)⟩
theorem q0u{α:Type}(l:List (Nat×α))(t:Nat)(v:α)(u:Nat):look (put l t v) u=if t=u then some v else look l u:=by
 induction l with
 |nil=>simp [put,look]
 |cons p l ih=>
  obtain⟨k,x⟩:=p
  simp only[put]
  by_cases hk:k=t
  ·subst hk
   simp only[if_true,look]
   split <;> rfl
  ·rw[if_neg hk]
   simp only[look,ih]
   by_cases hu:k=u
   ·subst hu
    rw[if_pos rfl,if_pos rfl,if_neg (fun h=>hk h.symm)]
   ·rw[if_neg hu,if_neg hu]
theorem q49{α:Type}(l:List α)(i:Nat)(x:α)(j:Nat):(l.set i x)[j]? = if i=j then(if j<l.length then some x else none) else l[j]?:=by
 rw[List.getElem?_set]
 by_cases h:i=j
 ·subst h;simp
 ·simp [h]
theorem z0U{blk blk':Blk}{i j e:Nat}{cells:List V}{cs vs:Array Value}(hs:blk.set i j cells=some blk')(hne:blk.n≤e)(hsz:cs.size=e*blk.k)
  (hrow:∀ i row,blk.row? i=some row→row.length=blk.k∧∀ j x,row[j]? = some x→∃ v,cs[i*blk.k+j]? = some v∧v.oneCell'=true∧RepV w F base σ v x)
  (hv:vs.size=cells.length) (hvs:∀(j:Nat) (v:Value) (x:V),vs[j]? = some v→cells[j]? = some x→RepV w F base σ v x) (h1:∀ v∈vs,v.oneCell'=true) :
  blk'.k=blk.k∧blk'.n=blk.n∧i*blk.k+j+vs.size≤cs.size∧
   ∀ i' row,blk'.row? i'=some row→row.length=blk.k∧∀ j' x,row[j']? = some x→
    ∃ v,((cs.toList.take (i*blk.k+j)++vs.toList++cs.toList.drop (i*blk.k+j+vs.size)).toArray)[i'*blk.k+j']? = some v∧v.oneCell'=true∧RepV w F base σ v x:=by
 -- the new cells, one by one
 have cell:∀(hle:i*blk.k+j+vs.size≤cs.size) (m:Nat),((cs.toList.take (i*blk.k+j)++vs.toList++cs.toList.drop (i*blk.k+j+vs.size)).toArray)[m]? =
   if i*blk.k+j≤m∧m<i*blk.k+j+vs.size then vs[m - (i*blk.k+j)]? else cs[m]?:=by
  intro hle m
  have:=q4o (off:=i*blk.k+j) (new:=vs.toList) (cells:=cs.toList) (by simpa using hle) m
  unfold splice at this
  simp only[Array.length_toList,Array.getElem?_toList] at this
  simpa using this
 have main:∀(row row':List V),blk.row? i=some row→j+cells.length≤row.length→row'.length=row.length→
   (∀ m x,row'[m]? = some x→(j≤m∧m<j+cells.length∧(∀ v y,cells[m - j]? = some y→RepV w F base σ v y→RepV w F base σ v x))∨(¬(j≤m∧m<j+cells.length)∧∃ y,row[m]? = some y∧∀ v,RepV w F base σ v y→RepV w F base σ v x))→
   (∀ i' r,blk'.row? i'=some r→(i'=i∧r=row')∨(i'≠i∧∃ r0,blk.row? i'=some r0∧r0.length=r.length∧∀(m:Nat) (x:V),r[m]? = some x→∃ y,r0[m]? = some y∧∀ v,RepV w F base σ v y→RepV w F base σ v x))→i<blk.n→
   i*blk.k+j+vs.size≤cs.size∧∀ i' row,blk'.row? i'=some row→row.length=blk.k∧∀ j' x,row[j']? = some x→
    ∃ v,((cs.toList.take (i*blk.k+j)++vs.toList++cs.toList.drop (i*blk.k+j+vs.size)).toArray)[i'*blk.k+j']? = some v∧v.oneCell'=true∧RepV w F base σ v x:=by
  intro row row' hr hj hlen hcell hrows hin
  obtain⟨hrl,hrc⟩:=hrow i row hr
  have hle:i*blk.k+j+vs.size≤cs.size:=by
   have:(i+1)*blk.k≤e*blk.k:=Nat.mul_le_mul_right _ (by omega)
   rw[Nat.add_mul,Nat.one_mul] at this
   omega
  refine⟨hle,fun i' r hr'=>?_⟩
  rcases hrows i' r hr' with⟨rfl,rfl⟩|⟨hne',r0,hr0,hl0,hc0⟩
  ·refine⟨by omega,fun m x hx=>?_⟩
   have hm:m<blk.k:=by have:=(List.getElem?_eq_some_iff.1 hx).1;omega
   rw[cell hle]
   rcases hcell m x hx with⟨g1,g2,g3⟩|⟨g1,y,hy,g3⟩
   ·rw[if_pos (by omega),show i'*blk.k+m - (i'*blk.k+j)=m - j by omega]
    have hlt:m - j<vs.size:=by omega
    have hv':vs[m - j]? = some vs[m - j]:=Array.getElem?_eq_getElem hlt
    have hy:cells[m - j]? = some (cells[m - j]'(by omega)):=List.getElem?_eq_getElem _
    exact⟨_,hv',h1 _ (Array.mem_of_getElem? hv'),g3 _ _ hy (hvs _ _ _ hv' hy)⟩
   ·rw[if_neg (by omega)]
    obtain⟨v,c1,c2,c3⟩:=hrc m y hy
    exact⟨v,c1,c2,g3 v c3⟩
  ·obtain⟨hrl0,hrc0⟩:=hrow i' r0 hr0
   refine⟨by omega,fun m x hx=>?_⟩
   have hm:m<blk.k:=by have:=(List.getElem?_eq_some_iff.1 hx).1;omega
   obtain⟨y,hy,g3⟩:=hc0 m x hx
   obtain⟨v,c1,c2,c3⟩:=hrc0 m y hy
   rw[cell hle,if_neg,]
   ·exact⟨v,c1,c2,g3 v c3⟩
   ·rcases Nat.lt_or_gt_of_ne hne' with h|h
    ·have:(i'+1)*blk.k≤i*blk.k:=Nat.mul_le_mul_right _ (by omega)
     rw[Nat.add_mul,Nat.one_mul] at this
     omega
    ·have:(i+1)*blk.k≤i'*blk.k:=Nat.mul_le_mul_right _ (by omega)
     rw[Nat.add_mul,Nat.one_mul] at this
     omega
 cases blk with
 |map es=>simp [Blk.set] at hs
 |dat c k rows=>
  simp only[Blk.set] at hs
  cases hri:rows[i]? with
  |none=>simp [hri] at hs
  |some row=>
   simp only[hri] at hs
   split at hs
   ·rename_i hj
    have hin:i<rows.length:=(List.getElem?_eq_some_iff.1 hri).1
    cases had:mapO asD cells with
    |some ds=>
     simp only[had,Option.some.injEq] at hs
     subst hs
     obtain⟨d1,d2⟩:=q0n had
     refine⟨rfl,by simp [Blk.n],?_⟩
     refine main (row.map (mkd c)) ((splice j ds row).map (mkd (c&&cells.all V.new1))) (by simp [Blk.row?,hri]) (by simpa using hj) (by simp [q3v (show j+ds.length≤row.length by omega)]) (fun m x hx=>?_) (fun i' r hr=>?_) hin
     ·simp only[List.getElem?_map,Option.map_eq_some_iff] at hx
      obtain⟨d,hd,rfl⟩:=hx
      rw[q4o (by omega)] at hd
      split at hd
      ·rename_i hm
       refine .inl ⟨hm.1,by omega,fun v y hy hR=>.mkd ?_⟩
       obtain⟨y',hy',hyd⟩:=q6o had hd
       rw[hy] at hy'
       obtain rfl:=Option.some.inj hy'
       obtain⟨r1,r2⟩:=q6S hyd hR
       cases hc:(c&&cells.all V.new1) with
       |false=>exact r1
       |true=>
        simp only[Bool.and_eq_true,List.all_eq_true] at hc
        exact r2 (hc.2 y (List.mem_of_getElem? hy))
      ·rename_i hm
       refine .inr ⟨by omega,mkd c d,by simp [hd],fun v hR=>.mkd ?_⟩
       cases hc:(c&&cells.all V.new1) with
       |false=>
        unfold mkd at hR
        split at hR
        ·cases hR with|d _ _ _ h=>exact h
        ·cases hR with|d _ _ _ h=>exact h.mono fun b hb=>⟨q2B hb,rfl⟩
       |true=>
        simp only[Bool.and_eq_true] at hc
        obtain rfl:=hc.1
        unfold mkd at hR
        split at hR
        ·rename_i hf;cases hR with|d _ _ _ h=>exact h.flat hf
        ·cases hR with|d _ _ _ h=>exact h
     ·simp only[Blk.row?,Option.map_eq_some_iff] at hr
      obtain⟨dr,hdr,rfl⟩:=hr
      rw[q49] at hdr
      split at hdr
      ·rename_i hii
       subst hii
       rw[if_pos hin] at hdr
       obtain rfl:=Option.some.inj hdr
       exact .inl ⟨rfl,rfl⟩
      ·rename_i hii
       refine .inr ⟨fun h=>hii h.symm,dr.map (mkd c),by simp [Blk.row?,hdr],by simp,fun m x hx=>?_⟩
       simp only[List.getElem?_map,Option.map_eq_some_iff] at hx
       obtain⟨d,hd,rfl⟩:=hx
       refine⟨mkd c d,by simp [hd],fun v hR=>.mkd ?_⟩
       cases hc:(c&&cells.all V.new1) with
       |false=>
        unfold mkd at hR
        split at hR
        ·cases hR with|d _ _ _ h=>exact h
        ·cases hR with|d _ _ _ h=>exact h.mono fun b hb=>⟨q2B hb,rfl⟩
       |true=>
        simp only[Bool.and_eq_true] at hc
        obtain rfl:=hc.1
        unfold mkd at hR
        split at hR
        ·rename_i hf;cases hR with|d _ _ _ h=>exact h.flat hf
        ·cases hR with|d _ _ _ h=>exact h
    |none=>
     simp only[had,Option.some.injEq] at hs
     subst hs
     refine⟨rfl,by simp [Blk.n],?_⟩
     refine main (row.map (mkd c)) (splice j cells (row.map (mkd c))) (by simp [Blk.row?,hri]) (by simpa using hj) (q3v (by simpa using hj)) (fun m x hx=>?_) (fun i' r hr=>?_) hin
     ·rw[q4o (by simpa using hj)] at hx
      split at hx
      ·rename_i hm
       exact .inl ⟨hm.1,hm.2,fun v y hy hR=>by rw[hx] at hy;obtain rfl:=Option.some.inj hy;exact hR⟩
      ·rename_i hm
       exact .inr ⟨hm,x,hx,fun v h=>h⟩
     ·simp only[Blk.row?] at hr
      rw[q49] at hr
      split at hr
      ·rename_i hii
       subst hii
       rw[if_pos (by simpa using hin)] at hr
       obtain rfl:=Option.some.inj hr
       exact .inl ⟨rfl,rfl⟩
      ·rename_i hii
       exact .inr ⟨fun h=>hii h.symm,r,by simpa [Blk.row?] using hr,rfl,fun m x hx=>⟨x,hx,fun v h=>h⟩⟩
   ·cases hs
 |mix k rows=>
  simp only[Blk.set] at hs
  cases hri:rows[i]? with
  |none=>simp [hri] at hs
  |some row=>
   simp only[hri] at hs
   split at hs
   ·rename_i hj
    have hin:i<rows.length:=(List.getElem?_eq_some_iff.1 hri).1
    obtain rfl:=Option.some.inj hs
    refine⟨rfl,by simp [Blk.n],?_⟩
    refine main row (splice j cells row) hri hj (q3v hj) (fun m x hx=>?_) (fun i' r hr=>?_) hin
    ·rw[q4o hj] at hx
     split at hx
     ·rename_i hm
      exact .inl ⟨hm.1,hm.2,fun v y hy hR=>by rw[hx] at hy;obtain rfl:=Option.some.inj hy;exact hR⟩
     ·rename_i hm
      exact .inr ⟨hm,x,hx,fun v h=>h⟩
    ·simp only[Blk.row?] at hr
     rw[q49] at hr
     split at hr
     ·rename_i hii
      subst hii
      rw[if_pos hin] at hr
      obtain rfl:=Option.some.inj hr
      exact .inl ⟨rfl,rfl⟩
     ·rename_i hii
      exact .inr ⟨fun h=>hii h.symm,r,hr,rfl,fun m x hx=>⟨x,hx,fun v h=>h⟩⟩
   ·cases hs
end Go.Vm
end
