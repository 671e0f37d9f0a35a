/-
  Parts of the proof: What slothlaw17.awake runs through, as the machine's text; what is known of the library. slothlaw17.awake: Check, Print, Read, Bytes, Load of the table of id. slothlaw17.awake: Load, and the whole. The machine's equations, in a form in which simp works from the inside out and stops where a test is open. Typed data in the machine: lists of structures as rows of cells. Maps, in equations for simp. Jumps, in equations. One name for the machine's equations. One name for more of the simp set. Tables of instructions as typed data. What the functions of packages peep and code come to: plain definitions. The document's answer for one instruction: its numbers, its needs, what lies behind it. The document's words on one instruction, and the program's. What code.Check comes to: plain definitions. code.Check. Functions of package code: what they come to. The document's Check: names, sizes, heads. code.checkCode. code.checkCode: the depths; the whole. The document's Check: numbers, depths. CodeEnds: what it says that Check lets a code pass: one depth for each instruction. CodeEnds: a way through a code. code.Check, the whole. The document's Check is what code.Check comes to. CodeEnds: its three turns, and the whole. Conditions: none.
-/
import Derived.Test.YtjpnaaebfdnccaaGreatDoorCodeChecksUptoCardSaidC
import Derived.KernelRfl
import Derived.Test.YtjpnaaebfdnccaaGreatDoorChecked
set_option linter.unusedVariables false
set_option linter.unusedSimpArgs false

section
namespace Go.Vm
set_option maxRecDepth 100000
open Go.RowKit Go.Shelf Go.Proofs
/- 'sloth/slothlaw17.awake' -/
def f11:Fun:=⟨ (.seq (.reg [⟨[],[],[(.bool false)],none,[],1,[],[],[]⟩]) (.seq (.reg [⟨[],[(1,(.str [115,104,97,112,101,32,34,70,97,108,115,101,34,32,48,10,115,104,97,112,101,32,34,84,114,117,101,34,32,48,10,115,104,97,112,101,32,34,85,110,105,116,34,32,48,10,115,104,97,112,101,32,34,78,105,108,34,32,48,10,115,104,97,112,101,32,34,67,111,110,115,34,32,50,10,115,104,97,112,101,32,34,80,97,105,114,34,32,50,10,115,104,97,112,101,32,34,84,114,105,112,108,101,34,32,51,10,103,108,111,98,97,108,32,34,105,100,34,32,49,10,32,32,112,117,115,104,32,48,10,32,32,117,112,100,97,116,101,32,50,10,32,32,112,111,112,32,49,10,32,32,117,110,119,105,110,100,10]))],[],none,[],1,[],[],[]⟩]) (.seq (.reg [⟨[],[(2,(.call 13 (.cons (.call 33 .nil) .nil)))],[],none,[1],3,[],[],[]⟩]) (.seq (.reg [⟨[],[(3,(.ext 0 (.call 19 (.cons (.call 33 .nil) .nil)))),(4,(.ext 1 (.call 19 (.cons (.call 33 .nil) .nil))))],[],none,[1,2],7,[],[],[]⟩]) (.seq (.reg [⟨[(5,.box (.agg (.cons (.nilsl 2) (.cons (.nilsl 3) .nil))))],[(24,(.ext 1 (.call 21 (.cons (.sl 1) .nil))))],[],some (none,.store 2 (.sl 5) (.ext 0 (.call 21 (.cons (.sl 1) .nil)))),[1,2,3,4,5],7,[],[],[]⟩,⟨[],[(6,(.sl 24))],[],none,[1,2,3,4,5],1,[],[],[]⟩]) (.seq (.reg [⟨[],[(7,(.ext 0 (.call 24 (.cons (.call 33 .nil) .nil)))),(8,(.ext 1 (.call 24 (.cons (.call 33 .nil) .nil))))],[],none,[1,2,3,4,5,6],7,[],[],[]⟩]) (.seq (.reg [⟨[(9,.box (.agg (.cons (.nilsl 2) (.cons (.nilsl 3) .nil))))],[(34,(.ext 1 (.call 27 (.cons (.sl 7) .nil))))],[],some (none,.store 2 (.sl 9) (.ext 0 (.call 27 (.cons (.sl 7) .nil)))),[1,2,3,4,5,6,7,8,9],7,[],[],[]⟩,⟨[],[(10,(.sl 34))],[],none,[1,2,3,4,5,6,7,8,9],1,[],[],[]⟩]) (.seq (.reg [⟨[],[(11,(.call 15 (.cons (.ld 2 true (.sl 5)) (.cons (.call 33 .nil) .nil))))],[],none,[1,2,3,4,6,7,8,9,10],4,[[],[],[1,0],[0,1,2]],[],[]⟩]) (.seq (.reg [⟨[],[(12,(.call 15 (.cons (.ld 2 true (.sl 9)) (.cons (.call 33 .nil) .nil))))],[],none,[1,2,3,4,6,7,8,10,11],4,[[],[],[1,0],[0,1,2]],[],[]⟩]) (.seq (.reg [⟨[],[(0,(.and (.and (.and (.and (.and (.and (.and (.and (.bin .eql (.sl 2) (.int .i64 0)) (.bin .eql (.sl 4) (.int .i64 0))) (.bin .eql (.sl 3) (.sl 1))) (.bin .eql (.sl 6) (.int .i64 0))) (.bin .eql (.sl 8) (.int .i64 0))) (.bin .gtr (.len false (.sl 7)) (.int .i64 20))) (.bin .eql (.sl 10) (.int .i64 0))) (.sl 11)) (.sl 12)))],[],none,[],35,[],[],[]⟩]) (.seq (.tidy 0 [0]) .ret))))))))))), [(.sl 0)],false⟩
theorem j1I:q0J Go.Proofs.Tryz.prog 11 0 0 f11=true:=by kernel_rfl
/- 'sloth/slothref17.Same' -/
def f15_L0:C:= (.seq (.seq (.reg [⟨[],[(30,(.bin .lss (.sl 5) (.len false (.ld 1 false (.fa 0 (.sl 2))))))],[],none,[2,3,5],5,[],[],[]⟩]) (.cond (.sl 30) .skip (.seq (.tidy 0 [2,3]) (.exit 0)))) (.seq (.block 1 (.seq (.reg [⟨[],[(43,(.eqs true true [2,0] (.ld 2 true (.ia 2 (.ld 1 false (.fa 0 (.sl 2))) (.sl 5))) (.ld 2 true (.ia 2 (.ld 1 false (.fa 0 (.sl 3))) (.sl 5)))))],[],none,[2,3,5],11,[[],[0],[],[2,0,1],[1,0,2,3],[],[5],[],[7,5,6],[6,5,7,8],[8,7,5,6,9,3,2,0,1,4]],[],[]⟩]) (.cond (.sl 43) (.seq (.reg [⟨[],[(4,(.bool false))],[],none,[],1,[],[],[]⟩]) (.seq (.tidy 0 [4]) .ret)) .skip))) (.reg [⟨[],[(5,(.bin .add (.sl 5) (.int .i64 1)))],[],none,[2,3],3,[],[],[]⟩])))
def f15_L1:C:= (.seq (.seq (.reg [⟨[],[(86,(.bin .lss (.sl 9) (.len false (.ld 1 false (.fa 2 (.sl 7))))))],[],none,[2,3,6,7,8,9],5,[],[],[]⟩]) (.cond (.sl 86) .skip (.seq (.tidy 0 [2,3,6]) (.exit 4)))) (.seq (.block 5 (.seq (.reg [⟨[],[(99,(.eqs true true [0,0,0] (.ld 3 true (.ia 3 (.ld 1 false (.fa 2 (.sl 7))) (.sl 9))) (.ld 3 true (.ia 3 (.ld 1 false (.fa 2 (.sl 8))) (.sl 9)))))],[],none,[2,3,6,7,8,9],11,[[],[0],[],[2,0,1],[1,0,2,3],[],[5],[],[7,5,6],[6,5,7,8],[8,7,5,6,9,3,2,0,1,4]],[],[]⟩]) (.cond (.sl 99) (.seq (.reg [⟨[],[(4,(.bool false))],[],none,[],1,[],[],[]⟩]) (.seq (.tidy 0 [4]) .ret)) .skip))) (.reg [⟨[],[(9,(.bin .add (.sl 9) (.int .i64 1)))],[],none,[2,3,6,7,8],3,[],[],[]⟩])))
def f15_L2:C:= (.seq (.seq (.reg [⟨[],[(48,(.bin .lss (.sl 6) (.len false (.ld 1 false (.fa 1 (.sl 2))))))],[],none,[2,3,6],5,[],[],[]⟩]) (.cond (.sl 48) .skip (.seq (.tidy 0 []) (.exit 2)))) (.seq (.block 3 (.seq (.reg [⟨[(7,.box (.agg (.cons (.str []) (.cons (.int .i64 0) (.cons (.nilsl 3) .nil)))))],[],[],some (none,.store 3 (.sl 7) (.ld 3 true (.ia 3 (.ld 1 false (.fa 1 (.sl 2))) (.sl 6)))),[2,3,6,7],7,[],[],[]⟩]) (.seq (.reg [⟨[(8,.box (.agg (.cons (.str []) (.cons (.int .i64 0) (.cons (.nilsl 3) .nil)))))],[],[],some (none,.store 3 (.sl 8) (.ld 3 true (.ia 3 (.ld 1 false (.fa 1 (.sl 3))) (.sl 6)))),[2,3,6,7,8],7,[],[],[]⟩]) (.seq (.seq (.reg [⟨[],[(81,(.or (.or (.bin .neq (.ld 1 false (.fa 0 (.sl 7))) (.ld 1 false (.fa 0 (.sl 8)))) (.bin .neq (.ld 1 false (.fa 1 (.sl 7))) (.ld 1 false (.fa 1 (.sl 8))))) (.bin .neq (.len false (.ld 1 false (.fa 2 (.sl 7)))) (.len false (.ld 1 false (.fa 2 (.sl 8)))))))],[],none,[2,3,6,7,8],21,[],[],[]⟩]) (.cond (.sl 81) (.seq (.reg [⟨[],[(4,(.bool false))],[],none,[],1,[],[],[]⟩]) (.seq (.tidy 0 [4]) .ret)) .skip)) (.seq (.reg [⟨[],[(9,(.int .i64 0))],[],none,[2,3,6,7,8],1,[],[],[]⟩]) (.block 4 (.seq (.tidy 0 [2,3,6,7,8,9]) (.loop (.seq (.tidy 0 [2,3,6,7,8,9]) f15_L1))))))))) (.reg [⟨[],[(6,(.bin .add (.sl 6) (.int .i64 1)))],[],none,[2,3],3,[],[],[]⟩])))
def f15:Fun:=⟨ (.seq (.reg [⟨[(2,.box (.sl 0)),(3,.box (.sl 1))],[],[(.bool false)],none,[2,3],3,[],[],[]⟩]) (.seq (.seq (.reg [⟨[],[(25,(.or (.bin .neq (.len false (.ld 1 false (.fa 0 (.sl 2)))) (.len false (.ld 1 false (.fa 0 (.sl 3))))) (.bin .neq (.len false (.ld 1 false (.fa 1 (.sl 2)))) (.len false (.ld 1 false (.fa 1 (.sl 3)))))))],[],none,[2,3],16,[],[],[]⟩]) (.cond (.sl 25) (.seq (.reg [⟨[],[(4,(.bool false))],[],none,[],1,[],[],[]⟩]) (.seq (.tidy 0 [4]) .ret)) .skip)) (.seq (.seq (.reg [⟨[],[(5,(.int .i64 0))],[],none,[2,3],1,[],[],[]⟩]) (.block 0 (.seq (.tidy 0 [2,3,5]) (.loop (.seq (.tidy 0 [2,3,5]) f15_L0))))) (.seq (.seq (.reg [⟨[],[(6,(.int .i64 0))],[],none,[2,3],1,[],[],[]⟩]) (.block 2 (.seq (.tidy 0 [2,3,6]) (.loop (.seq (.tidy 0 [2,3,6]) f15_L2))))) (.seq (.reg [⟨[],[(4,(.bool true))],[],none,[],1,[],[],[]⟩]) (.seq (.tidy 0 [4]) .ret)))))), [(.sl 4)],false⟩
theorem j1E:q0J Go.Proofs.Tryz.prog 15 0 2 f15=true:=by kernel_rfl
/- 'sloth/code.Print' -/
def j1D:C:= (.seq (.reg [⟨[],[(21,(.bin .lss (.sl 20) (.sl 19)))],[],none,[1,5,18,19,20],1,[],[],[]⟩]) (.seq (.cond (.sl 21) .skip (.seq (.tidy 0 [1,5]) (.exit 0))) (.seq (.block 1 (.seq (.reg [⟨[(7,.box (.agg (.cons (.str []) (.cons (.int .i64 0) .nil))))],[],[],some (none,.store 2 (.sl 7) (.ld 2 true (.ia 2 (.sl 18) (.sl 20)))),[1,5,7,18,19,20],4,[],[],[]⟩]) (.reg [⟨[],[],[],some (some 34,.calle 47 (.cons (.sl 5) (.cons (.bin .add (.bin .add (.bin .add (.bin .add (.str [115,104,97,112,101,32]) (.call 48 (.cons (.ld 1 false (.fa 0 (.sl 7))) .nil))) (.str [32])) (.call 49 (.cons (.ld 1 false (.fa 1 (.sl 7))) .nil))) (.str [10])) .nil))),[1,5,18,19,20],11,[[],[0],[0,1],[1,0,2],[2,0,1,3],[],[5],[1,0,2,5,6],[6,5,7,3,1,0,2,4],[4,2,0,1,3,7,5,6,8],[8,6,5,7,3,1,0,2,4,9]],[],[]⟩]))) (.reg [⟨[],[(20,(.bin .add (.sl 20) (.int .i64 1)))],[],none,[1,5,18,19],2,[],[],[]⟩]))))
def j1C:C:= (.seq (.reg [⟨[],[(58,(.bin .lss (.sl 57) (.sl 56)))],[],none,[1,5,37,38,39,55,56,57],1,[],[],[]⟩]) (.seq (.cond (.sl 58) .skip (.seq (.tidy 0 [1,5,37,38,39]) (.exit 4))) (.seq (.block 5 (.seq (.reg [⟨[(11,.box (.agg (.cons (.int .i64 0) (.cons (.int .i64 0) (.cons (.int .i64 0) .nil)))))],[],[],some (none,.store 3 (.sl 11) (.ld 3 true (.ia 3 (.sl 55) (.sl 57)))),[1,5,11,37,38,39,55,56,57],4,[],[],[]⟩]) (.reg [⟨[],[],[],some (some 64,.calle 47 (.cons (.sl 5) (.cons (.call 50 (.cons (.ld 2 true (.sl 1)) (.cons (.ld 3 true (.sl 11)) .nil))) .nil))),[1,5,37,38,39,55,56,57],4,[],[],[]⟩]))) (.reg [⟨[],[(57,(.bin .add (.sl 57) (.int .i64 1)))],[],none,[1,5,37,38,39,55,56],2,[],[],[]⟩]))))
def j1B:C:= (.seq (.reg [⟨[],[(40,(.bin .lss (.sl 39) (.sl 38)))],[],none,[1,5,37,38,39],1,[],[],[]⟩]) (.seq (.cond (.sl 40) .skip (.seq (.tidy 0 [5]) (.exit 2))) (.seq (.block 3 (.seq (.reg [⟨[(9,.box (.agg (.cons (.str []) (.cons (.int .i64 0) (.cons (.nilsl 3) .nil)))))],[],[],some (none,.store 3 (.sl 9) (.ld 3 true (.ia 3 (.sl 37) (.sl 39)))),[1,5,9,37,38,39],4,[],[],[]⟩]) (.seq (.reg [⟨[],[],[],some (some 53,.calle 47 (.cons (.sl 5) (.cons (.bin .add (.bin .add (.bin .add (.bin .add (.str [103,108,111,98,97,108,32]) (.call 48 (.cons (.ld 1 false (.fa 0 (.sl 9))) .nil))) (.str [32])) (.call 49 (.cons (.ld 1 false (.fa 1 (.sl 9))) .nil))) (.str [10])) .nil))),[1,5,9,37,38,39],11,[[],[0],[0,1],[1,0,2],[2,0,1,3],[],[5],[1,0,2,5,6],[6,5,7,3,1,0,2,4],[4,2,0,1,3,7,5,6,8],[8,6,5,7,3,1,0,2,4,9]],[],[]⟩]) (.seq (.seq (.reg [⟨[],[(55,(.ld 1 false (.fa 2 (.sl 9)))),(56,(.len false (.ld 1 false (.fa 2 (.sl 9))))),(57,(.int .i64 0))],[],none,[1,5,37,38,39],4,[],[],[]⟩]) (.block 4 (.seq (.tidy 0 [1,5,37,38,39,55,56,57]) (.loop (.seq (.tidy 0 [1,5,37,38,39,55,56,57]) j1C))))) (.seq (.reg [⟨[],[],[],some (some 66,.calle 51 (.cons (.sl 5) .nil)),[1,5,37,38,39],1,[],[],[]⟩,⟨[],[(67,(.bin .gtr (.sl 66) (.int .i64 8388608)))],[],none,[1,5,37,38,39],1,[],[],[]⟩]) (.cond (.sl 67) (.seq (.reg [⟨[],[(2,(.str [])),(3,(.int .i64 4))],[],none,[],2,[],[],[]⟩]) (.seq (.tidy 0 [2,3]) .ret)) .skip)))))) (.reg [⟨[],[(39,(.bin .add (.sl 39) (.int .i64 1)))],[],none,[1,5,37,38],2,[],[],[]⟩]))))
def f19:Fun:=⟨ (.seq (.reg [⟨[(1,.box (.sl 0))],[],[(.int .i64 0),(.str [])],none,[1],3,[],[],[]⟩]) (.seq (.seq (.reg [⟨[],[(4,(.call 13 (.cons (.ld 2 true (.sl 1)) .nil)))],[],none,[1],3,[],[],[]⟩]) (.seq (.reg [⟨[],[(15,(.bin .neq (.sl 4) (.int .i64 0)))],[],none,[1,4],2,[],[],[]⟩]) (.cond (.sl 15) (.seq (.reg [⟨[],[(2,(.str [])),(3,(.sl 4))],[],none,[],3,[],[],[]⟩]) (.seq (.tidy 0 [2,3]) .ret)) .skip))) (.seq (.reg [⟨[(5,.bld 78 5)],[],[],none,[1,5],1,[],[],[]⟩]) (.seq (.seq (.reg [⟨[],[(18,(.ld 1 false (.fa 0 (.sl 1)))),(19,(.len false (.ld 1 false (.fa 0 (.sl 1))))),(20,(.int .i64 0))],[],none,[1,5],4,[],[],[]⟩]) (.block 0 (.seq (.tidy 0 [1,5,18,19,20]) (.loop (.seq (.tidy 0 [1,5,18,19,20]) j1D))))) (.seq (.seq (.reg [⟨[],[(37,(.ld 1 false (.fa 1 (.sl 1)))),(38,(.len false (.ld 1 false (.fa 1 (.sl 1))))),(39,(.int .i64 0))],[],none,[1,5],4,[],[],[]⟩]) (.block 2 (.seq (.tidy 0 [1,5,37,38,39]) (.loop (.seq (.tidy 0 [1,5,37,38,39]) j1B))))) (.seq (.seq (.reg [⟨[],[],[],some (some 69,.calle 51 (.cons (.sl 5) .nil)),[5],1,[],[],[]⟩,⟨[],[(70,(.bin .gtr (.sl 69) (.int .i64 8388608)))],[],none,[5],1,[],[],[]⟩]) (.cond (.sl 70) (.seq (.reg [⟨[],[(2,(.str [])),(3,(.int .i64 4))],[],none,[],2,[],[],[]⟩]) (.seq (.tidy 0 [2,3]) .ret)) .skip)) (.seq (.reg [⟨[],[],[],some (some 71,.calle 52 (.cons (.sl 5) .nil)),[],1,[],[],[]⟩,⟨[],[(2,(.sl 71)),(3,(.int .i64 0))],[],none,[],2,[],[],[]⟩]) (.seq (.tidy 0 [2,3]) .ret)))))))), [(.sl 2),(.sl 3)],false⟩
/- 'sloth/code.Read' -/
def f21:Fun:=⟨ (.seq (.reg [⟨[(2,.box (.agg (.cons (.nilsl 2) (.cons (.nilsl 3) .nil)))),(3,.box (.int .i64 0))],[],[],none,[0,2,3],2,[],[],[]⟩]) (.seq (.seq (.reg [⟨[],[(7,(.bin .gtr (.len true (.sl 0)) (.int .i64 8388608)))],[],none,[0,2,3],3,[],[],[]⟩]) (.cond (.sl 7) (.seq (.reg [⟨[],[],[],some (none,.store 2 (.sl 2) (.agg (.cons (.nilsl 2) (.cons (.nilsl 3) .nil)))),[2,3],2,[],[],[]⟩,⟨[],[],[],some (none,.store 1 (.sl 3) (.int .i64 2)),[2,3],1,[],[],[]⟩]) (.seq (.tidy 0 [2,3]) .ret)) .skip)) (.seq .stuck (.seq (.reg [⟨[(12,.box (.set 0 1 (.sl 0) (.agg (.cons (.str []) (.cons (.int .i64 0) (.cons (.nilsl 3) (.cons (.nilsl 2) (.cons (.nilsl 3) .nil))))))))],[(4,(.sl 12))],[],none,[2,3],4,[],[],[]⟩]) (.seq (.reg [⟨[],[],[],some (some 14,.calle 60 (.cons (.sl 4) .nil)),[2,3,4],2,[],[],[]⟩]) (.seq (.reg [⟨[],[],[],some (some 16,.calle 61 (.cons (.sl 4) .nil)),[2,3,4],2,[],[],[]⟩]) (.seq (.seq (.reg [⟨[],[(21,(.call 34 (.cons (.ld 2 true (.fa 3 (.fa 0 (.sl 4)))) .nil)))],[],none,[2,3,4],5,[],[],[]⟩]) (.cond (.sl 21) (.seq (.reg [⟨[],[],[],some (none,.store 2 (.sl 2) (.agg (.cons (.nilsl 2) (.cons (.nilsl 3) .nil)))),[2,3],2,[],[],[]⟩,⟨[],[],[],some (none,.store 1 (.sl 3) (.int .i64 4)),[2,3],1,[],[],[]⟩]) (.seq (.tidy 0 [2,3]) .ret)) .skip)) (.seq (.reg [⟨[],[],[],some (none,.store 2 (.sl 2) (.ld 2 true (.fa 3 (.fa 0 (.sl 4))))),[2,3],5,[],[],[]⟩,⟨[],[],[],some (none,.store 1 (.sl 3) (.int .i64 0)),[2,3],1,[],[],[]⟩]) (.seq (.tidy 0 [2,3]) .ret))))))))), [(.ld 2 true (.sl 2)),(.ld 1 false (.sl 3))],false⟩
/- 'sloth/code.Bytes' -/
def j1A:C:= (.seq (.reg [⟨[],[(28,(.bin .lss (.sl 27) (.sl 26)))],[],none,[1,5,25,26,27],1,[],[],[]⟩]) (.seq (.cond (.sl 28) .skip (.seq (.tidy 0 [1,5]) (.exit 0))) (.seq (.block 1 (.seq (.reg [⟨[(7,.box (.agg (.cons (.str []) (.cons (.int .i64 0) .nil))))],[],[],some (none,.store 2 (.sl 7) (.ld 2 true (.ia 2 (.sl 25) (.sl 27)))),[1,5,7,25,26,27],4,[],[],[]⟩]) (.reg [⟨[],[(37,(.conv .u64 (.ld 1 false (.fa 1 (.sl 7)))))],[],some (some 34,.calle 69 (.cons (.sl 5) (.cons (.ld 1 false (.fa 0 (.sl 7))) .nil))),[1,25,26,27],7,[[],[],[1],[1,2,0],[],[4],[4,5],[5,4,6,0,2,1,3],[3,1,2,0,6,4,5,7]],[],[(.fa 1 (.sl 7)),(.ld 1 false (.fa 1 (.sl 7))),(.conv .u64 (.ld 1 false (.fa 1 (.sl 7))))]⟩,⟨[],[],[],some (some 38,.calle 68 (.cons (.sl 34) (.cons (.sl 37) .nil))),[1,25,26,27],1,[],[],[]⟩,⟨[],[(5,(.sl 38))],[],none,[1,25,26,27],1,[],[],[]⟩]))) (.reg [⟨[],[(27,(.bin .add (.sl 27) (.int .i64 1)))],[],none,[1,5,25,26],2,[],[],[]⟩]))))
def j1z:C:= (.seq (.reg [⟨[],[(70,(.bin .lss (.sl 69) (.sl 68)))],[],none,[5,47,48,49,67,68,69],1,[],[],[]⟩]) (.seq (.cond (.sl 70) .skip (.seq (.tidy 0 [5,47,48,49]) (.exit 4))) (.seq (.block 5 (.seq (.reg [⟨[(11,.box (.agg (.cons (.int .i64 0) (.cons (.int .i64 0) (.cons (.int .i64 0) .nil)))))],[],[],some (none,.store 3 (.sl 11) (.ld 3 true (.ia 3 (.sl 67) (.sl 69)))),[5,11,47,48,49,67,68,69],4,[],[],[]⟩]) (.reg [⟨[],[],[],some (some 75,.calle 70 (.cons (.sl 5) (.cons (.ld 3 true (.sl 11)) .nil))),[47,48,49,67,68,69],3,[],[],[]⟩,⟨[],[(5,(.sl 75))],[],none,[47,48,49,67,68,69],1,[],[],[]⟩]))) (.reg [⟨[],[(69,(.bin .add (.sl 69) (.int .i64 1)))],[],none,[5,47,48,49,67,68],2,[],[],[]⟩]))))
def j1y:C:= (.seq (.reg [⟨[],[(50,(.bin .lss (.sl 49) (.sl 48)))],[],none,[5,47,48,49],1,[],[],[]⟩]) (.seq (.cond (.sl 50) .skip (.seq (.tidy 0 [5]) (.exit 2))) (.seq (.block 3 (.seq (.reg [⟨[(9,.box (.agg (.cons (.str []) (.cons (.int .i64 0) (.cons (.nilsl 3) .nil)))))],[],[],some (none,.store 3 (.sl 9) (.ld 3 true (.ia 3 (.sl 47) (.sl 49)))),[5,9,47,48,49],4,[],[],[]⟩]) (.seq (.regp [0,1,2,4,5,6,8,9,10,11,3,7,12,13] [⟨[],[],[(.conv .u64 (.len false (.ld 1 false (.fa 2 (.sl 9))))),(.conv .u64 (.ld 1 false (.fa 1 (.sl 9))))],some (some 56,.calle 69 (.cons (.sl 5) (.cons (.ld 1 false (.fa 0 (.sl 9))) .nil))),[9,47,48,49],11,[[],[],[1],[],[3],[3,4],[],[6],[6,7],[7,6,8],[1,2,0],[4,3,5,0,2,1,10],[8,6,7,9,10,1,2,0,5,3,4,11],[11,4,3,5,0,2,1,10,9,7,6,8,12]],[],[(.fa 1 (.sl 9)),(.ld 1 false (.fa 1 (.sl 9))),(.conv .u64 (.ld 1 false (.fa 1 (.sl 9)))),(.fa 2 (.sl 9)),(.ld 1 false (.fa 2 (.sl 9))),(.len false (.ld 1 false (.fa 2 (.sl 9)))),(.conv .u64 (.len false (.ld 1 false (.fa 2 (.sl 9)))))]⟩,⟨[],[],[(.conv .u64 (.len false (.ld 1 false (.fa 2 (.sl 9)))))],some (some 60,.calle 68 (.cons (.sl 56) (.cons (.conv .u64 (.ld 1 false (.fa 1 (.sl 9)))) .nil))),[9,47,48,49],1,[],[],[(.fa 2 (.sl 9)),(.ld 1 false (.fa 2 (.sl 9))),(.len false (.ld 1 false (.fa 2 (.sl 9)))),(.conv .u64 (.len false (.ld 1 false (.fa 2 (.sl 9)))))]⟩,⟨[],[],[],some (some 65,.calle 68 (.cons (.sl 60) (.cons (.conv .u64 (.len false (.ld 1 false (.fa 2 (.sl 9))))) .nil))),[9,47,48,49],1,[],[],[]⟩,⟨[],[(5,(.sl 65))],[],none,[9,47,48,49],1,[],[],[]⟩]) (.seq (.reg [⟨[],[(67,(.ld 1 false (.fa 2 (.sl 9)))),(68,(.len false (.ld 1 false (.fa 2 (.sl 9))))),(69,(.int .i64 0))],[],none,[5,47,48,49],4,[],[],[]⟩]) (.block 4 (.seq (.tidy 0 [5,47,48,49,67,68,69]) (.loop (.seq (.tidy 0 [5,47,48,49,67,68,69]) j1z)))))))) (.reg [⟨[],[(49,(.bin .add (.sl 49) (.int .i64 1)))],[],none,[5,47,48],2,[],[],[]⟩]))))
def f24:Fun:=⟨ (.seq (.reg [⟨[(1,.box (.sl 0))],[],[(.int .i64 0),(.nilsl 1)],none,[1],3,[],[],[]⟩]) (.seq (.seq (.reg [⟨[],[(4,(.call 13 (.cons (.ld 2 true (.sl 1)) .nil)))],[],none,[1],3,[],[],[]⟩]) (.seq (.reg [⟨[],[(15,(.bin .neq (.sl 4) (.int .i64 0)))],[],none,[1,4],2,[],[],[]⟩]) (.cond (.sl 15) (.seq (.reg [⟨[],[(2,(.nilsl 1)),(3,(.sl 4))],[],none,[],3,[],[],[]⟩]) (.seq (.tidy 0 [2,3]) .ret)) .skip))) (.seq (.reg [⟨[(17,.lits 1 (.cons (.int .u8 83) (.cons (.int .u8 76) (.cons (.int .u8 84) (.cons (.int .u8 72) .nil)))))],[],[],none,[1,17],1,[],[],[]⟩,⟨[],[],[],some (some 18,.mark (.sl 17)),[1],1,[],[],[]⟩,⟨[],[],[],some (some 23,.calle 68 (.cons (.sl 18) (.cons (.conv .u64 (.len false (.ld 1 false (.fa 0 (.sl 1))))) .nil))),[1],5,[],[],[]⟩,⟨[],[(5,(.sl 23))],[],none,[1],1,[],[],[]⟩]) (.seq (.seq (.reg [⟨[],[(25,(.ld 1 false (.fa 0 (.sl 1)))),(26,(.len false (.ld 1 false (.fa 0 (.sl 1))))),(27,(.int .i64 0))],[],none,[1,5],4,[],[],[]⟩]) (.block 0 (.seq (.tidy 0 [1,5,25,26,27]) (.loop (.seq (.tidy 0 [1,5,25,26,27]) j1A))))) (.seq (.reg [⟨[],[],[],some (some 45,.calle 68 (.cons (.sl 5) (.cons (.conv .u64 (.len false (.ld 1 false (.fa 1 (.sl 1))))) .nil))),[1],6,[],[],[]⟩,⟨[],[(5,(.sl 45))],[],none,[1],1,[],[],[]⟩]) (.seq (.seq (.reg [⟨[],[(47,(.ld 1 false (.fa 1 (.sl 1)))),(48,(.len false (.ld 1 false (.fa 1 (.sl 1))))),(49,(.int .i64 0))],[],none,[5],4,[],[],[]⟩]) (.block 2 (.seq (.tidy 0 [5,47,48,49]) (.loop (.seq (.tidy 0 [5,47,48,49]) j1y))))) (.seq (.reg [⟨[],[],[],some (some 82,.app 1 (.sl 5) (.call 71 (.cons (.call 72 (.cons (.sl 5) .nil)) .nil))),[],5,[],[],[]⟩,⟨[],[(5,(.sl 82))],[],none,[],1,[],[],[]⟩]) (.seq (.seq (.reg [⟨[],[(85,(.bin .gtr (.len false (.sl 5)) (.int .i64 8388608)))],[],none,[5],3,[],[],[]⟩]) (.cond (.sl 85) (.seq (.reg [⟨[],[(2,(.nilsl 1)),(3,(.int .i64 4))],[],none,[],2,[],[],[]⟩]) (.seq (.tidy 0 [2,3]) .ret)) .skip)) (.seq (.reg [⟨[],[(2,(.sl 5)),(3,(.int .i64 0))],[],none,[],3,[],[],[]⟩]) (.seq (.tidy 0 [2,3]) .ret)))))))))), [(.sl 2),(.sl 3)],false⟩
/- 'sloth/code.Load' -/
def f27:Fun:=⟨ (.seq (.reg [⟨[(2,.box (.agg (.cons (.nilsl 2) (.cons (.nilsl 3) .nil)))),(3,.box (.int .i64 0))],[],[],none,[0,2,3],2,[],[],[]⟩]) (.seq (.seq (.reg [⟨[],[(8,(.bin .gtr (.len false (.sl 0)) (.int .i64 8388608)))],[],none,[0,2,3],3,[],[],[]⟩]) (.cond (.sl 8) (.seq (.reg [⟨[],[],[],some (none,.store 2 (.sl 2) (.agg (.cons (.nilsl 2) (.cons (.nilsl 3) .nil)))),[2,3],2,[],[],[]⟩,⟨[],[],[],some (none,.store 1 (.sl 3) (.int .i64 2)),[2,3],1,[],[],[]⟩]) (.seq (.tidy 0 [2,3]) .ret)) .skip)) (.seq .stuck (.seq (.reg [⟨[],[(4,(.bin .sub (.len false (.sl 0)) (.int .i64 4)))],[],none,[0,2,3],4,[],[],[]⟩]) (.seq (.seq (.reg [⟨[],[(34,(.or (.or (.bin .lss (.sl 4) (.int .i64 4)) (.bin .neq (.b2s (.cut false false true false 1 (.sl 0) .nil (.int .i64 4) .nil)) (.str [83,76,84,72]))) (.bin .neq (.b2s (.call 71 (.cons (.call 72 (.cons (.cut false false true false 1 (.sl 0) .nil (.sl 4) .nil) .nil)) .nil))) (.b2s (.cut false true false false 1 (.sl 0) (.sl 4) .nil .nil)))))],[],none,[0,2,3,4],21,[[],[0],[0,1],[1,0,2],[2,0,1,3],[3,1,0,2,4],[4,2,0,1,3,5],[5,3,4,6,1,0,2],[2,0,1,6,4,3,5,7],[7,5,3,4,6,1,0,2,8],[7,5,3,4,6,1,0,2,8],[10,8,2,0,1,6,4,3,5,7,9],[9,7,5,3,4,6,1,0,2,8,10,11],[11,10,8,2,0,1,6,4,3,5,7,9,12],[12,9,7,5,3,4,6,1,0,2,8,10,11,13],[7,5,3,4,6,1,0,2,8],[7,5,3,4,6,1,0,2,8],[16,8,2,0,1,6,4,3,5,7,15],[15,7,5,3,4,6,1,0,2,8,16,17],[17,16,15,18,13,11,10,8,2,0,1,6,4,3,5,7,9,12,14],[14,12,9,10,11,13,18,15,16,17,19,7,5,3,4,6,1,0,2,8]],[],[]⟩]) (.cond (.sl 34) (.seq (.reg [⟨[],[],[],some (none,.store 2 (.sl 2) (.agg (.cons (.nilsl 2) (.cons (.nilsl 3) .nil)))),[2,3],2,[],[],[]⟩,⟨[],[],[],some (none,.store 1 (.sl 3) (.int .i64 171)),[2,3],1,[],[],[]⟩]) (.seq (.tidy 0 [2,3]) .ret)) .skip)) (.seq (.reg [⟨[(40,.box (.set 0 1 (.cut false true true false 1 (.sl 0) (.int .i64 4) (.sl 4) .nil) (.agg (.cons (.nilsl 1) .nil))))],[(5,(.sl 40))],[],none,[2,3],6,[],[],[]⟩]) (.seq (.reg [⟨[],[],[],some (some 42,.calle 77 (.cons (.sl 5) .nil)),[2,3,5],2,[],[],[]⟩,⟨[],[],[],some (none,.store 2 (.sl 2) (.sl 42)),[2,3,5],1,[],[],[]⟩]) (.seq (.seq (.reg [⟨[],[(53,(.or (.bin .gtr (.len false (.ld 1 false (.fa 0 (.fa 0 (.sl 5))))) (.int .i64 0)) (.bin .neq (.call 13 (.cons (.ld 2 true (.sl 2)) .nil)) (.int .i64 0))))],[],none,[2,3],11,[],[],[]⟩]) (.cond (.sl 53) (.seq (.reg [⟨[],[],[],some (none,.store 2 (.sl 2) (.agg (.cons (.nilsl 2) (.cons (.nilsl 3) .nil)))),[2,3],2,[],[],[]⟩,⟨[],[],[],some (none,.store 1 (.sl 3) (.int .i64 171)),[2,3],1,[],[],[]⟩]) (.seq (.tidy 0 [2,3]) .ret)) .skip)) (.seq (.reg [⟨[],[],[],some (none,.store 2 (.sl 2) (.ld 2 true (.sl 2))),[2,3],2,[],[],[]⟩,⟨[],[],[],some (none,.store 1 (.sl 3) (.int .i64 0)),[2,3],1,[],[],[]⟩]) (.seq (.tidy 0 [2,3]) .ret)))))))))), [(.ld 2 true (.sl 2)),(.ld 1 false (.sl 3))],false⟩
/- 'sloth/slothlaw17.id' -/
def f33:Fun:=⟨ (.seq (.reg [⟨[(0,.box (.agg (.cons (.nilsl 2) (.cons (.nilsl 3) .nil))))],[],[],none,[0],1,[],[],[]⟩]) (.seq (.reg [⟨[(6,.lits 3 (.cons (.set 0 1 (.int .i64 1) (.agg (.cons (.int .i64 0) (.cons (.int .i64 0) (.cons (.int .i64 0) .nil))))) (.cons (.set 1 1 (.int .i64 2) (.set 0 1 (.int .i64 7) (.agg (.cons (.int .i64 0) (.cons (.int .i64 0) (.cons (.int .i64 0) .nil)))))) (.cons (.set 1 1 (.int .i64 1) (.set 0 1 (.int .i64 4) (.agg (.cons (.int .i64 0) (.cons (.int .i64 0) (.cons (.int .i64 0) .nil)))))) (.cons (.set 0 1 (.int .i64 17) (.agg (.cons (.int .i64 0) (.cons (.int .i64 0) (.cons (.int .i64 0) .nil))))) .nil)))))],[(1,(.sl 6))],[],none,[0],6,[],[],[]⟩]) (.seq (.reg [⟨[(7,.callo 78 .nil),(10,.lits 3 (.cons (.set 2 1 (.sl 1) (.set 1 1 (.int .i64 1) (.set 0 1 (.str [105,100]) (.agg (.cons (.str []) (.cons (.int .i64 0) (.cons (.nilsl 3) .nil))))))) .nil))],[],[],some (none,.store 2 (.sl 0) (.set 1 1 (.sl 10) (.set 0 1 (.sl 7) (.agg (.cons (.nilsl 2) (.cons (.nilsl 3) .nil)))))),[0],6,[],[],[]⟩]) (.seq (.tidy 0 [0]) .ret)))), [(.ld 2 true (.sl 0))],false⟩
/- 'sloth/code.quote' -/
def f48:Fun:=⟨ (.seq (.reg [⟨[],[],[(.str [])],none,[0],1,[],[],[]⟩]) (.seq (.reg [⟨[],[(2,(.bin .add (.bin .add (.str [34]) (.call 88 (.cons (.call 88 (.cons (.sl 0) (.cons (.str [92]) (.cons (.str [92,92]) .nil)))) (.cons (.str [34]) (.cons (.str [92,34]) .nil))))) (.str [34])))],[],none,[],6,[],[],[]⟩]) (.seq (.tidy 0 [2]) .ret))), [(.sl 2)],false⟩
/- 'sloth/code.line' -/
def f50:Fun:=⟨ (.seq (.reg [⟨[(2,.box (.sl 0)),(3,.box (.sl 1))],[],[(.str [])],none,[2,3],3,[],[],[]⟩]) (.seq (.reg [⟨[(5,.box (.agg (.cons (.str []) (.cons (.int .i64 0) (.cons (.int .i64 0) .nil)))))],[(13,(.ext 1 (.call 79 (.cons (.ld 1 false (.fa 0 (.sl 3))) .nil))))],[],some (none,.store 3 (.sl 5) (.ext 0 (.call 79 (.cons (.ld 1 false (.fa 0 (.sl 3))) .nil)))),[2,3,5],8,[],[],[]⟩,⟨[],[],[(.sl 13)],none,[2,3,5],1,[],[],[]⟩]) (.seq (.reg [⟨[],[(7,(.str [10]))],[],none,[2,3,5],1,[],[],[]⟩]) (.seq (.block 0 (.seq (.block 3 (.seq (.block 2 (.seq (.block 1 (.seq (.seq (.seq (.reg [⟨[],[(14,(.bin .neq (.ld 1 false (.fa 2 (.sl 5))) (.int .i64 0)))],[],none,[2,3,5,7],4,[],[],[]⟩]) (.cond (.sl 14) (.seq (.tidy 0 [2,3,5,7]) (.exit 1)) .skip)) (.seq (.reg [⟨[],[(18,(.bin .neq (.ld 1 false (.fa 1 (.sl 5))) (.int .i64 0)))],[],none,[2,3,5,7],4,[],[],[]⟩]) (.cond (.sl 18) (.seq (.tidy 0 [2,3,5,7]) (.exit 2)) .skip))) (.seq (.tidy 0 [5,7]) (.exit 3)))) (.reg [⟨[],[(7,(.bin .add (.bin .add (.str [32]) (.call 49 (.cons (.ld 1 false (.fa 2 (.sl 3))) .nil))) (.sl 7)))],[],none,[2,3,5],7,[],[],[]⟩]))) (.reg [⟨[],[(7,(.bin .add (.bin .add (.str [32]) (.call 90 (.cons (.ld 2 true (.sl 2)) (.cons (.ld 1 false (.fa 1 (.sl 5))) (.cons (.ld 1 false (.fa 1 (.sl 3))) .nil))))) (.sl 7)))],[],none,[5],10,[],[],[]⟩]))) (.seq (.reg [⟨[],[(7,(.bin .add (.bin .add (.str [32,32]) (.ld 1 false (.fa 0 (.sl 5)))) (.sl 7)))],[],none,[],6,[],[],[]⟩]) (.seq (.tidy 0 [7]) (.exit 0))))) (.seq (.reg [⟨[],[(4,(.sl 7))],[],none,[],2,[],[],[]⟩]) (.seq (.tidy 0 [4]) .ret)))))), [(.sl 4)],false⟩
/- '(*sloth/code.reader).table' -/
def j1j:C:= (.seq (.seq (.reg [⟨[],[(7,(.bin .eql (.sl 2) (.str [115,104,97,112,101])))],[],none,[0,2],2,[],[],[]⟩]) (.cond (.sl 7) .skip (.seq (.keep [0,2]) (.exit 0)))) (.seq (.block 1 (.regl [⟨[],[],[(.ld 1 false (.fa 0 (.fa 3 (.fa 0 (.sl 0)))))],some (some 17,.calle 97 (.cons (.sl 0) .nil)),[0],9,[[],[],[1],[1,2],[2,1,3],[3,1,2,4],[],[6],[],[6,7,8],[8,9,6,7],[7,6,9,8,10],[10,8,9,6,7,11,4,2,1,3,5],[12,11,10,9,8,7,6,5,4,3,2,1,0],[0,1,2,3,4,5,6,7,8,9,10,11,12,13],[13,12,11,10,9,8,7,6,5,4,3,2,1,0,14],[14,0,1,2,3,4,5,6,7,8,9,10,11,12,13,15]],[],[(.sl 0),(.fa 0 (.sl 0)),(.fa 3 (.fa 0 (.sl 0))),(.fa 0 (.fa 3 (.fa 0 (.sl 0)))),(.ld 1 false (.fa 0 (.fa 3 (.fa 0 (.sl 0)))))]⟩,⟨[],[],[(.ld 1 false (.fa 0 (.fa 3 (.fa 0 (.sl 0)))))],some (some 19,.calle 98 (.cons (.sl 0) .nil)),[0,17],1,[],[],[(.sl 0),(.fa 0 (.sl 0)),(.fa 3 (.fa 0 (.sl 0))),(.fa 0 (.fa 3 (.fa 0 (.sl 0)))),(.ld 1 false (.fa 0 (.fa 3 (.fa 0 (.sl 0)))))]⟩,⟨[(21,.lits 2 (.cons (.set 1 1 (.sl 19) (.set 0 1 (.sl 17) (.agg (.cons (.str []) (.cons (.int .i64 0) .nil))))) .nil))],[],[],some (some 22,.app 2 (.ld 1 false (.fa 0 (.fa 3 (.fa 0 (.sl 0))))) (.sl 21)),[0],3,[],[],[(.sl 0)]⟩,⟨[],[],[],some (none,.store 1 (.fa 0 (.fa 3 (.fa 0 (.sl 0)))) (.sl 22)),[0],4,[],[],[]⟩])) (.reg [⟨[],[],[],some (some 9,.calle 96 (.cons (.sl 0) .nil)),[0],2,[],[],[]⟩,⟨[],[(2,(.sl 9))],[],none,[0],1,[],[],[]⟩])))
def j1i:C:= (.seq (.seq (.reg [⟨[],[(44,(.and (.bin .neq (.sl 2) (.str [])) (.bin .neq (.sl 2) (.str [103,108,111,98,97,108]))))],[],none,[0,2,3],6,[],[],[]⟩]) (.cond (.sl 44) .skip (.seq (.keep [0,2,3]) (.exit 4)))) (.seq (.block 5 (.regl [⟨[],[],[],some (some 60,.calle 99 (.cons (.sl 0) (.cons (.sl 2) (.cons (.len false (.ld 1 false (.fa 1 (.fa 3 (.fa 0 (.sl 0)))))) (.cons (.len false (.ld 1 false (.fa 2 (.sl 3)))) .nil))))),[0,3],14,[[],[0],[],[],[],[4],[4,5],[5,4,6],[6,4,5,7],[7,5,4,6,8],[],[10],[10,11],[11,10,12,8,6,4,5,7,9,3,2],[2,3,9,7,5,4,6,8,12,10,11,13],[13,11,10,12,8,6,4,5,7,9,3,2,14,0,1],[15,14,13,12,11,10,9,8,7,6,5,4,3,2,1,0],[0,1,2,3,4,5,6,7,8,9,10,11,12,13,14,15,16]],[],[(.fa 2 (.sl 3)),(.ld 1 false (.fa 2 (.sl 3)))]⟩,⟨[(61,.lits 3 (.cons (.sl 60) .nil))],[],[],some (some 62,.app 3 (.ld 1 false (.fa 2 (.sl 3))) (.sl 61)),[0,3],2,[],[],[]⟩,⟨[],[],[],some (none,.store 1 (.fa 2 (.sl 3)) (.sl 62)),[0,3],2,[],[],[]⟩])) (.reg [⟨[],[],[],some (some 46,.calle 96 (.cons (.sl 0) .nil)),[0,3],2,[],[],[]⟩,⟨[],[(2,(.sl 46))],[],none,[0,3],1,[],[],[]⟩])))
def j1h:C:= (.seq (.seq (.reg [⟨[],[(27,(.bin .neq (.sl 2) (.str [])))],[],none,[0,2],2,[],[],[]⟩]) (.cond (.sl 27) .skip (.seq (.keep []) (.exit 2)))) (.block 3 (.seq (.seq (.reg [⟨[],[(29,(.bin .neq (.sl 2) (.str [103,108,111,98,97,108])))],[],none,[0],2,[],[],[]⟩]) (.cond (.sl 29) .stuck .skip)) (.seq (.reg [⟨[],[],[],some (some 33,.calle 97 (.cons (.sl 0) .nil)),[0],2,[],[],[]⟩,⟨[],[],[],some (some 35,.calle 98 (.cons (.sl 0) .nil)),[0,33],2,[],[],[]⟩,⟨[(3,.box (.agg (.cons (.str []) (.cons (.int .i64 0) (.cons (.nilsl 3) .nil)))))],[],[],some (none,.store 3 (.sl 3) (.set 1 1 (.sl 35) (.set 0 1 (.sl 33) (.agg (.cons (.str []) (.cons (.int .i64 0) (.cons (.nilsl 3) .nil))))))),[0,3],3,[],[],[]⟩]) (.seq (.seq (.reg [⟨[],[],[],some (some 38,.calle 96 (.cons (.sl 0) .nil)),[0,3],2,[],[],[]⟩,⟨[],[(2,(.sl 38))],[],none,[0,3],1,[],[],[]⟩]) (.block 4 (.seq (.keep [0,2,3]) (.loop (.seq (.keep [0,2,3]) j1i))))) (.regl [⟨[(71,.lits 3 (.cons (.ld 3 true (.sl 3)) .nil))],[],[],some (some 72,.app 3 (.ld 1 false (.fa 1 (.fa 3 (.fa 0 (.sl 0))))) (.sl 71)),[0,2],9,[[],[],[1],[1,2],[2,1,3],[3,1,2,4],[],[6],[6,7,4,2,1,3,5],[8,7,6,5,4,3,2,1,0],[0,1,2,3,4,5,6,7,8,9],[9,8,7,6,5,4,3,2,1,0,10],[10,0,1,2,3,4,5,6,7,8,9,11]],[],[(.sl 0)]⟩,⟨[],[],[],some (none,.store 1 (.fa 1 (.fa 3 (.fa 0 (.sl 0)))) (.sl 72)),[0,2],4,[],[],[]⟩]))))))
def f60:Fun:=⟨ (.seq (.reg [⟨[],[],[],some (some 5,.calle 96 (.cons (.sl 0) .nil)),[0],2,[],[],[]⟩,⟨[],[(2,(.sl 5))],[],none,[0],1,[],[],[]⟩]) (.seq (.block 0 (.seq (.keep [0,2]) (.loop (.seq (.keep [0,2]) j1j)))) (.block 2 (.seq (.keep [0,2]) (.loop (.seq (.keep [0,2]) j1h)))))), [],false⟩
/- '(*sloth/code.reader).resolve' -/
def j1g:C:= (.seq (.reg [⟨[],[(26,(.bin .lss (.sl 25) (.sl 24)))],[],none,[0,2,3,23,24,25],1,[],[],[]⟩]) (.seq (.cond (.sl 26) .skip (.seq (.keep [0,2,3]) (.exit 0))) (.seq (.block 1 (.seq (.reg [⟨[(5,.box (.agg (.cons (.str []) (.cons (.int .i64 0) .nil))))],[(4,(.sl 25))],[],some (none,.store 2 (.sl 5) (.ld 2 true (.ia 2 (.sl 23) (.sl 25)))),[0,2,3,5,23,24,25],6,[],[],[]⟩]) (.seq (.reg [⟨[],[(7,(.ext 1 (.lkp true 2 (.int .i64 0) (.sl 2) (.ld 1 false (.fa 0 (.sl 5))))))],[(.ext 0 (.lkp true 2 (.int .i64 0) (.sl 2) (.ld 1 false (.fa 0 (.sl 5)))))],none,[0,2,3,4,5,23,24,25],9,[],[],[]⟩]) (.seq (.reg [⟨[],[(38,(.un .not (.sl 7)))],[],none,[0,2,3,4,5,23,24,25],2,[],[],[]⟩]) (.cond (.sl 38) (.reg [⟨[],[],[],some (none,.mset 2 (.sl 2) (.ld 1 false (.fa 0 (.sl 5))) (.sl 4)),[0,2,3,23,24,25],5,[],[],[]⟩]) .skip))))) (.reg [⟨[],[(25,(.bin .add (.sl 25) (.int .i64 1)))],[],none,[0,2,3,23,24],2,[],[],[]⟩]))))
def j1f:C:= (.seq (.reg [⟨[],[(51,(.bin .lss (.sl 50) (.sl 49)))],[],none,[0,2,3,48,49,50],1,[],[],[]⟩]) (.seq (.cond (.sl 51) .skip (.seq (.keep [0,2,3]) (.exit 2))) (.seq (.block 3 (.seq (.reg [⟨[(9,.box (.agg (.cons (.str []) (.cons (.int .i64 0) (.cons (.nilsl 3) .nil)))))],[(8,(.sl 50))],[],some (none,.store 3 (.sl 9) (.ld 3 true (.ia 3 (.sl 48) (.sl 50)))),[0,2,3,9,48,49,50],6,[],[],[]⟩]) (.seq (.reg [⟨[],[(11,(.ext 1 (.lkp true 2 (.int .i64 0) (.sl 3) (.ld 1 false (.fa 0 (.sl 9))))))],[(.ext 0 (.lkp true 2 (.int .i64 0) (.sl 3) (.ld 1 false (.fa 0 (.sl 9)))))],none,[0,2,3,8,9,48,49,50],9,[],[],[]⟩]) (.seq (.reg [⟨[],[(63,(.un .not (.sl 11)))],[],none,[0,2,3,8,9,48,49,50],2,[],[],[]⟩]) (.cond (.sl 63) (.reg [⟨[],[],[],some (none,.mset 2 (.sl 3) (.ld 1 false (.fa 0 (.sl 9))) (.sl 8)),[0,2,3,48,49,50],5,[],[],[]⟩]) .skip))))) (.reg [⟨[],[(50,(.bin .add (.sl 50) (.int .i64 1)))],[],none,[0,2,3,48,49],2,[],[],[]⟩]))))
def j1e:C:= (.seq (.reg [⟨[],[(75,(.bin .lss (.sl 74) (.sl 73)))],[],none,[0,2,3,72,73,74],1,[],[],[]⟩]) (.seq (.cond (.sl 75) .skip (.seq (.keep []) (.exit 4))) (.seq (.block 5 (.seq (.reg [⟨[(13,.box (.agg (.cons (.int .i64 0) (.cons (.int .i64 0) (.cons (.str []) .nil)))))],[],[],some (none,.store 3 (.sl 13) (.ld 3 true (.ia 3 (.sl 72) (.sl 74)))),[0,2,3,13,72,73,74],4,[],[],[]⟩]) (.seq (.reg [⟨[],[(14,(.ia 3 (.ld 1 false (.fa 2 (.ia 3 (.ld 1 false (.fa 1 (.fa 3 (.fa 0 (.sl 0))))) (.ld 1 false (.fa 0 (.sl 13)))))) (.ld 1 false (.fa 1 (.sl 13)))))],[],none,[0,2,3,13,72,73,74],14,[[],[0],[0,1],[1,0,2],[2,0,1,3],[],[5],[5,6,3,1,0,2,4],[4,2,0,1,3,6,5,7],[7,5,6,3,1,0,2,4,8],[],[10],[10,11,8,4,2,0,1,3,6,5,7,9],[9,7,5,6,3,1,0,2,4,8,11,10,12]],[],[]⟩]) (.seq (.reg [⟨[],[(15,(.ext 0 (.lkp true 2 (.int .i64 0) (.sl 2) (.ld 1 false (.fa 2 (.sl 13)))))),(16,(.ext 1 (.lkp true 2 (.int .i64 0) (.sl 2) (.ld 1 false (.fa 2 (.sl 13))))))],[],none,[0,2,3,13,14,72,73,74],9,[],[],[]⟩]) (.seq (.seq (.reg [⟨[],[(102,(.bin .eql (.ld 1 false (.fa 0 (.fa 0 (.sl 14)))) (.int .i64 2)))],[],none,[0,2,3,13,14,15,16,72,73,74],5,[],[],[]⟩]) (.cond (.sl 102) (.reg [⟨[],[(15,(.ext 0 (.lkp true 2 (.int .i64 0) (.sl 3) (.ld 1 false (.fa 2 (.sl 13)))))),(16,(.ext 1 (.lkp true 2 (.int .i64 0) (.sl 3) (.ld 1 false (.fa 2 (.sl 13))))))],[],none,[0,2,3,14,72,73,74],9,[],[],[]⟩]) .skip)) (.seq (.seq (.reg [⟨[],[(111,(.un .not (.sl 16)))],[],none,[0,2,3,14,15,72,73,74],2,[],[],[]⟩]) (.cond (.sl 111) .stuck .skip)) (.reg [⟨[],[],[],some (none,.store 1 (.fa 1 (.fa 0 (.sl 14))) (.sl 15)),[0,2,3,72,73,74],5,[],[],[]⟩]))))))) (.reg [⟨[],[(74,(.bin .add (.sl 74) (.int .i64 1)))],[],none,[0,2,3,72,73],2,[],[],[]⟩]))))
def f61:Fun:=⟨ (.seq (.reg [⟨[(17,.mkm),(18,.mkm)],[(2,(.sl 17)),(3,(.sl 18))],[],none,[0],4,[],[],[]⟩]) (.seq (.seq (.reg [⟨[],[(23,(.ld 1 false (.fa 0 (.fa 3 (.fa 0 (.sl 0)))))),(24,(.len false (.ld 1 false (.fa 0 (.fa 3 (.fa 0 (.sl 0))))))),(25,(.int .i64 0))],[],none,[0,2,3],7,[],[],[]⟩]) (.block 0 (.seq (.keep [0,2,3,23,24,25]) (.loop (.seq (.keep [0,2,3,23,24,25]) j1g))))) (.seq (.seq (.reg [⟨[],[(48,(.ld 1 false (.fa 1 (.fa 3 (.fa 0 (.sl 0)))))),(49,(.len false (.ld 1 false (.fa 1 (.fa 3 (.fa 0 (.sl 0))))))),(50,(.int .i64 0))],[],none,[0,2,3],7,[],[],[]⟩]) (.block 2 (.seq (.keep [0,2,3,48,49,50]) (.loop (.seq (.keep [0,2,3,48,49,50]) j1f))))) (.seq (.reg [⟨[],[(72,(.ld 1 false (.fa 2 (.fa 0 (.sl 0))))),(73,(.len false (.ld 1 false (.fa 2 (.fa 0 (.sl 0)))))),(74,(.int .i64 0))],[],none,[0,2,3],6,[],[],[]⟩]) (.block 4 (.seq (.keep [0,2,3,72,73,74]) (.loop (.seq (.keep [0,2,3,72,73,74]) j1e)))))))), [],false⟩
/- 'sloth/code.put' -/
def j1d:C:= (.seq (.seq (.reg [⟨[],[(6,(.bin .gtr (.sl 1) (.int .u64 127)))],[],none,[0,1],2,[],[],[]⟩]) (.cond (.sl 6) .skip (.seq (.tidy 1 [0,1]) (.exit 0)))) (.seq (.block 1 (.reg [⟨[(13,.lits 1 (.cons (.bin .or (.conv .u8 (.sl 1)) (.int .u8 128)) .nil))],[],[],some (some 14,.app 1 (.sl 0) (.sl 13)),[1],6,[],[],[]⟩,⟨[],[(0,(.sl 14))],[],none,[1],1,[],[],[]⟩])) (.reg [⟨[],[(1,(.sh false (.sl 1) (.int .u64 7)))],[],none,[0],3,[],[],[]⟩])))
def f68:Fun:=⟨ (.seq (.reg [⟨[],[],[(.nilsl 1)],none,[0,1],1,[],[],[]⟩]) (.seq (.block 0 (.seq (.tidy 1 [0,1]) (.loop (.seq (.tidy 1 [0,1]) j1d)))) (.seq (.reg [⟨[(18,.lits 1 (.cons (.conv .u8 (.sl 1)) .nil))],[],[],some (some 19,.app 1 (.sl 0) (.sl 18)),[],5,[],[],[]⟩,⟨[],[(4,(.sl 19))],[],none,[],1,[],[],[]⟩]) (.seq (.tidy 1 [4]) .ret)))), [(.sl 4)],false⟩
/- 'sloth/code.putName' -/
def f69:Fun:=⟨ (.seq (.reg [⟨[],[],[(.nilsl 1)],none,[0,1],1,[],[],[]⟩]) (.seq (.reg [⟨[],[],[],some (some 9,.calle 68 (.cons (.sl 0) (.cons (.conv .u64 (.len true (.sl 1))) .nil))),[1],5,[],[],[]⟩,⟨[],[],[],some (some 11,.app 1 (.sl 9) (.s2r (.sl 1))),[],2,[],[],[]⟩,⟨[],[(4,(.sl 11))],[],none,[],1,[],[],[]⟩]) (.seq (.tidy 1 [4]) .ret))), [(.sl 4)],false⟩
/- 'sloth/code.putInstr' -/
def f70:Fun:=⟨ (.seq (.reg [⟨[(3,.box (.sl 1))],[],[(.nilsl 1)],none,[0,3],2,[],[],[]⟩]) (.seq (.reg [⟨[(5,.box (.agg (.cons (.str []) (.cons (.int .i64 0) (.cons (.int .i64 0) .nil)))))],[(12,(.ext 1 (.call 79 (.cons (.ld 1 false (.fa 0 (.sl 3))) .nil))))],[],some (none,.store 3 (.sl 5) (.ext 0 (.call 79 (.cons (.ld 1 false (.fa 0 (.sl 3))) .nil)))),[0,3,5],8,[],[],[]⟩,⟨[],[],[(.sl 12)],none,[0,3,5],1,[],[],[]⟩]) (.seq (.reg [⟨[],[],[],some (some 17,.calle 68 (.cons (.sl 0) (.cons (.conv .u64 (.ld 1 false (.fa 0 (.sl 3)))) .nil))),[3,5],5,[],[],[]⟩,⟨[],[(0,(.sl 17))],[],none,[3,5],1,[],[],[]⟩]) (.seq (.seq (.reg [⟨[],[(20,(.bin .eql (.ld 1 false (.fa 1 (.sl 5))) (.int .i64 3)))],[],none,[0,3,5],3,[],[],[]⟩]) (.cond (.sl 20) (.reg [⟨[],[],[],some (some 25,.calle 68 (.cons (.sl 0) (.cons (.call 100 (.cons (.ld 1 false (.fa 1 (.sl 3))) .nil)) .nil))),[3,5],5,[],[],[]⟩,⟨[],[(0,(.sl 25))],[],none,[3,5],1,[],[],[]⟩]) (.seq (.reg [⟨[],[(28,(.bin .neq (.ld 1 false (.fa 1 (.sl 5))) (.int .i64 0)))],[],none,[0,3,5],3,[],[],[]⟩]) (.cond (.sl 28) (.reg [⟨[],[],[],some (some 33,.calle 68 (.cons (.sl 0) (.cons (.conv .u64 (.ld 1 false (.fa 1 (.sl 3)))) .nil))),[3,5],5,[],[],[]⟩,⟨[],[(0,(.sl 33))],[],none,[3,5],1,[],[],[]⟩]) .skip)))) (.seq (.seq (.reg [⟨[],[(36,(.bin .neq (.ld 1 false (.fa 2 (.sl 5))) (.int .i64 0)))],[],none,[0,3],3,[],[],[]⟩]) (.cond (.sl 36) (.reg [⟨[],[],[],some (some 41,.calle 68 (.cons (.sl 0) (.cons (.conv .u64 (.ld 1 false (.fa 2 (.sl 3)))) .nil))),[],5,[],[],[]⟩,⟨[],[(0,(.sl 41))],[],none,[],1,[],[],[]⟩]) .skip)) (.seq (.reg [⟨[],[(4,(.sl 0))],[],none,[],2,[],[],[]⟩]) (.seq (.tidy 1 [4]) .ret))))))), [(.sl 4)],false⟩
/- 'sloth/code.four' -/
def f71:Fun:=⟨ (.seq (.reg [⟨[],[],[(.nilsl 1)],none,[0],1,[],[],[]⟩]) (.seq (.reg [⟨[(14,.lits 1 (.cons (.conv .u8 (.sl 0)) (.cons (.conv .u8 (.sh false (.sl 0) (.int .u64 8))) (.cons (.conv .u8 (.sh false (.sl 0) (.int .u64 16))) (.cons (.conv .u8 (.sh false (.sl 0) (.int .u64 24))) .nil)))))],[(2,(.sl 14))],[],none,[],13,[],[],[]⟩]) (.seq (.tidy 0 [2]) .ret))), [(.sl 2)],false⟩
/- 'sloth/code.sum' -/
def j1c:C:= (.seq (.reg [⟨[],[(18,(.bin .lss (.sl 17) (.int .i64 8)))],[],none,[3,7,8,9,17],1,[],[],[]⟩]) (.seq (.cond (.sl 18) .skip (.seq (.tidy 0 [3,7,8,9]) (.exit 2))) (.seq (.block 3 (.seq (.reg [⟨[],[(6,(.bin .and (.sl 3) (.int .u32 1)))],[],none,[3,7,8,9,17],3,[],[],[]⟩]) (.seq (.reg [⟨[],[(3,(.sh false (.sl 3) (.int .u64 1)))],[],none,[6,7,8,9,17],3,[],[],[]⟩]) (.seq (.reg [⟨[],[(24,(.bin .eql (.sl 6) (.int .u32 1)))],[],none,[3,7,8,9,17],2,[],[],[]⟩]) (.cond (.sl 24) (.reg [⟨[],[(3,(.bin .xor (.sl 3) (.int .u32 3988292384)))],[],none,[7,8,9,17],3,[],[],[]⟩]) .skip))))) (.reg [⟨[],[(17,(.bin .add (.sl 17) (.int .i64 1)))],[],none,[3,7,8,9],2,[],[],[]⟩]))))
def j1b:C:= (.seq (.reg [⟨[],[(10,(.bin .lss (.sl 9) (.sl 8)))],[],none,[3,7,8,9],1,[],[],[]⟩]) (.seq (.cond (.sl 10) .skip (.seq (.tidy 0 [3]) (.exit 0))) (.seq (.block 1 (.seq (.reg [⟨[],[(5,(.ld 1 false (.ia 1 (.sl 7) (.sl 9))))],[],none,[3,7,8,9],3,[],[],[]⟩]) (.seq (.reg [⟨[],[(3,(.bin .xor (.sl 3) (.conv .u32 (.sl 5))))],[],none,[7,8,9],5,[],[],[]⟩]) (.seq (.reg [⟨[],[(17,(.int .i64 0))],[],none,[3,7,8,9],1,[],[],[]⟩]) (.block 2 (.seq (.tidy 0 [3,7,8,9,17]) (.loop (.seq (.tidy 0 [3,7,8,9,17]) j1c)))))))) (.reg [⟨[],[(9,(.bin .add (.sl 9) (.int .i64 1)))],[],none,[3,7,8],2,[],[],[]⟩]))))
def f72:Fun:=⟨ (.seq (.reg [⟨[],[],[(.int .u32 0)],none,[0],1,[],[],[]⟩]) (.seq (.reg [⟨[],[(3,(.int .u32 4294967295))],[],none,[0],1,[],[],[]⟩]) (.seq (.seq (.reg [⟨[],[(7,(.sl 0)),(8,(.len false (.sl 0))),(9,(.int .i64 0))],[],none,[3],3,[],[],[]⟩]) (.block 0 (.seq (.tidy 0 [3,7,8,9]) (.loop (.seq (.tidy 0 [3,7,8,9]) j1b))))) (.seq (.reg [⟨[],[(2,(.un .xor (.sl 3)))],[],none,[],3,[],[],[]⟩]) (.seq (.tidy 0 [2]) .ret))))), [(.sl 2)],false⟩
/- '(*sloth/code.loader).table' -/
def j1a:C:= (.seq (.reg [⟨[],[(8,(.bin .lss (.sl 7) (.sl 6)))],[],none,[0,2,3,6,7],1,[],[],[]⟩]) (.seq (.cond (.sl 8) .skip (.seq (.tidy 1 [0,2,3]) (.exit 0))) (.seq (.block 1 (.regl [⟨[],[],[(.ld 1 false (.fa 0 (.sl 3)))],some (some 12,.calle 102 (.cons (.sl 0) .nil)),[0,2,3,6,7],5,[[],[0],[],[2],[],[2,3,4],[4,5,2,3],[3,2,5,4,6],[6,4,5,2,3,7,0,1],[8,7,6,5,4,3,2,1,0],[0,1,2,3,4,5,6,7,8,9]],[],[(.fa 0 (.sl 3)),(.ld 1 false (.fa 0 (.sl 3))),(.sl 0)]⟩,⟨[],[],[(.ld 1 false (.fa 0 (.sl 3)))],some (some 14,.calle 103 (.cons (.sl 0) .nil)),[0,2,3,6,7,12],1,[],[],[(.fa 0 (.sl 3)),(.ld 1 false (.fa 0 (.sl 3)))]⟩,⟨[(16,.lits 2 (.cons (.set 1 1 (.sl 14) (.set 0 1 (.sl 12) (.agg (.cons (.str []) (.cons (.int .i64 0) .nil))))) .nil))],[],[],some (some 17,.app 2 (.ld 1 false (.fa 0 (.sl 3))) (.sl 16)),[0,2,3,6,7],3,[],[],[]⟩,⟨[],[],[],some (none,.store 1 (.fa 0 (.sl 3)) (.sl 17)),[0,2,3,6,7],2,[],[],[]⟩])) (.reg [⟨[],[(7,(.bin .add (.sl 7) (.int .i64 1)))],[],none,[0,2,3,6],2,[],[],[]⟩]))))
def j09:C:= (.seq (.reg [⟨[],[(32,(.bin .lss (.sl 31) (.sl 30)))],[],none,[0,2,3,4,21,22,30,31],1,[],[],[]⟩]) (.seq (.cond (.sl 32) .skip (.seq (.tidy 1 [0,2,3,4,21,22]) (.exit 4))) (.seq (.block 5 (.regl [⟨[],[],[(.ld 1 false (.fa 2 (.sl 4)))],some (some 36,.calle 104 (.cons (.sl 0) .nil)),[0,2,3,4,21,22,30,31],4,[[],[0],[],[2],[2,3],[3,2,4,0,1],[5,4,3,2,1,0],[0,1,2,3,4,5,6]],[],[(.fa 2 (.sl 4)),(.ld 1 false (.fa 2 (.sl 4)))]⟩,⟨[(37,.lits 3 (.cons (.sl 36) .nil))],[],[],some (some 38,.app 3 (.ld 1 false (.fa 2 (.sl 4))) (.sl 37)),[0,2,3,4,21,22,30,31],2,[],[],[]⟩,⟨[],[],[],some (none,.store 1 (.fa 2 (.sl 4)) (.sl 38)),[0,2,3,4,21,22,30,31],2,[],[],[]⟩])) (.reg [⟨[],[(31,(.bin .add (.sl 31) (.int .i64 1)))],[],none,[0,2,3,4,21,22,30],2,[],[],[]⟩]))))
def j08:C:= (.seq (.reg [⟨[],[(23,(.bin .lss (.sl 22) (.sl 21)))],[],none,[0,2,3,21,22],1,[],[],[]⟩]) (.seq (.cond (.sl 23) .skip (.seq (.tidy 1 [2,3]) (.exit 2))) (.seq (.block 3 (.seq (.reg [⟨[],[],[],some (some 25,.calle 102 (.cons (.sl 0) .nil)),[0,2,3,21,22],2,[],[],[]⟩,⟨[],[],[],some (some 27,.calle 103 (.cons (.sl 0) .nil)),[0,2,3,21,22,25],2,[],[],[]⟩,⟨[(4,.box (.agg (.cons (.str []) (.cons (.int .i64 0) (.cons (.nilsl 3) .nil)))))],[],[],some (none,.store 3 (.sl 4) (.set 1 1 (.sl 27) (.set 0 1 (.sl 25) (.agg (.cons (.str []) (.cons (.int .i64 0) (.cons (.nilsl 3) .nil))))))),[0,2,3,4,21,22],3,[],[],[]⟩]) (.seq (.seq (.reg [⟨[],[],[],some (some 30,.calle 101 (.cons (.sl 0) .nil)),[0,2,3,4,21,22],2,[],[],[]⟩,⟨[],[(31,(.int .i64 0))],[],none,[0,2,3,4,21,22,30],1,[],[],[]⟩]) (.block 4 (.seq (.tidy 1 [0,2,3,4,21,22,30,31]) (.loop (.seq (.tidy 1 [0,2,3,4,21,22,30,31]) j09))))) (.reg [⟨[(44,.lits 3 (.cons (.ld 3 true (.sl 4)) .nil))],[],[],some (some 45,.app 3 (.ld 1 false (.fa 1 (.sl 3))) (.sl 44)),[0,2,3,21,22],5,[],[],[]⟩,⟨[],[],[],some (none,.store 1 (.fa 1 (.sl 3)) (.sl 45)),[0,2,3,21,22],2,[],[],[]⟩])))) (.reg [⟨[],[(22,(.bin .add (.sl 22) (.int .i64 1)))],[],none,[0,2,3,21],2,[],[],[]⟩]))))
def f77:Fun:=⟨ (.seq (.reg [⟨[(2,.box (.agg (.cons (.nilsl 2) (.cons (.nilsl 3) .nil))))],[],[],none,[0,2],1,[],[],[]⟩]) (.seq (.reg [⟨[(3,.box (.agg (.cons (.nilsl 2) (.cons (.nilsl 3) .nil))))],[],[],none,[0,2,3],1,[],[],[]⟩]) (.seq (.seq (.reg [⟨[],[],[],some (some 6,.calle 101 (.cons (.sl 0) .nil)),[0,2,3],2,[],[],[]⟩,⟨[],[(7,(.int .i64 0))],[],none,[0,2,3,6],1,[],[],[]⟩]) (.block 0 (.seq (.tidy 1 [0,2,3,6,7]) (.loop (.seq (.tidy 1 [0,2,3,6,7]) j1a))))) (.seq (.seq (.reg [⟨[],[],[],some (some 21,.calle 101 (.cons (.sl 0) .nil)),[0,2,3],2,[],[],[]⟩,⟨[],[(22,(.int .i64 0))],[],none,[0,2,3,21],1,[],[],[]⟩]) (.block 2 (.seq (.tidy 1 [0,2,3,21,22]) (.loop (.seq (.tidy 1 [0,2,3,21,22]) j08))))) (.seq (.reg [⟨[],[],[],some (none,.store 2 (.sl 2) (.ld 2 true (.sl 3))),[2],2,[],[],[]⟩]) (.seq (.tidy 1 [2]) .ret)))))), [(.ld 2 true (.sl 2))],false⟩
/- 'strings.ReplaceAll' -/
def f88:Fun:=⟨ (.seq (.reg [⟨[],[],[(.str [])],none,[0,1,2],1,[],[],[]⟩]) (.seq (.reg [⟨[],[(6,(.call 106 (.cons (.sl 0) (.cons (.sl 1) (.cons (.sl 2) (.cons (.int .i64 (-1)) .nil))))))],[],none,[],5,[],[],[]⟩]) (.seq (.tidy 0 [6]) .ret))), [(.sl 6)],false⟩
/- 'sloth/code.piece' -/
def f90:Fun:=⟨ (.seq (.reg [⟨[(3,.box (.sl 0))],[],[(.str [])],none,[1,2,3],2,[],[],[]⟩]) (.seq (.seq (.reg [⟨[],[(7,(.sl 1))],[],none,[2,3],1,[],[],[]⟩]) (.block 0 (.seq (.reg [⟨[],[(8,(.bin .eql (.sl 7) (.int .i64 4)))],[],none,[2,3,7],2,[],[],[]⟩]) (.cond (.sl 8) (.seq (.reg [⟨[],[(6,(.call 48 (.cons (.ld 1 false (.fa 0 (.ia 3 (.ld 1 false (.fa 1 (.sl 3))) (.sl 2)))) .nil)))],[],none,[],8,[],[],[]⟩]) (.seq (.tidy 0 [6]) .ret)) (.seq (.reg [⟨[],[(17,(.bin .eql (.sl 7) (.int .i64 5)))],[],none,[2,3,7],2,[],[],[]⟩]) (.cond (.sl 17) (.seq (.reg [⟨[],[(6,(.call 48 (.cons (.ld 1 false (.fa 0 (.ia 2 (.ld 1 false (.fa 0 (.sl 3))) (.sl 2)))) .nil)))],[],none,[],8,[],[],[]⟩]) (.seq (.tidy 0 [6]) .ret)) (.seq (.reg [⟨[],[(26,(.bin .eql (.sl 7) (.int .i64 6)))],[],none,[2],2,[],[],[]⟩]) (.cond (.sl 26) (.seq (.reg [⟨[],[(6,(.ld 1 false (.ia 1 (.call 108 .nil) (.sl 2))))],[],none,[],5,[],[],[]⟩]) (.seq (.tidy 0 [6]) .ret)) .skip)))))))) (.seq (.reg [⟨[],[(6,(.call 49 (.cons (.sl 2) .nil)))],[],none,[],3,[],[],[]⟩]) (.seq (.tidy 0 [6]) .ret)))), [(.sl 6)],false⟩
/- '(*sloth/code.reader).word' -/
def j00:C:= (.seq (.seq (.reg [⟨[],[(55,(.and (.and (.and (.bin .lss (.ld 1 false (.fa 1 (.fa 0 (.sl 0)))) (.len true (.ld 1 false (.fa 0 (.fa 0 (.sl 0)))))) (.bin .geq (.ix (.ld 1 false (.fa 0 (.fa 0 (.sl 0)))) (.ld 1 false (.fa 1 (.fa 0 (.sl 0))))) (.int .u8 33))) (.bin .leq (.ix (.ld 1 false (.fa 0 (.fa 0 (.sl 0)))) (.ld 1 false (.fa 1 (.fa 0 (.sl 0))))) (.int .u8 126))) (.bin .neq (.ix (.ld 1 false (.fa 0 (.fa 0 (.sl 0)))) (.ld 1 false (.fa 1 (.fa 0 (.sl 0))))) (.int .u8 34))))],[],none,[0,3],46,[[],[0],[0,1],[1,0,2],[],[4],[4,5],[5,4,6],[6,4,5,7],[7,5,4,6,8,2,0,1,3],[3,1,0,2,8,6,4,5,7,9],[9,7,5,4,6,8,2,0,1,3,10],[10,3,1,0,2,8,6,4,5,7,9,11],[11,9,7,5,4,6,8,2,0,1,3,10,12],[12,10,3,1,0,2,8,6,4,5,7,9,11,13],[9,7,5,4,6,8,2,0,1,3,10],[10,3,1,0,2,8,6,4,5,7,9,15],[15,9,7,5,4,6,8,2,0,1,3,10,16],[16,10,3,1,0,2,8,6,4,5,7,9,15,17],[17,15,16,18,13,11,9,7,5,4,6,8,2,0,1,3,10,12,14],[14,12,10,3,1,0,2,8,6,4,5,7,9,11,13,18,16,15,17,19],[19,17,15,16,18,13,11,12,14,20,9,7,5,4,6,8,2,0,1,3,10],[10,3,1,0,2,8,6,4,5,7,9,20,14,12,11,13,18,16,15,17,19,21],[21,19,17,15,16,18,13,11,12,14,20,9,7,5,4,6,8,2,0,1,3,10,22],[22,10,3,1,0,2,8,6,4,5,7,9,20,14,12,11,13,18,16,15,17,19,21,23],[23,21,19,17,15,16,18,13,11,12,14,20,9,7,5,4,6,8,2,0,1,3,10,22,24],[24,22,10,3,1,0,2,8,6,4,5,7,9,20,14,12,11,13,18,16,15,17,19,21,23,25],[21,19,17,15,16,18,13,11,12,14,20,9,7,5,4,6,8,2,0,1,3,10,22],[22,10,3,1,0,2,8,6,4,5,7,9,20,14,12,11,13,18,16,15,17,19,21,27],[27,21,19,17,15,16,18,13,11,12,14,20,9,7,5,4,6,8,2,0,1,3,10,22,28],[28,22,10,3,1,0,2,8,6,4,5,7,9,20,14,12,11,13,18,16,15,17,19,21,27,29],[29,27,28,30,25,23,21,19,17,15,16,18,13,11,12,14,20,9,7,5,4,6,8,2,0,1,3,10,22,24,26],[26,24,22,10,3,1,0,2,8,6,4,5,7,9,20,14,12,11,13,18,16,15,17,19,21,23,25,30,28,27,29,31],[31,29,27,28,30,25,23,24,26,32,21,19,17,15,16,18,13,11,12,14,20,9,7,5,4,6,8,2,0,1,3,10,22],[22,10,3,1,0,2,8,6,4,5,7,9,20,14,12,11,13,18,16,15,17,19,21,32,26,24,23,25,30,28,27,29,31,33],[33,31,29,27,28,30,25,23,24,26,32,21,19,17,15,16,18,13,11,12,14,20,9,7,5,4,6,8,2,0,1,3,10,22,34],[34,22,10,3,1,0,2,8,6,4,5,7,9,20,14,12,11,13,18,16,15,17,19,21,32,26,24,23,25,30,28,27,29,31,33,35],[35,33,31,29,27,28,30,25,23,24,26,32,21,19,17,15,16,18,13,11,12,14,20,9,7,5,4,6,8,2,0,1,3,10,22,34,36],[36,34,22,10,3,1,0,2,8,6,4,5,7,9,20,14,12,11,13,18,16,15,17,19,21,32,26,24,23,25,30,28,27,29,31,33,35,37],[33,31,29,27,28,30,25,23,24,26,32,21,19,17,15,16,18,13,11,12,14,20,9,7,5,4,6,8,2,0,1,3,10,22,34],[34,22,10,3,1,0,2,8,6,4,5,7,9,20,14,12,11,13,18,16,15,17,19,21,32,26,24,23,25,30,28,27,29,31,33,39],[39,33,31,29,27,28,30,25,23,24,26,32,21,19,17,15,16,18,13,11,12,14,20,9,7,5,4,6,8,2,0,1,3,10,22,34,40],[40,34,22,10,3,1,0,2,8,6,4,5,7,9,20,14,12,11,13,18,16,15,17,19,21,32,26,24,23,25,30,28,27,29,31,33,39,41],[41,39,40,42,37,35,33,31,29,27,28,30,25,23,24,26,32,21,19,17,15,16,18,13,11,12,14,20,9,7,5,4,6,8,2,0,1,3,10,22,34,36,38],[38,36,34,22,10,3,1,0,2,8,6,4,5,7,9,20,14,12,11,13,18,16,15,17,19,21,32,26,24,23,25,30,28,27,29,31,33,35,37,42,40,39,41,43],[43,41,39,40,42,37,35,36,38,44,33,31,29,27,28,30,25,23,24,26,32,21,19,17,15,16,18,13,11,12,14,20,9,7,5,4,6,8,2,0,1,3,10,22,34]],[],[]⟩]) (.cond (.sl 55) .skip (.seq (.keep [0,3]) (.exit 0)))) (.block 1 (.reg [⟨[],[],[],some (none,.store 1 (.fa 1 (.fa 0 (.sl 0))) (.bin .add (.ld 1 false (.fa 1 (.fa 0 (.sl 0)))) (.int .i64 1))),[0,3],8,[],[],[]⟩])))
def f96:Fun:=⟨ (.seq (.reg [⟨[],[],[(.str [])],none,[0],1,[],[],[]⟩]) (.seq (.reg [⟨[],[],[],some (some 5,.calle 109 (.cons (.sl 0) .nil)),[0],2,[],[],[]⟩]) (.seq (.reg [⟨[],[(3,(.ld 1 false (.fa 1 (.fa 0 (.sl 0)))))],[],none,[0],5,[],[],[]⟩]) (.seq (.block 0 (.seq (.keep [0,3]) (.loop (.seq (.keep [0,3]) j00)))) (.seq (.seq (.reg [⟨[],[(80,(.and (.bin .eql (.ld 1 false (.fa 1 (.fa 0 (.sl 0)))) (.sl 3)) (.bin .lss (.ld 1 false (.fa 1 (.fa 0 (.sl 0)))) (.len true (.ld 1 false (.fa 0 (.fa 0 (.sl 0))))))))],[],none,[0,3],18,[[],[0],[0,1],[1,0,2],[],[4,2,0,1,3],[3,1,0,2,4,5],[5,4,2,0,1,3,6],[6,3,1,0,2,4,5,7],[7,5,4,2,0,1,3,6,8],[8,6,3,1,0,2,4,5,7,9],[5,4,2,0,1,3,6],[6,3,1,0,2,4,5,11],[11,5,4,2,0,1,3,6,12],[12,6,3,1,0,2,4,5,11,13],[13,11,5,4,2,0,1,3,6,12,14],[14,12,11,13,15,9,7,5,4,2,0,1,3,6,8,10],[10,8,7,9,15,13,11,12,14,16,5,4,2,0,1,3,6]],[],[]⟩]) (.cond (.sl 80) .stuck .skip)) (.seq (.reg [⟨[],[(2,(.cut true true true false 0 (.ld 1 false (.fa 0 (.fa 0 (.sl 0)))) (.sl 3) (.ld 1 false (.fa 1 (.fa 0 (.sl 0)))) .nil))],[],none,[],11,[[],[0],[0,1],[1,0,2],[],[],[5],[5,6],[6,5,7],[7,5,6,8,4,2,0,1,3],[3,1,0,2,4,8,6,5,7,9]],[],[]⟩]) (.seq (.keep [2]) .ret))))))), [(.sl 2)],false⟩
/- '(*sloth/code.reader).name' -/
def j0Z:C:= (.seq (.seq (.reg [⟨[],[(58,(.and (.bin .lss (.ld 1 false (.fa 1 (.fa 0 (.sl 0)))) (.len true (.ld 1 false (.fa 0 (.fa 0 (.sl 0)))))) (.bin .neq (.ix (.ld 1 false (.fa 0 (.fa 0 (.sl 0)))) (.ld 1 false (.fa 1 (.fa 0 (.sl 0))))) (.int .u8 34))))],[],none,[0,3],22,[[],[0],[0,1],[1,0,2],[],[4],[4,5],[5,4,6],[6,4,5,7],[7,5,4,6,8,2,0,1,3],[3,1,0,2,8,6,4,5,7,9],[9,7,5,4,6,8,2,0,1,3,10],[10,3,1,0,2,8,6,4,5,7,9,11],[11,9,7,5,4,6,8,2,0,1,3,10,12],[12,10,3,1,0,2,8,6,4,5,7,9,11,13],[9,7,5,4,6,8,2,0,1,3,10],[10,3,1,0,2,8,6,4,5,7,9,15],[15,9,7,5,4,6,8,2,0,1,3,10,16],[16,10,3,1,0,2,8,6,4,5,7,9,15,17],[17,15,16,18,13,11,9,7,5,4,6,8,2,0,1,3,10,12,14],[14,12,10,3,1,0,2,8,6,4,5,7,9,11,13,18,16,15,17,19],[19,17,15,16,18,13,11,12,14,20,9,7,5,4,6,8,2,0,1,3,10]],[],[]⟩]) (.cond (.sl 58) .skip (.seq (.keep [0,3]) (.exit 0)))) (.seq (.block 1 (.seq (.seq (.reg [⟨[],[(75,(.bin .eql (.ix (.ld 1 false (.fa 0 (.fa 0 (.sl 0)))) (.ld 1 false (.fa 1 (.fa 0 (.sl 0))))) (.int .u8 92)))],[],none,[0,3],10,[[],[0],[0,1],[1,0,2],[],[4],[4,5],[5,4,6],[6,4,5,7,2,0,1,3],[3,1,0,2,7,5,4,6,8]],[],[]⟩]) (.cond (.sl 75) (.seq (.reg [⟨[],[],[],some (none,.store 1 (.fa 1 (.fa 0 (.sl 0))) (.bin .add (.ld 1 false (.fa 1 (.fa 0 (.sl 0)))) (.int .i64 1))),[0,3],8,[],[],[]⟩]) (.seq (.reg [⟨[],[(116,(.or (.bin .eql (.ld 1 false (.fa 1 (.fa 0 (.sl 0)))) (.len true (.ld 1 false (.fa 0 (.fa 0 (.sl 0)))))) (.and (.bin .neq (.ix (.ld 1 false (.fa 0 (.fa 0 (.sl 0)))) (.ld 1 false (.fa 1 (.fa 0 (.sl 0))))) (.int .u8 34)) (.bin .neq (.ix (.ld 1 false (.fa 0 (.fa 0 (.sl 0)))) (.ld 1 false (.fa 1 (.fa 0 (.sl 0))))) (.int .u8 92)))))],[],none,[0,3],34,[[],[0],[0,1],[1,0,2],[],[4],[4,5],[5,4,6],[6,4,5,7],[7,5,4,6,8,2,0,1,3],[3,1,0,2,8,6,4,5,7,9],[9,7,5,4,6,8,2,0,1,3,10],[10,3,1,0,2,8,6,4,5,7,9,11],[11,9,7,5,4,6,8,2,0,1,3,10,12],[12,10,3,1,0,2,8,6,4,5,7,9,11,13],[9,7,5,4,6,8,2,0,1,3,10],[10,3,1,0,2,8,6,4,5,7,9,15],[15,9,7,5,4,6,8,2,0,1,3,10,16],[16,10,3,1,0,2,8,6,4,5,7,9,15,17],[17,15,16,18,13,11,9,7,5,4,6,8,2,0,1,3,10,12,14],[14,12,10,3,1,0,2,8,6,4,5,7,9,11,13,18,16,15,17,19],[19,17,15,16,18,13,11,9,7,5,4,6,8,2,0,1,3,10,12,14,20],[20,14,12,10,3,1,0,2,8,6,4,5,7,9,11,13,18,16,15,17,19,21],[21,19,17,15,16,18,13,11,9,7,5,4,6,8,2,0,1,3,10,12,14,20,22],[22,20,14,12,10,3,1,0,2,8,6,4,5,7,9,11,13,18,16,15,17,19,21,23],[23,21,19,17,15,16,18,13,11,9,7,5,4,6,8,2,0,1,3,10,12,14,20,22,24],[20,14,12,10,3,1,0,2,8,6,4,5,7,9,11,13,18,16,15,17,19,21],[21,19,17,15,16,18,13,11,9,7,5,4,6,8,2,0,1,3,10,12,14,20,26],[26,20,14,12,10,3,1,0,2,8,6,4,5,7,9,11,13,18,16,15,17,19,21,27],[27,21,19,17,15,16,18,13,11,9,7,5,4,6,8,2,0,1,3,10,12,14,20,26,28],[28,26,27,29,24,22,20,14,12,10,3,1,0,2,8,6,4,5,7,9,11,13,18,16,15,17,19,21,23,25],[25,23,21,19,17,15,16,18,13,11,9,7,5,4,6,8,2,0,1,3,10,12,14,20,22,24,29,27,26,28,30],[30,28,26,27,29,24,22,23,25,31,20,14,12,10,3,1,0,2,8,6,4,5,7,9,11,13,18,16,15,17,19,21],[21,19,17,15,16,18,13,11,12,14,20,31,25,23,22,24,29,27,26,28,30,32,9,7,5,4,6,8,2,0,1,3,10]],[],[]⟩]) (.cond (.sl 116) .stuck .skip))) .skip)) (.reg [⟨[],[],[],some (some 128,.calle 110 (.cons (.sl 3) (.cons (.ix (.ld 1 false (.fa 0 (.fa 0 (.sl 0)))) (.ld 1 false (.fa 1 (.fa 0 (.sl 0))))) .nil))),[0,3],10,[[],[0],[0,1],[1,0,2],[],[4],[4,5],[5,4,6],[6,4,5,7,2,0,1,3],[3,1,0,2,7,5,4,6,8]],[],[]⟩]))) (.reg [⟨[],[],[],some (none,.store 1 (.fa 1 (.fa 0 (.sl 0))) (.bin .add (.ld 1 false (.fa 1 (.fa 0 (.sl 0)))) (.int .i64 1))),[0,3],8,[],[],[]⟩])))
def f97:Fun:=⟨ (.seq (.reg [⟨[],[],[(.str [])],none,[0],1,[],[],[]⟩]) (.seq (.reg [⟨[],[],[],some (some 5,.calle 109 (.cons (.sl 0) .nil)),[0],2,[],[],[]⟩]) (.seq (.reg [⟨[(3,.bld 78 5)],[],[],none,[0,3],1,[],[],[]⟩]) (.seq (.seq (.reg [⟨[],[(27,(.or (.bin .eql (.ld 1 false (.fa 1 (.fa 0 (.sl 0)))) (.len true (.ld 1 false (.fa 0 (.fa 0 (.sl 0)))))) (.bin .neq (.ix (.ld 1 false (.fa 0 (.fa 0 (.sl 0)))) (.ld 1 false (.fa 1 (.fa 0 (.sl 0))))) (.int .u8 34))))],[],none,[0,3],22,[[],[0],[0,1],[1,0,2],[],[4],[4,5],[5,4,6],[6,4,5,7],[7,5,4,6,8,2,0,1,3],[3,1,0,2,8,6,4,5,7,9],[9,7,5,4,6,8,2,0,1,3,10],[10,3,1,0,2,8,6,4,5,7,9,11],[11,9,7,5,4,6,8,2,0,1,3,10,12],[12,10,3,1,0,2,8,6,4,5,7,9,11,13],[9,7,5,4,6,8,2,0,1,3,10],[10,3,1,0,2,8,6,4,5,7,9,15],[15,9,7,5,4,6,8,2,0,1,3,10,16],[16,10,3,1,0,2,8,6,4,5,7,9,15,17],[17,15,16,18,13,11,9,7,5,4,6,8,2,0,1,3,10,12,14],[14,12,10,3,1,0,2,8,6,4,5,7,9,11,13,18,16,15,17,19],[19,17,15,16,18,13,11,12,14,20,9,7,5,4,6,8,2,0,1,3,10]],[],[]⟩]) (.cond (.sl 27) .stuck .skip)) (.seq (.seq (.reg [⟨[],[],[],some (none,.store 1 (.fa 1 (.fa 0 (.sl 0))) (.bin .add (.ld 1 false (.fa 1 (.fa 0 (.sl 0)))) (.int .i64 1))),[0,3],8,[],[],[]⟩]) (.block 0 (.seq (.keep [0,3]) (.loop (.seq (.keep [0,3]) j0Z))))) (.seq (.seq (.reg [⟨[],[(139,(.bin .eql (.ld 1 false (.fa 1 (.fa 0 (.sl 0)))) (.len true (.ld 1 false (.fa 0 (.fa 0 (.sl 0)))))))],[],some (some 140,.calle 52 (.cons (.sl 3) .nil)),[0,3],12,[[],[0],[0,1],[1,0,2],[],[4],[4,5],[5,4,6],[6,4,5,7],[7,5,4,6,8,2,0,1,3],[3,1,0,2,8,6,4,5,7,9],[9,7,5,4,6,8,2,0,1,3,10],[10,3,1,0,2,8,6,4,5,7,9,11],[11,9,7,5,4,6,8,2,0,1,3,10,12],[12,11,13,9,7,5,4,6,8,2,0,1,3,10]],[((.bin .eql (.ld 1 false (.fa 1 (.fa 0 (.sl 0)))) (.len true (.ld 1 false (.fa 0 (.fa 0 (.sl 0)))))),false)],[]⟩,⟨[],[(143,(.or (.sl 139) (.un .not (.call 35 (.cons (.sl 140) .nil)))))],[],none,[0,3],3,[],[],[]⟩]) (.cond (.sl 143) .stuck .skip)) (.seq (.reg [⟨[],[],[],some (none,.store 1 (.fa 1 (.fa 0 (.sl 0))) (.bin .add (.ld 1 false (.fa 1 (.fa 0 (.sl 0)))) (.int .i64 1))),[3],8,[],[],[]⟩]) (.seq (.reg [⟨[],[],[],some (some 153,.calle 52 (.cons (.sl 3) .nil)),[],1,[],[],[]⟩,⟨[],[(2,(.sl 153))],[],none,[],1,[],[],[]⟩]) (.seq (.keep [2]) .ret))))))))), [(.sl 2)],false⟩
/- '(*sloth/code.reader).number' -/
def f98:Fun:=⟨ (.seq (.reg [⟨[],[],[(.int .i64 0)],none,[0],1,[],[],[]⟩]) (.seq (.reg [⟨[],[],[],some (some 7,.calle 96 (.cons (.sl 0) .nil)),[],2,[],[],[]⟩,⟨[],[(3,(.sl 7))],[],none,[],1,[],[],[]⟩]) (.seq (.reg [⟨[],[(4,(.ext 0 (.call 111 (.cons (.sl 3) .nil)))),(5,(.ext 1 (.call 111 (.cons (.sl 3) .nil))))],[],none,[3],7,[],[],[]⟩]) (.seq (.seq (.reg [⟨[],[(28,(.or (.or (.or (.eqs true false [5] (.sl 5) .nilif) (.bin .neq (.call 49 (.cons (.sl 4) .nil)) (.sl 3))) (.bin .lss (.sl 4) (.int .i64 (-4611686018427387904)))) (.bin .gtr (.sl 4) (.int .i64 4611686018427387903))))],[],none,[4],16,[],[],[]⟩]) (.cond (.sl 28) .stuck .skip)) (.seq (.reg [⟨[],[(2,(.sl 4))],[],none,[],2,[],[],[]⟩]) (.seq (.keep [2]) .ret)))))), [(.sl 2)],false⟩
/- '(*sloth/code.reader).instr' -/
def j0Y:C:= (.seq (.block 1 (.seq (.reg [⟨[(10,.box (.agg (.cons (.str []) (.cons (.int .i64 0) (.cons (.int .i64 0) .nil)))))],[(19,(.ext 1 (.call 79 (.cons (.sl 9) .nil))))],[],some (none,.store 3 (.sl 10) (.ext 0 (.call 79 (.cons (.sl 9) .nil)))),[0,1,2,3,8,9,10],7,[],[],[]⟩,⟨[],[(11,(.sl 19))],[],none,[0,1,2,3,8,9,10],1,[],[],[]⟩]) (.seq (.seq (.reg [⟨[],[(21,(.un .not (.sl 11)))],[],none,[0,1,2,3,8,9,10],2,[],[],[]⟩]) (.cond (.sl 21) .stuck .skip)) (.seq (.seq (.reg [⟨[],[(27,(.bin .neq (.ld 1 false (.fa 0 (.sl 10))) (.sl 1)))],[],none,[0,1,2,3,8,9,10],4,[],[],[]⟩]) (.cond (.sl 27) (.seq (.keep [0,1,2,3,8,9]) (.exit 1)) .skip)) (.seq (.reg [⟨[(12,.box (.agg (.cons (.int .i64 0) (.cons (.int .i64 0) (.cons (.int .i64 0) .nil)))))],[],[],some (none,.store 3 (.sl 12) (.set 0 1 (.sl 9) (.agg (.cons (.int .i64 0) (.cons (.int .i64 0) (.cons (.int .i64 0) .nil)))))),[0,2,3,8,10,12],4,[],[],[]⟩]) (.seq (.seq (.reg [⟨[],[(32,(.bin .neq (.ld 1 false (.fa 1 (.sl 10))) (.int .i64 0)))],[],none,[0,2,3,8,10,12],3,[],[],[]⟩]) (.cond (.sl 32) (.reg [⟨[],[],[],some (some 38,.calle 112 (.cons (.sl 0) (.cons (.ld 1 false (.fa 1 (.sl 10))) (.cons (.sl 2) (.cons (.sl 3) .nil))))),[0,8,10,12],6,[],[],[]⟩,⟨[],[],[],some (none,.store 1 (.fa 1 (.sl 12)) (.sl 38)),[0,8,10,12],2,[],[],[]⟩]) .skip)) (.seq (.seq (.reg [⟨[],[(42,(.bin .neq (.ld 1 false (.fa 2 (.sl 10))) (.int .i64 0)))],[],none,[0,8,12],3,[],[],[]⟩]) (.cond (.sl 42) (.reg [⟨[],[],[],some (some 44,.calle 98 (.cons (.sl 0) .nil)),[8,12],2,[],[],[]⟩,⟨[],[],[],some (none,.store 1 (.fa 2 (.sl 12)) (.sl 44)),[8,12],2,[],[],[]⟩]) .skip)) (.seq (.reg [⟨[],[],[],some (none,.store 3 (.sl 8) (.ld 3 true (.sl 12))),[8],2,[],[],[]⟩]) (.seq (.keep [8]) .ret))))))))) (.reg [⟨[],[(9,(.bin .add (.sl 9) (.int .i64 1)))],[],none,[0,1,2,3,8],3,[],[],[]⟩]))
def f99:Fun:=⟨ (.seq (.reg [⟨[(8,.box (.agg (.cons (.int .i64 0) (.cons (.int .i64 0) (.cons (.int .i64 0) .nil)))))],[],[],none,[0,1,2,3,8],1,[],[],[]⟩]) (.seq (.reg [⟨[],[(9,(.int .i64 1))],[],none,[0,1,2,3,8],1,[],[],[]⟩]) (.block 0 (.seq (.keep [0,1,2,3,8,9]) (.loop (.seq (.keep [0,1,2,3,8,9]) j0Y)))))), [(.ld 3 true (.sl 8))],false⟩
/- 'sloth/code.folded' -/
def f100:Fun:=⟨ (.seq (.reg [⟨[],[],[(.int .u64 0)],none,[0],1,[],[],[]⟩]) (.seq (.seq (.reg [⟨[],[(4,(.bin .lss (.sl 0) (.int .i64 0)))],[],none,[0],2,[],[],[]⟩]) (.cond (.sl 4) (.seq (.reg [⟨[],[(2,(.bin .add (.bin .mul (.int .u64 2) (.conv .u64 (.un .neg (.bin .add (.sl 0) (.int .i64 1))))) (.int .u64 1)))],[],none,[],7,[],[],[]⟩]) (.seq (.tidy 0 [2]) .ret)) .skip)) (.seq (.reg [⟨[],[(2,(.bin .mul (.int .u64 2) (.conv .u64 (.sl 0))))],[],none,[],4,[],[],[]⟩]) (.seq (.tidy 0 [2]) .ret)))), [(.sl 2)],false⟩
/- '(*sloth/code.loader).count' -/
def f101:Fun:=⟨ (.seq (.reg [⟨[],[],[(.int .i64 0)],none,[0],1,[],[],[]⟩]) (.seq (.reg [⟨[],[],[],some (some 5,.calle 103 (.cons (.sl 0) .nil)),[0],2,[],[],[]⟩,⟨[],[(3,(.sl 5))],[],none,[0],1,[],[],[]⟩]) (.seq (.seq (.reg [⟨[],[(12,(.bin .gtr (.sl 3) (.len false (.ld 1 false (.fa 0 (.fa 0 (.sl 0)))))))],[],none,[3],7,[],[],[]⟩]) (.cond (.sl 12) .stuck .skip)) (.seq (.reg [⟨[],[(2,(.sl 3))],[],none,[],2,[],[],[]⟩]) (.seq (.tidy 1 [2]) .ret))))), [(.sl 2)],false⟩
/- '(*sloth/code.loader).name' -/
def f102:Fun:=⟨ (.seq (.reg [⟨[],[],[(.str [])],none,[0],1,[],[],[]⟩]) (.seq (.reg [⟨[],[],[],some (some 6,.calle 101 (.cons (.sl 0) .nil)),[0],2,[],[],[]⟩,⟨[],[(3,(.sl 6))],[],none,[0],1,[],[],[]⟩]) (.seq (.reg [⟨[],[(4,(.b2s (.cut false false true false 1 (.ld 1 false (.fa 0 (.fa 0 (.sl 0)))) .nil (.sl 3) .nil)))],[],none,[0,3],8,[],[],[]⟩]) (.seq (.reg [⟨[],[],[],some (none,.store 1 (.fa 0 (.fa 0 (.sl 0))) (.cut false true false false 1 (.ld 1 false (.fa 0 (.fa 0 (.sl 0)))) (.sl 3) .nil .nil)),[4],10,[],[],[]⟩]) (.seq (.reg [⟨[],[(2,(.sl 4))],[],none,[],2,[],[],[]⟩]) (.seq (.tidy 1 [2]) .ret)))))), [(.sl 2)],false⟩
/- '(*sloth/code.loader).number' -/
def f103:Fun:=⟨ (.seq (.reg [⟨[],[],[(.int .i64 0)],none,[0],1,[],[],[]⟩]) (.seq (.reg [⟨[],[],[],some (some 5,.calle 113 (.cons (.sl 0) .nil)),[],2,[],[],[]⟩,⟨[],[(3,(.sl 5))],[],none,[],1,[],[],[]⟩]) (.seq (.seq (.reg [⟨[],[(7,(.bin .gtr (.sl 3) (.int .u64 9223372036854775807)))],[],none,[3],2,[],[],[]⟩]) (.cond (.sl 7) .stuck .skip)) (.seq (.reg [⟨[],[(2,(.conv .i64 (.sl 3)))],[],none,[],3,[],[],[]⟩]) (.seq (.tidy 1 [2]) .ret))))), [(.sl 2)],false⟩
/- '(*sloth/code.loader).instr' -/
def f104:Fun:=⟨ (.seq (.reg [⟨[(2,.box (.agg (.cons (.int .i64 0) (.cons (.int .i64 0) (.cons (.int .i64 0) .nil)))))],[],[],none,[0,2],1,[],[],[]⟩]) (.seq (.reg [⟨[],[],[],some (some 7,.calle 103 (.cons (.sl 0) .nil)),[0,2],2,[],[],[]⟩,⟨[(3,.box (.agg (.cons (.int .i64 0) (.cons (.int .i64 0) (.cons (.int .i64 0) .nil)))))],[],[],some (none,.store 3 (.sl 3) (.set 0 1 (.sl 7) (.agg (.cons (.int .i64 0) (.cons (.int .i64 0) (.cons (.int .i64 0) .nil)))))),[0,2,3],3,[],[],[]⟩]) (.seq (.reg [⟨[(4,.box (.agg (.cons (.str []) (.cons (.int .i64 0) (.cons (.int .i64 0) .nil)))))],[(14,(.ext 1 (.call 79 (.cons (.ld 1 false (.fa 0 (.sl 3))) .nil))))],[],some (none,.store 3 (.sl 4) (.ext 0 (.call 79 (.cons (.ld 1 false (.fa 0 (.sl 3))) .nil)))),[0,2,3,4],8,[],[],[]⟩,⟨[],[(5,(.sl 14))],[],none,[0,2,3,4],1,[],[],[]⟩]) (.seq (.block 0 (.seq (.reg [⟨[],[(15,(.un .not (.sl 5)))],[],none,[0,2,3,4],3,[],[],[]⟩]) (.cond (.sl 15) .stuck (.seq (.reg [⟨[],[(20,(.bin .eql (.ld 1 false (.fa 1 (.sl 4))) (.int .i64 3)))],[],none,[0,2,3,4],4,[],[],[]⟩]) (.cond (.sl 20) (.reg [⟨[],[],[],some (some 25,.calle 114 (.cons (.sl 0) .nil)),[0,2,3,4],2,[],[],[]⟩,⟨[],[],[],some (none,.store 1 (.fa 1 (.sl 3)) (.sl 25)),[0,2,3,4],2,[],[],[]⟩]) (.seq (.reg [⟨[],[(27,(.bin .neq (.ld 1 false (.fa 1 (.sl 4))) (.int .i64 0)))],[],none,[0,2,3,4],4,[],[],[]⟩]) (.cond (.sl 27) (.reg [⟨[],[],[],some (some 32,.calle 103 (.cons (.sl 0) .nil)),[0,2,3,4],2,[],[],[]⟩,⟨[],[],[],some (none,.store 1 (.fa 1 (.sl 3)) (.sl 32)),[0,2,3,4],2,[],[],[]⟩]) .skip))))))) (.seq (.seq (.reg [⟨[],[(36,(.bin .neq (.ld 1 false (.fa 2 (.sl 4))) (.int .i64 0)))],[],none,[0,2,3],3,[],[],[]⟩]) (.cond (.sl 36) (.reg [⟨[],[],[],some (some 38,.calle 103 (.cons (.sl 0) .nil)),[2,3],2,[],[],[]⟩,⟨[],[],[],some (none,.store 1 (.fa 2 (.sl 3)) (.sl 38)),[2,3],2,[],[],[]⟩]) .skip)) (.seq (.reg [⟨[],[],[],some (none,.store 3 (.sl 2) (.ld 3 true (.sl 3))),[2],2,[],[],[]⟩]) (.seq (.tidy 1 [2]) .ret))))))), [(.ld 3 true (.sl 2))],false⟩
/- 'strings.Replace' -/
def z9F:C:= (.seq (.reg [⟨[],[(54,(.bin .lss (.sl 53) (.sl 52)))],[],none,[0,1,2,10,11,52,53],1,[],[],[]⟩]) (.seq (.cond (.sl 54) .skip (.seq (.tidy 0 [0,10,11]) (.exit 0))) (.seq (.block 1 (.seq (.reg [⟨[],[(12,(.bin .add (.sl 11) (.call 117 (.cons (.cut true true false false 0 (.sl 0) (.sl 11) .nil .nil) (.cons (.sl 1) .nil)))))],[],none,[0,1,2,10,11,52,53],8,[],[],[]⟩]) (.seq (.reg [⟨[],[],[],some (some 66,.calle 47 (.cons (.sl 10) (.cons (.cut true true true false 0 (.sl 0) (.sl 11) (.sl 12) .nil) .nil))),[0,1,2,10,12,52,53],5,[],[],[]⟩]) (.seq (.reg [⟨[],[],[],some (some 68,.calle 47 (.cons (.sl 10) (.cons (.sl 2) .nil))),[0,1,2,10,12,52,53],2,[],[],[]⟩]) (.reg [⟨[],[(11,(.bin .add (.sl 12) (.len true (.sl 1))))],[],none,[0,1,2,10,52,53],5,[],[],[]⟩]))))) (.reg [⟨[],[(53,(.bin .add (.sl 53) (.int .i64 1)))],[],none,[0,1,2,10,11,52],2,[],[],[]⟩]))))
def z9E:C:= (.seq (.reg [⟨[],[(79,(.bin .lss (.sl 78) (.sl 77)))],[],none,[0,2,10,11,77,78],1,[],[],[]⟩]) (.seq (.cond (.sl 79) .skip (.seq (.tidy 0 [0,10,11]) (.exit 2))) (.seq (.block 3 (.seq (.reg [⟨[],[(14,(.ext 1 (.call 118 (.cons (.cut true true false false 0 (.sl 0) (.sl 11) .nil .nil) .nil))))],[(.ext 0 (.call 118 (.cons (.cut true true false false 0 (.sl 0) (.sl 11) .nil .nil) .nil)))],none,[0,2,10,11,77,78],9,[],[],[]⟩]) (.seq (.reg [⟨[],[(15,(.bin .add (.sl 11) (.sl 14)))],[],none,[0,2,10,11,77,78],4,[],[],[]⟩]) (.seq (.reg [⟨[],[],[],some (some 94,.calle 47 (.cons (.sl 10) (.cons (.cut true true true false 0 (.sl 0) (.sl 11) (.sl 15) .nil) .nil))),[0,2,10,15,77,78],5,[],[],[]⟩]) (.seq (.reg [⟨[],[],[],some (some 96,.calle 47 (.cons (.sl 10) (.cons (.sl 2) .nil))),[0,2,10,15,77,78],2,[],[],[]⟩]) (.reg [⟨[],[(11,(.sl 15))],[],none,[0,2,10,77,78],2,[],[],[]⟩])))))) (.reg [⟨[],[(78,(.bin .add (.sl 78) (.int .i64 1)))],[],none,[0,2,10,11,77],2,[],[],[]⟩]))))
def f106:Fun:=⟨ (.seq (.reg [⟨[],[],[(.str [])],none,[0,1,2,3],1,[],[],[]⟩]) (.seq (.seq (.reg [⟨[],[(22,(.or (.bin .eql (.sl 1) (.sl 2)) (.bin .eql (.sl 3) (.int .i64 0))))],[],none,[0,1,2,3],7,[],[],[]⟩]) (.cond (.sl 22) (.seq (.reg [⟨[],[(8,(.sl 0))],[],none,[],2,[],[],[]⟩]) (.seq (.tidy 0 [8]) .ret)) .skip)) (.seq (.seq (.reg [⟨[],[(9,(.call 115 (.cons (.sl 0) (.cons (.sl 1) .nil))))],[],none,[0,1,2,3],4,[],[],[]⟩]) (.seq (.reg [⟨[],[(28,(.bin .eql (.sl 9) (.int .i64 0)))],[],none,[0,1,2,3,9],2,[],[],[]⟩]) (.cond (.sl 28) (.seq (.reg [⟨[],[(8,(.sl 0))],[],none,[],2,[],[],[]⟩]) (.seq (.tidy 0 [8]) .ret)) (.seq (.reg [⟨[],[(36,(.or (.bin .lss (.sl 3) (.int .i64 0)) (.bin .lss (.sl 9) (.sl 3))))],[],none,[0,1,2,3,9],7,[],[],[]⟩]) (.cond (.sl 36) (.reg [⟨[],[(3,(.sl 9))],[],none,[0,1,2],2,[],[],[]⟩]) .skip))))) (.seq (.reg [⟨[(10,.bld 78 5)],[],[],none,[0,1,2,3,10],1,[],[],[]⟩]) (.seq (.reg [⟨[],[],[(.call 116 (.cons (.sl 10) (.cons (.bin .add (.len true (.sl 0)) (.bin .mul (.sl 3) (.bin .sub (.len true (.sl 2)) (.len true (.sl 1))))) .nil)))],none,[0,1,2,3,10],11,[],[],[]⟩]) (.seq (.reg [⟨[],[(11,(.int .i64 0))],[],none,[0,1,2,3,10],1,[],[],[]⟩]) (.seq (.seq (.reg [⟨[],[(51,(.bin .gtr (.len true (.sl 1)) (.int .i64 0)))],[],none,[0,1,2,3,10,11],3,[],[],[]⟩]) (.cond (.sl 51) (.seq (.reg [⟨[],[(52,(.sl 3)),(53,(.int .i64 0))],[],none,[0,1,2,10,11],2,[],[],[]⟩]) (.block 0 (.seq (.tidy 0 [0,1,2,10,11,52,53]) (.loop (.seq (.tidy 0 [0,1,2,10,11,52,53]) z9F))))) (.seq (.reg [⟨[],[],[],some (some 75,.calle 47 (.cons (.sl 10) (.cons (.sl 2) .nil))),[0,2,3,10,11],2,[],[],[]⟩]) (.seq (.reg [⟨[],[(77,(.bin .sub (.sl 3) (.int .i64 1))),(78,(.int .i64 0))],[],none,[0,2,10,11],3,[],[],[]⟩]) (.block 2 (.seq (.tidy 0 [0,2,10,11,77,78]) (.loop (.seq (.tidy 0 [0,2,10,11,77,78]) z9E)))))))) (.seq (.reg [⟨[],[],[],some (some 102,.calle 47 (.cons (.sl 10) (.cons (.cut true true false false 0 (.sl 0) (.sl 11) .nil .nil) .nil))),[10],4,[],[],[]⟩]) (.seq (.reg [⟨[],[],[],some (some 103,.calle 52 (.cons (.sl 10) .nil)),[],1,[],[],[]⟩,⟨[],[(8,(.sl 103))],[],none,[],1,[],[],[]⟩]) (.seq (.tidy 0 [8]) .ret)))))))))), [(.sl 8)],false⟩
/- 'sloth/code.operators' -/
def f108:Fun:=⟨ (.seq (.reg [⟨[],[],[(.nilsl 1)],none,[],1,[],[],[]⟩]) (.seq (.reg [⟨[(1,.lits 1 (.cons (.str []) (.cons (.str [43]) (.cons (.str [45]) (.cons (.str [42]) (.cons (.str [47]) (.cons (.str [37]) (.cons (.str [61,61]) (.cons (.str [47,61]) (.cons (.str [60]) (.cons (.str [60,61]) (.cons (.str [62]) (.cons (.str [62,61]) .nil)))))))))))))],[(0,(.sl 1))],[],none,[],2,[],[],[]⟩]) (.seq (.tidy 0 [0]) .ret))), [(.sl 0)],false⟩
/- '(*sloth/code.reader).blanks' -/
def z9D:C:= (.seq (.seq (.reg [⟨[],[(24,(.and (.bin .lss (.ld 1 false (.fa 1 (.fa 0 (.sl 0)))) (.len true (.ld 1 false (.fa 0 (.fa 0 (.sl 0)))))) (.bin .geq (.call 123 (.cons (.str [32,9,10,13]) (.cons (.ix (.ld 1 false (.fa 0 (.fa 0 (.sl 0)))) (.ld 1 false (.fa 1 (.fa 0 (.sl 0))))) .nil))) (.int .i64 0))))],[],none,[0],23,[[],[0],[0,1],[1,0,2],[],[4],[4,5],[5,4,6],[6,4,5,7],[7,5,4,6,8,2,0,1,3],[3,1,0,2,8,6,4,5,7,9],[9,7,5,4,6,8,2,0,1,3,10],[10,3,1,0,2,8,6,4,5,7,9,11],[11,9,7,5,4,6,8,2,0,1,3,10,12],[12,10,3,1,0,2,8,6,4,5,7,9,11,13],[9,7,5,4,6,8,2,0,1,3,10],[10,3,1,0,2,8,6,4,5,7,9,15],[15,9,7,5,4,6,8,2,0,1,3,10,16],[16,10,3,1,0,2,8,6,4,5,7,9,15,17],[17,15,16,18,13,11,9,7,5,4,6,8,2,0,1,3,10,12,14],[14,12,10,3,1,0,2,8,6,4,5,7,9,11,13,18,16,15,17,19],[19,17,15,16,18,13,11,9,7,5,4,6,8,2,0,1,3,10,12,14,20],[20,14,12,11,13,18,16,15,17,19,21,9,7,5,4,6,8,2,0,1,3,10]],[],[]⟩]) (.cond (.sl 24) .skip (.seq (.keep []) (.exit 0)))) (.block 1 (.reg [⟨[],[],[],some (none,.store 1 (.fa 1 (.fa 0 (.sl 0))) (.bin .add (.ld 1 false (.fa 1 (.fa 0 (.sl 0)))) (.int .i64 1))),[0],8,[],[],[]⟩])))
def f109:Fun:=⟨ (.block 0 (.seq (.keep [0]) (.loop (.seq (.keep [0]) z9D)))), [],false⟩
/- '(*sloth/code.reader).piece' -/
def z9C:C:= (.seq (.reg [⟨[],[(37,(.bin .lss (.sl 36) (.sl 35)))],[],none,[0,9,34,35,36],1,[],[],[]⟩]) (.seq (.cond (.sl 37) .skip (.seq (.keep [0]) (.exit 1))) (.seq (.block 2 (.seq (.reg [⟨[],[(10,(.sl 36)),(11,(.ld 1 false (.ia 1 (.sl 34) (.sl 36))))],[],none,[0,9,34,35,36],5,[],[],[]⟩]) (.seq (.reg [⟨[],[(47,(.and (.bin .eql (.sl 11) (.sl 9)) (.bin .gtr (.sl 10) (.int .i64 0))))],[],none,[0,9,10,34,35,36],7,[],[],[]⟩]) (.cond (.sl 47) (.seq (.reg [⟨[],[(8,(.sl 10))],[],none,[],2,[],[],[]⟩]) (.seq (.keep [8]) .ret)) .skip)))) (.reg [⟨[],[(36,(.bin .add (.sl 36) (.int .i64 1)))],[],none,[0,9,34,35],2,[],[],[]⟩]))))
def f112:Fun:=⟨ (.seq (.reg [⟨[],[],[(.int .i64 0)],none,[0,1,2,3],1,[],[],[]⟩]) (.seq (.seq (.reg [⟨[],[(12,(.sl 1))],[],none,[0,2,3],1,[],[],[]⟩]) (.block 0 (.seq (.seq (.reg [⟨[],[(13,(.bin .eql (.sl 12) (.int .i64 4)))],[],none,[0,2,3,12],2,[],[],[]⟩]) (.cond (.sl 13) .skip (.reg [⟨[],[(13,(.bin .eql (.sl 12) (.int .i64 5)))],[],none,[0,2,3,12],2,[],[],[]⟩]))) (.cond (.sl 13) (.seq (.regl [⟨[],[],[(.sl 3),(.sl 2),(.ld 1 false (.fa 2 (.fa 0 (.sl 0))))],some (some 24,.calle 97 (.cons (.sl 0) .nil)),[0,2,3],9,[[],[],[1],[1,2],[2,1,3],[],[],[],[7],[7,8,6,5],[5,6,8,7,9],[9,7,8,6,5,10,3,1,2,4],[11,10,9,8,7,6,5,4,3,2,1,0],[0,1,2,3,4,5,6,7,8,9,10,11,12],[12,11,10,9,8,7,6,5,4,3,2,1,0,13]],[],[(.sl 0),(.fa 0 (.sl 0)),(.fa 2 (.fa 0 (.sl 0))),(.ld 1 false (.fa 2 (.fa 0 (.sl 0)))),(.sl 2),(.sl 3)]⟩,⟨[(26,.lits 3 (.cons (.set 2 1 (.sl 24) (.set 1 1 (.sl 3) (.set 0 1 (.sl 2) (.agg (.cons (.int .i64 0) (.cons (.int .i64 0) (.cons (.str []) .nil))))))) .nil))],[],[],some (some 27,.app 3 (.ld 1 false (.fa 2 (.fa 0 (.sl 0)))) (.sl 26)),[0],3,[],[],[(.sl 0)]⟩,⟨[],[],[],some (none,.store 1 (.fa 2 (.fa 0 (.sl 0))) (.sl 27)),[],3,[],[],[]⟩]) (.seq (.reg [⟨[],[(8,(.int .i64 0))],[],none,[],1,[],[],[]⟩]) (.seq (.keep [8]) .ret))) (.seq (.reg [⟨[],[(30,(.bin .eql (.sl 12) (.int .i64 6)))],[],none,[0],2,[],[],[]⟩]) (.cond (.sl 30) (.seq (.reg [⟨[],[],[],some (some 33,.calle 96 (.cons (.sl 0) .nil)),[0],2,[],[],[]⟩,⟨[],[(9,(.sl 33))],[],none,[0],1,[],[],[]⟩]) (.seq (.seq (.reg [⟨[],[(34,(.call 108 .nil)),(35,(.len false (.call 108 .nil))),(36,(.int .i64 0))],[],none,[0,9],3,[],[],[]⟩]) (.block 1 (.seq (.keep [0,9,34,35,36]) (.loop (.seq (.keep [0,9,34,35,36]) z9C))))) .stuck)) .skip)))))) (.seq (.reg [⟨[],[],[],some (some 53,.calle 98 (.cons (.sl 0) .nil)),[],2,[],[],[]⟩,⟨[],[(8,(.sl 53))],[],none,[],1,[],[],[]⟩]) (.seq (.keep [8]) .ret)))), [(.sl 8)],false⟩
/- '(*sloth/code.loader).folded' -/
def z9B:C:= (.seq (.seq (.reg [⟨[],[(7,(.bin .lss (.sl 4) (.int .i64 64)))],[],none,[0,2,3,4],2,[],[],[]⟩]) (.cond (.sl 7) .skip (.seq (.tidy 1 [2]) (.exit 0)))) (.seq (.block 1 (.seq (.reg [⟨[],[],[],some (some 11,.calle 126 (.cons (.sl 0) .nil)),[0,2,3,4],2,[],[],[]⟩,⟨[],[(5,(.sl 11))],[],none,[0,2,3,4],1,[],[],[]⟩]) (.seq (.seq (.reg [⟨[],[(25,(.or (.and (.bin .eql (.sl 4) (.int .i64 63)) (.bin .gtr (.sl 5) (.int .u8 1))) (.and (.bin .gtr (.sl 4) (.int .i64 0)) (.bin .eql (.sl 5) (.int .u8 0)))))],[],none,[0,2,3,4,5],14,[],[],[]⟩]) (.cond (.sl 25) .stuck .skip)) (.seq (.reg [⟨[],[(3,(.bin .or (.sl 3) (.sh true (.conv .u64 (.bin .and (.sl 5) (.int .u8 127))) (.sl 4))))],[],none,[0,2,4,5],8,[],[],[]⟩]) (.seq (.reg [⟨[],[(36,(.bin .lss (.sl 5) (.int .u8 128)))],[],none,[0,2,3,4],2,[],[],[]⟩]) (.cond (.sl 36) (.seq (.reg [⟨[],[(2,(.sl 3))],[],none,[],2,[],[],[]⟩]) (.seq (.tidy 1 [2]) .ret)) .skip)))))) (.reg [⟨[],[(4,(.bin .add (.sl 4) (.int .i64 7)))],[],none,[0,2,3],3,[],[],[]⟩])))
def f113:Fun:=⟨ (.seq (.reg [⟨[],[(2,(.int .u64 0))],[],none,[0],1,[],[],[]⟩]) (.seq (.reg [⟨[],[(3,(.int .u64 0))],[],none,[0,2],1,[],[],[]⟩]) (.seq (.seq (.reg [⟨[],[(4,(.int .i64 0))],[],none,[0,2,3],1,[],[],[]⟩]) (.block 0 (.seq (.tidy 1 [0,2,3,4]) (.loop (.seq (.tidy 1 [0,2,3,4]) z9B))))) .stuck))), [(.sl 2)],false⟩
/- '(*sloth/code.loader).signed' -/
def f114:Fun:=⟨ (.seq (.reg [⟨[],[],[(.int .i64 0)],none,[0],1,[],[],[]⟩]) (.seq (.reg [⟨[],[],[],some (some 5,.calle 113 (.cons (.sl 0) .nil)),[],2,[],[],[]⟩,⟨[],[(3,(.sl 5))],[],none,[],1,[],[],[]⟩]) (.seq (.seq (.reg [⟨[],[(8,(.bin .eql (.bin .and (.sl 3) (.int .u64 1)) (.int .u64 1)))],[],none,[3],3,[],[],[]⟩]) (.cond (.sl 8) (.seq (.reg [⟨[],[(2,(.bin .sub (.un .neg (.conv .i64 (.sh false (.sl 3) (.int .u64 1)))) (.int .i64 1)))],[],none,[],6,[],[],[]⟩]) (.seq (.tidy 1 [2]) .ret)) .skip)) (.seq (.reg [⟨[],[(2,(.conv .i64 (.sh false (.sl 3) (.int .u64 1))))],[],none,[],4,[],[],[]⟩]) (.seq (.tidy 1 [2]) .ret))))), [(.sl 2)],false⟩
/- '(*sloth/code.loader).take' -/
def f126:Fun:=⟨ (.seq (.reg [⟨[],[],[(.int .u8 0)],none,[0],1,[],[],[]⟩]) (.seq (.seq (.reg [⟨[],[(9,(.bin .eql (.len false (.ld 1 false (.fa 0 (.fa 0 (.sl 0))))) (.int .i64 0)))],[],none,[0],6,[],[],[]⟩]) (.cond (.sl 9) .stuck .skip)) (.seq (.reg [⟨[],[(3,(.ld 1 false (.ia 1 (.ld 1 false (.fa 0 (.fa 0 (.sl 0)))) (.int .i64 0))))],[],none,[0],7,[],[],[]⟩]) (.seq (.reg [⟨[],[],[],some (none,.store 1 (.fa 0 (.fa 0 (.sl 0))) (.cut false true false false 1 (.ld 1 false (.fa 0 (.fa 0 (.sl 0)))) (.int .i64 1) .nil .nil)),[3],9,[],[],[]⟩]) (.seq (.reg [⟨[],[(2,(.sl 3))],[],none,[],2,[],[],[]⟩]) (.seq (.tidy 1 [2]) .ret)))))), [(.sl 2)],false⟩
def eB8:List Blk→Option (List UInt8)
  |[.map [(.nils 78,.bsl 1 0 n)],.map [(.emps 5,.d false .nilp),(.str bytes,.d false .nilp)]]=>if n=bytes.length∧n≤1000000 then some bytes else none
  |_=>none
theorem z1k{bs:List Blk}{bytes:List UInt8}(h:eB8 bs=some bytes):bs=[bldB 78 1 bytes.length,bufB 5 bytes]∧bytes.length≤1000000:=by
  unfold eB8 at h
  split at h
  · split at h
    · rename_i hc
      obtain⟨h1,h2⟩:=hc
      simp only[Option.some.injEq] at h
      subst h
      subst h1
      exact⟨rfl,h2⟩
    · cases h
  · cases h
def j1W:FuncId→List V→List Blk→Option (V×List Blk×List Nat)
  |110,[.ptr 0 0 0,.d false (.int .u8 c)],bs=>match eB8 bs with
    |some bytes=>if 0≤c∧c<256 then some (.d false .nilif,[bldB 78 1 (bytes++[UInt8.ofNat c.toNat]).length,bufB 5 (bytes++[UInt8.ofNat c.toNat])],[1]) else none
    |none=>none
  |47,[.ptr 0 0 0,.d false (.str s)],bs=>match eB8 bs with
    |some bytes=>if s.length≤1000000 then some (.tup [.d false (.int .i64 s.length),.d false .nilif],[bldB 78 1 (bytes++s).length,bufB 5 (bytes++s)],[1]) else none
    |none=>none
  |51,[.ptr 0 0 0],bs=>match eB8 bs with
    |some bytes=>some (.d false (.int .i64 bytes.length),[bldB 78 1 bytes.length,bufB 5 bytes],[])
    |none=>none
  |52,[.ptr 0 0 0],bs=>match eB8 bs with
    |some bytes=>some (.d false (.str bytes),[bldB 78 1 bytes.length,bufB 5 bytes],[1])
    |none=>none
  |_,_,_=>none
theorem z2n:∀ n:Nat,n<10→Lib.itoa n=[UInt8.ofNat (48+n)]:=by
  intro n h
  unfold Lib.itoa
  rw[if_neg (by omega),Int.toNat_natCast,Lib.decDigits]
  simp [h]
theorem z2J:∀ n:Nat,n<10→Lib.atoi [UInt8.ofNat (48+n)]=some (n:Int):=by decide
def z8j:FuncId→List V→Option (V×List Blk)
  |49,[.d _ (.int .i64 n)]=>if 0≤n∧n<10 then some (.d false (.str [UInt8.ofNat (48+n.toNat)]),[]) else none
  |111,[.d _ (.str [c])]=>if 48≤c.toNat∧c.toNat<58 then some (.tup [.d false (.int .i64 (c.toNat - 48:Nat)),.d false .nilif],[]) else none
  |123,[.d _ (.str s),.d _ (.int .u8 c)]=>if 0≤c∧c<256 then some (.d false (.int .i64 (Lib.indexByte s (UInt8.ofNat c.toNat))),[]) else none
  |115,[.d _ (.str s),.d _ (.str [c])]=>some (.d false (.int .i64 (s.count c)),[])
  |_,_=>none
def KS8:Cx:=⟨z8j,j1W,GT,fun _=>false,[]⟩
theorem z5L:KS8.Sound Tryz.prog:=by
  refine⟨fun f args r news h=>?_,fun f args r news h=>(by cases h),fun f args blks r blks' mv h=>?_⟩
  · simp only[KS8] at h ⊢
    unfold z8j at h
    split at h
    · refine⟨by kernel_rfl,?_⟩
      split at h
      · rename_i a n hc
        simp only[Option.some.injEq,Prod.mk.injEq] at h
        obtain⟨rfl,rfl⟩:=h
        have e:=z2n n.toNat (by omega)
        have e2:((n.toNat:Nat):Int)=n:=by omega
        rw[e2] at e
        rw[←e]
        exact z3Y n a (by omega) (by omega)
      · cases h
    · refine⟨by kernel_rfl,?_⟩
      split at h
      · rename_i a c hc
        simp only[Option.some.injEq,Prod.mk.injEq] at h
        obtain⟨rfl,rfl⟩:=h
        have e:=z2J (c.toNat - 48) (by omega)
        have e2:UInt8.ofNat (48+(c.toNat - 48))=c:=by
          rw[show 48+(c.toNat - 48)=c.toNat by omega];simp
        rw[e2] at e
        exact z3Z [c] a _ (by simp) e
      · cases h
    · refine⟨by kernel_rfl,?_⟩
      split at h
      · rename_i a s b c hc
        simp only[Option.some.injEq,Prod.mk.injEq] at h
        obtain⟨rfl,rfl⟩:=h
        have:=z17 s (UInt8.ofNat c.toNat) a b
        have e:((UInt8.ofNat c.toNat).toNat:Int)=c:=by
          rw[UInt8.toNat_ofNat'];omega
        rw[e] at this
        exact this
      · cases h
    · refine⟨by kernel_rfl,?_⟩
      simp only[Option.some.injEq,Prod.mk.injEq] at h
      obtain⟨rfl,rfl⟩:=h
      exact z18 _ _ _ _
    · cases h
  · simp only[KS8] at h ⊢
    unfold j1W at h
    split at h
    · refine⟨by kernel_rfl,?_⟩
      split at h
      · rename_i bytes hb
        obtain⟨rfl,hl⟩:=z1k hb
        split at h
        · rename_i c _ hc
          simp only[Option.some.injEq,Prod.mk.injEq] at h
          obtain⟨rfl,rfl,rfl⟩:=h
          have:=q8i (G:=GT) tB_wb bytes (UInt8.ofNat c.toNat) (by omega)
          have e:((UInt8.ofNat c.toNat).toNat:Int)=c:=by
            rw[UInt8.toNat_ofNat'];omega
          rw[e] at this
          exact this
        · cases h
      · cases h
    · refine⟨by kernel_rfl,?_⟩
      split at h
      · rename_i bytes hb
        obtain⟨rfl,hl⟩:=z1k hb
        split at h
        · simp only[Option.some.injEq,Prod.mk.injEq] at h
          obtain⟨rfl,rfl,rfl⟩:=h
          exact q6Y tB_ws bytes _ (by omega)
        · cases h
      · cases h
    · refine⟨by kernel_rfl,?_⟩
      split at h
      · rename_i bytes hb
        obtain⟨rfl,hl⟩:=z1k hb
        simp only[Option.some.injEq,Prod.mk.injEq] at h
        obtain⟨rfl,rfl,rfl⟩:=h
        exact z9P Tryz.lays170 bytes
      · cases h
    · refine⟨by kernel_rfl,?_⟩
      split at h
      · rename_i bytes hb
        obtain⟨rfl,hl⟩:=z1k hb
        simp only[Option.some.injEq,Prod.mk.injEq] at h
        obtain⟨rfl,rfl,rfl⟩:=h
        exact z2B Tryz.lays169 Tryz.Builder_Extra_169 bytes
      · cases h
    · cases h
end Go.Vm
end

section
namespace Go.Vm
set_option maxRecDepth 100000
open Go.RowKit Go.Shelf Go.Proofs
def T8:List Row:=[⟨13,0,1,f13⟩,⟨15,0,2,f15⟩,⟨19,0,1,f19⟩,⟨24,0,1,f24⟩,⟨33,0,0,f33⟩,⟨34,0,1,f34⟩,⟨35,0,1,f35⟩,⟨36,0,0,f36⟩,⟨37,0,2,f37⟩,⟨48,0,1,f48⟩,⟨50,0,2,f50⟩,⟨60,1,1,f60⟩,⟨60,2,1,f60⟩,⟨60,3,1,f60⟩,⟨60,4,1,f60⟩,⟨60,5,1,f60⟩,⟨61,1,1,f61⟩,⟨61,2,1,f61⟩,⟨61,3,1,f61⟩,⟨61,4,1,f61⟩,⟨61,5,1,f61⟩,⟨68,1,2,f68⟩,⟨69,1,2,f69⟩,⟨70,1,2,f70⟩,⟨71,0,1,f71⟩,⟨72,0,1,f72⟩,⟨77,1,1,f77⟩,⟨78,0,0,f78⟩,⟨79,0,1,f79⟩,⟨80,0,5,f80⟩,⟨81,0,3,f81⟩,⟨82,1,3,f82⟩,⟨88,0,3,f88⟩,⟨90,0,3,f90⟩,⟨96,1,1,f96⟩,⟨96,2,1,f96⟩,⟨96,3,1,f96⟩,⟨96,4,1,f96⟩,⟨96,5,1,f96⟩,⟨97,1,1,f97⟩,⟨97,2,1,f97⟩,⟨97,3,1,f97⟩,⟨97,4,1,f97⟩,⟨97,5,1,f97⟩,⟨98,1,1,f98⟩,⟨98,2,1,f98⟩,⟨98,3,1,f98⟩,⟨98,4,1,f98⟩,⟨98,5,1,f98⟩,⟨99,1,4,f99⟩,⟨99,2,4,f99⟩,⟨99,3,4,f99⟩,⟨99,4,4,f99⟩,⟨99,5,4,f99⟩,⟨100,0,1,f100⟩,⟨101,1,1,f101⟩,⟨102,1,1,f102⟩,⟨103,1,1,f103⟩,⟨104,1,1,f104⟩,⟨106,0,4,f106⟩,⟨108,0,0,f108⟩,⟨109,1,1,f109⟩,⟨109,2,1,f109⟩,⟨109,3,1,f109⟩,⟨109,4,1,f109⟩,⟨109,5,1,f109⟩,⟨112,1,4,f112⟩,⟨112,2,4,f112⟩,⟨112,3,4,f112⟩,⟨112,4,4,f112⟩,⟨112,5,4,f112⟩,⟨113,1,1,f113⟩,⟨114,1,1,f114⟩,⟨126,1,1,f126⟩]
def K8 (n:Nat):Cx:=cxM KS8 400 T8 n
theorem T8_ok:∀ r∈T8,q0J Tryz.prog r.f r.m r.n r.g=true:=by
 have h:T8.all (fun r=>q0J Tryz.prog r.f r.m r.n r.g)=true:=by kernel_rfl
 simpa [List.all_eq_true] using h
theorem q4O (n:Nat):(K8 n).Sound Tryz.prog:=z5x q0C z5L T8_ok (fun r _ h=>by cases h) rfl n
theorem z5N (n:Nat):(K8 n).dfr=[]:=z0z rfl 400 T8 n
def q4G:List (List D):=[[.int .u8 83],[.int .u8 76],[.int .u8 84],[.int .u8 72],[.int .u8 7],[.int .u8 5],[.int .u8 70],[.int .u8 97],[.int .u8 108],[.int .u8 115],[.int .u8 101],[.int .u8 0],[.int .u8 4],[.int .u8 84],[.int .u8 114],[.int .u8 117],[.int .u8 101],[.int .u8 0],[.int .u8 4],[.int .u8 85],[.int .u8 110],[.int .u8 105],[.int .u8 116],[.int .u8 0],[.int .u8 3],[.int .u8 78],[.int .u8 105],[.int .u8 108],[.int .u8 0],[.int .u8 4],[.int .u8 67],[.int .u8 111],[.int .u8 110],[.int .u8 115],[.int .u8 2],[.int .u8 4],[.int .u8 80],[.int .u8 97],[.int .u8 105],[.int .u8 114],[.int .u8 2],[.int .u8 6],[.int .u8 84],[.int .u8 114],[.int .u8 105],[.int .u8 112],[.int .u8 108],[.int .u8 101],[.int .u8 3],[.int .u8 1],[.int .u8 2],[.int .u8 105],[.int .u8 100],[.int .u8 1],[.int .u8 4],[.int .u8 1],[.int .u8 0],[.int .u8 7],[.int .u8 2],[.int .u8 4],[.int .u8 1],[.int .u8 17],[.int .u8 204],[.int .u8 185],[.int .u8 3],[.int .u8 45]]
def z8J:List UInt8:=[115,104,97,112,101,32,34,70,97,108,115,101,34,32,48,10,115,104,97,112,101,32,34,84,114,117,101,34,32,48,10,115,104,97,112,101,32,34,85,110,105,116,34,32,48,10,115,104,97,112,101,32,34,78,105,108,34,32,48,10,115,104,97,112,101,32,34,67,111,110,115,34,32,50,10,115,104,97,112,101,32,34,80,97,105,114,34,32,50,10,115,104,97,112,101,32,34,84,114,105,112,108,101,34,32,51,10,103,108,111,98,97,108,32,34,105,100,34,32,49,10,32,32,112,117,115,104,32,48,10,32,32,117,112,100,97,116,101,32,50,10,32,32,112,111,112,32,49,10,32,32,117,110,119,105,110,100,10]
def cL:C→C
 | .seq a _=>a
 | c=>c
def cR:C→C
 | .seq _ b=>b
 | c=>c
def f21D:DfrF:=⟨cL f21.body,cL (cR f21.body),cR (cR (cR f21.body)),f21.res,9,59,[2,3]⟩
def f27D:DfrF:=⟨cL f27.body,cL (cR f27.body),cR (cR (cR f27.body)),f27.res,10,76,[2,3]⟩
theorem z9y:z7D Tryz.prog 21 1 f21D=true:=by kernel_rfl
theorem z43:z7D Tryz.prog 27 1 f27D=true:=by kernel_rfl
def st (x:Option (Ex×S)):S:=match x with
 | some (_,s)=>s
 | none=>⟨[],[],0,[]⟩
def s0R:S:=st (execC 400 (K8 30) f21D.c0 (startS [.d false (.str z8J)] []))
def s1R:S:=st (execC 400 (K8 30) f21D.ca s0R)
def idT:V:=.tup [.agg [.d false (.sl 2 [[.str [70,97,108,115,101],.int .i64 0],[.str [84,114,117,101],.int .i64 0],[.str [85,110,105,116],.int .i64 0],[.str [78,105,108],.int .i64 0],[.str [67,111,110,115],.int .i64 2],[.str [80,97,105,114],.int .i64 2],[.str [84,114,105,112,108,101],.int .i64 3]]),
 .d false (.sl 3 [[.str [105,100],.int .i64 1,.sl 3 [[.int .i64 1,.int .i64 0,.int .i64 0],[.int .i64 7,.int .i64 2,.int .i64 0],[.int .i64 4,.int .i64 1,.int .i64 0],[.int .i64 17,.int .i64 0,.int .i64 0]]]])],.d false (.int .i64 0)]
theorem run21:DfrRun (K8 30) f21D [.d false (.str z8J)] idT []:=z5u (N:=400) (s0:=s0R) (s1:=s1R) (by kernel_rfl) (by kernel_rfl) (by kernel_rfl) (fun ds=>by kernel_rfl)
end Go.Vm
end

section
namespace Go.Vm
set_option maxRecDepth 100000
open Go.RowKit Go.Shelf Go.Proofs
def s0L (c:Bool):S:=st (execC 400 (K8 30) f27D.c0 (startS [.d c (.sl 1 q4G)] []))
def s1L (c:Bool):S:=st (execC 400 (K8 30) f27D.ca (s0L c))
theorem z99:DfrRun (K8 30) f27D [.d false (.sl 1 q4G)] idT []:=z5u (N:=400) (s0:=s0L false) (s1:=s1L false) (by kernel_rfl) (by kernel_rfl) (by kernel_rfl) (fun ds=>by kernel_rfl)
theorem z98:DfrRun (K8 30) f27D [.d true (.sl 1 q4G)] idT []:=z5u (N:=400) (s0:=s0L true) (s1:=s1L true) (by kernel_rfl) (by kernel_rfl) (by kernel_rfl) (fun ds=>by kernel_rfl)
def z8i:FuncId→List V→Option (V×List Blk)
 | 21,[.d false (.str l)]=>if l=z8J then some (idT,[]) else none
 | 27,[.d c (.sl 1 rows)]=>if q9B rows q4G then some (idT,[]) else none
 | f,vs=>(K8 30).call f vs
def KA8:Cx:=⟨z8i,(K8 30).eff,GT,fun _=>false,[]⟩
theorem q7a (n:Nat):(K8 n).glob=GT:=q5Q KS8 400 T8 n
theorem z5M:KA8.Sound Tryz.prog:=by
 refine ⟨fun f args r news h=>?_,fun f args r news h=>(by cases h),fun f args blks r blks' mv h=>?_⟩
 ·simp only [KA8] at h ⊢
  unfold z8i at h
  split at h
  ·split at h
   ·rename_i l hl
    subst hl
    simp only [Option.some.injEq,Prod.mk.injEq] at h
    obtain ⟨rfl,rfl⟩:=h
    have:=q6Z q0C (q4O 30) z9y z8V run21 (z5N 30)
    rw [q7a] at this
    exact this
   ·cases h
  ·split at h
   ·rename_i c rows hl
    obtain rfl:=q5P hl
    simp only [Option.some.injEq,Prod.mk.injEq] at h
    obtain ⟨rfl,rfl⟩:=h
    cases c with
    | false=>
     have:=q6Z q0C (q4O 30) z43 z3V z99 (z5N 30)
     rw [q7a] at this
     exact this
    | true=>
     have:=q6Z q0C (q4O 30) z43 z3V z98 (z5N 30)
     rw [q7a] at this
     exact this
   ·cases h
  ·have:=(q4O 30).pure _ _ _ _ h
   rw [q7a] at this
   exact this
 ·have:=(q4O 30).eff f args blks r blks' mv h
  rw [q7a] at this
  exact this
theorem z5F:q6c 400 KA8 f11 [] []=some (.bool true,[],[]):=by kernel_rfl
theorem j1Y:q0p Tryz.prog 11=true∧q1f Tryz.prog GT 11 [] (.bool true) []:=q3B q0C z5M j1I (q4V z5F)
end Go.Vm
end

section
namespace Go.Vm
def thn(x:Option (Ex×S))(f:S→Option (Ex×S)):Option (Ex×S):=match x with
 |some (.nrm,s)=>f s
 |r=>r
theorem q2S(s:S) (f):thn (some (.nrm,s)) f=f s:=rfl
theorem z8I(s:S) (f):thn (some (.ret,s)) f=some (.ret,s):=rfl
theorem z6v(n:Nat)(s:S) (f):thn (some (.exit n,s)) f=some (.exit n,s):=rfl
theorem z6u(n:Nat)(s:S) (f):thn (some (.goto n,s)) f=some (.goto n,s):=rfl
def brn(x:Option V)(f g:S→Option (Ex×S))(s:S):Option (Ex×S):=match x with
 |some (.d _ (.bool b))=>if b then f s else g s
 |_=>none
theorem z7K(c) (f g)(s:S):brn (some (.d c (.bool true))) f g s=f s:=rfl
theorem q65(c) (f g)(s:S):brn (some (.d c (.bool false))) f g s=g s:=rfl
def blk(id:Nat)(x:Option (Ex×S)):Option (Ex×S):=match x with
 |some (.exit i,s')=>if i=id then some (.nrm,s') else some (.exit i,s')
 |r=>r
theorem z9X(id)(s:S):blk id (some (.nrm,s))=some (.nrm,s):=rfl
theorem z5A(id)(s:S):blk id (some (.ret,s))=some (.ret,s):=rfl
theorem z7M(id n)(s:S):blk id (some (.goto n,s))=some (.goto n,s):=rfl
theorem q5U(id i)(s:S):blk id (some (.exit i,s))=if i=id then some (.nrm,s) else some (.exit i,s):=rfl
def nrm(x:Option S):Option (Ex×S):=x.map fun s=>(.nrm,s)
theorem q2q(s:S):nrm (some s)=some (.nrm,s):=rfl
theorem q6S(K s):exec K .skip s=some (.nrm,s):=rfl
theorem q25(K l s):exec K (.reg l) s=nrm (q1N K s l):=by
 simp only[exec,nrm];cases q1N K s l <;> rfl
theorem q1U(K a b s):exec K (.seq a b) s=thn (exec K a s) (exec K b):=by
 simp only[exec,thn];cases exec K a s with
 |none=>rfl
 |some p=>obtain⟨e,s'⟩:=p;cases e <;> rfl
theorem q6T(K e a b s):exec K (.cond e a b) s=brn (ev K s e) (exec K a) (exec K b) s:=by
 simp only[exec,brn]
 rcases ev K s e with _|v
 ·rfl
 ·cases v with
  |d c x=>cases x <;> rfl
  |_=>rfl
theorem q3D(K id c s):exec K (.block id c) s=blk id (exec K c s):=by
 simp only[exec,blk]
 rcases exec K c s with _|⟨e,s'⟩
 ·rfl
 ·cases e <;> rfl
theorem z45(K id s):exec K (.exit id) s=some (.exit id,s):=rfl
theorem z44(K l s):exec K (.goto l) s=some (.goto l,s):=rfl
theorem q8g(K s):exec K .ret s=some (.ret,s):=rfl
theorem q9r(K m l s):exec K (.tidy m l) s=nrm (q5z m l s):=by
 simp only[exec,nrm];cases q5z m l s <;> rfl
theorem exec_own(K t k s):exec K (.own t k) s=match look s.rho t with
  |some (.fs _ k' [])=>if k'=k then some (.nrm,⟨put s.rho t (.bsl s.nx 0 0),(s.nx,.dat true k []) :: s.heap,s.nx+1,s.mv⟩) else some (.nrm,s)
  |_=>some (.nrm,s):=rfl
def o1{α β:Type}(f:α→Option β)(x:Option α):Option β:=x.bind f
theorem q2X{α β:Type}(f:α→Option β)(a:α):o1 f (some a)=f a:=rfl
def o2{α β γ:Type}(f:α→β→Option γ)(x:Option α)(y:Option β):Option γ:=x.bind fun a=>y.bind fun b=>f a b
theorem q3S{α β γ:Type}(f:α→β→Option γ)(a:α)(b:β):o2 f (some a) (some b)=f a b:=rfl
def o4(f:V→V→V→V→Option V)(x y z w:Option V):Option V:=x.bind fun a=>y.bind fun b=>z.bind fun c=>w.bind fun d=>f a b c d
theorem z4e(f:V→V→V→V→Option V)(a b c d:V):o4 f (some a) (some b) (some c) (some d)=f a b c d:=rfl
noncomputable def segs(K:Cx)(r:List Seg)(s:S):Option S:=q1N K s r
theorem q2U(K s):segs K [] s=some s:=rfl
theorem q00(K s g r):q1N K s (g :: r)=o1 (segs K r) (q28 K s g):=by
 simp only[q1N,o1,segs];cases q28 K s g <;> rfl
theorem q8U(K s g r):segs K (g :: r) s=o1 (segs K r) (q28 K s g):=q00 K s g r
def segL(K:Cx)(s:S)(g:Seg)(p:S×List Blk):Option S:=
 match q2t K p.1 g.lets with
  |some l=>if q7h K p.1 g.chk then match g.wr with
    |none=>some ⟨l++q0f p.1.rho g.keep,addBlks s.heap s.nx p.2,p.1.nx,s.mv⟩
    |some (d,wr)=>match wonB K p.1 g.wg with
     |some true=>match evWr K p.1 (addBlks s.heap s.nx p.2) wr with
      |some (H,v,q,nx)=>match d with
       |some d=>some ⟨(d,v) :: lose q (l++q0f p.1.rho g.keep),loseH q H,nx,q.ids++s.mv⟩
       |none=>some ⟨lose q (l++q0f p.1.rho g.keep),loseH q H,nx,q.ids++s.mv⟩
      |none=>none
     |some false=>some ⟨l++q0f p.1.rho g.keep,addBlks s.heap s.nx p.2,p.1.nx,s.mv⟩
     |none=>none
   else none
  |none=>none
def segW(K:Cx)(s s1:S)(news:List Blk)(keep:List Nat)(wr:Option (Option Nat×Wr))(won:Option Bool)(chk:Bool)(l:Option (List (Nat×V))):Option S:=
 match l with
 |some l=>if chk then match wr with
   |none=>some ⟨l++q0f s1.rho keep,addBlks s.heap s.nx news,s1.nx,s.mv⟩
   |some (d,wr)=>match won with
    |some true=>match evWr K s1 (addBlks s.heap s.nx news) wr with
     |some (H,v,q,nx)=>match d with
      |some d=>some ⟨(d,v) :: lose q (l++q0f s1.rho keep),loseH q H,nx,q.ids++s.mv⟩
      |none=>some ⟨lose q (l++q0f s1.rho keep),loseH q H,nx,q.ids++s.mv⟩
     |none=>none
    |some false=>some ⟨l++q0f s1.rho keep,addBlks s.heap s.nx news,s1.nx,s.mv⟩
    |none=>none
  else none
 |none=>none
theorem q27(K s mks lets chk wr keep cnt aux wg):q28 K s ⟨mks,lets,chk,wr,keep,cnt,aux,wg,[]⟩=o1 (segL K s ⟨[],lets,chk,wr,keep,cnt,[],wg,[]⟩) (q2z K s mks):=by
 have h:∀ mv H1,z06 K s mv H1 ⟨mks,lets,chk,wr,keep,cnt,aux,wg,[]⟩:=fun mv H1 e he=>by simp at he
 have h2:q28 K s ⟨mks,lets,chk,wr,keep,cnt,aux,wg,[]⟩=q7K K s ⟨mks,lets,chk,wr,keep,cnt,aux,wg,[]⟩:=by
  unfold q28
  split
  ·rename_i s' he;rw[if_pos (h _ _),he]
  ·rename_i he;rw[he]
 rw[h2]
 simp only[q7K,o1,segL];cases q2z K s mks <;> rfl
theorem q3R(K s mks lets chk wr keep cnt aux wg late s1 news):segL K s ⟨mks,lets,chk,wr,keep,cnt,aux,wg,late⟩ (s1,news)=segW K s s1 news keep wr (wonB K s1 wg) (q7h K s1 chk) (q2t K s1 lets):=by
 simp only[segL,segW]
def segO(s:S)(d:Option Nat)(ρ:List (Nat×V))(x:Option (List (Nat×Blk)×V×Lost×Nat)):Option S:=match x with
 |some (H,v,q,nx)=>match d with
  |some d=>some ⟨(d,v) :: lose q ρ,loseH q H,nx,q.ids++s.mv⟩
  |none=>some ⟨lose q ρ,loseH q H,nx,q.ids++s.mv⟩
 |none=>none
theorem q6a(s d ρ H v q nx):segO s (some d) ρ (some (H,v,q,nx))=some ⟨(d,v) :: lose q ρ,loseH q H,nx,q.ids++s.mv⟩:=rfl
theorem q8V(s ρ H v q nx):segO s none ρ (some (H,v,q,nx))=some ⟨lose q ρ,loseH q H,nx,q.ids++s.mv⟩:=rfl
theorem q16(K s s1 news keep won l):segW K s s1 news keep none won true (some l)=some ⟨l++q0f s1.rho keep,addBlks s.heap s.nx news,s1.nx,s.mv⟩:=rfl
theorem q59(K s s1 news keep d wr l):segW K s s1 news keep (some (d,wr)) (some true) true (some l)=segO s d (l++q0f s1.rho keep) (evWr K s1 (addBlks s.heap s.nx news) wr):=by
 simp only[segW,segO,if_true]
theorem z6y(K s s1 news keep d wr l):segW K s s1 news keep (some (d,wr)) (some false) true (some l)=some ⟨l++q0f s1.rho keep,addBlks s.heap s.nx news,s1.nx,s.mv⟩:=rfl
theorem q2j(K s):q2z K s []=some (s,[]):=rfl
def mksA(K:Cx)(s:S)(d:Nat)(r:List (Nat×Mk))(p:V×List Blk):Option (S×List Blk):=
 match q2z K ⟨put s.rho d p.1,s.heap,s.nx+p.2.length,s.mv⟩ r with
 |some (s',more)=>some (s',p.2++more)
 |none=>none
def mksB(news:List Blk)(p:S×List Blk):Option (S×List Blk):=some (p.1,news++p.2)
theorem q6q(news s' more):mksB news (s',more)=some (s',news++more):=rfl
theorem q2N(K s d m r):q2z K s ((d,m) :: r)=o1 (mksA K s d r) (evMk K s m):=by
 simp only[q2z,o1,mksA];cases evMk K s m <;> rfl
theorem q6r(K s d r v news):mksA K s d r (v,news)=o1 (mksB news) (q2z K ⟨put s.rho d v,s.heap,s.nx+news.length,s.mv⟩ r):=by
 simp only[mksA,o1];cases q2z K ⟨put s.rho d v,s.heap,s.nx+news.length,s.mv⟩ r <;> rfl
theorem q1B(K s):q2t K s []=some []:=rfl
def letC(d:Nat)(v:V)(l:List (Nat×V)):Option (List (Nat×V)):=some ((d,v) :: l)
theorem q3X(d v l):letC d v l=some ((d,v) :: l):=rfl
theorem q1j(K s d e r):q2t K s ((d,e) :: r)=o2 (letC d) (ev K s e) (q2t K s r):=by
 simp only[q2t,o2,letC];cases ev K s e <;> cases q2t K s r <;> rfl
theorem q2k(K s):q7h K s []=true:=rfl
theorem q49(K s e r):q7h K s (e :: r)=((ev K s e).isSome&&q7h K s r):=rfl
theorem q2P(K s):wonB K s []=some true:=rfl
theorem e_sl(K s t):ev K s (.sl t)=look s.rho t:=rfl
theorem z7y(K s k n):ev K s (.int k n)=some (.int k n):=rfl
theorem z5s(K s b):ev K s (.bool b)=some (.bool b):=rfl
theorem j1N(K s l):ev K s (.str l)=some (.str l):=rfl
theorem z5q(K s k):ev K s (.nilsl k)=some (.fs true k []):=rfl
theorem z9S(K s):ev K s .nilif=some (.d false .nilif):=rfl
theorem e_un(K s o a):ev K s (.un o a)=o1 (evUn o) (ev K s a):=by
 simp only[ev,o1];cases ev K s a <;> rfl
theorem z7z(K s o a b):ev K s (.bin o a b)=o2 (evBin o) (ev K s a) (ev K s b):=by
 simp only[ev,o2];cases ev K s a <;> cases ev K s b <;> rfl
theorem e_eqs(K s n g ks a b):ev K s (.eqs n g ks a b)=o2 (q1r n g ks) (ev K s a) (ev K s b):=by
 simp only[ev,o2];cases ev K s a <;> cases ev K s b <;> rfl
def andV(x y:Option V):Option V:=match x,y with
 |some (.d _ (.bool x)),some (.d _ (.bool y))=>some (.bool (x&&y))
 |some (.d _ (.bool false)),_=>some (.bool false)
 |_,_=>none
theorem z5I(c c' x y):andV (some (.d c (.bool x))) (some (.d c' (.bool y)))=some (.bool (x&&y)):=by cases x <;> rfl
theorem z2K(c y):andV (some (.d c (.bool false))) y=some (.bool false):=by
 unfold andV;split <;> simp_all
theorem e_and(K s a b):ev K s (.and a b)=andV (ev K s a) (ev K s b):=rfl
def orV(x y:Option V):Option V:=match x,y with
 |some (.d _ (.bool x)),some (.d _ (.bool y))=>some (.bool (x||y))
 |some (.d _ (.bool true)),_=>some (.bool true)
 |_,_=>none
theorem q7Y(c c' x y):orV (some (.d c (.bool x))) (some (.d c' (.bool y)))=some (.bool (x||y)):=by cases x <;> rfl
theorem z6L(c y):orV (some (.d c (.bool true))) y=some (.bool true):=by
 unfold orV;split <;> simp_all
theorem e_or(K s a b):ev K s (.or a b)=orV (ev K s a) (ev K s b):=rfl
def j1T(x a b:Option V):Option V:=match x with
 |some (.d _ (.bool x))=>if x then a else b
 |_=>none
theorem z2F(c x a b):j1T (some (.d c (.bool x))) a b=if x then a else b:=rfl
theorem j1Q(K s c a b):ev K s (.cond c a b)=j1T (ev K s c) (ev K s a) (ev K s b):=rfl
theorem e_fa(K s o a):ev K s (.fa o a)=o1 (evFa o) (ev K s a):=by
 simp only[ev,o1];cases ev K s a <;> rfl
theorem e_ia(K s k a b):ev K s (.ia k a b)=o2 (evIa s.heap k) (ev K s a) (ev K s b):=by
 simp only[ev,o2];cases ev K s a <;> cases ev K s b <;> rfl
theorem e_aa(K s l k a b):ev K s (.aa l k a b)=o2 (evAa l k) (ev K s a) (ev K s b):=by
 simp only[ev,o2];cases ev K s a <;> cases ev K s b <;> rfl
theorem e_ix(K s a b):ev K s (.ix a b)=o2 evIx (ev K s a) (ev K s b):=by
 simp only[ev,o2];cases ev K s a <;> cases ev K s b <;> rfl
theorem e_ld(K s n g a):ev K s (.ld n g a)=o1 (evLd s.heap n g) (ev K s a):=by
 simp only[ev,o1];cases ev K s a <;> rfl
theorem e_ext(K s i a):ev K s (.ext i a)=o1 (evExt i) (ev K s a):=by
 simp only[ev,o1];cases ev K s a <;> rfl
theorem z7x(K s b a):ev K s (.len b a)=o1 (evLen b) (ev K s a):=by
 simp only[ev,o1];cases ev K s a <;> rfl
def z1h(H:List (Nat×Blk))(str bl bh bm:Bool)(k:Nat)(v l h m:V):Option V:=if str==v.isStr then q9v H bl bh bm k v l h m else none
theorem j1O(K s str bl bh bm k a lo hi mx):ev K s (.cut str bl bh bm k a lo hi mx)=o4 (z1h s.heap str bl bh bm k) (ev K s a) (ev K s lo) (ev K s hi) (ev K s mx):=by
 simp only[ev,o4,z1h];cases ev K s a <;> cases ev K s lo <;> cases ev K s hi <;> cases ev K s mx <;> rfl
def aggV:V→Option V
 |.tup vs=>some (.agg vs)
 |_=>none
theorem z1t(vs):aggV (.tup vs)=some (.agg vs):=rfl
theorem j1R(K s a):ev K s (.agg a)=o1 aggV (ev K s a):=by
 simp only[ev,o1];cases ev K s a with
 |none=>rfl
 |some v=>cases v <;> rfl
theorem e_set(K s o n a b):ev K s (.set o n a b)=o2 (evSet o n) (ev K s a) (ev K s b):=by
 simp only[ev,o2];cases ev K s a <;> cases ev K s b <;> rfl
theorem j1P(K s k a):ev K s (.conv k a)=o1 (q9w k) (ev K s a):=by
 simp only[ev,o1];cases ev K s a <;> rfl
def j1U(K:Cx)(H:List (Nat×Blk))(f:FuncId):V→Option V
 |.tup vs=>q3N K H f vs
 |_=>none
theorem q4J(K H f vs):j1U K H f (.tup vs)=q3N K H f vs:=rfl
theorem z1j(K s f a):ev K s (.call f a)=o1 (j1U K s.heap f) (ev K s a):=by
 simp only[ev,o1];cases ev K s a with
 |none=>rfl
 |some v=>cases v <;> rfl
def z8h(K:Cx)(H:List (Nat×Blk)):V→V→Option V
 |.fn f caps,.tup vs=>q3N K H f (vs++caps)
 |_,_=>none
theorem z2H(K H f caps vs):z8h K H (.fn f caps) (.tup vs)=q3N K H f (vs++caps):=rfl
theorem z9T(K s f a):ev K s (.callv f a)=o2 (z8h K s.heap) (ev K s f) (ev K s a):=by
 simp only[ev,o2];cases ev K s f with
 |none=>rfl
 |some v=>cases ev K s a with
  |none=>cases v <;> rfl
  |some u=>cases v <;> cases u <;> rfl
theorem z5r(K s):ev K s .nil=some (.tup []):=rfl
def j1S(v:V):V→Option V
 |.tup vs=>some (.tup (v :: vs))
 |_=>none
theorem q4F(v vs):j1S v (.tup vs)=some (.tup (v :: vs)):=rfl
theorem z1i(K s a b):ev K s (.cons a b)=o2 j1S (ev K s a) (ev K s b):=by
 simp only[ev,o2];cases ev K s a with
 |none=>rfl
 |some v=>cases ev K s b with
  |none=>rfl
  |some u=>cases u <;> rfl
def z0C(own ps:Bool)(x:Option (V×List Blk)):Option V:=match x with
 |some (r,[])=>if ps then some r.renew else if own&&!r.new then none else some r
 |some (r,b :: bs)=>if own then none else view (indexed (b :: bs)) r
 |_=>none
theorem q3H(own r):z0C own false (some (r,[]))=if own&&!r.new then none else some r:=rfl
theorem z2I(own r):z0C own true (some (r,[]))=some r.renew:=rfl
def j1V(K:Cx)(f:FuncId)(own ps:Bool)(ws:List V):Option V:=z0C own ps (K.call f ws)
theorem q5S(K f own ps ws):j1V K f own ps ws=z0C own ps (K.call f ws):=rfl
theorem q4l(C:Cx) (f vs):q7u C f vs=(vs.all V.new&&!vs.all V.flatV&&C.loc f):=rfl
theorem q4B(K H f vs):q3N K H f vs=o1 (j1V K f (vs.any V.own) (q7u K f vs)) (mapO (view H) vs):=by
 unfold q3N
 cases mapO (view H) vs with
 |none=>rfl
 |some ws=>
  show _=z0C (vs.any V.own) (q7u K f vs) (K.call f ws)
  cases hk:K.call f ws with
  |none=>simp [hk,z0C]
  |some p=>obtain⟨r,news⟩:=p;cases news <;> simp [hk,z0C]
def mapC{β:Type}(b:β)(bs:List β):Option (List β):=some (b :: bs)
theorem q6v{β:Type}(b:β) (bs):mapC b bs=some (b :: bs):=rfl
theorem q20{α β:Type}(f:α→Option β):mapO f []=some []:=rfl
theorem q3k{α β:Type}(f:α→Option β) (a r):mapO f (a :: r)=o2 mapC (f a) (mapO f r):=by
 simp only[mapO,o2,mapC];cases f a <;> cases mapO f r <;> rfl
def mkBox(nx:Nat)(v:V):Option (V×List Blk):=if v.laid then some (.ptr nx 0 0,[.mix v.cells.length [v.cells]]) else none
theorem q4A(K s e):evMk K s (.box e)=o1 (mkBox s.nx) (ev K s e):=by
 simp only[evMk,o1,mkBox];cases ev K s e <;> rfl
theorem z2j:q5n []=false:=rfl
theorem z0f(t v r):q5n ((t,v) :: r)=if t=1000000000 then true else q5n r:=rfl
theorem q2I:q78 []=[]:=rfl
theorem q1X(t r):q78 (t :: r)=if t=1000000000 then [(t,.junk)] else q78 r:=rfl
def q75(mk:Bool)(nx k:Nat)(z l c:V):Option (V×List Blk):=match z,l,c with
 |.tup zs,.d _ (.int _ n),.d _ (.int _ c)=>match mapO asD zs with
  |some ds=>if 0≤n∧n≤c∧c≤most∧ds.length=k∧0<k∧ds.all D.flat0 then some (bif mk then .bsx nx 0 n.toNat else .bsl nx 0 n.toNat,[.dat true k (List.replicate n.toNat ds)]) else none
  |none=>none
 |_,_,_=>none
def o3{β:Type}(f:V→V→V→Option β)(x y z:Option V):Option β:=x.bind fun a=>y.bind fun b=>z.bind fun c=>f a b c
theorem z88{β:Type}(f:V→V→V→Option β)(a b c:V):o3 f (some a) (some b) (some c)=f a b c:=rfl
theorem z7q(K s k z l c):evMk K s (.mks k z l c)=o3 (q75 (q5n s.rho) s.nx k) (ev K s z) (ev K s l) (ev K s c):=by
 simp only[evMk,o3]
 cases ev K s z with
 |none=>rfl
 |some z=>cases ev K s l with
  |none=>cases z <;> rfl
  |some l=>cases ev K s c with
   |none=>
    cases z <;> try rfl
    cases l <;> try rfl
    rename_i d;cases d <;> rfl
   |some c=>
    cases z <;> try rfl
    cases l <;> try rfl
    rename_i d;cases d <;> try rfl
    cases c <;> try rfl
    rename_i d;cases d <;> rfl
def z71(nx k:Nat):V→Option (V×List Blk)
 |.tup vs=>if vs.all (fun v=>v.laid&&v.cells.length==k)&&decide (0<k) then some (.bsl nx 0 vs.length,[mkBlk k (vs.map V.cells)]) else none
 |_=>none
theorem z2h(nx k vs):z71 nx k (.tup vs)=if vs.all (fun v=>v.laid&&v.cells.length==k)&&decide (0<k) then some (.bsl nx 0 vs.length,[mkBlk k (vs.map V.cells)]) else none:=rfl
theorem z5k(K s k e):evMk K s (.lits k e)=o1 (z71 s.nx k) (ev K s e):=by
 simp only[evMk,o1];cases ev K s e with
 |none=>rfl
 |some v=>cases v <;> rfl
def mkOR(nx:Nat)(own:Bool)(x:Option (V×List Blk)):Option (V×List Blk):=match x with
 |some (r,news)=>if news.all Blk.plain&&(!own||(r.new2&&news.all Blk.new)) then some (r.shift nx,news) else if news.all Blk.lays&&(!own||(r.new2&&news.all Blk.newM)) then some (r.shift nx,news.map (Blk.shift nx)) else none
 |none=>none
theorem q9a(nx own r news):mkOR nx own (some (r,news))=if news.all Blk.plain&&(!own||(r.new2&&news.all Blk.new)) then some (r.shift nx,news) else if news.all Blk.lays&&(!own||(r.new2&&news.all Blk.newM)) then some (r.shift nx,news.map (Blk.shift nx)) else none:=rfl
def mkOA(K:Cx)(nx:Nat)(f:FuncId)(own:Bool)(ws:List V):Option (V×List Blk):=mkOR nx own (K.call f ws)
theorem z4s(K nx f own ws):mkOA K nx f own ws=mkOR nx own (K.call f ws):=rfl
def mkO(K:Cx)(s:S)(f:FuncId):V→Option (V×List Blk)
 |.tup vs=>o1 (mkOA K s.nx f (vs.any V.own)) (mapO (view s.heap) vs)
 |_=>none
theorem z4r(K s f vs):mkO K s f (.tup vs)=o1 (mkOA K s.nx f (vs.any V.own)) (mapO (view s.heap) vs):=rfl
theorem q7L(K s f e):evMk K s (.callo f e)=o1 (mkO K s f) (ev K s e):=by
 simp only[evMk,o1];cases ev K s e with
 |none=>rfl
 |some v=>
  cases v <;> try rfl
  rename_i vs
  simp only[Option.bind_some,mkO,o1]
  cases mapO (view s.heap) vs with
  |none=>rfl
  |some ws=>simp only[Option.bind_some,mkOA,mkOR];cases K.call f ws <;> rfl
def q9Q(H:List (Nat×Blk))(nx n:Nat)(a x:V):Option (List (Nat×Blk)×V×Lost×Nat):=match a with
 |.ptr b i j=>if x.laid&&x.cells.length==n then match look H b with
    |some blk=>match blk.set i j x.cells with
     |some blk'=>some (put H b blk',.junk,.none,nx)
     |none=>none
    |none=>none
   else none
 |_=>none
def stB(H:List (Nat×Blk))(nx b:Nat)(x:Option Blk):Option (List (Nat×Blk)×V×Lost×Nat):=x.bind fun k=>some (put H b k,.junk,.none,nx)
theorem z0O(H nx b k):stB H nx b (some k)=some (put H b k,.junk,.none,nx):=rfl
def stA(H:List (Nat×Blk))(nx b i j:Nat)(cs:List V)(k:Blk):Option (List (Nat×Blk)×V×Lost×Nat):=stB H nx b (k.set i j cs)
theorem z7V(H nx b i j cs k):stA H nx b i j cs k=stB H nx b (k.set i j cs):=rfl
theorem q5Y(H nx n b i j x):q9Q H nx n (.ptr b i j) x=if x.laid&&x.cells.length==n then o1 (stA H nx b i j x.cells) (look H b) else none:=by
 simp only[q9Q]
 split
 ·cases look H b with
  |none=>rfl
  |some k=>simp only[o1,Option.bind_some,stA,stB];cases k.set i j x.cells <;> rfl
 ·rfl
theorem q7H(K s H n a v):evWr K s H (.store n a v)=o2 (q9Q H s.nx n) (ev K s a) (ev K s v):=by
 simp only[evWr,o2]
 cases ev K s a with
 |none=>rfl
 |some a=>cases ev K s v with
  |none=>cases a <;> rfl
  |some v=>cases a <;> rfl
def z6k(s:S)(H:List (Nat×Blk))(k:Nat)(x:V)(rows:Rows):Option (List (Nat×Blk)×V×Lost×Nat):=match x with
 |.bsl id i len=>match look H id with
  |some blk=>if i=0∧blk.n=len∧blk.k=k∧len+rows.n≤most then some (put H id (blk.app rows),.bsl id 0 (len+rows.n),.some id,s.nx) else none
  |none=>none
 |.fs _ k' []=>if k'=k∧rows.n≤most then some ((s.nx,rows.blk k) :: H,.bsl s.nx 0 rows.n,.none,s.nx+1) else none
 |_=>none
def apA(s:S)(H:List (Nat×Blk))(k id i len:Nat)(rows:Rows)(blk:Blk):Option (List (Nat×Blk)×V×Lost×Nat):=
 if i=0∧blk.n=len∧blk.k=k∧len+rows.n≤most then some (put H id (blk.app rows),.bsl id 0 (len+rows.n),.some id,s.nx) else none
theorem z3G(s H k id i len rows):z6k s H k (.bsl id i len) rows=o1 (apA s H k id i len rows) (look H id):=by
 simp only[z6k,o1,apA];cases look H id <;> rfl
theorem z6j(s H k c rows)(h:rows.n≤most):z6k s H k (.fs c k []) rows=some ((s.nx,rows.blk k) :: H,.bsl s.nx 0 rows.n,.none,s.nx+1):=if_pos ⟨rfl,h⟩
theorem z7p(K s H k a b):evWr K s H (.app k a b)=o2 (z6k s H k) (ev K s a) (o1 (q03 H k) (ev K s b)):=by
 simp only[evWr,o2,o1]
 cases ev K s a with
 |none=>rfl
 |some x=>cases ev K s b with
  |none=>cases x <;> rfl
  |some y=>
   simp only[Option.bind_some]
   cases q03 H k y <;> rfl
def z8y(K:Cx)(nx:Nat)(H:List (Nat×Blk))(f:FuncId):V→Option (List (Nat×Blk)×V×Lost×Nat)
 |.tup vs=>match q3c f vs with
  |some (g,ws)=>q5C K nx H g ws (q0N H (refN H+64) [] (refsL ws))
  |none=>none
 |_=>none
theorem q5Z{K nx H f vs}(h:(f==4294967295)=false):z8y K nx H f (.tup vs)=q5C K nx H f vs (q0N H (refN H+64) [] (refsL vs)):=by
 simp only[z8y,q3c,dynF,h,Bool.false_eq_true,if_false]
theorem q7I(K s H f e):evWr K s H (.calle f e)=o1 (z8y K s.nx H f) (ev K s e):=by
 simp only[evWr,o1];cases ev K s e with
 |none=>rfl
 |some v=>cases v with
  |tup vs=>rfl
  |_=>rfl
def effR(nx:Nat)(H:List (Nat×Blk))(bs:List Nat)(p:V×List Blk×List Nat):Option (List (Nat×Blk)×V×Lost×Nat):=
 if bs.length≤p.2.1.length then some (putAll (q3I (p.2.2.map (q0E bs nx)) H) (q0E bs nx) 0 p.2.1,p.1.ren (q0E bs nx),.many (p.2.2.map (q0E bs nx)),nx+(p.2.1.length - bs.length)) else none
theorem z9Q(nx H bs r b m):effR nx H bs (r,b,m)=if bs.length≤b.length then some (putAll (q3I (m.map (q0E bs nx)) H) (q0E bs nx) 0 b,r.ren (q0E bs nx),.many (m.map (q0E bs nx)),nx+(b.length - bs.length)) else none:=rfl
def effA(K:Cx)(nx:Nat)(H:List (Nat×Blk))(f:FuncId)(vs:List V)(bs:List Nat)(blks:List Blk):Option (List (Nat×Blk)×V×Lost×Nat):=o1 (effR nx H bs) (K.eff f (vs.map fun v=>v.dim.ren bs.idxOf) blks)
theorem z9R(K nx H f vs bs blks):effA K nx H f vs bs blks=o1 (effR nx H bs) (K.eff f (vs.map fun v=>v.dim.ren bs.idxOf) blks):=rfl
theorem z7u(K nx H f vs bs):q5C K nx H f vs bs=if decide bs.Nodup&&vs.all (V.within bs.contains)&&closedB H bs then o1 (effA K nx H f vs bs) (handed H bs) else none:=by
 unfold q5C
 split
 ·cases handed H bs with
  |none=>rfl
  |some blks=>
   simp only[q2X,effA]
   cases K.eff f (vs.map fun v=>v.dim.ren bs.idxOf) blks with
   |none=>rfl
   |some p=>obtain⟨r,b,m⟩:=p;rfl
 ·rfl
theorem z7O(bs nx i):q0E bs nx i=(bs[i]?).getD (nx+(i - bs.length)):=by
 unfold q0E;cases bs[i]? <;> rfl
def wonV(b:Bool):Option V→Option Bool
 |some (.d _ (.bool x))=>some (x==b)
 |_=>none
theorem q3e(b c x):wonV b (some (.d c (.bool x)))=some (x==b):=rfl
theorem z6l(K s e b):wonB K s [(e,b)]=wonV b (ev K s e):=by
 simp only[wonB,wonV]
 cases ev K s e with
 |none=>rfl
 |some v=>cases v with
  |d c x=>cases x <;> rfl
  |_=>rfl
theorem z6Y{α:Type} (t):look ([]:List (Nat×α)) t=none:=rfl
def z4A{α:Type}(v:α)(r:List (Nat×α))(t:Nat):Bool→Option α
 |true=>some v
 |false=>look r t
theorem q1y{α:Type}(v:α) (r t):z4A v r t true=some v:=rfl
theorem q1i{α:Type}(v:α) (r t):z4A v r t false=look r t:=rfl
theorem q2e{α:Type} (k v r t):look ((k,v) :: r:List (Nat×α)) t=z4A v r t (k==t):=by
 simp only[look]
 by_cases h:k=t
 ·simp [h,z4A]
 ·have:(k==t)=false:=by simpa using h
  simp [h,this,z4A]
def putB{α:Type}(k:Nat)(u:α)(r:List (Nat×α))(t:Nat)(v:α):Bool→List (Nat×α)
 |true=>(t,v) :: r
 |false=>(k,u) :: put r t v
theorem z3X{α:Type}(k:Nat)(u:α) (r t v):putB k u r t v true=(t,v) :: r:=rfl
theorem q2G{α:Type}(k:Nat)(u:α) (r t v):putB k u r t v false=(k,u) :: put r t v:=rfl
theorem q6e{α:Type} (t v):put ([]:List (Nat×α)) t v=[(t,v)]:=rfl
theorem q4k{α:Type} (k u r t v):put ((k,u) :: r:List (Nat×α)) t v=putB k u r t v (k==t):=by
 simp only[put]
 by_cases h:k=t
 ·simp [h,putB]
 ·have:(k==t)=false:=by simpa using h
  simp [h,this,putB]
def resC{α:Type}(l:List (Nat×α))(t:Nat)(r:List Nat)(x:Option α):List (Nat×α):=match x with
 |some v=>(t,v) :: q0f l r
 |none=>q0f l r
theorem q19{α:Type}(l:List (Nat×α)) (t r v):resC l t r (some v)=(t,v) :: q0f l r:=rfl
theorem q80{α:Type}(l:List (Nat×α)) (t r):resC l t r none=q0f l r:=rfl
theorem q0X{α:Type}(l:List (Nat×α)):q0f l []=[]:=rfl
theorem q0Q{α:Type}(l:List (Nat×α)) (t r):q0f l (t :: r)=resC l t r (look l t):=rfl
noncomputable def endF(K:Cx)(res:List E)(own:Bool)(m:Nat)(x:Option (Ex×S)):Option (V×List Blk×List Nat):=match x with
 |some (.nrm,s)=>o1 (finish m own s) ((mapO (ev K s) res).map q0b)
 |some (.ret,s)=>o1 (finish m own s) ((mapO (ev K s) res).map q0b)
 |_=>none
theorem z7v(K res own m s):endF K res own m (some (.nrm,s))=o1 (finish m own s) ((mapO (ev K s) res).map q0b):=rfl
theorem q5O(K res own m s):endF K res own m (some (.ret,s))=o1 (finish m own s) ((mapO (ev K s) res).map q0b):=rfl
theorem q4h(K body res own args blks):q0o K ⟨body,res,own⟩ args blks=endF K res own blks.length (exec K body (startS args blks)):=by
 unfold q0o endF
 simp only
 cases exec K body (startS args blks) with
 |none=>rfl
 |some p=>
  obtain⟨e,s⟩:=p
  cases e <;> try rfl
  all_goals
   simp only[o1]
   cases mapO (ev K s) res <;> rfl
theorem q5o(f:S→Option (Ex×S))(s:S):q3J f s=match f s with
  |some (.nrm,s')=>q3J f s'
  |r=>r:=by
 have key:∀ r,q3J f s=some r→(match f s with|some (.nrm,s')=>q3J f s'|r=>r)=some r:=by
  intro r h
  unfold q3J at h
  split at h
  ·rename_i hex
   generalize hex.choose=n at h
   cases n with
   |zero=>simp [iter] at h
   |succ n=>
    simp only[iter] at h
    cases hf:f s with
    |none=>simp [hf] at h
    |some p=>
     obtain⟨e,s'⟩:=p
     cases e with
     |nrm=>simp only[hf] at h⊢;exact q3C h
     |_=>simpa [hf] using h
  ·cases h
 have back:∀ r,(match f s with|some (.nrm,s')=>q3J f s'|r=>r)=some r→q3J f s=some r:=by
  intro r h
  cases hf:f s with
  |none=>simp [hf] at h
  |some p=>
   obtain⟨e,s'⟩:=p
   cases e with
   |nrm=>
    simp only[hf] at h
    have h0:=h
    unfold q3J at h
    split at h
    ·rename_i hex
     exact q3C (n:=hex.choose+1) (by simp only[iter,hf];exact h)
    ·cases h
   |exit id=>exact q3C (n:=1) (by simpa [iter,hf] using h)
   |goto id=>exact q3C (n:=1) (by simpa [iter,hf] using h)
   |ret=>exact q3C (n:=1) (by simpa [iter,hf] using h)
 cases h1:q3J f s with
 |some r=>exact(key r h1).symm
 |none=>
  cases h2:(match f s with|some (.nrm,s')=>q3J f s'|r=>r) with
  |none=>rfl
  |some r=>rw[back r h2] at h1;cases h1
noncomputable def lp(K:Cx)(m:Nat)(sl:List Nat)(body:C)(s:S):Option (Ex×S):=match exec K body s with
 |some (.nrm,s')=>exec K (.loop (.seq (.tidy m sl) body)) s'
 |r=>r
noncomputable def lpT(K:Cx)(m:Nat)(sl:List Nat)(body:C)(x:Option (Ex×S)):Option (Ex×S):=match x with
 |some (.nrm,s')=>o1 (lp K m sl body) (q5z m sl s')
 |r=>r
theorem z9g(K m sl body s):lpT K m sl body (some (.nrm,s))=o1 (lp K m sl body) (q5z m sl s):=rfl
theorem z6W(K m sl body n s):lpT K m sl body (some (.exit n,s))=some (.exit n,s):=rfl
theorem z9f(K m sl body s):lpT K m sl body (some (.ret,s))=some (.ret,s):=rfl
theorem z6V(K m sl body n s):lpT K m sl body (some (.goto n,s))=some (.goto n,s):=rfl
theorem q9s(K m sl body s):exec K (.loop (.seq (.tidy m sl) body)) s=o1 (lp K m sl body) (q5z m sl s):=by
 show q3J (exec K (.seq (.tidy m sl) body)) s=_
 rw[q5o,q1U,q9r]
 cases q5z m sl s with
 |none=>rfl
 |some s'=>
  rw[q2q,q2S,q2X]
  rfl
theorem j0r(K m sl body s):lp K m sl body s=lpT K m sl body (exec K body s):=by
 unfold lp lpT
 cases exec K body s with
 |none=>rfl
 |some p=>
  obtain⟨e,s'⟩:=p
  cases e <;> try rfl
  exact q9s K m sl body s'
theorem q0I{K m sl body body' s}(h:body=body'):lp K m sl body s=lpT K m sl body (exec K body' s):=by
 subst h;exact j0r K m sl body s
end Go.Vm
end

section
namespace Go.Vm
def nth{α:Type} [Inhabited α](l:List α)(n:Int):α:=l.getD n.toNat default
theorem q05{α:Type} [Inhabited α](l:List α)(i:Nat):nth l (i:Int)=l.getD i default:=by simp [nth]
theorem q74{α:Type} [Inhabited α]{l:List α}{n:Int}(h:n.toNat<l.length):l[n.toNat]? = some (nth l n):=by
 unfold nth;rw[List.getD_eq_getElem?_getD,List.getElem?_eq_getElem h];rfl
theorem q6o{α:Type} [Inhabited α]{l:List α}{n:Int}(h:n.toNat<l.length):l[n.toNat]=nth l n:=by
 have:=q74 h
 rw[List.getElem?_eq_getElem h] at this
 exact Option.some.inj this
theorem q0F{α:Type} [Inhabited α]{l:List α}{i:Nat}(h:i<l.length):l.drop i=nth l (i:Int) :: l.drop (i+1):=by
 rw[List.drop_eq_getElem_cons h,←q6o (n:=(i:Int)) (by simpa using h)]
 simp
def z8H(m:Nat)(H:List (Nat×Blk))(mv:List Nat)(ρ:List (Nat×V))(bs:List Nat):Option S:=
 if decide bs.Nodup&&decide (bs.take m=List.range m)&&ρ.all (fun p=>p.2.within bs.contains)&&closedB H bs then
  some ⟨ρ.map fun p=>(p.1,p.2.ren bs.idxOf),bs.zipIdx.filterMap fun p=>(look H p.1).map fun k=>(p.2,k.ren bs.idxOf),bs.length,(List.range m).filter mv.contains⟩
 else none
def z94(m:Nat)(H:List (Nat×Blk))(mv:List Nat)(ρ:List (Nat×V)):Option S:=z8H m H mv ρ (q0N H (refN H+64) [] (List.range m++refsL (ρ.map (·.2))))
theorem z8G(m slots ρ H nx mv):q5z m slots ⟨ρ,H,nx,mv⟩=z94 m H mv (q0f ρ slots):=rfl
theorem z6t(m H mv ρ):z94 m H mv ρ=z8H m H mv ρ (q0N H (refN H+64) [] (List.range m++refsL (ρ.map (·.2)))):=rfl
theorem z6s(m H mv ρ bs):z8H m H mv ρ bs=if decide bs.Nodup&&decide (bs.take m=List.range m)&&ρ.all (fun p=>p.2.within bs.contains)&&closedB H bs then
  some ⟨ρ.map fun p=>(p.1,p.2.ren bs.idxOf),bs.zipIdx.filterMap fun p=>(look H p.1).map fun k=>(p.2,k.ren bs.idxOf),bs.length,(List.range m).filter mv.contains⟩
 else none:=rfl
theorem q4Y(H n done):q0N H n done []=done:=by cases n <;> rfl
def z0V(H:List (Nat×Blk))(n:Nat)(done:List Nat)(b:Nat)(todo:List Nat):Bool→List Nat
 |true=>q0N H n done todo
 |false=>q0N H n (done++[b]) (todo++(match look H b with|some k=>k.refs|none=>[]))
def z6G:Option Blk→List Nat
 |some k=>k.refs
 |none=>[]
theorem q4W(k):z6G (some k)=k.refs:=rfl
theorem q2W(H n done b todo):q0N H (n+1) done (b :: todo)=z0V H n done b todo (done.contains b):=by
 simp only[q0N];cases done.contains b <;> rfl
theorem q97(H n done b todo):z0V H n done b todo true=q0N H n done todo:=rfl
theorem q2p(H n done b todo):z0V H n done b todo false=q0N H n (done++[b]) (todo++z6G (look H b)):=by
 simp only[z0V,z6G]
theorem j1M(H k c rows c' kd)(n:Int):evIa H k (.d c (.sl k rows)) (.d c' (.int kd n))=if 0≤n then(rows[n.toNat]?).map (fun row=>.d c (.ptr row)) else none:=by
 simp only[evIa]
 by_cases h:0≤n <;> simp [h]
 cases rows[n.toNat]? <;> rfl
theorem z9L{α:Type} [Inhabited α] (H k c)(l:List α)(e:α→List D) (c' kd)(n:Int)(h0:0≤n)(h:n<l.length):evIa H k (.d c (.sl k (l.map e))) (.d c' (.int kd n))=some (.d c (.ptr (e (nth l n)))):=by
 rw[j1M,if_pos h0,List.getElem?_map,q74 (by omega)];rfl
def iaB(k b i len:Nat)(n:Int)(blk:Blk):Option V:=if blk.k=k∧0≤n∧n<len then some (.ptr b (i+n.toNat) 0) else none
theorem z7t(H k b i len c kd)(n:Int):evIa H k (.bsl b i len) (.d c (.int kd n))=o1 (iaB k b i len n) (look H b):=by
 simp only[evIa,o1,iaB];cases look H b <;> rfl
theorem z1g(H k b i len c kd)(n:Int):evIa H k (.bsx b i len) (.d c (.int kd n))=o1 (iaB k b i len n) (look H b):=by
 simp only[evIa,o1,iaB];cases look H b <;> rfl
theorem z4J(k b i)(len:Nat)(n:Int) (c rows)(h0:0≤n)(h:n<len):iaB k b i len n (.dat c k rows)=some (.ptr b (i+n.toNat) 0):=if_pos ⟨rfl,h0,h⟩
def ldR(n:Nat)(g:Bool)(j:Nat)(row:List V):Option V:=part g n (row.drop j)
theorem q6z(n g j row):ldR n g j row=part g n (row.drop j):=rfl
def ldB(n:Nat)(g:Bool)(i j:Nat)(blk:Blk):Option V:=o1 (ldR n g j) (blk.row? i)
theorem q6A(n g i j blk):ldB n g i j blk=o1 (ldR n g j) (blk.row? i):=rfl
theorem q29(H n g b i j):evLd H n g (.ptr b i j)=o1 (ldB n g i j) (look H b):=by
 simp only[evLd,o1,ldB,ldR]
 cases look H b with
 |none=>rfl
 |some blk=>
  show _=o1 (ldR n g j) (blk.row? i)
  cases h:blk.row? i <;> simp [h,o1,ldR]
theorem j1L(H n g c cells):evLd H n g (.d c (.ptr cells))=part g n (cells.map (mkd c)):=rfl
theorem q4m(n cs):part true n cs=if n≤cs.length then some (.agg (cs.take n)) else none:=rfl
theorem q5J(v cs):part false 1 (v :: cs)=some v:=rfl
theorem q2v(k rows i):(Blk.mix k rows).row? i=rows[i]?:=rfl
theorem z3R(c k rows i):(Blk.dat c k rows).row? i=(rows[i]?).map (·.map (mkd c)):=rfl
theorem z0T{α:Type} [Inhabited α] (c k)(l:List α)(e:α→List D)(i:Nat)(h:i<l.length):(Blk.dat c k (l.map e)).row? i=some ((e (nth l i)).map (mkd c)):=by
 rw[z3R,List.getElem?_map,List.getElem?_eq_getElem h,q05,List.getD_eq_getElem?_getD,List.getElem?_eq_getElem h];rfl
theorem z0Q(k row rows j cells):(Blk.mix k (row :: rows)).set 0 j cells=if j+cells.length≤row.length then some (.mix k (splice j cells row :: rows)) else none:=by
 simp [Blk.set]
def setD(c:Bool)(k:Nat)(rows:List (List D))(row:List D)(i j:Nat)(cells:List V)(x:Option (List D)):Option Blk:=match x with
 |some ds=>some (.dat (c&&cells.all V.new1) k (rows.set i (splice j ds row)))
 |none=>some (.mix k ((rows.map (·.map (mkd c))).set i (splice j cells (row.map (mkd c)))))
theorem z3O(c k rows row i j cells ds):setD c k rows row i j cells (some ds)=some (.dat (c&&cells.all V.new1) k (rows.set i (splice j ds row))):=rfl
theorem z6x{α:Type} [Inhabited α] (c k)(l:List α)(e:α→List D) (i j cells)(hi:i<l.length):(Blk.dat c k (l.map e)).set i j cells=if j+cells.length≤(e (nth l i)).length then setD c k (l.map e) (e (nth l i)) i j cells (mapO asD cells) else none:=by
 have:(l.map e)[i]? = some (e (nth l i)):=by
  rw[List.getElem?_map,List.getElem?_eq_getElem hi,q05,List.getD_eq_getElem?_getD,List.getElem?_eq_getElem hi];rfl
 simp only[Blk.set,this,setD]
 split
 ·cases mapO asD cells <;> rfl
 ·rfl
theorem z0H{x:Int}(h1 : -9223372036854775808≤x)(h2:x≤9223372036854775807):IntKind.i64.wrap x=x:=by
 unfold IntKind.wrap
 have e1:(2:Int) ^ IntKind.i64.bits=18446744073709551616:=by decide
 have e2:(2:Int) ^ (IntKind.i64.bits - 1)=9223372036854775808:=by decide
 simp only[e1,e2]
 have:IntKind.i64.signed=true:=rfl
 simp only[this,Bool.true_and,decide_eq_true_eq]
 split <;> omega
end Go.Vm
namespace Go.Vm
theorem eq_t{a b:Int}(h:a=b):(a==b)=true:=by simpa using h
theorem eq_f{a b:Int}(h:¬ a=b):(a==b)=false:=by simpa using h
theorem ne_t{a b:Int}(h:¬ a=b):(a != b)=true:=by simpa using h
theorem ne_f{a b:Int}(h:a=b):(a != b)=false:=by simp [h]
theorem j0a{α:Type} (H k c)(l:List α)(e:α→List D):q03 H k (.d c (.sl k (l.map e)))=some (.dat (c||q0V (l.map e)) (l.map e)):=by simp [q03]
theorem q9o:q0V []=true:=rfl
theorem q8e(r rows):q0V (r :: rows)=(r.all D.flat&&q0V rows):=rfl
theorem z9Z(s H k id len rs c rows)(h:rows.length=len)(h2:len+rs.n≤most):apA s H k id 0 len rs (.dat c k rows)=some (put H id ((Blk.dat c k rows).app rs),.bsl id 0 (len+rs.n),.some id,s.nx):=if_pos ⟨rfl,h,rfl,h2⟩
theorem ile_T{a b:Int}(h:a≤b):(a≤b)=True:=by simpa using h
theorem ile_F{a b:Int}(h:¬ a≤b):(a≤b)=False:=by simpa using h
theorem ilt_T{a b:Int}(h:a<b):(a<b)=True:=by simpa using h
theorem ilt_F{a b:Int}(h:¬ a<b):(a<b)=False:=by simpa using h
theorem nle_T{a b:Nat}(h:a≤b):(a≤b)=True:=by simpa using h
theorem nlt_T{a b:Nat}(h:a<b):(a<b)=True:=by simpa using h
theorem q5E{α:Type}{l:List α}{n:Nat}(h:l.length≤n):l.take n=l:=List.take_of_length_le h
theorem q4R(n:Nat):((n:Int)+1).toNat=n+1:=by omega
theorem z7s(c c' k)(s:List UInt8)(n:Int)(h0:0≤n)(h:n<s.length):evIx (.d c (.str s)) (.d c' (.int k n))=some (.int .u8 (nth s n).toNat):=by
 simp only[evIx,h0,if_true]
 rw[q74 (by omega)]
theorem z4h{α:Type} [Inhabited α](l:List α)(n:Int):nth l ((n.toNat:Nat):Int)=nth l n:=by
 unfold nth;rw[Int.toNat_natCast]
theorem z4p:most=1099511627776:=rfl
theorem z7Z:List.range 0=[]:=rfl
theorem z7Y:List.range 1=[0]:=rfl
end Go.Vm
end

section
namespace Go.Vm
theorem z7r(K s):evMk K s .mkm=some (.map s.nx,[.map []]):=rfl
theorem e_lkp(K s ok kk z m k):ev K s (.lkp ok kk z m k)=o3 (q6X s.heap ok kk) (ev K s z) (ev K s m) (ev K s k):=by
 simp only[ev,o3];cases ev K s z <;> cases ev K s m <;> cases ev K s k <;> rfl
def lkO(ok:Bool)(z:V):Option (Option V)→Option V
 |some (some v)=>some (if ok then .tup [v,.bool true] else v)
 |some none=>some (if ok then .tup [z,.bool false] else z)
 |none=>none
theorem z6Z(z v):lkO false z (some (some v))=some v:=rfl
theorem z60(z):lkO false z (some none)=some z:=rfl
def lkB(ok:Bool)(kk:Nat)(z:V)(k:D):Blk→Option V
 |.map es=>lkO ok z (q4x kk k es)
 |_=>none
theorem z9h(ok kk z k es):lkB ok kk z k (.map es)=lkO ok z (q4x kk k es):=rfl
theorem z5m(H ok kk z b c k):q6X H ok kk z (.map b) (.d c k)=o1 (lkB ok kk z k) (look H b):=by
 simp only[q6X,o1]
 cases look H b with
 |none=>rfl
 |some blk=>
  cases blk with
  |map es=>
   simp only[Blk.entries,Option.bind_some,lkB,lkO]
   cases q4x kk k es with
   |none=>rfl
   |some r=>cases r <;> rfl
  |_=>rfl
def stM(H:List (Nat×Blk))(nx b:Nat)(x:Option (List (D×V))):Option (List (Nat×Blk)×V×Lost×Nat):=x.bind fun es=>some (put H b (.map es),.junk,.none,nx)
theorem z0N(H nx b es):stM H nx b (some es)=some (put H b (.map es),.junk,.none,nx):=rfl
def msB(H:List (Nat×Blk))(nx b kk:Nat)(d:D)(x:V):Blk→Option (List (Nat×Blk)×V×Lost×Nat)
 |.map es=>stM H nx b (setE kk d x es)
 |_=>none
theorem z4n(H nx b kk d x es):msB H nx b kk d x (.map es)=stM H nx b (setE kk d x es):=rfl
def z3D(H:List (Nat×Blk))(nx kk:Nat)(m k x:V):Option (List (Nat×Blk)×V×Lost×Nat):=match m,k with
 |.map b,.d _ d=>if x.laid then o1 (msB H nx b kk d x) (look H b) else none
 |_,_=>none
theorem q7k(H nx kk b c d x):z3D H nx kk (.map b) (.d c d) x=if x.laid then o1 (msB H nx b kk d x) (look H b) else none:=rfl
theorem q9u(K s H kk m k v):evWr K s H (.mset kk m k v)=o3 (z3D H s.nx kk) (ev K s m) (ev K s k) (ev K s v):=by
 simp only[evWr,o3]
 cases ev K s m with
 |none=>rfl
 |some a=>cases ev K s k with
  |none=>cases a <;> rfl
  |some b=>cases ev K s v with
   |none=>cases a <;> cases b <;> rfl
   |some c=>
    cases a <;> try rfl
    cases b <;> try rfl
    simp only[Option.bind_some,z3D]
    split
    ·rename_i b c' d _
     cases look H b with
     |none=>rfl
     |some blk=>
      cases blk with
      |map es=>simp only[Blk.entries,o1,Option.bind_some,msB,stM];cases setE kk d c es <;> rfl
      |_=>rfl
    ·rfl
def mcB(H:List (Nat×Blk))(nx b:Nat):Blk→Option (List (Nat×Blk)×V×Lost×Nat)
 |.map es=>if q02 es then none else some (put H b (.map []),.junk,.none,nx)
 |_=>none
theorem z4u(H nx b es)(h:q02 es=false):mcB H nx b (.map es)=some (put H b (.map []),.junk,.none,nx):=by simp [mcB,h]
def z3E(H:List (Nat×Blk))(nx:Nat):V→Option (List (Nat×Blk)×V×Lost×Nat)
 |.map b=>o1 (mcB H nx b) (look H b)
 |_=>none
theorem z1U(H nx b):z3E H nx (.map b)=o1 (mcB H nx b) (look H b):=rfl
theorem z5j(K s H m):evWr K s H (.mclr m)=o1 (z3E H s.nx) (ev K s m):=by
 simp only[evWr,o1]
 cases ev K s m with
 |none=>rfl
 |some a=>
  cases a <;> try rfl
  rename_i b
  simp only[Option.bind_some,z3E,o1]
  cases look H b with
  |none=>rfl
  |some blk=>cases blk <;> rfl
def q17(l:List (List UInt8)):List (D×V):=l.map fun m=>(.str m,.d false (.int .i64 1))
theorem z2t(n:List UInt8)(l:List (List UInt8)):q4x 2 (.str n) (q17 l)=some (if l.contains n then some (.d false (.int .i64 1)) else none):=by
 induction l with
 |nil=>rfl
 |cons m l ih=>
  simp only[q17,List.map_cons,q4x,q1T,List.contains_cons] at ih ⊢
  by_cases h:n=m
  ·simp [h]
  ·have:(n==m)=false:=by simpa using h
   simp only[this,Bool.false_or]
   have hd:decide (n=m)=false:=by simpa using h
   simp only[hd]
   exact ih
theorem q8T(n:List UInt8)(l:List (List UInt8))(h:l.contains n=false):setE 2 (.str n) (.d false (.int .i64 1)) (q17 l)=some (q17 (l++[n])):=by
 induction l with
 |nil=>simp [q17,setE,q1T]
 |cons m l ih=>
  simp only[List.contains_cons,Bool.or_eq_false_iff] at h
  have hd:decide (n=m)=false:=by simpa using h.1
  have ih:=ih h.2
  simp only[q17,List.map_cons,setE,q1T,hd,List.cons_append] at ih ⊢
  rw[ih]
theorem q8W:q17 []=[]:=rfl
theorem z3P(l:List (List UInt8)):(q17 l).flatMap (fun q=>q.2.refs)=[]:=by
 induction l with
 |nil=>rfl
 |cons m l ih=>simp [q17,V.refs]
theorem q95(l:List (List UInt8))(p:Nat→Bool):(q17 l).all (fun q=>q.2.within p)=true:=by
 simp [q17,V.within]
theorem z6z(l:List (List UInt8))(g:Nat→Nat):(q17 l).map (fun q=>(q.1,q.2.ren g))=q17 l:=by
 simp [q17,V.ren]
theorem cast7:((7:Nat):Int)=7:=rfl
theorem q8z(c x):wonV true (some (.d c (.bool x)))=some x:=by cases x <;> rfl
end Go.Vm
end

section
namespace Go.Vm
def rwB(k i len:Nat):Blk→Option Rows
 |.dat c k' rows=>if k'=k∧i+len≤rows.length then some (.dat (c||q0V rows) ((rows.drop i).take len)) else none
 |.mix k' rows=>if k'=k∧i+len≤rows.length then some (.mix ((rows.drop i).take len)) else none
 |.map _=>none
theorem z6C(H k b i len):q03 H k (.bsl b i len)=o1 (rwB k i len) (look H b):=by
 simp only[q03,o1]
 cases look H b with
 |none=>rfl
 |some blk=>cases blk <;> rfl
theorem z8R(k i len c rows):rwB k i len (.dat c k rows)=if i+len≤rows.length then some (.dat (c||q0V rows) ((rows.drop i).take len)) else none:=by simp [rwB]
end Go.Vm
end

section
namespace Go.Vm
def LN0:=PLift.up (And.intro (And.intro (And.intro @List.length_map.{0,0} (And.intro @List.length_append.{0} @List.length_take.{0})) (And.intro @List.length_drop.{0} (And.intro @List.length_replicate.{0} @List.length_set.{0}))) (And.intro (And.intro @List.length_cons.{0} (And.intro @List.length_nil.{0} @Rows.n.eq_1)) (And.intro (And.intro @Rows.n.eq_2 @z4p) (And.intro @Int.toNat_natCast @Nat.zero_add))))
theorem LN:type_of% LN0.down:=LN0.down
def SX0:=PLift.up (And.intro (And.intro (And.intro (And.intro (And.intro (And.intro (And.intro (And.intro @e_sl @q2e) (And.intro @q1y @q3S)) (And.intro (And.intro @q1i @q2X) (And.intro @List.length_nil.{0} (And.intro @List.map_nil.{0,0} @q2j)))) (And.intro (And.intro (And.intro @List.nil_append.{0} @List.append_nil.{0}) (And.intro @q3R @q2P)) (And.intro (And.intro @q2k @q1j) (And.intro @q1B (And.intro @q3X @q0Q))))) (And.intro (And.intro (And.intro (And.intro @q19 @q0X) (And.intro @addBlks.eq_1 @addBlks.eq_2)) (And.intro (And.intro @List.map_cons.{0,0} @q1U) (And.intro @q27 (And.intro @q16 @List.cons_append.{0})))) (And.intro (And.intro (And.intro @q2U @q2q) (And.intro @q2S (And.intro @List.zipIdx_nil.{0} @q25))) (And.intro (And.intro @q00 @z8G) (And.intro @z6t (And.intro @refsL.eq_1 @refsL.eq_2)))))) (And.intro (And.intro (And.intro (And.intro (And.intro @q4Y @z6s) (And.intro @List.nodup_nil.{0} @List.all_nil.{0})) (And.intro (And.intro @closedB.eq_1 @Blk.ren.eq_1) (And.intro @Blk.ren.eq_2 (And.intro @Blk.ren.eq_3 @List.filterMap_nil.{0,0})))) (And.intro (And.intro (And.intro @List.filter_nil.{0} @z7Z) (And.intro @List.all_cons.{0} (And.intro @V.within.eq_1 @V.within.eq_2))) (And.intro (And.intro @V.within.eq_4 @V.within.eq_5) (And.intro @V.within.eq_6 (And.intro @V.within.eq_7 @V.within.eq_8))))) (And.intro (And.intro (And.intro (And.intro @V.within.eq_9 @V.within.eq_10) (And.intro @V.within.eq_11 @V.ren.eq_1)) (And.intro (And.intro @V.ren.eq_2 @V.ren.eq_4) (And.intro @V.ren.eq_5 (And.intro @V.ren.eq_6 @V.ren.eq_7)))) (And.intro (And.intro (And.intro @V.ren.eq_8 @V.ren.eq_9) (And.intro @V.ren.eq_10 (And.intro @V.ren.eq_11 @q5E))) (And.intro (And.intro @z7z @List.length_cons.{0}) (And.intro @Blk.within.eq_1 (And.intro @Blk.within.eq_2 @Blk.within.eq_3))))))) (And.intro (And.intro (And.intro (And.intro (And.intro (And.intro @q6T @Option.map_some.{0,0}) (And.intro @z7y @q9r)) (And.intro (And.intro @q3k @q20) (And.intro @q6v (And.intro @e_ld @q3D)))) (And.intro (And.intro (And.intro @List.drop_zero.{0} @q4k) (And.intro @List.zipIdx_cons.{0} (And.intro @q29 @q6A))) (And.intro (And.intro @q6z @q2v) (And.intro @q5J (And.intro @q2N @q6r))))) (And.intro (And.intro (And.intro (And.intro @q6e @q6q) (And.intro @e_fa @q2G)) (And.intro (And.intro @List.drop_succ_cons.{0} @q65) (And.intro @q8g (And.intro @z7K @q4A)))) (And.intro (And.intro (And.intro @mkBox.eq_1 @List.take_zero.{0}) (And.intro @q5O (And.intro @finish.eq_1 @q6S))) (And.intro (And.intro @q4h @startS.eq_1) (And.intro @indexed.eq_1 (And.intro @q49 @Option.isSome_some.{0})))))) (And.intro (And.intro (And.intro (And.intro (And.intro @z5s @z5r) (And.intro @loseH.eq_1 @loseH.eq_2)) (And.intro (And.intro @loseH.eq_3 @Lost.ids.eq_1) (And.intro @Lost.ids.eq_2 (And.intro @Lost.ids.eq_3 @q59)))) (And.intro (And.intro (And.intro @z3X @q8V) (And.intro @z1i (And.intro @q4F @splice.eq_1))) (And.intro (And.intro @q7H @q5Y) (And.intro @z7V (And.intro @z0O @z0Q))))) (And.intro (And.intro (And.intro (And.intro @q4m @z9X) (And.intro @e_ia @ilt_T)) (And.intro (And.intro @mkd.eq_1 @eq_f) (And.intro @viewDepth.eq_1 (And.intro @z9L @z8I)))) (And.intro (And.intro (And.intro @j1L @List.any_cons.{0}) (And.intro @List.any_nil.{0} (And.intro @q4B @q4l))) (And.intro (And.intro @q5S @j1R) (And.intro @z1t (And.intro @List.length_map.{0,0} @z1j)))))))) (And.intro (And.intro (And.intro (And.intro (And.intro (And.intro (And.intro @q4J @z7x) (And.intro @e_and @z5I)) (And.intro (And.intro @q2W @List.contains_nil.{0}) (And.intro @q2p (And.intro @q4W @Blk.refs.eq_1)))) (And.intro (And.intro (And.intro @Blk.refs.eq_2 @Blk.refs.eq_3) (And.intro @List.nodup_cons.{0} @List.not_mem_nil.{0})) (And.intro (And.intro @List.idxOf_cons.{0} @List.contains_cons.{0}) (And.intro @q3H (And.intro @z0H @List.filterMap_cons.{0,0}))))) (And.intro (And.intro (And.intro (And.intro @z5q @List.flatMap_cons.{0,0}) (And.intro @List.flatMap_nil.{0,0} @withinL.eq_1)) (And.intro (And.intro @withinL.eq_2 @renL.eq_1) (And.intro @renL.eq_2 (And.intro @e_or @q7Y)))) (And.intro (And.intro (And.intro @z5A @q8U) (And.intro @e_un (And.intro @List.mem_cons.{0} @ilt_F))) (And.intro (And.intro @ile_T @e_ext) (And.intro @z9g (And.intro @j1N @z7t)))))) (And.intro (And.intro (And.intro (And.intro (And.intro @z4J @z9f) (And.intro @nlt_T @q9s)) (And.intro (And.intro @z0T @z6Y) (And.intro @q5U (And.intro @z5k @z2h)))) (And.intro (And.intro (And.intro @nle_T @Option.map_none.{0,0}) (And.intro @List.take_succ_cons.{0} (And.intro @ile_F @z45))) (And.intro (And.intro @z6v @q6a) (And.intro @e_set (And.intro @Option.some.injEq.{0} @z6W))))) (And.intro (And.intro (And.intro (And.intro @z2I @e_eqs) (And.intro @z6x @z3O)) (And.intro (And.intro @z7p @Rows.n.eq_1) (And.intro @Rows.n.eq_2 (And.intro @e_lkp @z5m)))) (And.intro (And.intro (And.intro @z9h @z2t) (And.intro @z6l (And.intro @ne_t @z3P))) (And.intro (And.intro @q95 @z6z) (And.intro @z6C (And.intro @z8R @q8e))))))) (And.intro (And.intro (And.intro (And.intro (And.intro (And.intro @q9o @forgetR.eq_1) (And.intro @List.filter_cons.{0} @q7I)) (And.intro (And.intro @q5Z @z7u) (And.intro @handed.eq_1 (And.intro @Blk.dim.eq_1 @Blk.dim.eq_2)))) (And.intro (And.intro (And.intro @Blk.dim.eq_3 @z9R) (And.intro @V.dim.eq_1 (And.intro @V.dim.eq_2 @V.dim.eq_3))) (And.intro (And.intro @V.dim.eq_4 @V.dim.eq_5) (And.intro @V.dim.eq_6 (And.intro @V.dim.eq_7 @V.dim.eq_8))))) (And.intro (And.intro (And.intro (And.intro @V.dim.eq_10 @V.dim.eq_11) (And.intro @z9Q @putAll.eq_1)) (And.intro (And.intro @putAll.eq_2 @z7O) (And.intro @Option.getD_some.{0} (And.intro @z60 @z3G)))) (And.intro (And.intro (And.intro @z9Z @Blk.app.eq_1) (And.intro @Blk.app.eq_2 (And.intro @Blk.app.eq_3 @Blk.app.eq_4))) (And.intro (And.intro @restH.eq_1 @z4h) (And.intro @z7r (And.intro @q7L @z4r)))))) (And.intro (And.intro (And.intro (And.intro (And.intro @z4s @q9a) (And.intro @Blk.plain.eq_1 @Blk.plain.eq_2)) (And.intro (And.intro @Blk.plain.eq_3 @Blk.new.eq_1) (And.intro @Blk.new.eq_2 (And.intro @Blk.new.eq_3 @z6j)))) (And.intro (And.intro (And.intro @Rows.blk.eq_1 @Rows.blk.eq_2) (And.intro @z6y (And.intro @z2K @z7q))) (And.intro (And.intro @z4p @q97) (And.intro @z7M (And.intro @z6u @cast7))))) (And.intro (And.intro (And.intro (And.intro @ne_f @z6Z) (And.intro @z5j @z1U)) (And.intro (And.intro @z4u @List.set_cons_succ.{0}) (And.intro @List.set_cons_zero.{0} (And.intro @j1Q @z2F)))) (And.intro (And.intro (And.intro @List.length_drop.{0} @List.length_take.{0}) (And.intro @e_ix (And.intro @z7s @q4R))) (And.intro (And.intro @z9T @z2H) (And.intro @j0a (And.intro @z44 @z6V)))))))))
theorem SX:type_of% SX0.down:=SX0.down
def SV0:=PLift.up (And.intro SX (And.intro (And.intro @mkBlk.eq_1 (And.intro @z88 @forgetH.eq_1)) (And.intro (And.intro @Blk.forget.eq_1 @Blk.forget.eq_2) (And.intro @Blk.forget.eq_3 @finB.eq_1))))
theorem SV:type_of% SV0.down:=SV0.down
end Go.Vm
end

section
namespace Go.Vm
theorem z8m   (c x):(V.d c x).refs=[]:=rfl
theorem z5P   (c k r):(V.fs c k r).refs=[]:=rfl
theorem z1v:(V.junk).refs=[]:=rfl
theorem z22   (b i j):(V.ptr b i j).new1=false:=rfl
theorem z25   (b i n):(V.bsl b i n).new1=false:=rfl
theorem z23   (b):(V.map b).new1=false:=rfl
theorem z26   (cs):(V.agg cs).new1=false:=rfl
theorem z2Z   (vs):(V.tup vs).new1=false:=rfl
theorem z50   (f cs):(V.fn f cs).new1=false:=rfl
theorem q9I   (t v):(V.iface t v).new1=false:=rfl
theorem z1z:(V.junk).new1=false:=rfl
theorem z92   (c x):(V.d c x).new=(V.d c x).new1:=rfl
theorem z8o   (c k r):(V.fs c k r).new=(V.fs c k r).new1:=rfl
theorem z5W   (b i j):(V.ptr b i j).new=(V.ptr b i j).new1:=rfl
theorem z5Z   (b i n):(V.bsl b i n).new=(V.bsl b i n).new1:=rfl
theorem z5X   (b):(V.map b).new=(V.map b).new1:=rfl
theorem z8p   (f cs):(V.fn f cs).new=(V.fn f cs).new1:=rfl
theorem z1y   (t v):(V.iface t v).new=(V.iface t v).new1:=rfl
theorem z2Y:(V.junk).new=(V.junk).new1:=rfl
theorem z2T   (b i j):(V.ptr b i j).own1=true:=rfl
theorem z2W   (b i n):(V.bsl b i n).own1=true:=rfl
theorem z2U   (b):(V.map b).own1=true:=rfl
theorem z2X   (cs):(V.agg cs).own1=true:=rfl
theorem z2S   (vs):(V.tup vs).own1=true:=rfl
theorem z5V   (f cs):(V.fn f cs).own1=true:=rfl
theorem q9H   (t v):(V.iface t v).own1=true:=rfl
theorem z1x:(V.junk).own1=true:=rfl
theorem z91   (c x):(V.d c x).own=(V.d c x).own1:=rfl
theorem z8n   (c k r):(V.fs c k r).own=(V.fs c k r).own1:=rfl
theorem z5R   (b i j):(V.ptr b i j).own=(V.ptr b i j).own1:=rfl
theorem z5U   (b i n):(V.bsl b i n).own=(V.bsl b i n).own1:=rfl
theorem z5S   (b):(V.map b).own=(V.map b).own1:=rfl
theorem z5Q   (vs):(V.tup vs).own=(V.tup vs).own1:=rfl
theorem z1w   (t v):(V.iface t v).own=(V.iface t v).own1:=rfl
theorem z2R:(V.junk).own=(V.junk).own1:=rfl
theorem z3g   (c k r):(V.fs c k r).flat1=false:=rfl
theorem z1H   (b i j):(V.ptr b i j).flat1=false:=rfl
theorem z1K   (b i n):(V.bsl b i n).flat1=false:=rfl
theorem z1I   (b):(V.map b).flat1=false:=rfl
theorem z1L   (cs):(V.agg cs).flat1=false:=rfl
theorem z1G   (vs):(V.tup vs).flat1=false:=rfl
theorem z3h   (f cs):(V.fn f cs).flat1=false:=rfl
theorem q8w   (t v):(V.iface t v).flat1=false:=rfl
theorem q9L:(V.junk).flat1=false:=rfl
theorem z55   (c x):(V.d c x).flatV=(V.d c x).flat1:=rfl
theorem z3e   (c k r):(V.fs c k r).flatV=(V.fs c k r).flat1:=rfl
theorem z1C   (b i j):(V.ptr b i j).flatV=(V.ptr b i j).flat1:=rfl
theorem z1F   (b i n):(V.bsl b i n).flatV=(V.bsl b i n).flat1:=rfl
theorem z1D   (b):(V.map b).flatV=(V.map b).flat1:=rfl
theorem z1B   (vs):(V.tup vs).flatV=(V.tup vs).flat1:=rfl
theorem z3f   (f cs):(V.fn f cs).flatV=(V.fn f cs).flat1:=rfl
theorem q8v   (t v):(V.iface t v).flatV=(V.iface t v).flat1:=rfl
theorem q9K:(V.junk).flatV=(V.junk).flat1:=rfl
theorem z8l(H)  (c x):view H (V.d c x)=(q0d viewDepth H (V.d c x)).map (.d false):=rfl
theorem z5O(H)  (c k r):view H (V.fs c k r)=(q0d viewDepth H (V.fs c k r)).map (.d false):=rfl
theorem z2N(H)  (b i j):view H (V.ptr b i j)=(q0d viewDepth H (V.ptr b i j)).map (.d false):=rfl
theorem z2Q(H)  (b i n):view H (V.bsl b i n)=(q0d viewDepth H (V.bsl b i n)).map (.d false):=rfl
theorem z2O(H)  (b):view H (V.map b)=(q0d viewDepth H (V.map b)).map (.d false):=rfl
theorem z2M(H)  (vs):view H (V.tup vs)=(q0d viewDepth H (V.tup vs)).map (.d false):=rfl
theorem q9G(H)  (t v):view H (V.iface t v)=(q0d viewDepth H (V.iface t v)).map (.d false):=rfl
theorem z1u(H):view H (V.junk)=(q0d viewDepth H (V.junk)).map (.d false):=rfl
theorem z8q   (c x):(V.d c x).laid=(V.d c x).cell:=rfl
theorem z52   (c k r):(V.fs c k r).laid=(V.fs c k r).cell:=rfl
theorem z3a   (b i j):(V.ptr b i j).laid=(V.ptr b i j).cell:=rfl
theorem z3d   (b i n):(V.bsl b i n).laid=(V.bsl b i n).cell:=rfl
theorem z3b   (b):(V.map b).laid=(V.map b).cell:=rfl
theorem z27   (vs):(V.tup vs).laid=(V.tup vs).cell:=rfl
theorem z54   (f cs):(V.fn f cs).laid=(V.fn f cs).cell:=rfl
theorem q9J   (t v):(V.iface t v).laid=(V.iface t v).cell:=rfl
theorem z1A:(V.junk).laid=(V.junk).cell:=rfl
theorem z6e   (c x):(V.d c x).cells=[(V.d c x)]:=rfl
theorem z3v   (c k r):(V.fs c k r).cells=[(V.fs c k r)]:=rfl
theorem z1P   (b i j):(V.ptr b i j).cells=[(V.ptr b i j)]:=rfl
theorem z1S   (b i n):(V.bsl b i n).cells=[(V.bsl b i n)]:=rfl
theorem z1Q   (b):(V.map b).cells=[(V.map b)]:=rfl
theorem z1O   (vs):(V.tup vs).cells=[(V.tup vs)]:=rfl
theorem z3w   (f cs):(V.fn f cs).cells=[(V.fn f cs)]:=rfl
theorem q8x   (t v):(V.iface t v).cells=[(V.iface t v)]:=rfl
theorem q9O:(V.junk).cells=[(V.junk)]:=rfl
theorem z8r(z) (bs) (H)  (c x):finV z bs H (V.d c x)=finA z bs H (V.d c x):=rfl
theorem z56(z) (bs) (H)  (c k r):finV z bs H (V.fs c k r)=finA z bs H (V.fs c k r):=rfl
theorem z3i(z) (bs) (H)  (b i j):finV z bs H (V.ptr b i j)=finA z bs H (V.ptr b i j):=rfl
theorem z3l(z) (bs) (H)  (b i n):finV z bs H (V.bsl b i n)=finA z bs H (V.bsl b i n):=rfl
theorem z3j(z) (bs) (H)  (b):finV z bs H (V.map b)=finA z bs H (V.map b):=rfl
theorem z3m(z) (bs) (H)  (cs):finV z bs H (V.agg cs)=finA z bs H (V.agg cs):=rfl
theorem z57(z) (bs) (H)  (f cs):finV z bs H (V.fn f cs)=finA z bs H (V.fn f cs):=rfl
theorem q9M(z) (bs) (H)  (t v):finV z bs H (V.iface t v)=finA z bs H (V.iface t v):=rfl
theorem z1M(z) (bs) (H):finV z bs H (V.junk)=finA z bs H (V.junk):=rfl
theorem z8s(z) (bs) (H)  (c x):finA z bs H (V.d c x)=finC z bs H (V.d c x):=rfl
theorem z58(z) (bs) (H)  (c k r):finA z bs H (V.fs c k r)=finC z bs H (V.fs c k r):=rfl
theorem z3o(z) (bs) (H)  (b i j):finA z bs H (V.ptr b i j)=finC z bs H (V.ptr b i j):=rfl
theorem z3r(z) (bs) (H)  (b i n):finA z bs H (V.bsl b i n)=finC z bs H (V.bsl b i n):=rfl
theorem z3p(z) (bs) (H)  (b):finA z bs H (V.map b)=finC z bs H (V.map b):=rfl
theorem z3n(z) (bs) (H)  (vs):finA z bs H (V.tup vs)=finC z bs H (V.tup vs):=rfl
theorem q9N(z) (bs) (H)  (t v):finA z bs H (V.iface t v)=finC z bs H (V.iface t v):=rfl
theorem z1N(z) (bs) (H):finA z bs H (V.junk)=finC z bs H (V.junk):=rfl
theorem z3C   (cs):(V.agg cs).cell=false:=rfl
theorem z3x   (vs):(V.tup vs).cell=false:=rfl
theorem z1T:(V.junk).cell=false:=rfl
theorem z8w   (c x):(V.d c x).cell=true:=rfl
theorem z6f   (c k r):(V.fs c k r).cell=true:=rfl
theorem z3y   (b i j):(V.ptr b i j).cell=true:=rfl
theorem z3B   (b i n):(V.bsl b i n).cell=true:=rfl
theorem z24   (b i n):(V.bsx b i n).new1=false:=rfl
theorem z5Y   (b i n):(V.bsx b i n).new=(V.bsx b i n).new1:=rfl
theorem z2V   (b i n):(V.bsx b i n).own1=true:=rfl
theorem z5T   (b i n):(V.bsx b i n).own=(V.bsx b i n).own1:=rfl
theorem z1J   (b i n):(V.bsx b i n).flat1=false:=rfl
theorem z1E   (b i n):(V.bsx b i n).flatV=(V.bsx b i n).flat1:=rfl
theorem z2P(H)  (b i n):view H (V.bsx b i n)=(q0d viewDepth H (V.bsx b i n)).map (.d false):=rfl
theorem z3c   (b i n):(V.bsx b i n).laid=(V.bsx b i n).cell:=rfl
theorem z1R   (b i n):(V.bsx b i n).cells=[(V.bsx b i n)]:=rfl
theorem z3k(z) (bs) (H)  (b i n):finV z bs H (V.bsx b i n)=finA z bs H (V.bsx b i n):=rfl
theorem z3q(z) (bs) (H)  (b i n):finA z bs H (V.bsx b i n)=finC z bs H (V.bsx b i n):=rfl
theorem z3A   (b i n):(V.bsx b i n).cell=true:=rfl
theorem z3z   (b):(V.map b).cell=true:=rfl
theorem z6g   (f cs):(V.fn f cs).cell=true:=rfl
theorem q9P   (t v):(V.iface t v).cell=true:=rfl
theorem z8v(k n):(D.int k n).flat=true:=rfl
theorem z6d(b):(D.bool b).flat=true:=rfl
theorem z8t(s):(D.str s).flat=true:=rfl
theorem z93(k r):(D.sl k r).flat=false:=rfl
theorem z8u(c):(D.ptr c).flat=false:=rfl
theorem z6a:(D.nilp).flat=true:=rfl
theorem z3s:(D.nilif).flat=true:=rfl
theorem z3t:(D.nilfn).flat=true:=rfl
theorem z3u(t c):(D.iface t c).flat=false:=rfl
theorem z59(k):(D.nils k).flat=true:=rfl
theorem z6c(k):(D.emps k).flat=true:=rfl
theorem z6b:(D.nilm).flat=true:=rfl
def SW0:=PLift.up (And.intro (And.intro (And.intro (And.intro (And.intro @z24 @z5Y) (And.intro @z2V (And.intro @z5T @z1J))) (And.intro (And.intro @z1E (And.intro @z2P @z3c)) (And.intro @z1R (And.intro @z3k @z3q)))) (And.intro (And.intro (And.intro @z3A @evLen.eq_5) (And.intro @V.drop1.eq_3 (And.intro @V.ref0.eq_3 @V.refs.eq_3))) (And.intro (And.intro @V.ren.eq_3 (And.intro @V.within.eq_3 @V.dim.eq_9)) (And.intro @finC.eq_5 (And.intro @V.isNilS.eq_2 @V.shift.eq_3))))) (And.intro (And.intro @z2j (And.intro @z0f (And.intro @q2I (And.intro @q1X (And.intro @z1g (And.intro @D.flat0.eq_1 (And.intro @D.flat0.eq_2 (And.intro @D.flat0.eq_3 (And.intro @D.flat0.eq_4 (And.intro @D.flat0.eq_5 (And.intro @D.flat0.eq_6 (And.intro @D.flat0.eq_7 (And.intro @D.flat0.eq_8 (And.intro @D.flat0.eq_9 (And.intro @D.flat0.eq_10 (And.intro @D.flat0.eq_11 @D.flat0.eq_12)))))))))))))))) (And.intro (And.intro (And.intro (And.intro (And.intro (And.intro (And.intro @beq_self_eq_true.{0} (And.intro @if_true.{1} @Bool.and_self)) (And.intro (And.intro @decide_true @Nat.zero_add) (And.intro @if_false.{1} @Bool.false_eq_true))) (And.intro (And.intro @Bool.or_true (And.intro @Bool.or_self @Bool.and_false)) (And.intro (And.intro @Bool.not_true @List.getElem?_cons_zero.{0}) (And.intro @Bool.false_and @Bool.or_false)))) (And.intro (And.intro (And.intro @Nat.le_refl (And.intro @decide_false @and_self)) (And.intro (And.intro @not_false_eq_true @cond_true.{1}) (And.intro @Nat.add_zero @Bool.and_true))) (And.intro (And.intro @Bool.not_false (And.intro @List.getElem?_cons_succ.{0} @or_self)) (And.intro (And.intro @cond_false.{1} @bne_self_eq_false.{0}) (And.intro @j1O @z4e))))) (And.intro (And.intro (And.intro (And.intro @Bool.true_or (And.intro @beq_iff_eq.{0} @or_false)) (And.intro (And.intro @eq_t @or_true) (And.intro @z9S @List.length_append.{0}))) (And.intro (And.intro @Int.toNat_natCast (And.intro @and_true @true_or)) (And.intro (And.intro @j1P @z6L) (And.intro @Bool.true_and @Prod.mk.injEq.{0,0})))) (And.intro (And.intro (And.intro @evBin.eq_1 (And.intro @evBin.eq_2 @intBin.eq_1)) (And.intro (And.intro @intBin.eq_2 @intBin.eq_3) (And.intro @intBin.eq_4 @intBin.eq_5))) (And.intro (And.intro @intBin.eq_6 (And.intro @intBin.eq_7 @intBin.eq_8)) (And.intro (And.intro @intBin.eq_9 @intBin.eq_10) (And.intro @intBin.eq_11 @intBin.eq_12)))))) (And.intro (And.intro (And.intro (And.intro (And.intro @intBin.eq_13 (And.intro @intBin.eq_14 @intBin.eq_15)) (And.intro (And.intro @evLen.eq_1 @evLen.eq_2) (And.intro @evLen.eq_3 @evLen.eq_4))) (And.intro (And.intro @evFa.eq_1 (And.intro @evFa.eq_2 @strBin.eq_1)) (And.intro (And.intro @strBin.eq_2 @strBin.eq_3) (And.intro @strBin.eq_4 @strBin.eq_5)))) (And.intro (And.intro (And.intro @strBin.eq_6 (And.intro @strBin.eq_7 @evUn.eq_1)) (And.intro (And.intro @evUn.eq_2 @evExt.eq_1) (And.intro @evSet.eq_1 @asD.eq_1))) (And.intro (And.intro @asD.eq_2 (And.intro @V.refs.eq_1 @V.refs.eq_2)) (And.intro (And.intro @V.refs.eq_4 @V.refs.eq_5) (And.intro @V.refs.eq_6 @V.refs.eq_7))))) (And.intro (And.intro (And.intro (And.intro @V.refs.eq_8 (And.intro @V.new1.eq_1 @V.new1.eq_2)) (And.intro (And.intro @V.new.eq_1 @V.new.eq_2) (And.intro @V.own.eq_1 @V.own.eq_2))) (And.intro (And.intro @V.own1.eq_1 (And.intro @V.own1.eq_2 @V.flat1.eq_1)) (And.intro (And.intro @V.flatV.eq_1 @view.eq_1) (And.intro @view.eq_2 @V.laid.eq_1)))) (And.intro (And.intro (And.intro @V.cells.eq_1 (And.intro @finC.eq_1 @finC.eq_2)) (And.intro (And.intro @finC.eq_3 @finC.eq_4) (And.intro @finC.eq_6 @finC.eq_7))) (And.intro (And.intro (And.intro @finA.eq_1 @finA.eq_2) (And.intro @finV.eq_1 @z8m)) (And.intro (And.intro @z5P @z1v) (And.intro @z22 @z25))))))) (And.intro (And.intro (And.intro (And.intro (And.intro (And.intro @z23 (And.intro @z26 @z2Z)) (And.intro (And.intro @z50 @q9I) (And.intro @z1z @z92))) (And.intro (And.intro @z8o (And.intro @z5W @z5Z)) (And.intro (And.intro @z5X @z8p) (And.intro @z1y @z2Y)))) (And.intro (And.intro (And.intro @z2T (And.intro @z2W @z2U)) (And.intro (And.intro @z2X @z2S) (And.intro @z5V @q9H))) (And.intro (And.intro @z1x (And.intro @z91 @z8n)) (And.intro (And.intro @z5R @z5U) (And.intro @z5S @z5Q))))) (And.intro (And.intro (And.intro (And.intro @z1w (And.intro @z2R @z3g)) (And.intro (And.intro @z1H @z1K) (And.intro @z1I @z1L))) (And.intro (And.intro @z1G (And.intro @z3h @q8w)) (And.intro (And.intro @q9L @z55) (And.intro @z3e @z1C)))) (And.intro (And.intro (And.intro @z1F (And.intro @z1D @z1B)) (And.intro (And.intro @z3f @q8v) (And.intro @q9K @z8l))) (And.intro (And.intro @z5O (And.intro @z2N @z2Q)) (And.intro (And.intro @z2O @z2M) (And.intro @q9G @z1u)))))) (And.intro (And.intro (And.intro (And.intro (And.intro @z8q (And.intro @z52 @z3a)) (And.intro (And.intro @z3d @z3b) (And.intro @z27 @z54))) (And.intro (And.intro @q9J (And.intro @z1A @z6e)) (And.intro (And.intro @z3v @z1P) (And.intro @z1S @z1Q)))) (And.intro (And.intro (And.intro @z1O (And.intro @z3w @q8x)) (And.intro (And.intro @q9O @z8r) (And.intro @z56 @z3i))) (And.intro (And.intro @z3l (And.intro @z3j @z3m)) (And.intro (And.intro @z57 @q9M) (And.intro @z1M @z8s))))) (And.intro (And.intro (And.intro (And.intro @z58 (And.intro @z3o @z3r)) (And.intro (And.intro @z3p @z3n) (And.intro @q9N @z1N))) (And.intro (And.intro @z3C (And.intro @z3x @z1T)) (And.intro (And.intro @z8w @z6f) (And.intro @z3y @z3B)))) (And.intro (And.intro (And.intro @z3z (And.intro @z6g @q9P)) (And.intro (And.intro @z8v @z6d) (And.intro @z8t @z93))) (And.intro (And.intro (And.intro @z8u @z6a) (And.intro @z3s @z3t)) (And.intro (And.intro @z3u @z59) (And.intro @z6c @z6b))))))))))
theorem SW:type_of% SW0.down:=SW0.down
end Go.Vm
end

section
namespace Go.Vm
structure Instr where
 op:Int
 a:Int
 b:Int
 deriving DecidableEq,Inhabited
structure Shape where
 name:List UInt8
 fields:Int
 deriving DecidableEq,Inhabited
structure Glob where
 name:List UInt8
 arity:Int
 code:List Instr
 deriving DecidableEq,Inhabited
structure Table where
 shapes:List Shape
 globals:List Glob
 deriving DecidableEq,Inhabited
def eInt(n:Int):List D:=[.int .i64 n]
def q0j(x:Instr):List D:=[.int .i64 x.op,.int .i64 x.a,.int .i64 x.b]
def q0c(s:Shape):List D:=[.str s.name,.int .i64 s.fields]
def q0l(g:Glob):List D:=[.str g.name,.int .i64 g.arity,.sl 3 (g.code.map q0j)]
theorem q0q(n):eInt n=[.int .i64 n]:=rfl
theorem q0e(x):q0j x=[.int .i64 x.op,.int .i64 x.a,.int .i64 x.b]:=rfl
theorem q0g(s):q0c s=[.str s.name,.int .i64 s.fields]:=rfl
theorem q0k(g):q0l g=[.str g.name,.int .i64 g.arity,.sl 3 (g.code.map q0j)]:=rfl
theorem z0r(l:List Instr) (i a b c):(l.map q0j).set i [D.int .i64 a,.int .i64 b,.int .i64 c]=(l.set i ⟨a,b,c⟩).map q0j:=by rw[List.map_set];rfl
theorem q6Q(l:List Int) (i b):(l.map eInt).set i [D.int .i64 b]=(l.set i b).map eInt:=by rw[List.map_set];rfl
theorem z2v(n b):List.replicate n [D.int .i64 b]=(List.replicate n b).map eInt:=by rw[List.map_replicate];rfl
theorem z9x(x:Instr):Instr.mk x.op x.a x.b=x:=rfl
theorem z9v(x:Shape):Shape.mk x.name x.fields=x:=rfl
end Go.Vm
end

section
namespace Go.Vm
theorem q1h{α:Type} [Inhabited α]{l:List α}{i:Int}(h0:0≤i)(h:i<l.length):nth l i∈l:=by
 rw[←q6o (n:=i) (by omega)];exact List.getElem_mem _
def q3q(b:UInt8):Bool:=decide (32≤(b.toNat:Int))&&decide ((b.toNat:Int)≤126)
def q1p(s:List UInt8):Bool:=s.all q3q&&(decide (1≤(s.length:Int))&&decide ((s.length:Int)≤4096))
def givenS:List Shape:=[⟨[70,97,108,115,101],0⟩,⟨[84,114,117,101],0⟩,⟨[85,110,105,116],0⟩,⟨[78,105,108],0⟩,⟨[67,111,110,115],2⟩,⟨[80,97,105,114],2⟩,⟨[84,114,105,112,108,101],3⟩]
def q1M:List Glob→Int→Option Int
 |[],n=>some n
 |g :: r,n=>if 8000<(g.code.length:Int) then none else q1M r (n+g.code.length)
def q2M(t:Table):Bool:=match q1M t.globals 0 with
 |none=>true
 |some n=>decide (2000<(t.shapes.length:Int))||decide (2000<(t.globals.length:Int))||decide (200000<n)
theorem q9m:∀(l:List Glob)(n m:Int),q1M l n=some m→n≤m∧m≤n+8000*l.length:=by
 intro l
 induction l with
 |nil=>intro n m h;simp only[q1M,Option.some.injEq] at h;subst h;simp
 |cons g l ih=>
  intro n m h
  simp only[q1M] at h
  split at h
  ·cases h
  ·have:=ih _ _ h
   simp only[List.length_cons]
   omega
def q0S(ng ns nc at_ n kind:Int):Int:=
 if kind=8 then(if n≤at_∨nc≤n then 174 else 0) else
 if(if kind=0 then decide (n=0) else if kind=1 then decide (0≤n) else if kind=2 then decide (1≤n)
  else if kind=3 then decide (-4611686018427387904≤n∧n≤4611686018427387903) else if kind=4 then decide (0≤n∧n<ng)
  else if kind=5 then decide (0≤n∧n<ns) else if kind=6 then decide (1≤n∧n≤11) else if kind=7 then decide (1≤n∧n≤4) else true) then 0 else 172
def q0L(Dp:List Int)(at_ d:Int):List Int:=if nth Dp at_=0 then Dp.set at_.toNat d else Dp
def q1g(Dp:List Int)(at_ d:Int):Bool:=if nth Dp at_=0 then true else nth Dp at_==d
theorem q89{α:Type} [Inhabited α](l:List α)(i:Int)(x:α)(h0:0≤i)(h:i<l.length):nth (l.set i.toNat x) i=x:=by
 unfold nth
 rw[List.getD_eq_getElem?_getD,List.getElem?_set_self (by omega)]
 rfl
def q0R(sh:List Shape)(a:Int):Int:=(nth sh a).fields
def q0t(sh:List Shape)(x:Instr)(d:Int):Int×Bool:=
 let r:Int×Bool:=
  if x.op=1 then(d+1,decide (x.a<d)) else if x.op=2∨x.op=3 then(d+1,true)
  else if x.op=4 then(d - x.a,decide (x.a<d)) else if x.op=5 then(d - x.a,decide (x.a<d - 1))
  else if x.op=6∨x.op=12 then(d - 1,decide (2<d)) else if x.op=7 then(d - 1,decide (x.a<d))
  else if x.op=8 then(d+(if 8000<x.a then 8000 else x.a),decide (x.a≤8000))
  else if x.op=9 then(d - q0R sh x.a+1,decide (q0R sh x.a<d)) else if x.op=10 then(d - 1+q0R sh x.a,decide (1<d))
  else if x.op=11∨x.op=14∨x.op=15 then(d,decide (1<d)) else if x.op=17 then(d,decide (d=1)) else(d,true)
 (r.1,r.2&&decide (r.1≤8000))
def z9s:List (List UInt8×Int×Int):=[([],0,0),([112,117,115,104],1,0),([103,108,111,98],4,0),([105,110,116],3,0),([112,111,112],1,0),([115,108,105,100,101],1,0),([97,112,112,108,121],0,0),([117,112,100,97,116,101],2,0),
 ([97,108,108,111,99],1,0),([112,97,99,107],5,0),([115,112,108,105,116],5,0),([101,118,97,108],0,0),([97,114,105,116,104],6,0),([106,117,109,112],8,0),([116,101,115,116,99,111,110],5,8),([116,101,115,116,105,110,116],3,8),([102,97,105,108],7,0),([117,110,119,105,110,100],0,0)]
def q2g(op:Int):List UInt8×Int×Int:=if 1≤op∧op<18 then nth z9s op else([],0,0)
def z6o(f:List UInt8×Int×Int)(ok:Bool):V:=.tup [.agg [.d false (.str f.1),.d false (.int .i64 f.2.1),.d false (.int .i64 f.2.2)],.d false (.bool ok)]
def q5A(ng ns nc i:Int)(x:Instr):Int:=
 if 1≤x.op∧x.op<18 then
  let a:=q0S ng ns nc i x.a (q2g x.op).2.1
  let b:=q0S ng ns nc i x.b (q2g x.op).2.2
  if a=172∨b=172 then 172 else if a≠0∨b≠0 then 174 else 0
 else 172
def q1S(ng ns nc:Int)(l:List Instr):Nat→Nat→Int
 |0,_=>0
 |k+1,i=>if q5A ng ns nc i (nth l i)=0 then q1S ng ns nc l k (i+1) else q5A ng ns nc i (nth l i)
theorem z2s(op:Int):(0≤(q2g op).2.1∧(q2g op).2.1≤8)∧(0≤(q2g op).2.2∧(q2g op).2.2≤8):=by
 unfold q2g
 by_cases h:1≤op∧op<18
 ·rw[if_pos h]
  have:op=1∨op=2∨op=3∨op=4∨op=5∨op=6∨op=7∨op=8∨op=9∨op=10∨op=11∨op=12∨op=13∨op=14∨op=15∨op=16∨op=17:=by omega
  clear h
  rcases this with rfl|rfl|rfl|rfl|rfl|rfl|rfl|rfl|rfl|rfl|rfl|rfl|rfl|rfl|rfl|rfl|rfl <;> decide
 ·rw[if_neg h];decide
theorem q6n(ng ns nc at_ n kind:Int):q0S ng ns nc at_ n kind=0∨q0S ng ns nc at_ n kind=172∨q0S ng ns nc at_ n kind=174:=by
 have key:∀ b:Bool,(if b=true then(0:Int) else 172)=0∨(if b=true then(0:Int) else 172)=172∨(if b=true then(0:Int) else 172)=174:=by
  intro b;cases b <;> simp
 unfold q0S
 split
 ·split <;> simp
 ·exact key _
def q2l(x:Instr):Int:=if x.op=13 then x.a else if x.op=14∨x.op=15 then x.b else 0
def q6M(x:Instr):Bool:=x.op != 13&&x.op != 16&&x.op != 17
def depL(sh:List Shape)(cd:List Instr):Nat→Nat→List Int→Int
 |0,_,_=>0
 |k+1,i,Dp=>
  let x:=nth cd i
  let d:=nth Dp i
  if d=0 then 174 else
  if(q0t sh x d).2=false then 173 else
  if q6M x=true then
   if(i:Int)+1=cd.length then 174 else
   if q1g Dp (i+1) (q0t sh x d).1=false then 173 else
   if 0<q2l x then
    if q1g (q0L Dp (i+1) (q0t sh x d).1) (q2l x) (q0t sh x d).1=false then 173 else depL sh cd k (i+1) (q0L (q0L Dp (i+1) (q0t sh x d).1) (q2l x) (q0t sh x d).1)
   else depL sh cd k (i+1) (q0L Dp (i+1) (q0t sh x d).1)
  else if 0<q2l x then
    if q1g Dp (q2l x) (q0t sh x d).1=false then 173 else depL sh cd k (i+1) (q0L Dp (q2l x) (q0t sh x d).1)
   else depL sh cd k (i+1) Dp
structure NumOk(ns nc i:Int)(x:Instr):Prop where
 op:1≤x.op∧x.op<18
 cnt:x.op=1∨x.op=4∨x.op=5∨x.op=8→0≤x.a
 upd:x.op=7→1≤x.a
 con:x.op=9∨x.op=10→0≤x.a∧x.a<ns
 jmp:x.op=13→i<x.a∧x.a<nc
 tst:x.op=14∨x.op=15→i<x.b∧x.b<nc
theorem z0Y{ng ns nc i:Int}{x:Instr}(h:q5A ng ns nc i x=0):NumOk ns nc i x:=by
 unfold q5A at h
 by_cases g:1≤x.op∧x.op<18
 ·rw[if_pos g] at h
  have key:∀ a b:Int,(if a=172∨b=172 then(172:Int) else if a≠0∨b≠0 then 174 else 0)=0→a=0∧b=0:=by
   intro a b h
   split at h
   ·omega
   ·split at h <;> omega
  obtain⟨ha,hb⟩:=key _ _ h
  clear h
  have:x.op=1∨x.op=2∨x.op=3∨x.op=4∨x.op=5∨x.op=6∨x.op=7∨x.op=8∨x.op=9∨x.op=10∨x.op=11∨x.op=12∨x.op=13∨x.op=14∨x.op=15∨x.op=16∨x.op=17:=by omega
  obtain⟨op,a,b⟩:=x
  simp only at this ha hb g
  rcases this with rfl|rfl|rfl|rfl|rfl|rfl|rfl|rfl|rfl|rfl|rfl|rfl|rfl|rfl|rfl|rfl|rfl <;>
   simp [q2g,z9s,nth,q0S] at ha hb <;> exact⟨by simp,by simp;try omega,by simp;try omega,by simp;try omega,by simp;try omega,by simp;try omega⟩
 ·rw[if_neg g] at h;cases h
def ShOk(sh:List Shape):Prop:=∀ s∈sh,0≤s.fields∧s.fields≤8
theorem q4d{sh:List Shape}{nc i d:Int}{x:Instr}(hs:ShOk sh)(hx:NumOk sh.length nc i x)(hd:1≤d∧d≤8000)(h:(q0t sh x d).2=true):1≤(q0t sh x d).1∧(q0t sh x d).1≤8000:=by
 obtain⟨op,a,b⟩:=x
 have hf:(op=9∨op=10)→0≤q0R sh a:=fun ho=>(hs _ (q1h (hx.con ho).1 (hx.con ho).2)).1
 have h1:=hx.op
 have h2:=hx.cnt
 have h3:=hx.upd
 simp only at h1 h2 h3
 have:op=1∨op=2∨op=3∨op=4∨op=5∨op=6∨op=7∨op=8∨op=9∨op=10∨op=11∨op=12∨op=13∨op=14∨op=15∨op=16∨op=17:=by omega
 unfold q0t at h ⊢
 rcases this with rfl|rfl|rfl|rfl|rfl|rfl|rfl|rfl|rfl|rfl|rfl|rfl|rfl|rfl|rfl|rfl|rfl <;> simp at h h2 h3 hf⊢<;> (try split at h) <;> (try split) <;> omega
theorem q1W(Dp:List Int)(at_ d:Int):(q0L Dp at_ d).length=Dp.length:=by
 unfold q0L;split <;> simp
def DpOk(Dp:List Int):Prop:=∀ v∈Dp,0≤v∧v≤8000
theorem q2F{Dp:List Int}{at_ d:Int}(h:DpOk Dp)(hd:0≤d∧d≤8000):DpOk (q0L Dp at_ d):=by
 unfold q0L
 split
 ·intro v hv
  rcases List.mem_or_eq_of_mem_set hv with h1|h1
  ·exact h v h1
  ·subst h1;exact hd
 ·exact h
end Go.Vm
end

section
namespace Go.Vm
/- 'sloth/slothref17.Numbers' -/
def f28:Fun:=⟨ (.seq (.reg [⟨[(2,.box (.sl 0)),(3,.box (.sl 1))],[],[(.bool false)],none,[2,3],3,[],[],[]⟩]) (.seq (.reg [⟨[],[(5,(.and (.bin .geq (.ld 1 false (.fa 1 (.sl 3))) (.int .i64 0)) (.bin .lss (.ld 1 false (.fa 1 (.sl 3))) (.len false (.ld 1 false (.fa 0 (.sl 2)))))))],[],none,[2,3],12,[],[],[]⟩]) (.seq (.reg [⟨[],[(6,(.and (.bin .geq (.ld 1 false (.fa 1 (.sl 3))) (.int .i64 (-4611686018427387904))) (.bin .leq (.ld 1 false (.fa 1 (.sl 3))) (.int .i64 4611686018427387903))))],[],none,[2,3,5],9,[],[],[]⟩]) (.seq (.seq (.reg [⟨[],[(27,(.ld 1 false (.fa 0 (.sl 3))))],[],none,[2,3,5,6],2,[],[],[]⟩]) (.block 0 (.seq (.seq (.reg [⟨[],[(28,(.bin .eql (.sl 27) (.int .i64 1)))],[],none,[2,3,5,6,27],2,[],[],[]⟩]) (.cond (.sl 28) .skip (.seq (.reg [⟨[],[(28,(.bin .eql (.sl 27) (.int .i64 4)))],[],none,[2,3,5,6,27],2,[],[],[]⟩]) (.cond (.sl 28) .skip (.seq (.reg [⟨[],[(28,(.bin .eql (.sl 27) (.int .i64 5)))],[],none,[2,3,5,6,27],2,[],[],[]⟩]) (.cond (.sl 28) .skip (.reg [⟨[],[(28,(.bin .eql (.sl 27) (.int .i64 8)))],[],none,[2,3,5,6,27],2,[],[],[]⟩]))))))) (.cond (.sl 28) (.seq (.reg [⟨[],[(4,(.and (.bin .geq (.ld 1 false (.fa 1 (.sl 3))) (.int .i64 0)) (.bin .eql (.ld 1 false (.fa 2 (.sl 3))) (.int .i64 0))))],[],none,[],9,[],[],[]⟩]) (.seq (.tidy 0 [4]) .ret)) (.seq (.reg [⟨[],[(41,(.bin .eql (.sl 27) (.int .i64 2)))],[],none,[2,3,5,6,27],2,[],[],[]⟩]) (.cond (.sl 41) (.seq (.reg [⟨[],[(4,(.and (.and (.bin .geq (.ld 1 false (.fa 1 (.sl 3))) (.int .i64 0)) (.bin .lss (.ld 1 false (.fa 1 (.sl 3))) (.len false (.ld 1 false (.fa 1 (.sl 2)))))) (.bin .eql (.ld 1 false (.fa 2 (.sl 3))) (.int .i64 0))))],[],none,[],17,[],[],[]⟩]) (.seq (.tidy 0 [4]) .ret)) (.seq (.reg [⟨[],[(59,(.bin .eql (.sl 27) (.int .i64 3)))],[],none,[3,5,6,27],2,[],[],[]⟩]) (.cond (.sl 59) (.seq (.reg [⟨[],[(4,(.and (.sl 6) (.bin .eql (.ld 1 false (.fa 2 (.sl 3))) (.int .i64 0))))],[],none,[],7,[],[],[]⟩]) (.seq (.tidy 0 [4]) .ret)) (.seq (.seq (.reg [⟨[],[(67,(.bin .eql (.sl 27) (.int .i64 6)))],[],none,[3,5,6,27],2,[],[],[]⟩]) (.cond (.sl 67) .skip (.seq (.reg [⟨[],[(67,(.bin .eql (.sl 27) (.int .i64 11)))],[],none,[3,5,6,27],2,[],[],[]⟩]) (.cond (.sl 67) .skip (.reg [⟨[],[(67,(.bin .eql (.sl 27) (.int .i64 17)))],[],none,[3,5,6,27],2,[],[],[]⟩]))))) (.cond (.sl 67) (.seq (.reg [⟨[],[(4,(.and (.bin .eql (.ld 1 false (.fa 1 (.sl 3))) (.int .i64 0)) (.bin .eql (.ld 1 false (.fa 2 (.sl 3))) (.int .i64 0))))],[],none,[],9,[],[],[]⟩]) (.seq (.tidy 0 [4]) .ret)) (.seq (.reg [⟨[],[(79,(.bin .eql (.sl 27) (.int .i64 7)))],[],none,[3,5,6,27],2,[],[],[]⟩]) (.cond (.sl 79) (.seq (.reg [⟨[],[(4,(.and (.bin .geq (.ld 1 false (.fa 1 (.sl 3))) (.int .i64 1)) (.bin .eql (.ld 1 false (.fa 2 (.sl 3))) (.int .i64 0))))],[],none,[],9,[],[],[]⟩]) (.seq (.tidy 0 [4]) .ret)) (.seq (.seq (.reg [⟨[],[(89,(.bin .eql (.sl 27) (.int .i64 9)))],[],none,[3,5,6,27],2,[],[],[]⟩]) (.cond (.sl 89) .skip (.reg [⟨[],[(89,(.bin .eql (.sl 27) (.int .i64 10)))],[],none,[3,5,6,27],2,[],[],[]⟩]))) (.cond (.sl 89) (.seq (.reg [⟨[],[(4,(.and (.sl 5) (.bin .eql (.ld 1 false (.fa 2 (.sl 3))) (.int .i64 0))))],[],none,[],7,[],[],[]⟩]) (.seq (.tidy 0 [4]) .ret)) (.seq (.reg [⟨[],[(98,(.bin .eql (.sl 27) (.int .i64 12)))],[],none,[3,5,6,27],2,[],[],[]⟩]) (.cond (.sl 98) (.seq (.reg [⟨[],[(4,(.and (.and (.bin .geq (.ld 1 false (.fa 1 (.sl 3))) (.int .i64 1)) (.bin .leq (.ld 1 false (.fa 1 (.sl 3))) (.int .i64 11))) (.bin .eql (.ld 1 false (.fa 2 (.sl 3))) (.int .i64 0))))],[],none,[],14,[],[],[]⟩]) (.seq (.tidy 0 [4]) .ret)) (.seq (.reg [⟨[],[(113,(.bin .eql (.sl 27) (.int .i64 13)))],[],none,[3,5,6,27],2,[],[],[]⟩]) (.cond (.sl 113) (.seq (.reg [⟨[],[(4,(.bin .eql (.ld 1 false (.fa 2 (.sl 3))) (.int .i64 0)))],[],none,[],4,[],[],[]⟩]) (.seq (.tidy 0 [4]) .ret)) (.seq (.reg [⟨[],[(118,(.bin .eql (.sl 27) (.int .i64 14)))],[],none,[3,5,6,27],2,[],[],[]⟩]) (.cond (.sl 118) (.seq (.reg [⟨[],[(4,(.sl 5))],[],none,[],2,[],[],[]⟩]) (.seq (.tidy 0 [4]) .ret)) (.seq (.reg [⟨[],[(121,(.bin .eql (.sl 27) (.int .i64 15)))],[],none,[3,6,27],2,[],[],[]⟩]) (.cond (.sl 121) (.seq (.reg [⟨[],[(4,(.sl 6))],[],none,[],2,[],[],[]⟩]) (.seq (.tidy 0 [4]) .ret)) (.seq (.reg [⟨[],[(124,(.bin .eql (.sl 27) (.int .i64 16)))],[],none,[3],2,[],[],[]⟩]) (.cond (.sl 124) (.seq (.reg [⟨[],[(4,(.and (.and (.bin .geq (.ld 1 false (.fa 1 (.sl 3))) (.int .i64 1)) (.bin .leq (.ld 1 false (.fa 1 (.sl 3))) (.int .i64 4))) (.bin .eql (.ld 1 false (.fa 2 (.sl 3))) (.int .i64 0))))],[],none,[],14,[],[],[]⟩]) (.seq (.tidy 0 [4]) .ret)) .skip)))))))))))))))))))))))) (.seq (.reg [⟨[],[(4,(.bool false))],[],none,[],1,[],[],[]⟩]) (.seq (.tidy 0 [4]) .ret)))))), [(.sl 4)],false⟩
theorem j1x:q0J Go.Proofs.Tryz.prog 28 0 2 f28=true:=by kernel_rfl
/- 'sloth/slothref17.Needs' -/
def f29:Fun:=⟨ (.seq (.reg [⟨[(3,.box (.sl 0)),(4,.box (.sl 1))],[],[(.bool false)],none,[2,3,4],3,[],[],[]⟩]) (.seq (.seq (.reg [⟨[],[(8,(.ld 1 false (.fa 0 (.sl 4))))],[],none,[2,3,4],2,[],[],[]⟩]) (.block 0 (.seq (.seq (.reg [⟨[],[(9,(.bin .eql (.sl 8) (.int .i64 1)))],[],none,[2,3,4,8],2,[],[],[]⟩]) (.cond (.sl 9) .skip (.seq (.reg [⟨[],[(9,(.bin .eql (.sl 8) (.int .i64 4)))],[],none,[2,3,4,8],2,[],[],[]⟩]) (.cond (.sl 9) .skip (.reg [⟨[],[(9,(.bin .eql (.sl 8) (.int .i64 7)))],[],none,[2,3,4,8],2,[],[],[]⟩]))))) (.cond (.sl 9) (.seq (.reg [⟨[],[(6,(.bin .lss (.ld 1 false (.fa 1 (.sl 4))) (.sl 2)))],[],none,[],5,[],[],[]⟩]) (.seq (.tidy 0 [6]) .ret)) (.seq (.reg [⟨[],[(17,(.bin .eql (.sl 8) (.int .i64 5)))],[],none,[2,3,4,8],2,[],[],[]⟩]) (.cond (.sl 17) (.seq (.reg [⟨[],[(6,(.bin .lss (.ld 1 false (.fa 1 (.sl 4))) (.bin .sub (.sl 2) (.int .i64 1))))],[],none,[],6,[],[],[]⟩]) (.seq (.tidy 0 [6]) .ret)) (.seq (.seq (.reg [⟨[],[(24,(.bin .eql (.sl 8) (.int .i64 6)))],[],none,[2,3,4,8],2,[],[],[]⟩]) (.cond (.sl 24) .skip (.reg [⟨[],[(24,(.bin .eql (.sl 8) (.int .i64 12)))],[],none,[2,3,4,8],2,[],[],[]⟩]))) (.cond (.sl 24) (.seq (.reg [⟨[],[(6,(.bin .gtr (.sl 2) (.int .i64 2)))],[],none,[],3,[],[],[]⟩]) (.seq (.tidy 0 [6]) .ret)) (.seq (.reg [⟨[],[(29,(.bin .eql (.sl 8) (.int .i64 9)))],[],none,[2,3,4,8],2,[],[],[]⟩]) (.cond (.sl 29) (.seq (.reg [⟨[],[(6,(.bin .lss (.ld 1 false (.fa 1 (.ia 2 (.ld 1 false (.fa 0 (.sl 3))) (.ld 1 false (.fa 1 (.sl 4)))))) (.sl 2)))],[],none,[],10,[],[],[]⟩]) (.seq (.tidy 0 [6]) .ret)) (.seq (.seq (.reg [⟨[],[(40,(.bin .eql (.sl 8) (.int .i64 10)))],[],none,[2,8],2,[],[],[]⟩]) (.cond (.sl 40) .skip (.seq (.reg [⟨[],[(40,(.bin .eql (.sl 8) (.int .i64 11)))],[],none,[2,8],2,[],[],[]⟩]) (.cond (.sl 40) .skip (.seq (.reg [⟨[],[(40,(.bin .eql (.sl 8) (.int .i64 14)))],[],none,[2,8],2,[],[],[]⟩]) (.cond (.sl 40) .skip (.reg [⟨[],[(40,(.bin .eql (.sl 8) (.int .i64 15)))],[],none,[2,8],2,[],[],[]⟩]))))))) (.cond (.sl 40) (.seq (.reg [⟨[],[(6,(.bin .gtr (.sl 2) (.int .i64 1)))],[],none,[],3,[],[],[]⟩]) (.seq (.tidy 0 [6]) .ret)) (.seq (.reg [⟨[],[(47,(.bin .eql (.sl 8) (.int .i64 17)))],[],none,[2],2,[],[],[]⟩]) (.cond (.sl 47) (.seq (.reg [⟨[],[(6,(.bin .eql (.sl 2) (.int .i64 1)))],[],none,[],3,[],[],[]⟩]) (.seq (.tidy 0 [6]) .ret)) .skip)))))))))))))) (.seq (.reg [⟨[],[(6,(.bool true))],[],none,[],1,[],[],[]⟩]) (.seq (.tidy 0 [6]) .ret)))), [(.sl 6)],false⟩
theorem j1w:q0J Go.Proofs.Tryz.prog 29 0 3 f29=true:=by kernel_rfl
/- 'sloth/slothref17.Ends' -/
def f30:Fun:=⟨ (.seq (.reg [⟨[(1,.box (.sl 0))],[],[(.bool false)],none,[1],2,[],[],[]⟩]) (.seq (.reg [⟨[],[(2,(.or (.bin .eql (.ld 1 false (.fa 0 (.sl 1))) (.int .i64 16)) (.bin .eql (.ld 1 false (.fa 0 (.sl 1))) (.int .i64 17))))],[],none,[],9,[],[],[]⟩]) (.seq (.tidy 0 [2]) .ret))), [(.sl 2)],false⟩
theorem j1v:q0J Go.Proofs.Tryz.prog 30 0 1 f30=true:=by kernel_rfl
/- 'sloth/slothref17.Behind' -/
def f31:Fun:=⟨ (.seq (.reg [⟨[(3,.box (.sl 0)),(4,.box (.sl 1))],[],[(.int .i64 0)],none,[2,3,4],3,[],[],[]⟩]) (.seq (.seq (.reg [⟨[],[(8,(.ld 1 false (.fa 0 (.sl 4))))],[],none,[2,3,4],2,[],[],[]⟩]) (.block 0 (.seq (.seq (.reg [⟨[],[(9,(.bin .eql (.sl 8) (.int .i64 1)))],[],none,[2,3,4,8],2,[],[],[]⟩]) (.cond (.sl 9) .skip (.seq (.reg [⟨[],[(9,(.bin .eql (.sl 8) (.int .i64 2)))],[],none,[2,3,4,8],2,[],[],[]⟩]) (.cond (.sl 9) .skip (.reg [⟨[],[(9,(.bin .eql (.sl 8) (.int .i64 3)))],[],none,[2,3,4,8],2,[],[],[]⟩]))))) (.cond (.sl 9) (.seq (.reg [⟨[],[(6,(.bin .add (.sl 2) (.int .i64 1)))],[],none,[],3,[],[],[]⟩]) (.seq (.tidy 0 [6]) .ret)) (.seq (.seq (.reg [⟨[],[(15,(.bin .eql (.sl 8) (.int .i64 4)))],[],none,[2,3,4,8],2,[],[],[]⟩]) (.cond (.sl 15) .skip (.reg [⟨[],[(15,(.bin .eql (.sl 8) (.int .i64 5)))],[],none,[2,3,4,8],2,[],[],[]⟩]))) (.cond (.sl 15) (.seq (.reg [⟨[],[(6,(.bin .sub (.sl 2) (.ld 1 false (.fa 1 (.sl 4)))))],[],none,[],5,[],[],[]⟩]) (.seq (.tidy 0 [6]) .ret)) (.seq (.seq (.reg [⟨[],[(22,(.bin .eql (.sl 8) (.int .i64 6)))],[],none,[2,3,4,8],2,[],[],[]⟩]) (.cond (.sl 22) .skip (.seq (.reg [⟨[],[(22,(.bin .eql (.sl 8) (.int .i64 7)))],[],none,[2,3,4,8],2,[],[],[]⟩]) (.cond (.sl 22) .skip (.reg [⟨[],[(22,(.bin .eql (.sl 8) (.int .i64 12)))],[],none,[2,3,4,8],2,[],[],[]⟩]))))) (.cond (.sl 22) (.seq (.reg [⟨[],[(6,(.bin .sub (.sl 2) (.int .i64 1)))],[],none,[],3,[],[],[]⟩]) (.seq (.tidy 0 [6]) .ret)) (.seq (.reg [⟨[],[(28,(.bin .eql (.sl 8) (.int .i64 8)))],[],none,[2,3,4,8],2,[],[],[]⟩]) (.cond (.sl 28) (.seq (.reg [⟨[],[(6,(.bin .add (.sl 2) (.cond (.and (.bin .eql (.bin .and (.int .i64 8000) (.int .i64 0)) (.bin .and (.int .i64 8000) (.int .i64 0))) (.bin .lss (.int .i64 8000) (.ld 1 false (.fa 1 (.sl 4))))) (.int .i64 8000) (.ld 1 false (.fa 1 (.sl 4))))))],[(.ld 1 false (.fa 1 (.sl 4)))],none,[],6,[],[],[]⟩]) (.seq (.tidy 0 [6]) .ret)) (.seq (.reg [⟨[],[(35,(.bin .eql (.sl 8) (.int .i64 9)))],[],none,[2,3,4,8],2,[],[],[]⟩]) (.cond (.sl 35) (.seq (.reg [⟨[],[(6,(.bin .add (.bin .sub (.sl 2) (.ld 1 false (.fa 1 (.ia 2 (.ld 1 false (.fa 0 (.sl 3))) (.ld 1 false (.fa 1 (.sl 4))))))) (.int .i64 1)))],[],none,[],11,[],[],[]⟩]) (.seq (.tidy 0 [6]) .ret)) (.seq (.reg [⟨[],[(47,(.bin .eql (.sl 8) (.int .i64 10)))],[],none,[2,3,4],2,[],[],[]⟩]) (.cond (.sl 47) (.seq (.reg [⟨[],[(6,(.bin .add (.bin .sub (.sl 2) (.int .i64 1)) (.ld 1 false (.fa 1 (.ia 2 (.ld 1 false (.fa 0 (.sl 3))) (.ld 1 false (.fa 1 (.sl 4))))))))],[],none,[],11,[],[],[]⟩]) (.seq (.tidy 0 [6]) .ret)) .skip)))))))))))))) (.seq (.reg [⟨[],[(6,(.sl 2))],[],none,[],2,[],[],[]⟩]) (.seq (.tidy 0 [6]) .ret)))), [(.sl 6)],false⟩
theorem j1u:q0J Go.Proofs.Tryz.prog 31 0 3 f31=true:=by kernel_rfl
/- 'sloth/slothref17.Target' -/
def f32:Fun:=⟨ (.seq (.reg [⟨[(1,.box (.sl 0))],[],[(.int .i64 0)],none,[1],2,[],[],[]⟩]) (.seq (.seq (.reg [⟨[],[(4,(.ld 1 false (.fa 0 (.sl 1))))],[],none,[1],2,[],[],[]⟩]) (.block 0 (.seq (.reg [⟨[],[(5,(.bin .eql (.sl 4) (.int .i64 13)))],[],none,[1,4],2,[],[],[]⟩]) (.cond (.sl 5) (.seq (.reg [⟨[],[(2,(.ld 1 false (.fa 1 (.sl 1))))],[],none,[],3,[],[],[]⟩]) (.seq (.tidy 0 [2]) .ret)) (.seq (.seq (.reg [⟨[],[(9,(.bin .eql (.sl 4) (.int .i64 14)))],[],none,[1,4],2,[],[],[]⟩]) (.cond (.sl 9) .skip (.reg [⟨[],[(9,(.bin .eql (.sl 4) (.int .i64 15)))],[],none,[1],2,[],[],[]⟩]))) (.cond (.sl 9) (.seq (.reg [⟨[],[(2,(.ld 1 false (.fa 2 (.sl 1))))],[],none,[],3,[],[],[]⟩]) (.seq (.tidy 0 [2]) .ret)) .skip)))))) (.seq (.reg [⟨[],[(2,(.int .i64 (-1)))],[],none,[],1,[],[],[]⟩]) (.seq (.tidy 0 [2]) .ret)))), [(.sl 2)],false⟩
theorem j1t:q0J Go.Proofs.Tryz.prog 32 0 1 f32=true:=by kernel_rfl
/- 'sloth/slothref17.jumps' -/
def f84:Fun:=⟨ (.seq (.reg [⟨[(1,.box (.sl 0))],[],[(.bool false)],none,[1],2,[],[],[]⟩]) (.seq (.reg [⟨[],[(2,(.or (.or (.bin .eql (.ld 1 false (.fa 0 (.sl 1))) (.int .i64 13)) (.bin .eql (.ld 1 false (.fa 0 (.sl 1))) (.int .i64 14))) (.bin .eql (.ld 1 false (.fa 0 (.sl 1))) (.int .i64 15))))],[],none,[],14,[],[],[]⟩]) (.seq (.tidy 0 [2]) .ret))), [(.sl 2)],false⟩
theorem j01:q0J Go.Proofs.Tryz.prog 84 0 1 f84=true:=by kernel_rfl
def q1D(ng ns:Int)(x:Instr):Bool:=
  if x.op=1∨x.op=4∨x.op=5∨x.op=8 then decide (0≤x.a)&&x.b==0
  else if x.op=2 then decide (0≤x.a)&&decide (x.a<ng)&&x.b==0
  else if x.op=3 then decide (-4611686018427387904≤x.a)&&decide (x.a≤4611686018427387903)&&x.b==0
  else if x.op=6∨x.op=11∨x.op=17 then x.a==0&&x.b==0
  else if x.op=7 then decide (1≤x.a)&&x.b==0
  else if x.op=9∨x.op=10 then decide (0≤x.a)&&decide (x.a<ns)&&x.b==0
  else if x.op=12 then decide (1≤x.a)&&decide (x.a≤11)&&x.b==0
  else if x.op=13 then x.b==0
  else if x.op=14 then decide (0≤x.a)&&decide (x.a<ns)
  else if x.op=15 then decide (-4611686018427387904≤x.a)&&decide (x.a≤4611686018427387903)
  else if x.op=16 then decide (1≤x.a)&&decide (x.a≤4)&&x.b==0
  else false
def q2m(sh:List Shape)(gl:List Glob):V:=.agg [.d false (.sl 2 (sh.map q0c)),.d false (.sl 3 (gl.map q0l))]
def insA(x:Instr):V:=.agg [.d false (.int .i64 x.op),.d false (.int .i64 x.a),.d false (.int .i64 x.b)]
theorem z4c{op:Int}(g:1≤op∧op<18):op=1∨op=2∨op=3∨op=4∨op=5∨op=6∨op=7∨op=8∨op=9∨op=10∨op=11∨op=12∨op=13∨op=14∨op=15∨op=16∨op=17:=by omega
theorem opx{op:Int}(g:¬(1≤op∧op<18)):(op==1)=false∧(op==2)=false∧(op==3)=false∧(op==4)=false∧(op==5)=false∧(op==6)=false∧(op==7)=false∧(op==8)=false∧(op==9)=false∧(op==10)=false∧(op==11)=false∧(op==12)=false∧(op==13)=false∧(op==14)=false∧(op==15)=false∧(op==16)=false∧(op==17)=false:=by
  simp only[beq_eq_false_iff_ne,ne_eq]
  omega
theorem opn{op:Int}(g:¬(1≤op∧op<18)):op≠1∧op≠2∧op≠3∧op≠4∧op≠5∧op≠6∧op≠7∧op≠8∧op≠9∧op≠10∧op≠11∧op≠12∧op≠13∧op≠14∧op≠15∧op≠16∧op≠17:=by omega
set_option maxHeartbeats 4000000 in
theorem z2y(K:Cx)(sh:List Shape)(gl:List Glob)(x:Instr):q0o K f28 [q2m sh gl,insA x] []=some (.d false (.bool (q1D gl.length sh.length x)),[],[]):=by
  obtain⟨op,a,b⟩:=x
  unfold q2m insA
  by_cases g:1≤op∧op<18
  · have:=z4c g
    clear g
    rcases this with rfl|rfl|rfl|rfl|rfl|rfl|rfl|rfl|rfl|rfl|rfl|rfl|rfl|rfl|rfl|rfl|rfl
    all_goals
      simp(disch:=first|decide|omega|(simp only[LN];first|done|omega)) only[SV,SW,f28,Int.reduceNeg,Nat.reduceAdd,Nat.reduceBEq,q0b]
      simp [q1D]
  · obtain⟨e1,e2,e3,e4,e5,e6,e7,e8,e9,e10,e11,e12,e13,e14,e15,e16,e17⟩:=opx g
    have hn:=opn g
    have hr:q1D gl.length sh.length ⟨op,a,b⟩=false:=by
      simp [q1D,hn]
    rw[hr]
    clear g hn hr
    simp(disch:=first|decide|omega|(simp only[LN];first|done|omega)) only[SV,SW,f28,Int.reduceNeg,Nat.reduceAdd,Nat.reduceBEq,e1,e4,e5,e8,e2,e3,e6,e11,e17,e7,e9,e10,e12,e13,e14,e15,e16,q0b]
def q6D(x:Instr):Bool:=x.op==13||x.op==14||x.op==15
theorem z7j(K:Cx)(x:Instr):q0o K f84 [insA x] []=some (.d false (.bool (q6D x)),[],[]):=by
  unfold insA q6D
  simp(disch:=first|decide|omega|(simp only[LN];first|done|omega)) only[SV,SW,f84,Nat.reduceAdd,Nat.reduceBEq,q0b]
def q04(x:Instr):Int:=if x.op=13 then x.a else if x.op=14∨x.op=15 then x.b else -1
theorem z5h(K:Cx)(x:Instr):q0o K f32 [insA x] []=some (.d false (.int .i64 (q04 x)),[],[]):=by
  obtain⟨op,a,b⟩:=x
  unfold insA q04
  by_cases h1:op=13
  · subst h1;simp(disch:=first|decide|omega|(simp only[LN];first|done|omega)) only[SV,SW,f32,Int.reduceNeg,Nat.reduceAdd,Nat.reduceBEq,q0b,Int.reduceEq]
  · have e1:(op==13)=false:=by simpa using h1
    by_cases h2:op=14
    · subst h2;simp(disch:=first|decide|omega|(simp only[LN];first|done|omega)) only[SV,SW,f32,Int.reduceNeg,Nat.reduceAdd,Nat.reduceBEq,q0b,Int.reduceEq]
    · have e2:(op==14)=false:=by simpa using h2
      by_cases h3:op=15
      · subst h3;simp(disch:=first|decide|omega|(simp only[LN];first|done|omega)) only[SV,SW,f32,Int.reduceNeg,Nat.reduceAdd,Nat.reduceBEq,q0b,Int.reduceEq]
      · have e3:(op==15)=false:=by simpa using h3
        have hr:(if op=13 then a else if op=14∨op=15 then b else -1)=-1:=by simp [h1,h2,h3]
        simp only[hr]
        clear h1 h2 h3 hr
        simp(disch:=first|decide|omega|(simp only[LN];first|done|omega)) only[SV,SW,f32,Int.reduceNeg,Nat.reduceAdd,Nat.reduceBEq,e1,e2,e3,q0b]
def q5D(x:Instr):Bool:=x.op==16||x.op==17
theorem z9J(K:Cx)(x:Instr):q0o K f30 [insA x] []=some (.d false (.bool (q5D x)),[],[]):=by
  unfold insA q5D
  simp(disch:=first|decide|omega|(simp only[LN];first|done|omega)) only[SV,SW,f30,Nat.reduceAdd,Nat.reduceBEq,q0b]
def q3L(sh:List Shape)(x:Instr)(d:Int):Bool:=
  if x.op=1∨x.op=4∨x.op=7 then decide (x.a<d)
  else if x.op=5 then decide (x.a<d - 1)
  else if x.op=6∨x.op=12 then decide (2<d)
  else if x.op=9 then decide (q0R sh x.a<d)
  else if x.op=10∨x.op=11∨x.op=14∨x.op=15 then decide (1<d)
  else if x.op=17 then d==1
  else true
set_option maxHeartbeats 4000000 in
theorem z7o(K:Cx)(sh:List Shape)(gl:List Glob)(x:Instr)(d:Int)(hd:1≤d∧d≤8000)(hx:x.op=9→0≤x.a∧x.a<sh.length):q0o K f29 [q2m sh gl,insA x,.d false (.int .i64 d)] []=some (.d false (.bool (q3L sh x d)),[],[]):=by
  obtain⟨op,a,b⟩:=x
  obtain⟨d1,d2⟩:=hd
  unfold q2m insA
  by_cases g:1≤op∧op<18
  · have:=z4c g
    clear g
    by_cases g9:op=9
    · subst g9
      obtain⟨a1,a2⟩:=hx rfl
      simp only at a1 a2
      clear this hx
      simp(disch:=first|decide|omega|(simp only[LN];first|done|omega)) only[SV,SW,f29,Nat.reduceAdd,Nat.reduceBEq,q0g,q0b]
      simp [q3L,q0R]
      congr
    · clear hx
      rcases this with rfl|rfl|rfl|rfl|rfl|rfl|rfl|rfl|rfl|rfl|rfl|rfl|rfl|rfl|rfl|rfl|rfl
      all_goals first|exact absurd rfl g9|clear g9
      all_goals
        simp(disch:=first|decide|omega|(simp only[LN];first|done|omega)) only[SV,SW,f29,Nat.reduceAdd,Nat.reduceBEq,q0b]
        try simp [q3L]
  · obtain⟨e1,e2,e3,e4,e5,e6,e7,e8,e9,e10,e11,e12,e13,e14,e15,e16,e17⟩:=opx g
    have hn:=opn g
    have hr:q3L sh ⟨op,a,b⟩ d=true:=by
      simp [q3L,hn]
    rw[hr]
    clear g hn hr hx
    simp(disch:=first|decide|omega|(simp only[LN];first|done|omega)) only[SV,SW,f29,Nat.reduceAdd,Nat.reduceBEq,e1,e4,e7,e5,e6,e12,e9,e10,e11,e14,e15,e17,q0b]
def q06(sh:List Shape)(x:Instr)(d:Int):Int:=
  if x.op=1∨x.op=2∨x.op=3 then d+1
  else if x.op=4∨x.op=5 then d - x.a
  else if x.op=6∨x.op=7∨x.op=12 then d - 1
  else if x.op=8 then d+(if 8000<x.a then 8000 else x.a)
  else if x.op=9 then d - q0R sh x.a+1
  else if x.op=10 then d - 1+q0R sh x.a
  else d
set_option maxHeartbeats 4000000 in
theorem z5i(K:Cx)(sh:List Shape)(gl:List Glob)(x:Instr)(d:Int)(hd:1≤d∧d≤8000)(ha:x.op=4∨x.op=5∨x.op=8→0≤x.a∧x.a≤9223372036854775807)(hx:x.op=9∨x.op=10→0≤x.a∧x.a<sh.length∧0≤q0R sh x.a∧q0R sh x.a≤8) :
    q0o K f31 [q2m sh gl,insA x,.d false (.int .i64 d)] []=some (.d false (.int .i64 (q06 sh x d)),[],[]):=by
  obtain⟨op,a,b⟩:=x
  obtain⟨d1,d2⟩:=hd
  unfold q2m insA
  by_cases g:1≤op∧op<18
  · have:=z4c g
    clear g
    simp only at ha hx
    by_cases g9:op=9∨op=10
    · obtain⟨a1,a2,a3,a4⟩:=hx g9
      clear this hx ha
      unfold q0R at a3 a4
      generalize hf:(nth sh a).fields=fl at a3 a4
      rcases g9 with rfl|rfl
      · simp(disch:=first|decide|omega|(simp only[LN];first|done|omega)) only[SV,SW,f31,Nat.reduceAdd,Nat.reduceBEq,q0g,hf,q0b]
        simp [q06,q0R,hf]
      · simp(disch:=first|decide|omega|(simp only[LN];first|done|omega)) only[SV,SW,f31,Nat.reduceAdd,Nat.reduceBEq,q0g,hf,q0b]
        simp [q06,q0R,hf]
    · clear hx
      by_cases g4:op=4∨op=5∨op=8
      · obtain⟨a1,a2⟩:=ha g4
        clear this ha g9
        rcases g4 with rfl|rfl|rfl
        · simp(disch:=first|decide|omega|(simp only[LN];first|done|omega)) only[SV,SW,f31,Nat.reduceAdd,Nat.reduceBEq,q0b]
          simp [q06]
        · simp(disch:=first|decide|omega|(simp only[LN];first|done|omega)) only[SV,SW,f31,Nat.reduceAdd,Nat.reduceBEq,q0b]
          simp [q06]
        · by_cases k:8000<a
          · simp(disch:=first|decide|omega|(simp only[LN];first|done|omega)) only[SV,SW,f31,Nat.reduceAdd,Nat.reduceBEq,q0b]
            simp [q06,k]
          · simp(disch:=first|decide|omega|(simp only[LN];first|done|omega)) only[SV,SW,f31,Nat.reduceAdd,Nat.reduceBEq,q0b]
            simp [q06,k]
      · clear ha
        rcases this with rfl|rfl|rfl|rfl|rfl|rfl|rfl|rfl|rfl|rfl|rfl|rfl|rfl|rfl|rfl|rfl|rfl
        all_goals first|(exact absurd (by decide) g9)|(exact absurd (by decide) g4)|clear g9 g4
        all_goals
          simp(disch:=first|decide|omega|(simp only[LN];first|done|omega)) only[SV,SW,f31,Nat.reduceAdd,Nat.reduceBEq,q0b]
          try simp [q06]
  · obtain⟨e1,e2,e3,e4,e5,e6,e7,e8,e9,e10,e11,e12,e13,e14,e15,e16,e17⟩:=opx g
    have hn:=opn g
    have hr:q06 sh ⟨op,a,b⟩ d=d:=by
      simp [q06,hn]
    rw[hr]
    clear g hn hr hx ha
    simp(disch:=first|decide|omega|(simp only[LN];first|done|omega)) only[SV,SW,f31,Nat.reduceAdd,Nat.reduceBEq,e1,e2,e3,e4,e5,e6,e7,e12,e8,e9,e10,q0b]
end Go.Vm
end

section
namespace Go.Vm
theorem q4c{sh:List Shape}{x:Instr}{d:Int}(g:1≤x.op∧x.op<18)(hd:1≤d):q0t sh x d=(q06 sh x d,q3L sh x d&&decide (q06 sh x d≤8000)):=by
 obtain⟨op,a,b⟩:=x
 rcases z4c g with h|h|h|h|h|h|h|h|h|h|h|h|h|h|h|h|h
 all_goals
  simp only at h
  subst h
  simp [q0t,q06,q3L]
 rotate_right
 ·by_cases h:d=1 <;> simp [h]
 ·by_cases k:8000<a
  ·simp [k];omega
  ·simp [k];omega
end Go.Vm
end

section
namespace Go.Vm
def q1l(ng:Nat)(sh:List Shape)(g:Glob):Int:=
 if q1S ng sh.length g.code.length g.code g.code.length 0=0 then
  if g.code.length=0 then 174 else depL sh g.code g.code.length 0 ((List.replicate g.code.length 0).set 0 (g.arity+1))
 else q1S ng sh.length g.code.length g.code g.code.length 0
def q0B(most:Int):List (List UInt8×Int)→List (List UInt8)→Bool
 |[],_=>true
 |(n,k) :: r,seen=>if q1p n&&!seen.contains n&&decide (0≤k)&&decide (k≤most) then q0B most r (seen++[n]) else false
def q47(sh:List Shape):Nat→Nat→Bool
 |0,_=>true
 |k+1,i=>if i<sh.length∧nth sh i=nth givenS i then q47 sh k (i+1) else false
def q6K(sh:List Shape):Bool:=q47 sh 7 0
def q3P(ng:Nat)(sh:List Shape):List Glob→Int
 |[]=>0
 |g :: r=>if q1l ng sh g=0 then q3P ng sh r else q1l ng sh g
def q5v(t:Table):Int:=
 if q2M t then 4 else
 if q0B 8 (t.shapes.map fun s=>(s.name,s.fields)) []=false then 172 else
 if q6K t.shapes=false then 172 else
 if q0B 24 (t.globals.map fun g=>(g.name,g.arity)) []=false then 172 else
 q3P t.globals.length t.shapes t.globals
theorem q2Z(most:Int):∀(l:List (List UInt8×Int))(seen:List (List UInt8)),q0B most l seen=true→∀ p∈l,q1p p.1=true∧0≤p.2∧p.2≤most:=by
 intro l
 induction l with
 |nil=>intro seen _ p hp;simp at hp
 |cons q l ih=>
  obtain⟨n,k⟩:=q
  intro seen h p hp
  simp only[q0B] at h
  split at h
  ·rename_i hc
   simp only[Bool.and_eq_true,decide_eq_true_eq] at hc
   rcases List.mem_cons.1 hp with rfl|hp
   ·exact⟨hc.1.1.1,hc.1.2,hc.2⟩
   ·exact ih _ h p hp
  ·cases h
theorem z2q:∀(l:List Glob)(n m:Int),q1M l n=some m→∀ g∈l,(g.code.length:Int)≤8000:=by
 intro l
 induction l with
 |nil=>intro n m _ g hg;simp at hg
 |cons q l ih=>
  intro n m h g hg
  simp only[q1M] at h
  split at h
  ·cases h
  ·rcases List.mem_cons.1 hg with rfl|hg
   ·omega
   ·exact ih _ _ h g hg
theorem z1a{t:Table}(h:q2M t=false):t.shapes.length≤2000∧t.globals.length≤2000∧∀ g∈t.globals,g.code.length≤8000:=by
 unfold q2M at h
 cases hg:q1M t.globals 0 with
 |none=>rw[hg] at h;cases h
 |some n=>
  rw[hg] at h
  simp only[Bool.or_eq_false_iff,decide_eq_false_iff_not] at h
  exact⟨by omega,by omega,fun g hm=>by have:=z2q _ _ _ hg g hm;omega⟩
end Go.Vm
end

section
namespace Go.Vm
def K21(K:Cx):Prop:=∀ s:List UInt8,(s.length:Int)≤9223372036854775807→K.call 35 [.d false (.str s)]=some (.d false (.bool (q1p s)),[])
def q58(t:Table)(r:Bool×List (List UInt8)):Ex×S:=if r.1 then(.exit 0,⟨[(1,.ptr 0 0 0),(3,.map 1)],[(0,.mix 2 [[.d false (.sl 2 (t.shapes.map q0c)),.d false (.sl 3 (t.globals.map q0l))]]),(1,.map (q17 r.2))],2,[]⟩) else(.ret,⟨[(2,.d false (.int .i64 172))],[],0,[]⟩)
theorem q1v(t m):q58 t (false,m)=(.ret,⟨[(2,.d false (.int .i64 172))],[],0,[]⟩):=rfl
theorem q57(t m):q58 t (true,m)=(.exit 0,⟨[(1,.ptr 0 0 0),(3,.map 1)],[(0,.mix 2 [[.d false (.sl 2 (t.shapes.map q0c)),.d false (.sl 3 (t.globals.map q0l))]]),(1,.map (q17 m))],2,[]⟩):=rfl
theorem q92(K:Cx)(h21:K21 K)(t:Table)(hl:t.shapes.length≤2000)(hn:∀ s∈t.shapes,(s.name.length:Int)≤9223372036854775807):∀(k i:Nat)(seen:List (List UInt8)),i+k=t.shapes.length→
  lp K 0 [1,3,17,18,19] f13_L0 ⟨[(1,.ptr 0 0 0),(3,.map 1),(17,.d false (.sl 2 (t.shapes.map q0c))),(18,.d false (.int .i64 t.shapes.length)),(19,.d false (.int .i64 i))],[(0,.mix 2 [[.d false (.sl 2 (t.shapes.map q0c)),.d false (.sl 3 (t.globals.map q0l))]]),(1,.map (q17 seen))],2,[]⟩ =
  some (q58 t (q0B 8 ((t.shapes.drop i).map fun s=>(s.name,s.fields)) seen,seen++(t.shapes.drop i).map (·.name))):=by
 intro k
 induction k with
 |zero=>
  intro i seen hi
  rw[q0I f13_L0.eq_1,List.drop_of_length_le (by omega)]
  simp only[List.map_nil,q0B,List.append_nil]
  simp(disch:=first|decide|omega|(simp only[LN];first|done|omega)) only[SV,SW,Nat.reduceBEq,reduceCtorEq,Nat.reduceAdd,q57]
 |succ k ih=>
  intro i seen hi
  have hcast:((i+1:Nat):Int)=(i:Int)+1:=by omega
  have hlt:i<t.shapes.length:=by omega
  rw[q0I f13_L0.eq_1,q0F hlt]
  have hnm:=hn _ (q1h (l:=t.shapes) (i:=(i:Int)) (by omega) (by omega))
  have hc:=h21 _ hnm
  have ih:=fun seen=>ih (i+1) seen (by omega)
  rw[hcast] at ih
  simp only[List.map_cons,q0B]
  generalize hs:nth t.shapes (i:Int)=s at hc hnm
  generalize q1p s.name=b1 at hc
  clear hnm hn
  cases hse:seen.contains s.name with
  |true=>
   cases b1 with
   |false=>
    simp only[Bool.false_and]
    simp(disch:=first|decide|omega|(simp only[LN];first|done|omega)) only[SV,SW,Nat.reduceBEq,Nat.reduceAdd,hs,q0g,lose,q0d,hc,hse,q1v]
   |true=>
    simp only[Bool.not_true,Bool.and_false,Bool.false_and]
    simp(disch:=first|decide|omega|(simp only[LN];first|done|omega)) only[SV,SW,Nat.reduceBEq,Nat.reduceAdd,hs,q0g,lose,q0d,hc,hse,q1v]
  |false=>
   cases b1 with
   |false=>
    simp only[Bool.false_and]
    simp(disch:=first|decide|omega|(simp only[LN];first|done|omega)) only[SV,SW,Nat.reduceBEq,Nat.reduceAdd,hs,q0g,lose,q0d,hc,hse,q1v]
   |true=>
    by_cases g1:0≤s.fields
    ·by_cases g2:s.fields≤8
     ·have ih:=ih (seen++[s.name])
      have e1:decide (0≤s.fields)=true:=by simpa using g1
      have e2:decide (s.fields≤8)=true:=by simpa using g2
      have hset:=q8T s.name seen hse
      simp only[e1,e2,Bool.not_false,Bool.and_self,if_true]
      rw[List.append_assoc] at ih
      simp(disch:=first|decide|omega|(simp only[LN];first|done|omega)) only[SV,SW,Nat.reduceBEq,Nat.reduceAdd,hs,q0g,lose,q0d,hc,hse,q9u,q7k,z4n,hset,z0N,reduceCtorEq]
      exact ih
     ·have e2:decide (s.fields≤8)=false:=by simpa using g2
      simp only[e2,Bool.and_false]
      simp(disch:=first|decide|omega|(simp only[LN];first|done|omega)) only[SV,SW,Nat.reduceBEq,Nat.reduceAdd,hs,q0g,lose,q0d,hc,hse,q1v]
    ·have e2:decide (0≤s.fields)=false:=by simpa using g1
     simp only[e2,Bool.and_false,Bool.false_and]
     simp(disch:=first|decide|omega|(simp only[LN];first|done|omega)) only[SV,SW,Nat.reduceBEq,Nat.reduceAdd,hs,q0g,lose,q0d,hc,hse,q1v]
def q8c(t:Table)(r:Bool):Ex×S:=if r then(.exit 4,⟨[(1,.ptr 0 0 0)],[(0,.mix 2 [[.d false (.sl 2 (t.shapes.map q0c)),.d false (.sl 3 (t.globals.map q0l))]])],1,[]⟩) else(.ret,⟨[(2,.d false (.int .i64 172))],[],0,[]⟩)
theorem q1Z(t):q8c t false=(.ret,⟨[(2,.d false (.int .i64 172))],[],0,[]⟩):=rfl
theorem q7E(t):q8c t true=(.exit 4,⟨[(1,.ptr 0 0 0)],[(0,.mix 2 [[.d false (.sl 2 (t.shapes.map q0c)),.d false (.sl 3 (t.globals.map q0l))]])],1,[]⟩):=rfl
theorem z2r(K:Cx)(h21:K21 K)(t:Table)(hl:t.globals.length≤2000)(hn:∀ s∈t.globals,(s.name.length:Int)≤9223372036854775807):∀(k i:Nat)(seen:List (List UInt8)),i+k=t.globals.length→
  lp K 0 [1,3,72,73,74] f13_L2 ⟨[(1,.ptr 0 0 0),(3,.map 1),(72,.d false (.sl 3 (t.globals.map q0l))),(73,.d false (.int .i64 t.globals.length)),(74,.d false (.int .i64 i))],[(0,.mix 2 [[.d false (.sl 2 (t.shapes.map q0c)),.d false (.sl 3 (t.globals.map q0l))]]),(1,.map (q17 seen))],2,[]⟩ =
  some (q8c t (q0B 24 ((t.globals.drop i).map fun s=>(s.name,s.arity)) seen)):=by
 intro k
 induction k with
 |zero=>
  intro i seen hi
  rw[q0I f13_L2.eq_1,List.drop_of_length_le (by omega)]
  simp only[List.map_nil,q0B]
  simp(disch:=first|decide|omega|(simp only[LN];first|done|omega)) only[SV,SW,Nat.reduceBEq,q7E]
 |succ k ih=>
  intro i seen hi
  have hcast:((i+1:Nat):Int)=(i:Int)+1:=by omega
  have hlt:i<t.globals.length:=by omega
  rw[q0I f13_L2.eq_1,q0F hlt]
  have hnm:=hn _ (q1h (l:=t.globals) (i:=(i:Int)) (by omega) (by omega))
  have hc:=h21 _ hnm
  have ih:=fun seen=>ih (i+1) seen (by omega)
  rw[hcast] at ih
  simp only[List.map_cons,q0B]
  generalize hs:nth t.globals (i:Int)=s at hc hnm
  generalize q1p s.name=b1 at hc
  clear hnm hn
  cases hse:seen.contains s.name with
  |true=>
   cases b1 with
   |false=>
    simp only[Bool.false_and]
    simp(disch:=first|decide|omega|(simp only[LN];first|done|omega)) only[SV,SW,Nat.reduceBEq,Nat.reduceAdd,hs,q0k,lose,q0d,hc,hse,q1Z]
   |true=>
    simp only[Bool.not_true,Bool.and_false,Bool.false_and]
    simp(disch:=first|decide|omega|(simp only[LN];first|done|omega)) only[SV,SW,Nat.reduceBEq,Nat.reduceAdd,hs,q0k,lose,q0d,hc,hse,q1Z]
  |false=>
   cases b1 with
   |false=>
    simp only[Bool.false_and]
    simp(disch:=first|decide|omega|(simp only[LN];first|done|omega)) only[SV,SW,Nat.reduceBEq,Nat.reduceAdd,hs,q0k,lose,q0d,hc,hse,q1Z]
   |true=>
    by_cases g1:0≤s.arity
    ·by_cases g2:s.arity≤24
     ·have ih:=ih (seen++[s.name])
      have e1:decide (0≤s.arity)=true:=by simpa using g1
      have e2:decide (s.arity≤24)=true:=by simpa using g2
      have hset:=q8T s.name seen hse
      simp only[e1,e2,Bool.not_false,Bool.and_self,if_true]
      simp(disch:=first|decide|omega|(simp only[LN];first|done|omega)) only[SV,SW,Nat.reduceBEq,Nat.reduceAdd,hs,q0k,lose,q0d,hc,hse,q9u,q7k,z4n,hset,z0N,reduceCtorEq]
      exact ih
     ·have e2:decide (s.arity≤24)=false:=by simpa using g2
      simp only[e2,Bool.and_false]
      simp(disch:=first|decide|omega|(simp only[LN];first|done|omega)) only[SV,SW,Nat.reduceBEq,Nat.reduceAdd,hs,q0k,lose,q0d,hc,hse,q1Z]
    ·have e2:decide (0≤s.arity)=false:=by simpa using g1
     simp only[e2,Bool.and_false,Bool.false_and]
     simp(disch:=first|decide|omega|(simp only[LN];first|done|omega)) only[SV,SW,Nat.reduceBEq,Nat.reduceAdd,hs,q0k,lose,q0d,hc,hse,q1Z]
def z0o(t:Table)(seen:List (List UInt8))(r:Bool):Ex×S:=if r then(.exit 2,⟨[(1,.ptr 0 0 0),(3,.map 1)],[(0,.mix 2 [[.d false (.sl 2 (t.shapes.map q0c)),.d false (.sl 3 (t.globals.map q0l))]]),(1,.map (q17 seen))],2,[]⟩) else(.ret,⟨[(2,.d false (.int .i64 172))],[],0,[]⟩)
theorem q4v(t m):z0o t m false=(.ret,⟨[(2,.d false (.int .i64 172))],[],0,[]⟩):=rfl
theorem q9l(t m):z0o t m true=(.exit 2,⟨[(1,.ptr 0 0 0),(3,.map 1)],[(0,.mix 2 [[.d false (.sl 2 (t.shapes.map q0c)),.d false (.sl 3 (t.globals.map q0l))]]),(1,.map (q17 m))],2,[]⟩):=rfl
theorem z4O(K:Cx)(t:Table)(hl:t.shapes.length≤2000)(seen:List (List UInt8)):∀(k i:Nat),i+k=7→
  lp K 0 [1,3,48,49,50] f13_L1 ⟨[(1,.ptr 0 0 0),(3,.map 1),(48,.bsl 2 0 7),(49,.d false (.int .i64 7)),(50,.d false (.int .i64 i))],[(0,.mix 2 [[.d false (.sl 2 (t.shapes.map q0c)),.d false (.sl 3 (t.globals.map q0l))]]),(1,.map (q17 seen)),(2,.dat true 2 (givenS.map q0c))],3,[]⟩ =
  some (z0o t seen (q47 t.shapes k i)):=by
 have h7:givenS.length=7:=rfl
 intro k
 induction k with
 |zero=>
  intro i hi
  rw[q0I f13_L1.eq_1]
  simp only[q47]
  simp(disch:=first|decide|omega|(simp only[LN];first|done|omega)) only[SV,SW,Nat.reduceBEq,reduceCtorEq,Nat.reduceAdd,q9l]
 |succ k ih=>
  intro i hi
  have hcast:((i+1:Nat):Int)=(i:Int)+1:=by omega
  have ih:=ih (i+1) (by omega)
  rw[hcast] at ih
  rw[q0I f13_L1.eq_1]
  simp only[q47]
  by_cases g:i<t.shapes.length
  ·generalize hs:nth t.shapes (i:Int)=s
   generalize hg:nth givenS (i:Int)=s'
   by_cases e1:s.name=s'.name
   ·by_cases e2:s.fields=s'.fields
    ·have e:s=s':=by cases s;cases s';simp at e1 e2;subst e1;subst e2;rfl
     rw[if_pos ⟨g,e⟩]
     subst e
     simp(disch:=first|decide|omega|(simp only[LN];first|done|omega)) only[SV,SW,Nat.reduceBEq,Nat.reduceAdd,hg,q0g,lose,hs,q1r,q0s,q0D,reduceCtorEq,Nat.reduceEqDiff]
     exact ih
    ·rw[if_neg (fun h=>e2 (by rw[h.2]))]
     have d2:(s.fields==s'.fields)=false:=by simpa using e2
     clear e2
     simp(disch:=first|decide|omega|(simp only[LN];first|done|omega)) only[SV,SW,Nat.reduceBEq,Nat.reduceAdd,hg,q0g,lose,hs,e1,q1r,q0s,q0D,d2,q4v]
   ·rw[if_neg (fun h=>e1 (by rw[h.2]))]
    have d1:decide (s.name=s'.name)=false:=by simpa using e1
    simp(disch:=first|decide|omega|(simp only[LN];first|done|omega)) only[SV,SW,Nat.reduceBEq,Nat.reduceAdd,hg,q0g,lose,hs,q1r,q0s,q0D,d1,q4v]
  ·rw[if_neg (fun h=>g h.1)]
   simp(disch:=first|decide|omega|(simp only[LN];first|done|omega)) only[SV,SW,Nat.reduceBEq,Nat.reduceAdd,q0g,lose,q4v]
end Go.Vm
end

section
namespace Go.Vm
theorem z0k(K:Cx)(s:List UInt8)(hs:(s.length:Int)≤9223372036854775807):∀(k i:Nat),i+k=s.length→
    lp K 0 [0,5,6] f35_L0 ⟨[(0,.d false (.str s)),(5,.d false (.int .i64 s.length)),(6,.d false (.int .i64 i))],[],0,[]⟩ =
    some (if(s.drop i).all q3q then(.exit 0,⟨[(0,.d false (.str s))],[],0,[]⟩) else(.ret,⟨[(2,.d false (.bool false))],[],0,[]⟩)):=by
  intro k
  induction k with
  |zero=>
    intro i hi
    rw[q0I f35_L0.eq_1,List.drop_of_length_le (by omega)]
    simp(disch:=first|decide|omega|(simp only[LN];first|done|omega)) only[SV,SW,Nat.reduceBEq]
  |succ k ih=>
    intro i hi
    have ih:=ih (i+1) (by omega)
    have hcast:((i+1:Nat):Int)=(i:Int)+1:=by omega
    rw[hcast] at ih
    rw[q0I f35_L0.eq_1,q0F (by omega:i<s.length),List.all_cons]
    generalize hb:nth s (i:Int)=b
    have h0:0≤(b.toNat:Int):=by omega
    by_cases g1:(b.toNat:Int)<32
    · have:q3q b=false:=by simp [q3q];omega
      rw[this]
      simp(disch:=first|decide|omega|(simp only[LN];first|done|omega)) only[SV,SW,Nat.reduceBEq,hb]
    · by_cases g2:126<(b.toNat:Int)
      · have:q3q b=false:=by simp [q3q];omega
        rw[this]
        simp(disch:=first|decide|omega|(simp only[LN];first|done|omega)) only[SV,SW,Nat.reduceBEq,hb]
      · have:q3q b=true:=by simp [q3q];omega
        rw[this]
        simp(disch:=first|decide|omega|(simp only[LN];first|done|omega)) only[SV,SW,Nat.reduceBEq,hb]
        exact ih
theorem z49(K:Cx)(s:List UInt8)(hs:(s.length:Int)≤9223372036854775807):q0o K f35 [.d false (.str s)] []=some (.d false (.bool (q1p s)),[],[]):=by
  have hlp:=z0k K s hs s.length 0 (by omega)
  simp only[Int.natCast_zero,List.drop_zero] at hlp
  unfold q1p
  by_cases h:s.all q3q=true
  · rw[if_pos h] at hlp
    rw[h]
    simp(disch:=first|decide|omega|(simp only[LN];first|done|omega)) only[SV,SW,f35,Nat.reduceBEq,hlp,q0b]
  · rw[if_neg h] at hlp
    rw[Bool.not_eq_true] at h
    rw[h]
    simp(disch:=first|decide|omega|(simp only[LN];first|done|omega)) only[SV,SW,f35,Nat.reduceBEq,hlp,q0b]
theorem z7l(K:Cx):q0o K f36 [] []=some (.bsl 0 0 7,[.dat true 2 (givenS.map q0c)],[]):=by
  simp(disch:=first|decide|omega|(simp only[LN];first|done|omega)) only[SV,SW,f36,Nat.reduceAdd,q0b,hNew,V.forget,V.drop1,V.ref0,V.newR,q0d,givenS,q0g]
theorem z8x{x y:Int}(h:x % 18446744073709551616=y % 18446744073709551616):IntKind.i64.wrap x=IntKind.i64.wrap y:=by
  unfold IntKind.wrap
  have e1:(2:Int) ^ IntKind.i64.bits=18446744073709551616:=by decide
  simp only[e1,h]
theorem z6h(x:Int):IntKind.i64.wrap x % 18446744073709551616=x % 18446744073709551616:=by
  unfold IntKind.wrap
  have e1:(2:Int) ^ IntKind.i64.bits=18446744073709551616:=by decide
  simp only[e1]
  split <;> omega
theorem z0G(n c:Int):IntKind.i64.wrap (IntKind.i64.wrap n+c)=IntKind.i64.wrap (n+c):=by
  refine z8x ?_
  rw[Int.add_emod,z6h,←Int.add_emod]
theorem z2p(K:Cx)(t:Table)(hl:(t.globals.length:Int)≤9223372036854775807)(hb:∀ g∈t.globals,(g.code.length:Int)≤9223372036854775807):∀(k i:Nat)(n v:Int),i+k=t.globals.length→v=IntKind.i64.wrap n→
    lp K 0 [1,3,7,8,9] f34_L0 ⟨[(1,.ptr 0 0 0),(3,.d false (.int .i64 v)),(7,.d false (.sl 3 (t.globals.map q0l))),(8,.d false (.int .i64 t.globals.length)),(9,.d false (.int .i64 i))],[(0,.mix 2 [[.d false (.sl 2 (t.shapes.map q0c)),.d false (.sl 3 (t.globals.map q0l))]])],1,[]⟩ =
    some (match q1M (t.globals.drop i) n with
     |none=>(.ret,⟨[(2,.d false (.bool true))],[],0,[]⟩)
     |some m=>(.exit 0,⟨[(1,.ptr 0 0 0),(3,.d false (.int .i64 (IntKind.i64.wrap m)))],[(0,.mix 2 [[.d false (.sl 2 (t.shapes.map q0c)),.d false (.sl 3 (t.globals.map q0l))]])],1,[]⟩)):=by
  intro k
  induction k with
  |zero=>
    intro i n v hi hv
    rw[q0I f34_L0.eq_1,List.drop_of_length_le (by omega)]
    simp(disch:=first|decide|omega|(simp only[LN];first|done|omega)) only[SV,SW,hv,Nat.reduceBEq,q1M]
  |succ k ih=>
    intro i n v hi hv
    have hlt:i<t.globals.length:=by omega
    have hcast:((i+1:Nat):Int)=(i:Int)+1:=by omega
    rw[q0I f34_L0.eq_1,q0F hlt,q1M]
    have hbg:=hb _ (q1h (l:=t.globals) (i:=(i:Int)) (by omega) (by omega))
    by_cases g1:8000<((nth t.globals i).code.length:Int)
    · rw[if_pos g1]
      clear hv
      simp(disch:=first|decide|omega|(simp only[LN];first|done|omega)) only[SV,SW,Nat.reduceBEq,Nat.reduceAdd,q0k,lose]
    · rw[if_neg g1]
      have ih:=ih (i+1) (n+(nth t.globals i).code.length) (IntKind.i64.wrap (v+(nth t.globals i).code.length)) (by omega) (by rw[hv,z0G])
      rw[hcast] at ih
      clear hv
      simp(disch:=first|decide|omega|(simp only[LN];first|done|omega)) only[SV,SW,Nat.reduceBEq,Nat.reduceAdd,q0k,lose]
      exact ih
theorem z7k(K:Cx)(t:Table)(hl:(t.globals.length:Int)≤9223372036854775807)(hs:(t.shapes.length:Int)≤9223372036854775807)(hb:∀ g∈t.globals,(g.code.length:Int)≤9223372036854775807) :
    q0o K f34 [.agg [.d false (.sl 2 (t.shapes.map q0c)),.d false (.sl 3 (t.globals.map q0l))]] []=some (.d false (.bool (q2M t)),[],[]):=by
  have hlp:=z2p K t hl hb t.globals.length 0 0 0 (by omega) (by decide)
  simp only[Int.natCast_zero,List.drop_zero] at hlp
  unfold q2M
  cases h:q1M t.globals 0 with
  |none=>
    rw[h] at hlp
    simp only at hlp
    simp(disch:=first|decide|omega|(simp only[LN];first|done|omega)) only[SV,SW,f34,Nat.reduceAdd,Nat.reduceBEq,hlp,q0b]
  |some n=>
    have hle:=q9m _ _ _ h
    rw[h] at hlp
    simp only at hlp
    simp only
    by_cases hg:2000<(t.globals.length:Int)
    · clear hle
      simp(disch:=first|decide|omega|(simp only[LN];first|done|omega)) only[SV,SW,f34,Nat.reduceAdd,Nat.reduceBEq,hlp,q0b]
    · rw[z0H (by omega) (by omega)] at hlp
      clear hg
      simp(disch:=first|decide|omega|(simp only[LN];first|done|omega)) only[SV,SW,f34,Nat.reduceAdd,Nat.reduceBEq,hlp,q0b]
end Go.Vm
end

section
namespace Go.Vm
/- 'sloth/slothref17.big' -/
def f38_L0:C:= (.seq (.seq (.reg [⟨[],[(10,(.bin .lss (.sl 4) (.len false (.ld 1 false (.fa 1 (.sl 1))))))],[],none,[1,3,4],5,[],[],[]⟩]) (.cond (.sl 10) .skip (.seq (.tidy 0 [1,3]) (.exit 0)))) (.seq (.block 1 (.seq (.reg [⟨[],[(5,(.len false (.ld 1 false (.fa 2 (.ia 3 (.ld 1 false (.fa 1 (.sl 1))) (.sl 4))))))],[],none,[1,3,4],8,[],[],[]⟩]) (.seq (.seq (.reg [⟨[],[(21,(.bin .gtr (.sl 5) (.int .i64 8000)))],[],none,[1,3,4,5],2,[],[],[]⟩]) (.cond (.sl 21) (.seq (.reg [⟨[],[(2,(.bool true))],[],none,[],1,[],[],[]⟩]) (.seq (.tidy 0 [2]) .ret)) .skip)) (.reg [⟨[],[(3,(.bin .add (.sl 3) (.sl 5)))],[],none,[1,4],4,[],[],[]⟩])))) (.reg [⟨[],[(4,(.bin .add (.sl 4) (.int .i64 1)))],[],none,[1,3],3,[],[],[]⟩])))
def f38:Fun:=⟨ (.seq (.reg [⟨[(1,.box (.sl 0))],[],[(.bool false)],none,[1],2,[],[],[]⟩]) (.seq (.reg [⟨[],[(3,(.int .i64 0))],[],none,[1],1,[],[],[]⟩]) (.seq (.seq (.reg [⟨[],[(4,(.int .i64 0))],[],none,[1,3],1,[],[],[]⟩]) (.block 0 (.seq (.tidy 0 [1,3,4]) (.loop (.seq (.tidy 0 [1,3,4]) f38_L0))))) (.seq (.reg [⟨[],[(2,(.or (.or (.bin .gtr (.len false (.ld 1 false (.fa 0 (.sl 1)))) (.int .i64 2000)) (.bin .gtr (.len false (.ld 1 false (.fa 1 (.sl 1)))) (.int .i64 2000))) (.bin .gtr (.sl 3) (.int .i64 200000))))],[],none,[],15,[],[],[]⟩]) (.seq (.tidy 0 [2]) .ret))))), [(.sl 2)],false⟩
theorem j1o:q0J Go.Proofs.Tryz.prog 38 0 1 f38=true:=by kernel_rfl
/- 'sloth/slothref17.shapes' -/
def f39_L0:C:= (.seq (.seq (.reg [⟨[],[(40,(.bin .lss (.sl 5) (.sl 3)))],[],none,[0,3,5],3,[],[],[]⟩]) (.cond (.sl 40) .skip (.seq (.tidy 0 [0,3]) (.exit 2)))) (.seq (.block 3 (.seq (.reg [⟨[],[(53,(.bin .eql (.ld 1 false (.fa 0 (.ia 2 (.sl 0) (.sl 5)))) (.ld 1 false (.fa 0 (.ia 2 (.sl 0) (.sl 3))))))],[],none,[0,3,5],11,[[],[],[1,0],[0,1,2],[2,1,0,3],[],[],[6,5],[5,6,7],[7,6,5,8],[8,5,6,7,9,3,0,1,2,4]],[],[]⟩]) (.cond (.sl 53) (.seq (.reg [⟨[],[(2,(.int .i64 172))],[],none,[],1,[],[],[]⟩]) (.seq (.tidy 0 [2]) .ret)) .skip))) (.reg [⟨[],[(5,(.bin .add (.sl 5) (.int .i64 1)))],[],none,[0,3],3,[],[],[]⟩])))
def f39_L1:C:= (.seq (.seq (.reg [⟨[],[(11,(.bin .lss (.sl 3) (.len false (.sl 0))))],[],none,[0,3],4,[],[],[]⟩]) (.cond (.sl 11) .skip (.seq (.tidy 0 [0]) (.exit 0)))) (.seq (.block 1 (.seq (.reg [⟨[],[(4,(.call 83 (.cons (.ld 1 false (.fa 0 (.ia 2 (.sl 0) (.sl 3)))) .nil)))],[],none,[0,3],7,[],[],[]⟩]) (.seq (.seq (.reg [⟨[],[(37,(.or (.or (.un .not (.sl 4)) (.bin .lss (.ld 1 false (.fa 1 (.ia 2 (.sl 0) (.sl 3)))) (.int .i64 0))) (.bin .gtr (.ld 1 false (.fa 1 (.ia 2 (.sl 0) (.sl 3)))) (.int .i64 8))))],[],none,[0,3],18,[],[],[]⟩]) (.cond (.sl 37) (.seq (.reg [⟨[],[(2,(.int .i64 172))],[],none,[],1,[],[],[]⟩]) (.seq (.tidy 0 [2]) .ret)) .skip)) (.seq (.reg [⟨[],[(5,(.int .i64 0))],[],none,[0,3],1,[],[],[]⟩]) (.block 2 (.seq (.tidy 0 [0,3,5]) (.loop (.seq (.tidy 0 [0,3,5]) f39_L0)))))))) (.reg [⟨[],[(3,(.bin .add (.sl 3) (.int .i64 1)))],[],none,[0],3,[],[],[]⟩])))
def f39_L2:C:= (.seq (.seq (.reg [⟨[],[(63,(.bin .lss (.sl 7) (.len false (.sl 6))))],[],none,[0,6,7],4,[],[],[]⟩]) (.cond (.sl 63) .skip (.seq (.tidy 0 []) (.exit 4)))) (.seq (.block 5 (.seq (.reg [⟨[],[(74,(.eqs true true [2,0] (.ld 2 true (.ia 2 (.sl 0) (.sl 7))) (.ld 2 true (.ia 2 (.sl 6) (.sl 7)))))],[],none,[0,6,7],9,[[],[],[1,0],[0,1,2],[],[],[5,4],[4,5,6],[6,5,4,7,2,1,0,3]],[],[]⟩]) (.cond (.sl 74) (.seq (.reg [⟨[],[(2,(.int .i64 172))],[],none,[],1,[],[],[]⟩]) (.seq (.tidy 0 [2]) .ret)) .skip))) (.reg [⟨[],[(7,(.bin .add (.sl 7) (.int .i64 1)))],[],none,[0,6],3,[],[],[]⟩])))
def f39:Fun:=⟨ (.seq (.reg [⟨[],[],[(.int .i64 0)],none,[0],1,[],[],[]⟩]) (.seq (.seq (.reg [⟨[],[(3,(.int .i64 0))],[],none,[0],1,[],[],[]⟩]) (.block 0 (.seq (.tidy 0 [0,3]) (.loop (.seq (.tidy 0 [0,3]) f39_L1))))) (.seq (.reg [⟨[(54,.callo 78 .nil)],[(6,(.sl 54))],[],none,[0],2,[],[],[]⟩]) (.seq (.seq (.reg [⟨[],[(59,(.bin .lss (.len false (.sl 0)) (.len false (.sl 6))))],[],none,[0,6],5,[],[],[]⟩]) (.cond (.sl 59) (.seq (.reg [⟨[],[(2,(.int .i64 172))],[],none,[],1,[],[],[]⟩]) (.seq (.tidy 0 [2]) .ret)) .skip)) (.seq (.seq (.reg [⟨[],[(7,(.int .i64 0))],[],none,[0,6],1,[],[],[]⟩]) (.block 4 (.seq (.tidy 0 [0,6,7]) (.loop (.seq (.tidy 0 [0,6,7]) f39_L2))))) (.seq (.reg [⟨[],[(2,(.int .i64 0))],[],none,[],1,[],[],[]⟩]) (.seq (.tidy 0 [2]) .ret))))))), [(.sl 2)],false⟩
theorem j1n:q0J Go.Proofs.Tryz.prog 39 0 1 f39=true:=by kernel_rfl
/- 'sloth/slothref17.heads' -/
def f40_L0:C:= (.seq (.seq (.reg [⟨[],[(38,(.bin .lss (.sl 5) (.sl 3)))],[],none,[0,3,5],3,[],[],[]⟩]) (.cond (.sl 38) .skip (.seq (.tidy 0 [0,3]) (.exit 2)))) (.seq (.block 3 (.seq (.reg [⟨[],[(51,(.bin .eql (.ld 1 false (.fa 0 (.ia 3 (.sl 0) (.sl 5)))) (.ld 1 false (.fa 0 (.ia 3 (.sl 0) (.sl 3))))))],[],none,[0,3,5],11,[[],[],[1,0],[0,1,2],[2,1,0,3],[],[],[6,5],[5,6,7],[7,6,5,8],[8,5,6,7,9,3,0,1,2,4]],[],[]⟩]) (.cond (.sl 51) (.seq (.reg [⟨[],[(2,(.int .i64 172))],[],none,[],1,[],[],[]⟩]) (.seq (.tidy 0 [2]) .ret)) .skip))) (.reg [⟨[],[(5,(.bin .add (.sl 5) (.int .i64 1)))],[],none,[0,3],3,[],[],[]⟩])))
def f40_L1:C:= (.seq (.seq (.reg [⟨[],[(9,(.bin .lss (.sl 3) (.len false (.sl 0))))],[],none,[0,3],4,[],[],[]⟩]) (.cond (.sl 9) .skip (.seq (.tidy 0 []) (.exit 0)))) (.seq (.block 1 (.seq (.reg [⟨[],[(4,(.call 83 (.cons (.ld 1 false (.fa 0 (.ia 3 (.sl 0) (.sl 3)))) .nil)))],[],none,[0,3],7,[],[],[]⟩]) (.seq (.seq (.reg [⟨[],[(35,(.or (.or (.un .not (.sl 4)) (.bin .lss (.ld 1 false (.fa 1 (.ia 3 (.sl 0) (.sl 3)))) (.int .i64 0))) (.bin .gtr (.ld 1 false (.fa 1 (.ia 3 (.sl 0) (.sl 3)))) (.int .i64 24))))],[],none,[0,3],18,[],[],[]⟩]) (.cond (.sl 35) (.seq (.reg [⟨[],[(2,(.int .i64 172))],[],none,[],1,[],[],[]⟩]) (.seq (.tidy 0 [2]) .ret)) .skip)) (.seq (.reg [⟨[],[(5,(.int .i64 0))],[],none,[0,3],1,[],[],[]⟩]) (.block 2 (.seq (.tidy 0 [0,3,5]) (.loop (.seq (.tidy 0 [0,3,5]) f40_L0)))))))) (.reg [⟨[],[(3,(.bin .add (.sl 3) (.int .i64 1)))],[],none,[0],3,[],[],[]⟩])))
def f40:Fun:=⟨ (.seq (.reg [⟨[],[],[(.int .i64 0)],none,[0],1,[],[],[]⟩]) (.seq (.seq (.reg [⟨[],[(3,(.int .i64 0))],[],none,[0],1,[],[],[]⟩]) (.block 0 (.seq (.tidy 0 [0,3]) (.loop (.seq (.tidy 0 [0,3]) f40_L1))))) (.seq (.reg [⟨[],[(2,(.int .i64 0))],[],none,[],1,[],[],[]⟩]) (.seq (.tidy 0 [2]) .ret)))), [(.sl 2)],false⟩
theorem j1m:q0J Go.Proofs.Tryz.prog 40 0 1 f40=true:=by kernel_rfl
/- 'sloth/slothref17.Name' -/
def f83_L0:C:= (.seq (.seq (.reg [⟨[],[(7,(.bin .lss (.sl 3) (.len true (.sl 0))))],[],none,[0,3],4,[],[],[]⟩]) (.cond (.sl 7) .skip (.seq (.tidy 0 [0]) (.exit 0)))) (.seq (.block 1 (.seq (.reg [⟨[],[(19,(.or (.bin .lss (.ix (.sl 0) (.sl 3)) (.int .u8 32)) (.bin .gtr (.ix (.sl 0) (.sl 3)) (.int .u8 126))))],[],none,[0,3],10,[],[],[]⟩]) (.cond (.sl 19) (.seq (.reg [⟨[],[(2,(.bool false))],[],none,[],1,[],[],[]⟩]) (.seq (.tidy 0 [2]) .ret)) .skip))) (.reg [⟨[],[(3,(.bin .add (.sl 3) (.int .i64 1)))],[],none,[0],3,[],[],[]⟩])))
def f83:Fun:=⟨ (.seq (.reg [⟨[],[],[(.bool false)],none,[0],1,[],[],[]⟩]) (.seq (.seq (.reg [⟨[],[(3,(.int .i64 0))],[],none,[0],1,[],[],[]⟩]) (.block 0 (.seq (.tidy 0 [0,3]) (.loop (.seq (.tidy 0 [0,3]) f83_L0))))) (.seq (.reg [⟨[],[(2,(.and (.bin .geq (.len true (.sl 0)) (.int .i64 1)) (.bin .leq (.len true (.sl 0)) (.int .i64 4096))))],[],none,[],9,[],[],[]⟩]) (.seq (.tidy 0 [2]) .ret)))), [(.sl 2)],false⟩
theorem j02:q0J Go.Proofs.Tryz.prog 83 0 1 f83=true:=by kernel_rfl
theorem z2g(K:Cx)(s:List UInt8)(hs:(s.length:Int)≤9223372036854775807):∀(k i:Nat),i+k=s.length→
    lp K 0 [0,3] f83_L0 ⟨[(0,.d false (.str s)),(3,.d false (.int .i64 i))],[],0,[]⟩ =
    some (if(s.drop i).all q3q then(.exit 0,⟨[(0,.d false (.str s))],[],0,[]⟩) else(.ret,⟨[(2,.d false (.bool false))],[],0,[]⟩)):=by
  intro k
  induction k with
  |zero=>
    intro i hi
    rw[q0I f83_L0.eq_1,List.drop_of_length_le (by omega)]
    simp(disch:=first|decide|omega|(simp only[LN];first|done|omega)) only[SV,SW,Nat.reduceBEq]
  |succ k ih=>
    intro i hi
    have ih:=ih (i+1) (by omega)
    have hcast:((i+1:Nat):Int)=(i:Int)+1:=by omega
    rw[hcast] at ih
    rw[q0I f83_L0.eq_1,q0F (by omega:i<s.length),List.all_cons]
    generalize hb:nth s (i:Int)=b
    have h0:0≤(b.toNat:Int):=by omega
    by_cases g1:(b.toNat:Int)<32
    · have:q3q b=false:=by simp [q3q];omega
      rw[this]
      simp(disch:=first|decide|omega|(simp only[LN];first|done|omega)) only[SV,SW,Nat.reduceBEq,hb]
    · by_cases g2:126<(b.toNat:Int)
      · have:q3q b=false:=by simp [q3q];omega
        rw[this]
        simp(disch:=first|decide|omega|(simp only[LN];first|done|omega)) only[SV,SW,Nat.reduceBEq,hb]
      · have:q3q b=true:=by simp [q3q];omega
        rw[this]
        simp(disch:=first|decide|omega|(simp only[LN];first|done|omega)) only[SV,SW,Nat.reduceBEq,hb]
        exact ih
theorem z7h(K:Cx)(s:List UInt8)(hs:(s.length:Int)≤9223372036854775807):q0o K f83 [.d false (.str s)] []=some (.d false (.bool (q1p s)),[],[]):=by
  have hlp:=z2g K s hs s.length 0 (by omega)
  simp only[Int.natCast_zero,List.drop_zero] at hlp
  unfold q1p
  by_cases h:s.all q3q=true
  · rw[if_pos h] at hlp
    rw[h]
    simp(disch:=first|decide|omega|(simp only[LN];first|done|omega)) only[SV,SW,f83,Nat.reduceBEq,hlp,q0b]
  · rw[if_neg h] at hlp
    rw[Bool.not_eq_true] at h
    rw[h]
    simp(disch:=first|decide|omega|(simp only[LN];first|done|omega)) only[SV,SW,f83,Nat.reduceBEq,hlp,q0b]
theorem z2x(K:Cx):q0o K f78 [] []=some (.bsl 0 0 7,[.dat true 2 (givenS.map q0c)],[]):=by
  simp(disch:=first|decide|omega|(simp only[LN];first|done|omega)) only[SV,SW,f78,Nat.reduceAdd,q0b,hNew,V.forget,V.drop1,V.ref0,V.newR,q0d,givenS,q0g]
theorem z5C(K:Cx)(t:Table)(hl:(t.globals.length:Int)≤9223372036854775807)(hb:∀ g∈t.globals,(g.code.length:Int)≤9223372036854775807):∀(k i:Nat)(n v:Int),i+k=t.globals.length→v=IntKind.i64.wrap n→
    lp K 0 [1,3,4] f38_L0 ⟨[(1,.ptr 0 0 0),(3,.d false (.int .i64 v)),(4,.d false (.int .i64 i))],[(0,.mix 2 [[.d false (.sl 2 (t.shapes.map q0c)),.d false (.sl 3 (t.globals.map q0l))]])],1,[]⟩ =
    some (match q1M (t.globals.drop i) n with
     |none=>(.ret,⟨[(2,.d false (.bool true))],[],0,[]⟩)
     |some m=>(.exit 0,⟨[(1,.ptr 0 0 0),(3,.d false (.int .i64 (IntKind.i64.wrap m)))],[(0,.mix 2 [[.d false (.sl 2 (t.shapes.map q0c)),.d false (.sl 3 (t.globals.map q0l))]])],1,[]⟩)):=by
  intro k
  induction k with
  |zero=>
    intro i n v hi hv
    rw[q0I f38_L0.eq_1,List.drop_of_length_le (by omega)]
    simp(disch:=first|decide|omega|(simp only[LN];first|done|omega)) only[SV,SW,hv,Nat.reduceBEq,q1M]
  |succ k ih=>
    intro i n v hi hv
    have hlt:i<t.globals.length:=by omega
    have hcast:((i+1:Nat):Int)=(i:Int)+1:=by omega
    rw[q0I f38_L0.eq_1,q0F hlt,q1M]
    have hbg:=hb _ (q1h (l:=t.globals) (i:=(i:Int)) (by omega) (by omega))
    by_cases g1:8000<((nth t.globals i).code.length:Int)
    · rw[if_pos g1]
      clear hv
      simp(disch:=first|decide|omega|(simp only[LN];first|done|omega)) only[SV,SW,Nat.reduceBEq,q0k]
    · rw[if_neg g1]
      have ih:=ih (i+1) (n+(nth t.globals i).code.length) (IntKind.i64.wrap (v+(nth t.globals i).code.length)) (by omega) (by rw[hv,z0G])
      rw[hcast] at ih
      clear hv
      simp(disch:=first|decide|omega|(simp only[LN];first|done|omega)) only[SV,SW,Nat.reduceBEq,q0k]
      exact ih
theorem z9I(K:Cx)(t:Table)(hl:(t.globals.length:Int)≤9223372036854775807)(hs:(t.shapes.length:Int)≤9223372036854775807)(hb:∀ g∈t.globals,(g.code.length:Int)≤9223372036854775807) :
    q0o K f38 [.agg [.d false (.sl 2 (t.shapes.map q0c)),.d false (.sl 3 (t.globals.map q0l))]] []=some (.d false (.bool (q2M t)),[],[]):=by
  have hlp:=z5C K t hl hb t.globals.length 0 0 0 (by omega) (by decide)
  simp only[Int.natCast_zero,List.drop_zero] at hlp
  unfold q2M
  cases h:q1M t.globals 0 with
  |none=>
    rw[h] at hlp
    simp only at hlp
    simp(disch:=first|decide|omega|(simp only[LN];first|done|omega)) only[SV,SW,f38,Nat.reduceAdd,Nat.reduceBEq,hlp,q0b]
  |some n=>
    have hle:=q9m _ _ _ h
    rw[h] at hlp
    simp only at hlp
    simp only
    by_cases hg:2000<(t.globals.length:Int)
    · clear hle
      simp(disch:=first|decide|omega|(simp only[LN];first|done|omega)) only[SV,SW,f38,Nat.reduceAdd,Nat.reduceBEq,hlp,q0b]
    · rw[z0H (by omega) (by omega)] at hlp
      clear hg
      simp(disch:=first|decide|omega|(simp only[LN];first|done|omega)) only[SV,SW,f38,Nat.reduceAdd,Nat.reduceBEq,hlp,q0b]
def K44(K:Cx):Prop:=∀ s:List UInt8,(s.length:Int)≤9223372036854775807→K.call 83 [.d false (.str s)]=some (.d false (.bool (q1p s)),[])
def K45(K:Cx):Prop:=K.call 78 []=some (.bsl 0 0 7,[.dat true 2 (givenS.map q0c)])
theorem z1W(K:Cx)(l:List Shape)(hl:(l.length:Int)≤9223372036854775807)(i:Nat)(hi:i<l.length):∀(k j:Nat),j+k=i→
    lp K 0 [0,3,5] f39_L0 ⟨[(0,.d false (.sl 2 (l.map q0c))),(3,.d false (.int .i64 i)),(5,.d false (.int .i64 j))],[],0,[]⟩ =
    some (if(((l.take i).drop j).map (·.name)).contains (nth l i).name then(.ret,⟨[(2,.d false (.int .i64 172))],[],0,[]⟩) else(.exit 2,⟨[(0,.d false (.sl 2 (l.map q0c))),(3,.d false (.int .i64 i))],[],0,[]⟩)):=by
  intro k
  induction k with
  |zero=>
    intro j hj
    rw[q0I f39_L0.eq_1,List.drop_of_length_le (by rw[List.length_take];omega)]
    have:j=i:=by omega
    subst this
    simp(disch:=first|decide|omega|(simp only[LN];first|done|omega)) only[SV,SW,Nat.reduceBEq]
  |succ k ih=>
    intro j hj
    have ih:=ih (j+1) (by omega)
    have hcast:((j+1:Nat):Int)=(j:Int)+1:=by omega
    rw[hcast] at ih
    have hjl:j<(l.take i).length:=by rw[List.length_take];omega
    have hnt:nth (l.take i) (j:Int)=nth l (j:Int):=by
      unfold nth
      rw[List.getD_eq_getElem?_getD,List.getD_eq_getElem?_getD,List.getElem?_take]
      rw[if_pos (by omega)]
    rw[q0I f39_L0.eq_1,q0F hjl,hnt,List.map_cons,List.contains_cons]
    by_cases g:(nth l (j:Int)).name=(nth l (i:Int)).name
    · have e1:((nth l (i:Int)).name==(nth l (j:Int)).name)=true:=by simp [g]
      rw[e1]
      simp(disch:=first|decide|omega|(simp only[LN];first|done|omega)) only[SV,SW,Nat.reduceBEq,q0g,g]
    · have e1:((nth l (i:Int)).name==(nth l (j:Int)).name)=false:=by
        simp;exact fun h=>g h.symm
      have e2:decide ((nth l (j:Int)).name=(nth l (i:Int)).name)=false:=by simpa using g
      rw[e1]
      clear g
      simp(disch:=first|decide|omega|(simp only[LN];first|done|omega)) only[SV,SW,Nat.reduceBEq,q0g,e2,Bool.false_or]
      exact ih
def q4T(l:List Shape)(r:Bool):Ex×S:=if r then(.exit 0,⟨[(0,.d false (.sl 2 (l.map q0c)))],[],0,[]⟩) else(.ret,⟨[(2,.d false (.int .i64 172))],[],0,[]⟩)
theorem q1H(t):q4T t false=(.ret,⟨[(2,.d false (.int .i64 172))],[],0,[]⟩):=rfl
theorem q5h(l):q4T l true=(.exit 0,⟨[(0,.d false (.sl 2 (l.map q0c)))],[],0,[]⟩):=rfl
theorem q8H{α:Type} [Inhabited α](l:List α)(i:Nat)(h:i<l.length):l.take i++[nth l (i:Int)]=l.take (i+1):=by
  rw[List.take_add_one,List.getElem?_eq_getElem h]
  congr
  simp [nth,h]
theorem q8S(K:Cx)(h44:K44 K)(l:List Shape)(hl:(l.length:Int)≤9223372036854775807)(hn:∀ s∈l,(s.name.length:Int)≤9223372036854775807):∀(k i:Nat),i+k=l.length→
    lp K 0 [0,3] f39_L1 ⟨[(0,.d false (.sl 2 (l.map q0c))),(3,.d false (.int .i64 i))],[],0,[]⟩ =
    some (q4T l (q0B 8 ((l.drop i).map fun s=>(s.name,s.fields)) ((l.take i).map (·.name)))):=by
  intro k
  induction k with
  |zero=>
    intro i hi
    rw[q0I f39_L1.eq_1,List.drop_of_length_le (by omega)]
    simp only[List.map_nil,q0B]
    simp(disch:=first|decide|omega|(simp only[LN];first|done|omega)) only[SV,SW,Nat.reduceBEq,q5h]
  |succ k ih=>
    intro i hi
    have hcast:((i+1:Nat):Int)=(i:Int)+1:=by omega
    have hlt:i<l.length:=by omega
    have hnm:=hn _ (q1h (l:=l) (i:=(i:Int)) (by omega) (by omega))
    have hc:=h44 _ hnm
    have hw:=z1W K l hl i hlt i 0 (by omega)
    simp only[Int.natCast_zero,List.drop_zero] at hw
    have ih:=ih (i+1) (by omega)
    rw[hcast,←q8H l i hlt,List.map_append,List.map_cons,List.map_nil] at ih
    rw[q0I f39_L1.eq_1,q0F hlt]
    simp only[List.map_cons,q0B]
    generalize hs:nth l (i:Int)=s at hc hnm hw ih
    generalize q1p s.name=b1 at hc
    generalize List.contains (List.map (fun x=>x.name) (List.take i l)) s.name=b2 at hw
    clear hnm hn
    cases b1 with
    |false=>
      simp only[Bool.false_and]
      simp(disch:=first|decide|omega|(simp only[LN];first|done|omega)) only[SV,SW,Nat.reduceBEq,hs,q0g,q0d,hc,q1H]
    |true=>
      by_cases g1:0≤s.fields
      · by_cases g2:s.fields≤8
        · have e1:decide (0≤s.fields)=true:=by simpa using g1
          have e2:decide (s.fields≤8)=true:=by simpa using g2
          cases b2 with
          |true=>
            simp only[Bool.not_true,Bool.and_false,Bool.false_and]
            rw[if_pos rfl] at hw
            simp(disch:=first|decide|omega|(simp only[LN];first|done|omega)) only[SV,SW,Nat.reduceBEq,hs,q0g,q0d,hc,hw,q1H]
          |false=>
            simp only[e1,e2,Bool.not_false,Bool.and_self,if_true]
            rw[if_neg (by simp)] at hw
            simp(disch:=first|decide|omega|(simp only[LN];first|done|omega)) only[SV,SW,Nat.reduceBEq,hs,q0g,q0d,hc,hw]
            exact ih
        · have e2:decide (s.fields≤8)=false:=by simpa using g2
          simp only[e2,Bool.and_false]
          clear hw
          simp(disch:=first|decide|omega|(simp only[LN];first|done|omega)) only[SV,SW,Nat.reduceBEq,hs,q0g,q0d,hc,q1H]
      · have e2:decide (0≤s.fields)=false:=by simpa using g1
        simp only[e2,Bool.and_false,Bool.false_and]
        clear hw
        simp(disch:=first|decide|omega|(simp only[LN];first|done|omega)) only[SV,SW,Nat.reduceBEq,hs,q0g,q0d,hc,q1H]
def q8b(r:Bool):Ex×S:=if r then(.exit 4,⟨[],[],0,[]⟩) else(.ret,⟨[(2,.d false (.int .i64 172))],[],0,[]⟩)
theorem q46:q8b false=(.ret,⟨[(2,.d false (.int .i64 172))],[],0,[]⟩):=rfl
theorem q7C:q8b true=(.exit 4,⟨[],[],0,[]⟩):=rfl
theorem z2o(K:Cx)(l:List Shape)(hl:(l.length:Int)≤9223372036854775807)(h7':7≤l.length):∀(k i:Nat),i+k=7→
    lp K 0 [0,6,7] f39_L2 ⟨[(0,.d false (.sl 2 (l.map q0c))),(6,.bsl 0 0 7),(7,.d false (.int .i64 i))],[(0,.dat true 2 (givenS.map q0c))],1,[]⟩ =
    some (q8b (q47 l k i)):=by
  have h7:givenS.length=7:=rfl
  intro k
  induction k with
  |zero=>
    intro i hi
    rw[q0I f39_L2.eq_1]
    simp only[q47]
    simp(disch:=first|decide|omega|(simp only[LN];first|done|omega)) only[SV,SW,Nat.reduceBEq,q7C]
  |succ k ih=>
    intro i hi
    have hcast:((i+1:Nat):Int)=(i:Int)+1:=by omega
    have ih:=ih (i+1) (by omega)
    rw[hcast] at ih
    rw[q0I f39_L2.eq_1]
    simp only[q47]
    have g:i<l.length:=by omega
    generalize hs:nth l (i:Int)=s
    generalize hg:nth givenS (i:Int)=s'
    by_cases e1:s.name=s'.name
    · by_cases e2:s.fields=s'.fields
      · have e:s=s':=by cases s;cases s';simp at e1 e2;subst e1;subst e2;rfl
        rw[if_pos ⟨g,e⟩]
        subst e
        simp(disch:=first|decide|omega|(simp only[LN];first|done|omega)) only[SV,SW,Nat.reduceBEq,hs,q0g,Nat.reduceAdd,hg,q1r,q0s,q0D]
        exact ih
      · rw[if_neg (fun h=>e2 (by rw[h.2]))]
        have d2:(s.fields==s'.fields)=false:=by simpa using e2
        clear e2
        simp(disch:=first|decide|omega|(simp only[LN];first|done|omega)) only[SV,SW,Nat.reduceBEq,hs,q0g,e1,Nat.reduceAdd,hg,q1r,q0s,q0D,d2,q46]
    · rw[if_neg (fun h=>e1 (by rw[h.2]))]
      have d1:decide (s.name=s'.name)=false:=by simpa using e1
      simp(disch:=first|decide|omega|(simp only[LN];first|done|omega)) only[SV,SW,Nat.reduceBEq,hs,q0g,Nat.reduceAdd,hg,q1r,q0s,q0D,d1,q46]
theorem z0p{l:List Shape}(h:l.length<7):q47 l 7 0=false:=by
  have key:∀(k i:Nat),i+k=7→l.length<7→i≤l.length→q47 l k i=false:=by
    intro k
    induction k with
    |zero=>intro i hi hl h2;omega
    |succ k ih=>
      intro i hi hl h2
      simp only[q47]
      split
      · rename_i c;exact ih (i+1) (by omega) hl (by omega)
      · rfl
  exact key 7 0 rfl h (by omega)
def q4g(l:List Shape):Int:=if q0B 8 (l.map fun s=>(s.name,s.fields)) []=false then 172 else if q6K l=false then 172 else 0
theorem z0s(K:Cx)(h44:K44 K)(h45:K45 K)(l:List Shape)(hl:(l.length:Int)≤9223372036854775807)(hn:∀ s∈l,(s.name.length:Int)≤9223372036854775807) :
    q0o K f39 [.d false (.sl 2 (l.map q0c))] []=some (.d false (.int .i64 (q4g l)),[],[]):=by
  have l0:=q8S K h44 l hl hn l.length 0 (by omega)
  simp only[Int.natCast_zero,List.drop_zero,List.take_zero,List.map_nil] at l0
  unfold q4g
  unfold K45 at h45
  cases hn1:q0B 8 (l.map fun s=>(s.name,s.fields)) [] with
  |false=>
    rw[if_pos rfl]
    rw[hn1,q1H] at l0
    simp(disch:=first|decide|omega|(simp only[LN];first|done|omega)) only[SV,SW,f39,Nat.reduceBEq,l0,q0b]
  |true=>
    rw[if_neg (by simp)]
    rw[hn1,q5h] at l0
    unfold q6K
    by_cases h7:l.length<7
    · rw[z0p h7,if_pos rfl]
      have:(l.length:Int)<7:=by omega
      simp(disch:=first|decide|omega|(simp only[LN];first|done|omega)) only[SV,SW,f39,Nat.reduceBEq,l0,h45,V.new2,V.newR,V.shift,q0b]
    · have l1:=z2o K l hl (by omega) 7 0 rfl
      simp only[Int.natCast_zero] at l1
      have:7≤(l.length:Int):=by omega
      cases hh:q47 l 7 0 with
      |false=>
        rw[if_pos rfl]
        rw[hh,q46] at l1
        simp(disch:=first|decide|omega|(simp only[LN];first|done|omega)) only[SV,SW,f39,Nat.reduceBEq,l0,h45,V.new2,V.newR,V.shift,l1,q0b]
      |true=>
        rw[if_neg (by simp)]
        rw[hh,q7C] at l1
        simp(disch:=first|decide|omega|(simp only[LN];first|done|omega)) only[SV,SW,f39,Nat.reduceBEq,l0,h45,V.new2,V.newR,V.shift,l1,q0b]
theorem q9T(K:Cx)(l:List Glob)(hl:(l.length:Int)≤9223372036854775807)(i:Nat)(hi:i<l.length):∀(k j:Nat),j+k=i→
    lp K 0 [0,3,5] f40_L0 ⟨[(0,.d false (.sl 3 (l.map q0l))),(3,.d false (.int .i64 i)),(5,.d false (.int .i64 j))],[],0,[]⟩ =
    some (if(((l.take i).drop j).map (·.name)).contains (nth l i).name then(.ret,⟨[(2,.d false (.int .i64 172))],[],0,[]⟩) else(.exit 2,⟨[(0,.d false (.sl 3 (l.map q0l))),(3,.d false (.int .i64 i))],[],0,[]⟩)):=by
  intro k
  induction k with
  |zero=>
    intro j hj
    rw[q0I f40_L0.eq_1,List.drop_of_length_le (by rw[List.length_take];omega)]
    have:j=i:=by omega
    subst this
    simp(disch:=first|decide|omega|(simp only[LN];first|done|omega)) only[SV,SW,Nat.reduceBEq]
  |succ k ih=>
    intro j hj
    have ih:=ih (j+1) (by omega)
    have hcast:((j+1:Nat):Int)=(j:Int)+1:=by omega
    rw[hcast] at ih
    have hjl:j<(l.take i).length:=by rw[List.length_take];omega
    have hnt:nth (l.take i) (j:Int)=nth l (j:Int):=by
      unfold nth
      rw[List.getD_eq_getElem?_getD,List.getD_eq_getElem?_getD,List.getElem?_take]
      rw[if_pos (by omega)]
    rw[q0I f40_L0.eq_1,q0F hjl,hnt,List.map_cons,List.contains_cons]
    by_cases g:(nth l (j:Int)).name=(nth l (i:Int)).name
    · have e1:((nth l (i:Int)).name==(nth l (j:Int)).name)=true:=by simp [g]
      rw[e1]
      simp(disch:=first|decide|omega|(simp only[LN];first|done|omega)) only[SV,SW,Nat.reduceBEq,q0k,g]
    · have e1:((nth l (i:Int)).name==(nth l (j:Int)).name)=false:=by
        simp;exact fun h=>g h.symm
      have e2:decide ((nth l (j:Int)).name=(nth l (i:Int)).name)=false:=by simpa using g
      rw[e1]
      clear g
      simp(disch:=first|decide|omega|(simp only[LN];first|done|omega)) only[SV,SW,Nat.reduceBEq,q0k,e2,Bool.false_or]
      exact ih
def q6J(r:Bool):Ex×S:=if r then(.exit 0,⟨[],[],0,[]⟩) else(.ret,⟨[(2,.d false (.int .i64 172))],[],0,[]⟩)
theorem q2f:q6J false=(.ret,⟨[(2,.d false (.int .i64 172))],[],0,[]⟩):=rfl
theorem q6I:q6J true=(.exit 0,⟨[],[],0,[]⟩):=rfl
theorem z0n(K:Cx)(h44:K44 K)(l:List Glob)(hl:(l.length:Int)≤9223372036854775807)(hn:∀ s∈l,(s.name.length:Int)≤9223372036854775807):∀(k i:Nat),i+k=l.length→
    lp K 0 [0,3] f40_L1 ⟨[(0,.d false (.sl 3 (l.map q0l))),(3,.d false (.int .i64 i))],[],0,[]⟩ =
    some (q6J (q0B 24 ((l.drop i).map fun s=>(s.name,s.arity)) ((l.take i).map (·.name)))):=by
  intro k
  induction k with
  |zero=>
    intro i hi
    rw[q0I f40_L1.eq_1,List.drop_of_length_le (by omega)]
    simp only[List.map_nil,q0B]
    simp(disch:=first|decide|omega|(simp only[LN];first|done|omega)) only[SV,SW,Nat.reduceBEq,q6I]
  |succ k ih=>
    intro i hi
    have hcast:((i+1:Nat):Int)=(i:Int)+1:=by omega
    have hlt:i<l.length:=by omega
    have hnm:=hn _ (q1h (l:=l) (i:=(i:Int)) (by omega) (by omega))
    have hc:=h44 _ hnm
    have hw:=q9T K l hl i hlt i 0 (by omega)
    simp only[Int.natCast_zero,List.drop_zero] at hw
    have ih:=ih (i+1) (by omega)
    rw[hcast,←q8H l i hlt,List.map_append,List.map_cons,List.map_nil] at ih
    rw[q0I f40_L1.eq_1,q0F hlt]
    simp only[List.map_cons,q0B]
    generalize hs:nth l (i:Int)=s at hc hnm hw ih
    generalize q1p s.name=b1 at hc
    generalize List.contains (List.map (fun x=>x.name) (List.take i l)) s.name=b2 at hw
    clear hnm hn
    cases b1 with
    |false=>
      simp only[Bool.false_and]
      simp(disch:=first|decide|omega|(simp only[LN];first|done|omega)) only[SV,SW,Nat.reduceBEq,hs,q0k,q0d,hc,q2f]
    |true=>
      by_cases g1:0≤s.arity
      · by_cases g2:s.arity≤24
        · have e1:decide (0≤s.arity)=true:=by simpa using g1
          have e2:decide (s.arity≤24)=true:=by simpa using g2
          cases b2 with
          |true=>
            simp only[Bool.not_true,Bool.and_false,Bool.false_and]
            rw[if_pos rfl] at hw
            simp(disch:=first|decide|omega|(simp only[LN];first|done|omega)) only[SV,SW,Nat.reduceBEq,hs,q0k,q0d,hc,hw,q2f]
          |false=>
            simp only[e1,e2,Bool.not_false,Bool.and_self,if_true]
            rw[if_neg (by simp)] at hw
            simp(disch:=first|decide|omega|(simp only[LN];first|done|omega)) only[SV,SW,Nat.reduceBEq,hs,q0k,q0d,hc,hw]
            exact ih
        · have e2:decide (s.arity≤24)=false:=by simpa using g2
          simp only[e2,Bool.and_false]
          clear hw
          simp(disch:=first|decide|omega|(simp only[LN];first|done|omega)) only[SV,SW,Nat.reduceBEq,hs,q0k,q0d,hc,q2f]
      · have e2:decide (0≤s.arity)=false:=by simpa using g1
        simp only[e2,Bool.and_false,Bool.false_and]
        clear hw
        simp(disch:=first|decide|omega|(simp only[LN];first|done|omega)) only[SV,SW,Nat.reduceBEq,hs,q0k,q0d,hc,q2f]
def q6H(l:List Glob):Int:=if q0B 24 (l.map fun g=>(g.name,g.arity)) []=false then 172 else 0
theorem z5a(K:Cx)(h44:K44 K)(l:List Glob)(hl:(l.length:Int)≤9223372036854775807)(hn:∀ s∈l,(s.name.length:Int)≤9223372036854775807) :
    q0o K f40 [.d false (.sl 3 (l.map q0l))] []=some (.d false (.int .i64 (q6H l)),[],[]):=by
  have l0:=z0n K h44 l hl hn l.length 0 (by omega)
  simp only[Int.natCast_zero,List.drop_zero,List.take_zero,List.map_nil] at l0
  unfold q6H
  cases hn1:q0B 24 (l.map fun s=>(s.name,s.arity)) [] with
  |false=>
    rw[if_pos rfl]
    rw[hn1,q2f] at l0
    simp(disch:=first|decide|omega|(simp only[LN];first|done|omega)) only[SV,SW,f40,Nat.reduceBEq,l0,q0b]
  |true=>
    rw[if_neg (by simp)]
    rw[hn1,q6I] at l0
    simp(disch:=first|decide|omega|(simp only[LN];first|done|omega)) only[SV,SW,f40,Nat.reduceBEq,l0,q0b]
end Go.Vm
end

section
namespace Go.Vm
def K40(K:Cx):Prop:=∀ op:Int,K.call 79 [.d false (.int .i64 op)]=some (z6o (q2g op) (decide (1≤op∧op<18)),[])
def K41(K:Cx):Prop:=∀(sh:List Shape)(gl:List Glob)(nm:List UInt8)(ar:Int)(cd:List Instr)(at_ n kind:Int),0≤kind∧kind≤8→
 K.call 80 [.agg [.d false (.sl 2 (sh.map q0c)),.d false (.sl 3 (gl.map q0l))],.agg [.d false (.str nm),.d false (.int .i64 ar),.d false (.sl 3 (cd.map q0j))],.d false (.int .i64 at_),.d false (.int .i64 n),.d false (.int .i64 kind)]
  = some (.d false (.int .i64 (q0S gl.length sh.length cd.length at_ n kind)),[])
def K42(K:Cx):Prop:=∀(sh:List Shape)(gl:List Glob)(op a b d:Int),1≤d∧d≤8000→(0≤a∧a≤9223372036854775807∨(op≠1∧op≠4∧op≠5∧op≠7∧op≠8))→(op=9∨op=10→0≤a∧a<sh.length∧0≤(nth sh a).fields∧(nth sh a).fields≤8)→
 K.call 81 [.agg [.d false (.sl 2 (sh.map q0c)),.d false (.sl 3 (gl.map q0l))],.agg [.d false (.int .i64 op),.d false (.int .i64 a),.d false (.int .i64 b)],.d false (.int .i64 d)]
  = some (.tup [.d false (.int .i64 (q0t sh ⟨op,a,b⟩ d).1),.d false (.bool (q0t sh ⟨op,a,b⟩ d).2)],[])
def K43(K:Cx):Prop:=∀(c:Bool)(Dp:List Int)(at_ d:Int)(n:Nat),0≤at_∧at_<Dp.length→n=Dp.length→
 K.eff 82 [.bsl 0 0 n,.d false (.int .i64 at_),.d false (.int .i64 d)] [.dat c 1 (Dp.map eInt)]=some (.d false (.bool (q1g Dp at_ d)),[.dat c 1 ((q0L Dp at_ d).map eInt)],[])
def q71(sh:List Shape)(gl:List Glob)(nm:List UInt8)(ar:Int)(cd:List Instr)(r:Int):Ex×S:=if r=0 then(.exit 0,⟨[(2,.ptr 0 0 0),(3,.ptr 1 0 0)],[(0,.mix 2 [[.d false (.sl 2 (sh.map q0c)),.d false (.sl 3 (gl.map q0l))]]),(1,.mix 3 [[.d false (.str nm),.d false (.int .i64 ar),.d false (.sl 3 (cd.map q0j))]])],2,[]⟩)
   else(.ret,⟨[(4,.d false (.int .i64 r))],[],0,[]⟩)
theorem q85(sh gl nm ar cd):q71 sh gl nm ar cd 0=(.exit 0,⟨[(2,.ptr 0 0 0),(3,.ptr 1 0 0)],[(0,.mix 2 [[.d false (.sl 2 (sh.map q0c)),.d false (.sl 3 (gl.map q0l))]]),(1,.mix 3 [[.d false (.str nm),.d false (.int .i64 ar),.d false (.sl 3 (cd.map q0j))]])],2,[]⟩):=rfl
theorem q3T(sh gl nm ar cd):q71 sh gl nm ar cd 172=(.ret,⟨[(4,.d false (.int .i64 172))],[],0,[]⟩):=rfl
theorem q6m(sh gl nm ar cd):q71 sh gl nm ar cd 174=(.ret,⟨[(4,.d false (.int .i64 174))],[],0,[]⟩):=rfl
theorem z4f(K:Cx)(h40:K40 K)(h41:K41 K)(sh:List Shape)(gl:List Glob)(nm:List UInt8)(ar:Int)(cd:List Instr)(hl:cd.length≤8000):∀(k i:Nat),i+k=cd.length→
  lp K 0 [2,3,20,21,22] f37_L0 ⟨[(2,.ptr 0 0 0),(3,.ptr 1 0 0),(20,.d false (.sl 3 (cd.map q0j))),(21,.d false (.int .i64 cd.length)),(22,.d false (.int .i64 i))],
   [(0,.mix 2 [[.d false (.sl 2 (sh.map q0c)),.d false (.sl 3 (gl.map q0l))]]),(1,.mix 3 [[.d false (.str nm),.d false (.int .i64 ar),.d false (.sl 3 (cd.map q0j))]])],2,[]⟩ =
  some (q71 sh gl nm ar cd (q1S gl.length sh.length cd.length cd k i)):=by
 intro k
 induction k with
 |zero=>
  intro i hi
  rw[q0I f37_L0.eq_1]
  simp(disch:=first|decide|omega|(simp only[LN];first|done|omega)) only[SV,SW,Nat.reduceBEq,reduceCtorEq,Nat.reduceAdd,q1S,q85]
 |succ k ih=>
  intro i hi
  have hcast:((i+1:Nat):Int)=(i:Int)+1:=by omega
  have ih:=ih (i+1) (by omega)
  rw[hcast] at ih
  have hlt:i<cd.length:=by omega
  rw[q0I f37_L0.eq_1]
  simp only[q1S]
  generalize hx:nth cd (i:Int)=x
  have hc:=h40 x.op
  have hk:=z2s x.op
  unfold z6o at hc
  by_cases g:1≤x.op∧x.op<18
  ·have hd:decide (1≤x.op∧x.op<18)=true:=by simpa using g
   rw[hd] at hc
   have ha:=h41 sh gl nm ar cd i x.a (q2g x.op).2.1 hk.1
   have hb:=h41 sh gl nm ar cd i x.b (q2g x.op).2.2 hk.2
   have hs:q5A gl.length sh.length cd.length i x=(if q0S gl.length sh.length cd.length i x.a (q2g x.op).2.1=172∨q0S gl.length sh.length cd.length i x.b (q2g x.op).2.2=172 then 172 else if q0S gl.length sh.length cd.length i x.a (q2g x.op).2.1≠0∨q0S gl.length sh.length cd.length i x.b (q2g x.op).2.2≠0 then 174 else 0):=by
    simp only[q5A,if_pos g]
   rw[hs]
   have va:=q6n gl.length sh.length cd.length i x.a (q2g x.op).2.1
   have vb:=q6n gl.length sh.length cd.length i x.b (q2g x.op).2.2
   generalize q0S gl.length sh.length cd.length i x.a (q2g x.op).2.1=a at ha va
   generalize q0S gl.length sh.length cd.length i x.b (q2g x.op).2.2=b at hb vb
   clear hs hk
   rcases va with rfl|rfl|rfl <;> rcases vb with rfl|rfl|rfl
   ·simp(disch:=first|decide|omega|(simp only[LN];first|done|omega)) only[SV,SW,Nat.reduceBEq,Nat.reduceAdd,hx,q0e,lose,q0d,hc,ha,hb,reduceCtorEq,Int.reduceEq,ne_eq,not_true_eq_false]
    exact ih
   all_goals simp(disch:=first|decide|omega|(simp only[LN];first|done|omega)) only[SV,SW,Nat.reduceBEq,Nat.reduceAdd,hx,q0e,lose,q0d,hc,ha,hb,Int.reduceEq,ne_eq,not_true_eq_false,q3T,q6m]
  ·have hd:decide (1≤x.op∧x.op<18)=false:=by simpa using g
   rw[hd] at hc
   have hs:q5A gl.length sh.length cd.length i x=172:=by simp only[q5A,if_neg g]
   rw[hs]
   simp(disch:=first|decide|omega|(simp only[LN];first|done|omega)) only[SV,SW,Nat.reduceBEq,Nat.reduceAdd,hx,q0e,lose,q0d,hc,Int.reduceEq,q3T]
end Go.Vm
end

section
namespace Go.Vm
def z1m(r:Int):Ex×S:=if r=0 then(.exit 2,⟨[],[],0,[]⟩) else(.ret,⟨[(4,.d false (.int .i64 r))],[],0,[]⟩)
theorem z1l:z1m 0=(.exit 2,⟨[],[],0,[]⟩):=rfl
theorem q12:z1m 173=(.ret,⟨[(4,.d false (.int .i64 173))],[],0,[]⟩):=rfl
theorem q5a:z1m 174=(.ret,⟨[(4,.d false (.int .i64 174))],[],0,[]⟩):=rfl
set_option maxHeartbeats 4000000 in
theorem z7E(K:Cx)(h42:K42 K)(h43:K43 K)(sh:List Shape)(gl:List Glob)(nm:List UInt8)(ar:Int)(cd:List Instr)(hl:cd.length≤8000)(hs:ShOk sh)(hn:∀ i:Nat,i<cd.length→NumOk sh.length cd.length i (nth cd i))(hw:∀ x∈cd,x.a≤9223372036854775807) :
   ∀(k i:Nat) (c:Bool) (Dp:List Int),i+k=cd.length→Dp.length=cd.length→DpOk Dp→
    lp K 0 [2,3,11,78,79,80] f37_L1 ⟨[(2,.ptr 0 0 0),(3,.ptr 1 0 0),(11,.bsl 2 0 cd.length),(78,.d false (.sl 3 (cd.map q0j))),(79,.d false (.int .i64 cd.length)),(80,.d false (.int .i64 i))],
      [(0,.mix 2 [[.d false (.sl 2 (sh.map q0c)),.d false (.sl 3 (gl.map q0l))]]),(1,.mix 3 [[.d false (.str nm),.d false (.int .i64 ar),.d false (.sl 3 (cd.map q0j))]]),(2,.dat c 1 (Dp.map eInt))],3,[]⟩ =
    some (z1m (depL sh cd k i Dp)):=by
  intro k
  induction k with
  |zero=>
    intro i c Dp hi hD hok
    rw[q0I f37_L1.eq_1]
    simp(disch:=first|decide|omega|(simp only[LN];first|done|omega)) only[SV,SW,Nat.reduceBEq,depL,z1l]
  |succ k ih=>
    intro i c Dp hi hD hok
    have hcast:((i+1:Nat):Int)=(i:Int)+1:=by omega
    have hlt:i<cd.length:=by omega
    have hx0:=hn i hlt
    have hw0:=hw (nth cd i) (q1h (by omega) (by omega))
    have hdr:=hok (nth Dp i) (q1h (by omega) (by omega))
    rw[q0I f37_L1.eq_1]
    simp only[depL]
    generalize hx:nth cd (i:Int)=x at hx0 hw0
    generalize hd:nth Dp (i:Int)=d at hdr
    by_cases g0:d=0
    · subst g0
      rw[if_pos rfl]
      (try clear hj);(try clear ht);(try clear hok1);(try clear hok2);(try clear hn);(try clear hs);(try clear hok);(try clear hx0);(try clear hst);(try clear hxe);(try clear gt);(try clear n13);(try clear n16);(try clear n17);(try clear g0);(try clear hop);(try clear hw0);(try clear gg)
      simp(disch:=first|decide|omega|(simp only[LN];first|done|omega)) only[SV,SW,Nat.reduceBEq,Nat.reduceAdd,hx,q0e,lose,hd,q0q,q5a]
    rw[if_neg g0]
    have b0:(d==0)=false:=by simpa using g0
    have hrg0:=fun h=>q4d (d:=d) hs hx0 (by omega) h
    have hc:=h42 sh gl x.op x.a x.b d (by omega) (by have h1:=hx0.cnt;have h2:=hx0.upd;omega) (fun ho=>⟨(hx0.con ho).1,(hx0.con ho).2,hs _ (q1h (hx0.con ho).1 (hx0.con ho).2)⟩)
    have hxe:(⟨x.op,x.a,x.b⟩:Instr)=x:=rfl
    rw[hxe] at hc
    generalize hst:q0t sh x d=r at hc hrg0
    obtain⟨bh,okb⟩:=r
    simp only at hc hrg0 ⊢
    cases okb with
    |false=>
      rw[if_pos rfl]
      (try clear hj);(try clear ht);(try clear hok1);(try clear hok2);(try clear hn);(try clear hs);(try clear hok);(try clear hx0);(try clear hst);(try clear hxe);(try clear gt);(try clear n13);(try clear n16);(try clear n17);(try clear g0);(try clear hop);(try clear hw0);(try clear gg)
      simp(disch:=first|decide|omega|(simp only[LN];first|done|omega)) only[SV,SW,Nat.reduceBEq,Nat.reduceAdd,hx,q0e,lose,hd,q0q,b0,q0d,hc,q12]
    |true=>
      rw[if_neg (by simp)]
      have hrg:=hrg0 rfl
      clear hrg0
      have hj:=hx0.jmp
      have ht:=hx0.tst
      have ih:=fun c Dp=>ih (i+1) c Dp (by omega)
      rw[hcast] at ih
      by_cases gg:q6M x=true
      · rw[if_pos gg]
        have⟨n13,n16,n17⟩:x.op≠13∧x.op≠16∧x.op≠17:=by
          simp [q6M] at gg;omega
        have b13:(x.op != 13)=true:=by simpa using n13
        have b16:(x.op != 16)=true:=by simpa using n16
        have b17:(x.op != 17)=true:=by simpa using n17
        have c13:(x.op==13)=false:=by simpa using n13
        by_cases gl1:(i:Int)+1=cd.length
        · rw[if_pos gl1]
          have bl1:((i:Int)+1==(cd.length:Int))=true:=by simpa using gl1
          (try clear hj);(try clear ht);(try clear hok1);(try clear hok2);(try clear hn);(try clear hs);(try clear hok);(try clear hx0);(try clear hst);(try clear hxe);(try clear gt);(try clear n13);(try clear n16);(try clear n17);(try clear g0);(try clear hop);(try clear hw0);(try clear gg)
          simp(disch:=first|decide|omega|(simp only[LN];first|done|omega)) only[SV,SW,Nat.reduceBEq,Nat.reduceAdd,hx,q0e,lose,hd,q0q,b0,q0d,hc,b13,b16,b17,bl1,q5a]
        · rw[if_neg gl1]
          have bl1:((i:Int)+1==(cd.length:Int))=false:=by simpa using gl1
          have gl2:(i:Int)+1<cd.length:=by omega
          clear gl1
          have he:=h43 false Dp (i+1) bh cd.length (by omega) hD.symm
          have hlen1:=q1W Dp (i+1) bh
          have hok1:DpOk (q0L Dp (i+1) bh):=q2F hok (by omega)
          generalize hrb:q1g Dp (i+1) bh=rb at he
          generalize q0L Dp (i+1) bh=D1 at he hlen1 hok1
          cases rb with
          |false=>
            rw[if_pos rfl]
            (try clear hj);(try clear ht);(try clear hok1);(try clear hok2);(try clear hn);(try clear hs);(try clear hok);(try clear hx0);(try clear hst);(try clear hxe);(try clear gt);(try clear n13);(try clear n16);(try clear n17);(try clear g0);(try clear hop);(try clear hw0);(try clear gg)
            simp(disch:=first|decide|omega|(simp only[LN];first|done|omega)) only[SV,SW,Nat.reduceBEq,Nat.reduceAdd,hx,q0e,lose,hd,q0q,b0,q0d,hc,b13,b16,b17,bl1,q3e,he,q3I,Nat.reduceSub,q12]
          |true=>
            rw[if_neg (by simp)]
            by_cases gt:x.op=14∨x.op=15
            · have ht:=ht gt
              have hti:q2l x=x.b:=by simp only[q2l];rw[if_neg n13,if_pos gt]
              rw[hti,if_pos (by omega)]
              have he2:=h43 false D1 x.b bh cd.length (by omega) (by omega)
              have hlen2:=q1W D1 x.b bh
              have hok2:DpOk (q0L D1 x.b bh):=q2F hok1 (by omega)
              generalize hrb2:q1g D1 x.b bh=rb2 at he2
              generalize q0L D1 x.b bh=D2 at he2 hlen2 hok2
              have hpos:0<x.b:=by omega
              have ih:=ih false D2 (by omega) hok2
              (try clear hj);(try clear ht);(try clear hok1);(try clear hok2);(try clear hn);(try clear hs);(try clear hok);(try clear hx0);(try clear hst);(try clear hxe);(try clear n13);(try clear n16);(try clear n17);(try clear g0);(try clear hop);(try clear hw0);(try clear gg)
              by_cases g14:x.op=14
              · have c14:(x.op==14)=true:=by simpa using g14
                clear g14 gt
                cases rb2 with
                |false=>
                  rw[if_pos rfl]
                  simp(disch:=first|decide|omega|(simp only[LN];first|done|omega)) only[SV,SW,Nat.reduceBEq,Nat.reduceAdd,hx,q0e,lose,hd,q0q,b0,q0d,hc,b13,b16,b17,bl1,q3e,he,q3I,Nat.reduceSub,c13,c14,he2,q12]
                |true=>
                  rw[if_neg (by simp)]
                  simp(disch:=first|decide|omega|(simp only[LN];first|done|omega)) only[SV,SW,Nat.reduceBEq,Nat.reduceAdd,hx,q0e,lose,hd,q0q,b0,q0d,hc,b13,b16,b17,bl1,q3e,he,q3I,Nat.reduceSub,c13,c14,he2,reduceCtorEq,Nat.reduceEqDiff]
                  exact ih
              · have c14:(x.op==14)=false:=by simpa using g14
                have c15:(x.op==15)=true:=by simpa using gt.resolve_left g14
                clear g14 gt
                cases rb2 with
                |false=>
                  rw[if_pos rfl]
                  simp(disch:=first|decide|omega|(simp only[LN];first|done|omega)) only[SV,SW,Nat.reduceBEq,Nat.reduceAdd,hx,q0e,lose,hd,q0q,b0,q0d,hc,b13,b16,b17,bl1,q3e,he,q3I,Nat.reduceSub,c13,c14,c15,he2,q12]
                |true=>
                  rw[if_neg (by simp)]
                  simp(disch:=first|decide|omega|(simp only[LN];first|done|omega)) only[SV,SW,Nat.reduceBEq,Nat.reduceAdd,hx,q0e,lose,hd,q0q,b0,q0d,hc,b13,b16,b17,bl1,q3e,he,q3I,Nat.reduceSub,c13,c14,c15,he2,reduceCtorEq,Nat.reduceEqDiff]
                  exact ih
            · have hti:q2l x=0:=by simp only[q2l];rw[if_neg n13,if_neg gt]
              rw[hti,if_neg (by omega)]
              have ih:=ih false D1 (by omega) hok1
              have c14:(x.op==14)=false:=by simp;omega
              have c15:(x.op==15)=false:=by simp;omega
              clear gt
              (try clear hj);(try clear ht);(try clear hok1);(try clear hok2);(try clear hn);(try clear hs);(try clear hok);(try clear hx0);(try clear hst);(try clear hxe);(try clear n13);(try clear n16);(try clear n17);(try clear g0);(try clear hop);(try clear hw0);(try clear gg)
              simp(disch:=first|decide|omega|(simp only[LN];first|done|omega)) only[SX,SW,Nat.reduceBEq,Nat.reduceAdd,hx,q0e,lose,hd,q0q,b0,q0d,hc,b13,b16,b17,bl1,q8z,he,q3I,Nat.reduceSub,c13,c14,c15,reduceCtorEq,Nat.reduceEqDiff]
              exact ih
      · rw[if_neg gg]
        have hop:x.op=13∨x.op=16∨x.op=17:=by
          simp [q6M] at gg;omega
        by_cases g13:x.op=13
        · have hj:=hj g13
          have hti:q2l x=x.a:=by simp only[q2l];rw[if_pos g13]
          rw[hti,if_pos (by omega)]
          have he2:=h43 false Dp x.a bh cd.length (by omega) (by omega)
          have hlen2:=q1W Dp x.a bh
          have hok2:DpOk (q0L Dp x.a bh):=q2F hok (by omega)
          generalize hrb2:q1g Dp x.a bh=rb2 at he2
          generalize q0L Dp x.a bh=D2 at he2 hlen2 hok2
          rw[g13] at hc
          cases rb2 with
          |false=>
            rw[if_pos rfl]
            (try clear hj);(try clear ht);(try clear hok1);(try clear hok2);(try clear hn);(try clear hs);(try clear hok);(try clear hx0);(try clear hst);(try clear hxe);(try clear gt);(try clear n13);(try clear n16);(try clear n17);(try clear g0);(try clear hop);(try clear hw0);(try clear gg)
            simp(disch:=first|decide|omega|(simp only[LN];first|done|omega)) only[SX,SW,Nat.reduceBEq,Nat.reduceAdd,hx,q0e,g13,lose,hd,q0q,b0,q0d,hc,q8z,he2,q3I,Nat.reduceSub,q12]
          |true=>
            rw[if_neg (by simp)]
            have ih:=ih false D2 (by omega) hok2
            (try clear hj);(try clear ht);(try clear hok1);(try clear hok2);(try clear hn);(try clear hs);(try clear hok);(try clear hx0);(try clear hst);(try clear hxe);(try clear gt);(try clear n13);(try clear n16);(try clear n17);(try clear g0);(try clear hop);(try clear hw0);(try clear gg)
            simp(disch:=first|decide|omega|(simp only[LN];first|done|omega)) only[SX,SW,Nat.reduceBEq,Nat.reduceAdd,hx,q0e,g13,lose,hd,q0q,b0,q0d,hc,q8z,he2,q3I,Nat.reduceSub,reduceCtorEq,Nat.reduceEqDiff]
            exact ih
        · have hti:q2l x=0:=by simp only[q2l];rw[if_neg g13,if_neg (by omega)]
          rw[hti,if_neg (by omega)]
          have ih:=ih c Dp hD hok
          by_cases g16:x.op=16
          · rw[g16] at hc
            (try clear hj);(try clear ht);(try clear hok1);(try clear hok2);(try clear hn);(try clear hs);(try clear hok);(try clear hx0);(try clear hst);(try clear hxe);(try clear gt);(try clear n13);(try clear n16);(try clear n17);(try clear g0);(try clear hop);(try clear hw0);(try clear gg)
            simp(disch:=first|decide|omega|(simp only[LN];first|done|omega)) only[SX,SW,Nat.reduceBEq,Nat.reduceAdd,hx,q0e,g16,lose,hd,q0q,b0,q0d,hc,q8z,reduceCtorEq,Nat.reduceEqDiff]
            exact ih
          · have g17:x.op=17:=by omega
            rw[g17] at hc
            (try clear hj);(try clear ht);(try clear hok1);(try clear hok2);(try clear hn);(try clear hs);(try clear hok);(try clear hx0);(try clear hst);(try clear hxe);(try clear gt);(try clear n13);(try clear n16);(try clear n17);(try clear g0);(try clear hop);(try clear hw0);(try clear gg)
            simp(disch:=first|decide|omega|(simp only[LN];first|done|omega)) only[SX,SW,Nat.reduceBEq,Nat.reduceAdd,hx,q0e,g17,lose,hd,q0q,b0,q0d,hc,q8z,reduceCtorEq,Nat.reduceEqDiff]
            exact ih
theorem z0Z{ng ns nc:Int}{cd:List Instr}:∀(k i:Nat),q1S ng ns nc cd k i=0→∀ j:Nat,i≤j→j<i+k→q5A ng ns nc j (nth cd j)=0:=by
  intro k
  induction k with
  |zero=>intro i _ j h1 h2;omega
  |succ k ih=>
    intro i h j h1 h2
    simp only[q1S] at h
    split at h
    · rename_i h0
      by_cases hj:j=i
      · subst hj;exact h0
      · exact ih (i+1) h j (by omega) (by omega)
    · rename_i h0
      exact absurd h h0
theorem z1n(sh:List Shape)(cd:List Instr):∀(k i:Nat)(Dp:List Int),depL sh cd k i Dp=0∨depL sh cd k i Dp=173∨depL sh cd k i Dp=174:=by
  intro k
  induction k with
  |zero=>intro i Dp;exact .inl rfl
  |succ k ih=>
    intro i Dp
    simp only[depL]
    repeat' split
    all_goals first|exact ih _ _|simp
theorem z4g(ng ns nc:Int)(cd:List Instr):∀(k i:Nat),q1S ng ns nc cd k i=0∨q1S ng ns nc cd k i=172∨q1S ng ns nc cd k i=174:=by
  intro k
  induction k with
  |zero=>intro i;exact .inl rfl
  |succ k ih=>
    intro i
    simp only[q1S]
    split
    · exact ih _
    · unfold q5A
      split
      · simp only
        split
        · simp
        · split <;> simp
      · simp
set_option maxHeartbeats 4000000 in
theorem q9t(K:Cx)(h40:K40 K)(h41:K41 K)(h42:K42 K)(h43:K43 K)(sh:List Shape)(gl:List Glob)(g:Glob)(hs:ShOk sh)(hl:g.code.length≤8000)(ha:0≤g.arity∧g.arity≤24)(hw:∀ x∈g.code,x.a≤9223372036854775807) :
    q0o K f37 [.agg [.d false (.sl 2 (sh.map q0c)),.d false (.sl 3 (gl.map q0l))],.agg [.d false (.str g.name),.d false (.int .i64 g.arity),.d false (.sl 3 (g.code.map q0j))]] []=some (.d false (.int .i64 (q1l gl.length sh g)),[],[]):=by
  obtain⟨nm,ar,cd⟩:=g
  simp only at hl ha hw ⊢
  have l0:=z4f K h40 h41 sh gl nm ar cd hl cd.length 0 (by omega)
  simp only[Int.natCast_zero] at l0
  unfold q1l
  simp only
  have nv:=z4g gl.length sh.length cd.length cd cd.length 0
  cases hz:decide (q1S gl.length sh.length cd.length cd cd.length 0=0) with
  |false=>
    have hz:¬ q1S gl.length sh.length cd.length cd cd.length 0=0:=by simpa using hz
    rw[if_neg hz]
    generalize q1S gl.length sh.length cd.length cd cd.length 0=r at l0 hz nv
    rcases nv with rfl|rfl|rfl
    · exact absurd rfl hz
    · rw[q3T] at l0
      simp(disch:=first|decide|omega|(simp only[LN];first|done|omega)) only[SV,SW,f37,Nat.reduceAdd,Nat.reduceBEq,reduceCtorEq,l0,q0b]
    · rw[q6m] at l0
      simp(disch:=first|decide|omega|(simp only[LN];first|done|omega)) only[SV,SW,f37,Nat.reduceAdd,Nat.reduceBEq,reduceCtorEq,l0,q0b]
  |true=>
    have hz:q1S gl.length sh.length cd.length cd cd.length 0=0:=by simpa using hz
    rw[if_pos hz]
    rw[hz,q85] at l0
    by_cases hc:cd.length=0
    · rw[if_pos hc]
      have hc0:((cd.length:Int)==0)=true:=by simpa using hc
      clear hz nv hw hc
      simp(disch:=first|decide|omega|(simp only[LN];first|done|omega)) only[SV,SW,f37,Nat.reduceAdd,Nat.reduceBEq,reduceCtorEq,l0,hc0,q0b]
    · rw[if_neg hc]
      have hok:=fun(i:Nat) (hi:i<cd.length)=>z0Y (z0Z cd.length 0 hz i (by omega) (by omega))
      have l1:=z7E K h42 h43 sh gl nm ar cd hl hs hok hw cd.length 0 true ((List.replicate cd.length 0).set 0 (ar+1)) (by omega) (by simp) (by
        intro v hv
        rcases List.mem_or_eq_of_mem_set hv with h|h
        · have:=List.eq_of_mem_replicate h;omega
        · omega)
      simp only[Int.natCast_zero] at l1
      have dv:=z1n sh cd cd.length 0 ((List.replicate cd.length 0).set 0 (ar+1))
      generalize hr:depL sh cd cd.length 0 ((List.replicate cd.length 0).set 0 (ar+1))=r at l1 dv
      have hc0:((cd.length:Int)==0)=false:=by simpa using hc
      have hpos:0<cd.length:=by omega
      clear hok hw nv hz hr hc
      rcases dv with rfl|rfl|rfl
      · rw[z1l] at l1
        simp(disch:=first|decide|omega|(simp only[LN];first|done|omega)) only[SV,SW,f37,Nat.reduceAdd,Nat.reduceBEq,reduceCtorEq,l0,hc0,q75,z2v,Int.toNat_zero,q0q,q6Q,lose,Nat.reduceEqDiff,l1,q0b]
      · rw[q12] at l1
        simp(disch:=first|decide|omega|(simp only[LN];first|done|omega)) only[SV,SW,f37,Nat.reduceAdd,Nat.reduceBEq,reduceCtorEq,l0,hc0,q75,z2v,Int.toNat_zero,q0q,q6Q,lose,Nat.reduceEqDiff,l1,q0b]
      · rw[q5a] at l1
        simp(disch:=first|decide|omega|(simp only[LN];first|done|omega)) only[SV,SW,f37,Nat.reduceAdd,Nat.reduceBEq,reduceCtorEq,l0,hc0,q75,z2v,Int.toNat_zero,q0q,q6Q,lose,Nat.reduceEqDiff,l1,q0b]
end Go.Vm
end

section
namespace Go.Vm
/- 'sloth/slothref17.numbers' -/
def f41_L0:C:= (.seq (.seq (.reg [⟨[],[(12,(.bin .lss (.sl 5) (.len false (.sl 1))))],[],none,[1,2,5],4,[],[],[]⟩]) (.cond (.sl 12) .skip (.seq (.tidy 0 [1]) (.exit 0)))) (.seq (.block 1 (.seq (.reg [⟨[],[(6,(.call 28 (.cons (.ld 2 true (.sl 2)) (.cons (.ld 3 true (.ia 3 (.sl 1) (.sl 5))) .nil))))],[],none,[1,2,5],7,[[],[],[],[2,1],[1,2,3],[3,2,1,4,0],[0,4,1,2,3,5]],[],[]⟩]) (.seq (.seq (.reg [⟨[],[(22,(.un .not (.sl 6)))],[],none,[1,2,5],2,[],[],[]⟩]) (.cond (.sl 22) (.seq (.reg [⟨[],[(4,(.int .i64 172))],[],none,[],1,[],[],[]⟩]) (.seq (.tidy 0 [4]) .ret)) .skip)) (.seq (.reg [⟨[],[(7,(.call 84 (.cons (.ld 3 true (.ia 3 (.sl 1) (.sl 5))) .nil)))],[],none,[1,2,5],6,[],[],[]⟩]) (.seq (.reg [⟨[],[(8,(.call 32 (.cons (.ld 3 true (.ia 3 (.sl 1) (.sl 5))) .nil)))],[],none,[1,2,5,7],6,[],[],[]⟩]) (.seq (.reg [⟨[],[(44,(.and (.sl 7) (.or (.bin .leq (.sl 8) (.sl 5)) (.bin .geq (.sl 8) (.len false (.sl 1))))))],[],none,[1,2,5],12,[],[],[]⟩]) (.cond (.sl 44) (.seq (.reg [⟨[],[(4,(.int .i64 174))],[],none,[],1,[],[],[]⟩]) (.seq (.tidy 0 [4]) .ret)) .skip))))))) (.reg [⟨[],[(5,(.bin .add (.sl 5) (.int .i64 1)))],[],none,[1,2],3,[],[],[]⟩])))
def f41:Fun:=⟨ (.seq (.reg [⟨[(2,.box (.sl 0))],[],[(.int .i64 0)],none,[1,2],2,[],[],[]⟩]) (.seq (.seq (.reg [⟨[],[(5,(.int .i64 0))],[],none,[1,2],1,[],[],[]⟩]) (.block 0 (.seq (.tidy 0 [1,2,5]) (.loop (.seq (.tidy 0 [1,2,5]) f41_L0))))) (.seq (.seq (.reg [⟨[],[(47,(.bin .eql (.len false (.sl 1)) (.int .i64 0)))],[],none,[],3,[],[],[]⟩]) (.cond (.sl 47) (.seq (.reg [⟨[],[(4,(.int .i64 174))],[],none,[],1,[],[],[]⟩]) (.seq (.tidy 0 [4]) .ret)) .skip)) (.seq (.reg [⟨[],[(4,(.int .i64 0))],[],none,[],1,[],[],[]⟩]) (.seq (.tidy 0 [4]) .ret))))), [(.sl 4)],false⟩
theorem j1l:q0J Go.Proofs.Tryz.prog 41 0 2 f41=true:=by kernel_rfl
/- 'sloth/slothref17.Depths' -/
def f42_L0:C:= (.seq (.seq (.reg [⟨[],[(28,(.bin .lss (.sl 7) (.len false (.ld 1 false (.fa 2 (.sl 3))))))],[],none,[2,3,6,7],5,[],[],[]⟩]) (.cond (.sl 28) .skip (.seq (.tidy 0 [6]) (.exit 0)))) (.seq (.block 1 (.seq (.reg [⟨[(8,.box (.agg (.cons (.int .i64 0) (.cons (.int .i64 0) (.cons (.int .i64 0) .nil)))))],[],[],some (none,.store 3 (.sl 8) (.ld 3 true (.ia 3 (.ld 1 false (.fa 2 (.sl 3))) (.sl 7)))),[2,3,6,7,8],7,[],[],[]⟩]) (.seq (.reg [⟨[],[(9,(.ld 1 false (.ia 1 (.sl 6) (.sl 7))))],[],none,[2,3,6,7,8],5,[],[],[]⟩]) (.seq (.seq (.reg [⟨[],[(41,(.bin .eql (.sl 9) (.int .i64 0)))],[],none,[2,3,6,7,8,9],2,[],[],[]⟩]) (.cond (.sl 41) (.seq (.reg [⟨[],[(4,(.sl 6)),(5,(.int .i64 174))],[],none,[],3,[],[],[]⟩]) (.seq (.tidy 0 [4,5]) .ret)) .skip)) (.seq (.reg [⟨[],[(10,(.call 29 (.cons (.ld 2 true (.sl 2)) (.cons (.ld 3 true (.sl 8)) (.cons (.sl 9) .nil)))))],[],none,[2,3,6,7,8,9],5,[],[],[]⟩]) (.seq (.seq (.reg [⟨[],[(48,(.un .not (.sl 10)))],[],none,[2,3,6,7,8,9],2,[],[],[]⟩]) (.cond (.sl 48) (.seq (.reg [⟨[],[(4,(.sl 6)),(5,(.int .i64 173))],[],none,[],3,[],[],[]⟩]) (.seq (.tidy 0 [4,5]) .ret)) .skip)) (.seq (.reg [⟨[],[(11,(.call 31 (.cons (.ld 2 true (.sl 2)) (.cons (.ld 3 true (.sl 8)) (.cons (.sl 9) .nil)))))],[],none,[2,3,6,7,8],5,[],[],[]⟩]) (.seq (.seq (.reg [⟨[],[(55,(.bin .gtr (.sl 11) (.int .i64 8000)))],[],none,[2,3,6,7,8,11],2,[],[],[]⟩]) (.cond (.sl 55) (.seq (.reg [⟨[],[(4,(.sl 6)),(5,(.int .i64 173))],[],none,[],3,[],[],[]⟩]) (.seq (.tidy 0 [4,5]) .ret)) .skip)) (.seq (.reg [⟨[],[(12,(.call 30 (.cons (.ld 3 true (.sl 8)) .nil)))],[],none,[2,3,6,7,8,11],3,[],[],[]⟩]) (.seq (.reg [⟨[],[(13,(.call 32 (.cons (.ld 3 true (.sl 8)) .nil)))],[],none,[2,3,6,7,8,11,12],3,[],[],[]⟩]) (.seq (.reg [⟨[],[(14,(.and (.un .not (.sl 12)) (.bin .neq (.ld 1 false (.fa 0 (.sl 8))) (.int .i64 13))))],[],none,[2,3,6,7,11,13],8,[],[],[]⟩]) (.seq (.seq (.reg [⟨[],[(76,(.and (.sl 14) (.bin .geq (.bin .add (.sl 7) (.int .i64 1)) (.len false (.ld 1 false (.fa 2 (.sl 3)))))))],[],none,[2,3,6,7,11,13,14],9,[],[],[]⟩]) (.cond (.sl 76) (.seq (.reg [⟨[],[(4,(.sl 6)),(5,(.int .i64 174))],[],none,[],3,[],[],[]⟩]) (.seq (.tidy 0 [4,5]) .ret)) .skip)) (.seq (.seq (.reg [⟨[],[(95,(.and (.and (.sl 14) (.bin .neq (.ld 1 false (.ia 1 (.sl 6) (.bin .add (.sl 7) (.int .i64 1)))) (.int .i64 0))) (.bin .neq (.ld 1 false (.ia 1 (.sl 6) (.bin .add (.sl 7) (.int .i64 1)))) (.sl 11))))],[],none,[2,3,6,7,11,13,14],18,[],[],[]⟩]) (.cond (.sl 95) (.seq (.reg [⟨[],[(4,(.sl 6)),(5,(.int .i64 173))],[],none,[],3,[],[],[]⟩]) (.seq (.tidy 0 [4,5]) .ret)) .skip)) (.seq (.seq (.reg [⟨[],[(97,(.sl 14))],[],none,[2,3,6,7,11,13],1,[],[],[]⟩]) (.cond (.sl 97) (.reg [⟨[],[],[],some (none,.store 1 (.ia 1 (.sl 6) (.bin .add (.sl 7) (.int .i64 1))) (.sl 11)),[2,3,6,7,11,13],6,[],[],[]⟩]) .skip)) (.seq (.seq (.reg [⟨[],[(119,(.and (.and (.bin .geq (.sl 13) (.int .i64 0)) (.bin .neq (.ld 1 false (.ia 1 (.sl 6) (.sl 13))) (.int .i64 0))) (.bin .neq (.ld 1 false (.ia 1 (.sl 6) (.sl 13))) (.sl 11))))],[],none,[2,3,6,7,11,13],17,[],[],[]⟩]) (.cond (.sl 119) (.seq (.reg [⟨[],[(4,(.sl 6)),(5,(.int .i64 173))],[],none,[],3,[],[],[]⟩]) (.seq (.tidy 0 [4,5]) .ret)) .skip)) (.seq (.reg [⟨[],[(122,(.bin .geq (.sl 13) (.int .i64 0)))],[],none,[2,3,6,7,11,13],2,[],[],[]⟩]) (.cond (.sl 122) (.reg [⟨[],[],[],some (none,.store 1 (.ia 1 (.sl 6) (.sl 13)) (.sl 11)),[2,3,6,7],5,[],[],[]⟩]) .skip))))))))))))))))) (.reg [⟨[],[(7,(.bin .add (.sl 7) (.int .i64 1)))],[],none,[2,3,6],3,[],[],[]⟩])))
def f42:Fun:=⟨ (.seq (.reg [⟨[(2,.box (.sl 0)),(3,.box (.sl 1))],[],[(.int .i64 0),(.nilsl 1)],none,[2,3],4,[],[],[]⟩]) (.seq (.reg [⟨[(18,.mks 1 (.cons (.int .i64 0) .nil) (.len false (.ld 1 false (.fa 2 (.sl 3)))) (.len false (.ld 1 false (.fa 2 (.sl 3)))))],[(6,(.sl 18))],[],none,[2,3],5,[],[],[]⟩]) (.seq (.reg [⟨[],[],[],some (none,.store 1 (.ia 1 (.sl 6) (.int .i64 0)) (.bin .add (.ld 1 false (.fa 1 (.sl 3))) (.int .i64 1))),[2,3,6],6,[],[],[]⟩]) (.seq (.seq (.reg [⟨[],[(7,(.int .i64 0))],[],none,[2,3,6],1,[],[],[]⟩]) (.block 0 (.seq (.tidy 0 [2,3,6,7]) (.loop (.seq (.tidy 0 [2,3,6,7]) f42_L0))))) (.seq (.reg [⟨[],[(4,(.sl 6)),(5,(.int .i64 0))],[],none,[],3,[],[],[]⟩]) (.seq (.tidy 0 [4,5]) .ret)))))), [(.sl 4),(.sl 5)],false⟩
theorem j1k:q0J Go.Proofs.Tryz.prog 42 0 2 f42=true:=by kernel_rfl
theorem z89(ng ns nc i:Int)(x:Instr):q5A ng ns nc i x=if q1D ng ns x=false then 172 else if(q6D x&&(decide (q04 x≤i)||decide (nc≤q04 x)))=true then 174 else 0:=by
  unfold q5A
  by_cases g:1≤x.op∧x.op<18
  · rw[if_pos g]
    obtain⟨op,a,b⟩:=x
    have key:∀(p:Bool),(if p=true then(0:Int) else 172)=172↔p=false:=by intro p;cases p <;> simp
    rcases z4c g with h|h|h|h|h|h|h|h|h|h|h|h|h|h|h|h|h <;>
      (simp only at h;subst h;simp [q2g,z9s,nth,q0S,q1D,q6D,q04];try grind)
  · rw[if_neg g]
    have hn:=opn g
    simp [q1D,hn]
def K46(K:Cx):Prop:=∀(sh:List Shape)(gl:List Glob)(x:Instr),K.call 28 [q2m sh gl,insA x]=some (.d false (.bool (q1D gl.length sh.length x)),[])
def K47(K:Cx):Prop:=∀ x:Instr,K.call 84 [insA x]=some (.d false (.bool (q6D x)),[])
def K48(K:Cx):Prop:=∀ x:Instr,K.call 32 [insA x]=some (.d false (.int .i64 (q04 x)),[])
def K49(K:Cx):Prop:=∀(sh:List Shape)(gl:List Glob)(x:Instr)(d:Int),(1≤d∧d≤8000)→(x.op=9→0≤x.a∧x.a<sh.length)→K.call 29 [q2m sh gl,insA x,.d false (.int .i64 d)]=some (.d false (.bool (q3L sh x d)),[])
def K50(K:Cx):Prop:=∀(sh:List Shape)(gl:List Glob)(x:Instr)(d:Int),(1≤d∧d≤8000)→(x.op=4∨x.op=5∨x.op=8→0≤x.a∧x.a≤9223372036854775807)→(x.op=9∨x.op=10→0≤x.a∧x.a<sh.length∧0≤q0R sh x.a∧q0R sh x.a≤8)→
  K.call 31 [q2m sh gl,insA x,.d false (.int .i64 d)]=some (.d false (.int .i64 (q06 sh x d)),[])
def K51(K:Cx):Prop:=∀ x:Instr,K.call 30 [insA x]=some (.d false (.bool (q5D x)),[])
def q1x(sh:List Shape)(gl:List Glob)(cd:List Instr)(r:Int):Ex×S:=if r=0 then(.exit 0,⟨[(1,.d false (.sl 3 (cd.map q0j)))],[],0,[]⟩) else(.ret,⟨[(4,.d false (.int .i64 r))],[],0,[]⟩)
theorem q86(K:Cx)(h46:K46 K)(h47:K47 K)(h48:K48 K)(sh:List Shape)(gl:List Glob)(cd:List Instr)(hl:cd.length≤8000) :
   ∀(k i:Nat),i+k=cd.length→
    lp K 0 [1,2,5] f41_L0 ⟨[(1,.d false (.sl 3 (cd.map q0j))),(2,.ptr 0 0 0),(5,.d false (.int .i64 i))],
      [(0,.mix 2 [[.d false (.sl 2 (sh.map q0c)),.d false (.sl 3 (gl.map q0l))]])],1,[]⟩ =
    some (q1x sh gl cd (q1S gl.length sh.length cd.length cd k i)):=by
  intro k
  induction k with
  |zero=>
    intro i hi
    rw[q0I f41_L0.eq_1]
    simp only[q1S]
    rw[show q1x sh gl cd 0=(.exit 0,⟨[(1,.d false (.sl 3 (cd.map q0j)))],[],0,[]⟩) from rfl]
    simp(disch:=first|decide|omega|(simp only[LN];first|done|omega)) only[SV,SW,Nat.reduceBEq]
  |succ k ih=>
    intro i hi
    have hcast:((i+1:Nat):Int)=(i:Int)+1:=by omega
    have hlt:i<cd.length:=by omega
    have ih:=ih (i+1) (by omega)
    rw[hcast] at ih
    rw[q0I f41_L0.eq_1]
    simp only[q1S]
    rw[z89]
    generalize hx:nth cd (i:Int)=x
    have c46:=h46 sh gl x
    have c47:=h47 x
    have c48:=h48 x
    generalize q1D gl.length sh.length x=b1 at c46
    generalize q6D x=b2 at c47
    generalize q04 x=t at c48
    have o1:q1x sh gl cd 172=(.ret,⟨[(4,.d false (.int .i64 172))],[],0,[]⟩):=rfl
    have o2:q1x sh gl cd 174=(.ret,⟨[(4,.d false (.int .i64 174))],[],0,[]⟩):=rfl
    unfold q2m at c46
    unfold insA at c46 c47 c48
    cases b1 with
    |false=>
      simp only[if_true,Int.reduceEq,if_false,o1]
      simp(disch:=first|decide|omega|(simp only[LN];first|done|omega)) only[SV,SW,Nat.reduceBEq,Nat.reduceAdd,hx,q0e,q0d,c46]
    |true=>
      cases b2 with
      |false=>
        simp only[Bool.true_eq_false,Bool.false_eq_true,Bool.false_and,if_true,if_false]
        simp(disch:=first|decide|omega|(simp only[LN];first|done|omega)) only[SV,SW,Nat.reduceBEq,Nat.reduceAdd,hx,q0e,q0d,c46,c47,c48]
        exact ih
      |true=>
        by_cases g1:t≤i
        · have e1:decide (t≤(i:Int))=true:=by simpa using g1
          simp only[e1,Bool.true_eq_false,Bool.true_or,Bool.and_self,if_true,if_false,Int.reduceEq,o2]
          simp(disch:=first|decide|omega|(simp only[LN];first|done|omega)) only[SV,SW,Nat.reduceBEq,Nat.reduceAdd,hx,q0e,q0d,c46,c47,c48]
        · have e1:decide (t≤(i:Int))=false:=by simpa using g1
          by_cases g2:(cd.length:Int)≤t
          · have e2:decide ((cd.length:Int)≤t)=true:=by simpa using g2
            simp only[e1,e2,Bool.true_eq_false,Bool.or_true,Bool.and_self,if_true,if_false,Int.reduceEq,o2]
            simp(disch:=first|decide|omega|(simp only[LN];first|done|omega)) only[SV,SW,Nat.reduceBEq,Nat.reduceAdd,hx,q0e,q0d,c46,c47,c48]
          · have e2:decide ((cd.length:Int)≤t)=false:=by simpa using g2
            simp only[e1,e2,Bool.true_eq_false,Bool.false_eq_true,Bool.or_self,Bool.and_false,if_true,if_false]
            simp(disch:=first|decide|omega|(simp only[LN];first|done|omega)) only[SV,SW,Nat.reduceBEq,Nat.reduceAdd,hx,q0e,q0d,c46,c47,c48]
            exact ih
def q3j(ng:Nat)(sh:List Shape)(cd:List Instr):Int:=if q1S ng sh.length cd.length cd cd.length 0=0 then(if cd.length=0 then 174 else 0) else q1S ng sh.length cd.length cd cd.length 0
theorem z0t(K:Cx)(h46:K46 K)(h47:K47 K)(h48:K48 K)(sh:List Shape)(gl:List Glob)(cd:List Instr)(hl:cd.length≤8000) :
    q0o K f41 [q2m sh gl,.d false (.sl 3 (cd.map q0j))] []=some (.d false (.int .i64 (q3j gl.length sh cd)),[],[]):=by
  have l0:=q86 K h46 h47 h48 sh gl cd hl cd.length 0 (by omega)
  simp only[Int.natCast_zero] at l0
  unfold q3j q2m
  generalize q1S gl.length sh.length cd.length cd cd.length 0=r at l0
  by_cases h:r=0
  · subst h
    rw[show q1x sh gl cd 0=(.exit 0,⟨[(1,.d false (.sl 3 (cd.map q0j)))],[],0,[]⟩) from rfl] at l0
    rw[if_pos rfl]
    by_cases hz:cd.length=0
    · rw[if_pos hz]
      have:((cd.length:Int)==0)=true:=by simp [hz]
      simp(disch:=first|decide|omega|(simp only[LN];first|done|omega)) only[SV,SW,f41,Nat.reduceAdd,Nat.reduceBEq,l0,this,q0b]
    · rw[if_neg hz]
      have:((cd.length:Int)==0)=false:=by simpa using hz
      clear hz
      simp(disch:=first|decide|omega|(simp only[LN];first|done|omega)) only[SV,SW,f41,Nat.reduceAdd,Nat.reduceBEq,l0,this,q0b]
  · rw[if_neg h]
    rw[show q1x sh gl cd r=(.ret,⟨[(4,.d false (.int .i64 r))],[],0,[]⟩) by unfold q1x;rw[if_neg h]] at l0
    clear h
    simp(disch:=first|decide|omega|(simp only[LN];first|done|omega)) only[SV,SW,f41,Nat.reduceAdd,Nat.reduceBEq,l0,q0b]
theorem q4X{Dp:List Int}{at_ d:Int}(h0:0≤at_)(h1:at_<Dp.length)(h:q1g Dp at_ d=true):q0L Dp at_ d=Dp.set at_.toNat d:=by
  unfold q0L
  split
  · rfl
  · rename_i hn
    unfold q1g at h
    rw[if_neg hn] at h
    have hd:nth Dp at_=d:=by simpa using h
    have:Dp[at_.toNat]'(by omega)=d:=by
      rw[←hd];unfold nth;rw[List.getD_eq_getElem?_getD,List.getElem?_eq_getElem (by omega)];rfl
    rw[←this,List.set_getElem_self]
def q8o(n:Nat)(c:Bool)(Dp:List Int)(r:Int):Ex×S:=if r=0 then(.exit 0,⟨[(6,.bsl 0 0 n)],[(0,.dat c 1 (Dp.map eInt))],1,[]⟩) else(.ret,⟨[(4,.bsl 0 0 n),(5,.d false (.int .i64 r))],[(0,.dat c 1 (Dp.map eInt))],1,[]⟩)
theorem q9A(n c Dp):q8o n c Dp 0=(.exit 0,⟨[(6,.bsl 0 0 n)],[(0,.dat c 1 (Dp.map eInt))],1,[]⟩):=rfl
theorem q1C(n c Dp):q8o n c Dp 173=(.ret,⟨[(4,.bsl 0 0 n),(5,.d false (.int .i64 173))],[(0,.dat c 1 (Dp.map eInt))],1,[]⟩):=rfl
theorem q31(n c Dp):q8o n c Dp 174=(.ret,⟨[(4,.bsl 0 0 n),(5,.d false (.int .i64 174))],[(0,.dat c 1 (Dp.map eInt))],1,[]⟩):=rfl
theorem q3i(Dp:List Int)(at_ d:Int):(q1g Dp at_ d=true∧(nth Dp at_ != 0&&nth Dp at_ != d)=false)∨(q1g Dp at_ d=false∧(nth Dp at_ != 0)=true∧(nth Dp at_ != d)=true):=by
  unfold q1g
  by_cases h:nth Dp at_=0
  · left;simp [h]
  · rw[if_neg h]
    by_cases g:nth Dp at_=d
    · left;simp [g]
    · right;simp [h,g]
set_option maxHeartbeats 4000000 in
theorem z5v(K:Cx)(h48:K48 K)(h49:K49 K)(h50:K50 K)(h51:K51 K)(sh:List Shape)(gl:List Glob)(nm:List UInt8)(ar:Int)(cd:List Instr)(hl:cd.length≤8000)(hs:ShOk sh)(hn:∀ i:Nat,i<cd.length→NumOk sh.length cd.length i (nth cd i))(hw:∀ x∈cd,x.a≤9223372036854775807) :
   ∀(k i:Nat) (c:Bool) (Dp:List Int),i+k=cd.length→Dp.length=cd.length→DpOk Dp→∃ c' Dp',Dp'.length=cd.length∧
    lp K 0 [2,3,6,7] f42_L0 ⟨[(2,.ptr 0 0 0),(3,.ptr 1 0 0),(6,.bsl 2 0 cd.length),(7,.d false (.int .i64 i))],
      [(0,.mix 2 [[.d false (.sl 2 (sh.map q0c)),.d false (.sl 3 (gl.map q0l))]]),(1,.mix 3 [[.d false (.str nm),.d false (.int .i64 ar),.d false (.sl 3 (cd.map q0j))]]),(2,.dat c 1 (Dp.map eInt))],3,[]⟩ =
    some (q8o cd.length c' Dp' (depL sh cd k i Dp)):=by
  intro k
  induction k with
  |zero=>
    intro i c Dp hi hD hok
    refine⟨c,Dp,hD,?_⟩
    rw[q0I f42_L0.eq_1]
    simp(disch:=first|decide|omega|(simp only[LN];first|done|omega)) only[SV,SW,Nat.reduceBEq,depL,q9A]
  |succ k ih=>
    intro i c Dp hi hD hok
    have hcast:((i+1:Nat):Int)=(i:Int)+1:=by omega
    have hlt:i<cd.length:=by omega
    have hx0:=hn i hlt
    have hw0:=hw (nth cd i) (q1h (by omega) (by omega))
    have hdr:=hok (nth Dp i) (q1h (by omega) (by omega))
    rw[q0I f42_L0.eq_1]
    simp only[depL]
    generalize hx:nth cd (i:Int)=x at hx0 hw0
    generalize hd:nth Dp (i:Int)=d at hdr
    by_cases g0:d=0
    · subst g0
      rw[if_pos rfl]
      refine⟨c,Dp,hD,?_⟩
      clear ih hn hs hok hx0 hw0 hw hdr
      simp(disch:=first|decide|omega|(simp only[LN];first|done|omega)) only[SV,SW,Nat.reduceBEq,Nat.reduceAdd,hx,q0e,lose,hd,q0q,q31]
    rw[if_neg g0]
    have b0:(d==0)=false:=by simpa using g0
    rw[q4c hx0.op (by omega)]
    have hrg0:=fun h=>q4d (d:=d) hs hx0 (by omega) h
    rw[q4c hx0.op (by omega)] at hrg0
    have c49:=h49 sh gl x d (by omega) (fun h=>hx0.con (.inl h))
    have c50:=h50 sh gl x d (by omega) (fun h=>⟨hx0.cnt (by omega),hw0⟩) (fun ho=>⟨(hx0.con ho).1,(hx0.con ho).2,hs _ (q1h (hx0.con ho).1 (hx0.con ho).2)⟩)
    have c51:=h51 x
    have c48:=h48 x
    have hj:=hx0.jmp
    have ht:=hx0.tst
    have hop:=hx0.op
    clear hx0 hw0
    generalize q3L sh x d=nb at c49 hrg0
    generalize q06 sh x d=nx at c50 hrg0
    unfold q2m at c49 c50
    unfold insA at c48 c49 c50 c51
    simp only at hrg0 ⊢
    cases nb with
    |false=>
      rw[if_pos (by simp)]
      refine⟨c,Dp,hD,?_⟩
      clear ih hn hs hok hw hdr hj ht hop hrg0 g0
      simp(disch:=first|decide|omega|(simp only[LN];first|done|omega)) only[SV,SW,Nat.reduceBEq,Nat.reduceAdd,hx,q0e,lose,hd,q0q,b0,q0d,c49,q1C]
    |true=>
      by_cases gx:8000<nx
      · have e1:decide (8000<nx)=true:=by simpa using gx
        rw[if_pos (by simp;omega)]
        refine⟨c,Dp,hD,?_⟩
        clear ih hn hs hok hw hdr hj ht hop hrg0 g0
        simp(disch:=first|decide|omega|(simp only[LN];first|done|omega)) only[SV,SW,Nat.reduceBEq,Nat.reduceAdd,hx,q0e,lose,hd,q0q,b0,q0d,c49,c50,q1C]
      · have e1:decide (8000<nx)=false:=by simpa using gx
        have e1':decide (nx≤8000)=true:=by simp;omega
        have hrg:=hrg0 (by simp;omega)
        rw[if_neg (by simp;omega)]
        clear hrg0
        have ih:=fun c Dp=>ih (i+1) c Dp (by omega)
        rw[hcast] at ih
        by_cases gg:q6M x=true
        · rw[if_pos gg]
          have⟨n13,n16,n17⟩:x.op≠13∧x.op≠16∧x.op≠17:=by
            simp [q6M] at gg;omega
          have en:q5D x=false:=by simp [q5D];omega
          rw[en] at c51
          have b13:(x.op != 13)=true:=by simpa using n13
          by_cases gl1:(i:Int)+1=cd.length
          · rw[if_pos gl1]
            have bl1:decide ((cd.length:Int)≤(i:Int)+1)=true:=by simp;omega
            refine⟨c,Dp,hD,?_⟩
            clear ih hn hs hok hw hdr hj ht hop g0 gl1 gg
            simp(disch:=first|decide|omega|(simp only[LN];first|done|omega)) only[SV,SW,Nat.reduceBEq,Nat.reduceAdd,hx,q0e,lose,hd,q0q,b0,q0d,c49,c50,c51,c48,b13,bl1,q31]
          · rw[if_neg gl1]
            have bl1:decide ((cd.length:Int)≤(i:Int)+1)=false:=by simp;omega
            have gl2:(i:Int)+1<cd.length:=by omega
            clear gl1
            have hq:=q3i Dp ((i:Int)+1) nx
            have hcast':((i:Int)+1)=((i+1:Nat):Int):=by omega
            rcases hq with⟨q1,q2⟩|⟨q1,q2,q3⟩
            · have q2':=q2
              rw[hcast'] at q2'
              rw[if_neg (by simp [q1])]
              have hset:=q4X (Dp:=Dp) (at_:=(i:Int)+1) (d:=nx) (by omega) (by omega) q1
              rw[q4R] at hset
              have hok1:DpOk (q0L Dp ((i:Int)+1) nx):=q2F hok (by omega)
              have hlen1:=q1W Dp ((i:Int)+1) nx
              generalize q0L Dp ((i:Int)+1) nx=D1 at hset hok1 hlen1
              by_cases gt:x.op=14∨x.op=15
              · have ht:=ht gt
                have hti:q2l x=x.b:=by simp only[q2l];rw[if_neg n13,if_pos gt]
                have htr:q04 x=x.b:=by simp only[q04];rw[if_neg n13,if_pos gt]
                rw[hti,if_pos (by omega)]
                rw[htr] at c48
                rcases q3i D1 x.b nx with⟨w1,w2⟩|⟨w1,w2,w3⟩
                · rw[if_neg (by simp [w1])]
                  have hset2:=q4X (Dp:=D1) (at_:=x.b) (d:=nx) (by omega) (by omega) w1
                  have hok2:DpOk (q0L D1 x.b nx):=q2F hok1 (by omega)
                  have hlen2:=q1W D1 x.b nx
                  generalize q0L D1 x.b nx=D2 at hset2 hok2 hlen2
                  obtain⟨c',Dp',hlen,ih⟩:=ih c D2 (by omega) hok2
                  refine⟨c',Dp',hlen,?_⟩
                  rw[hset2,hset] at ih ⊢
                  rw[hset] at w2
                  have z:0≤x.b:=by omega
                  clear hn hs hok hw hdr hj hop g0 gg hset hset2 hok1 hok2 q1 w1
                  simp(disch:=first|decide|omega|(simp only[LN];first|done|omega)) only[SV,SW,Nat.reduceBEq,Nat.reduceAdd,hx,q0e,lose,hd,q0q,b0,q0d,c49,c50,c51,c48,b13,q2',q6Q,w2,reduceCtorEq,Nat.reduceEqDiff]
                  exact ih
                · rw[if_pos w1]
                  rw[hset] at w2 w3
                  refine⟨c,Dp.set (i+1) nx,by simp [hD],?_⟩
                  have z:0≤x.b:=by omega
                  clear ih hn hs hok hw hdr hj hop g0 gg hset hok1 q1 w1
                  simp(disch:=first|decide|omega|(simp only[LN];first|done|omega)) only[SV,SW,Nat.reduceBEq,Nat.reduceAdd,hx,q0e,lose,hd,q0q,b0,q0d,c49,c50,c51,c48,b13,q2',q6Q,w2,w3,q1C]
              · have hti:q2l x=0:=by simp only[q2l];rw[if_neg n13,if_neg gt]
                have htr:q04 x=-1:=by simp only[q04];rw[if_neg n13,if_neg gt]
                rw[hti,if_neg (by omega)]
                rw[htr] at c48
                obtain⟨c',Dp',hlen,ih⟩:=ih c D1 (by omega) hok1
                refine⟨c',Dp',hlen,?_⟩
                rw[hset] at ih ⊢
                clear hn hs hok hw hdr hj ht hop g0 gg hset hok1 q1 gt
                simp(disch:=first|decide|omega|(simp only[LN];first|done|omega)) only[SV,SW,Nat.reduceBEq,Nat.reduceAdd,hx,q0e,lose,hd,q0q,b0,q0d,c49,c50,c51,c48,Int.reduceNeg,b13,q2',q6Q,reduceCtorEq,Nat.reduceEqDiff]
                exact ih
            · have q2':=q2
              have q3':=q3
              rw[hcast'] at q2' q3'
              rw[if_pos q1]
              refine⟨c,Dp,hD,?_⟩
              clear ih hn hs hok hw hdr hj ht hop g0 gg q1
              simp(disch:=first|decide|omega|(simp only[LN];first|done|omega)) only[SV,SW,Nat.reduceBEq,Nat.reduceAdd,hx,q0e,lose,hd,q0q,b0,q0d,c49,c50,c51,c48,b13,q2',q3',q1C]
        · rw[if_neg gg]
          have hop:x.op=13∨x.op=16∨x.op=17:=by
            simp [q6M] at gg;omega
          have on:(!q5D x&&x.op != 13)=false:=by
            rcases hop with h|h|h <;> simp [q5D,h]
          by_cases g13:x.op=13
          · have ht:=hj g13
            have hti:q2l x=x.a:=by simp only[q2l];rw[if_pos g13]
            have htr:q04 x=x.a:=by simp only[q04];rw[if_pos g13]
            have en:q5D x=false:=by simp [q5D,g13]
            have b13:(x.op != 13)=false:=by simp [g13]
            rw[hti,if_pos (by omega)]
            rw[htr] at c48
            rw[en] at c51
            rcases q3i Dp x.a nx with⟨w1,w2⟩|⟨w1,w2,w3⟩
            · rw[if_neg (by simp [w1])]
              have hset2:=q4X (Dp:=Dp) (at_:=x.a) (d:=nx) (by omega) (by omega) w1
              have hok2:DpOk (q0L Dp x.a nx):=q2F hok (by omega)
              have hlen2:=q1W Dp x.a nx
              generalize q0L Dp x.a nx=D2 at hset2 hok2 hlen2
              obtain⟨c',Dp',hlen,ih⟩:=ih c D2 (by omega) hok2
              refine⟨c',Dp',hlen,?_⟩
              rw[hset2] at ih ⊢
              have z:0≤x.a:=by omega
              clear hn hs hok hw hdr hj hop g0 gg hset2 hok2 w1 on
              simp(disch:=first|decide|omega|(simp only[LN];first|done|omega)) only[SV,SW,Nat.reduceBEq,Nat.reduceAdd,hx,q0e,lose,hd,q0q,b0,q0d,c49,c50,c51,c48,b13,w2,q6Q,reduceCtorEq,Nat.reduceEqDiff]
              exact ih
            · rw[if_pos w1]
              refine⟨c,Dp,hD,?_⟩
              have z:0≤x.a:=by omega
              clear ih hn hs hok hw hdr hj hop g0 gg w1 on
              simp(disch:=first|decide|omega|(simp only[LN];first|done|omega)) only[SV,SW,Nat.reduceBEq,Nat.reduceAdd,hx,q0e,lose,hd,q0q,b0,q0d,c49,c50,c51,c48,b13,w2,w3,q1C]
          · have hti:q2l x=0:=by simp only[q2l];rw[if_neg g13,if_neg (by omega)]
            have htr:q04 x=-1:=by simp only[q04];rw[if_neg g13,if_neg (by omega)]
            have en:q5D x=true:=by simp [q5D];omega
            rw[hti,if_neg (by omega)]
            rw[htr] at c48
            rw[en] at c51
            obtain⟨c',Dp',hlen,ih⟩:=ih c Dp hD hok
            refine⟨c',Dp',hlen,?_⟩
            clear hn hs hok hw hdr hj ht hop g0 gg on g13
            simp(disch:=first|decide|omega|(simp only[LN];first|done|omega)) only[SV,SW,Nat.reduceBEq,Nat.reduceAdd,hx,q0e,lose,hd,q0q,b0,q0d,c49,c50,c51,c48,Int.reduceNeg,reduceCtorEq,Nat.reduceEqDiff]
            exact ih
def K28(K:Cx):Prop:=∀(sh:List Shape)(gl:List Glob)(nm:List UInt8)(ar:Int)(cd:List Instr),cd.length≤8000→0<cd.length→0≤ar∧ar≤24→ShOk sh→(∀ i:Nat,i<cd.length→NumOk sh.length cd.length i (nth cd i))→(∀ x∈cd,x.a≤9223372036854775807)→
  ∃ cc U,K.call 42 [q2m sh gl,.agg [.d false (.str nm),.d false (.int .i64 ar),.d false (.sl 3 (cd.map q0j))]]=some (.tup [.d cc (.sl 1 U),.d false (.int .i64 (depL sh cd cd.length 0 ((List.replicate cd.length 0).set 0 (ar+1))))],[])
theorem z5b(K:Cx)(h48:K48 K)(h49:K49 K)(h50:K50 K)(h51:K51 K)(sh:List Shape)(gl:List Glob)(nm:List UInt8)(ar:Int)(cd:List Instr)(hl:cd.length≤8000)(h0:0<cd.length)(har:0≤ar∧ar≤24)(hs:ShOk sh)(hn:∀ i:Nat,i<cd.length→NumOk sh.length cd.length i (nth cd i))(hw:∀ x∈cd,x.a≤9223372036854775807) :
    ∃ cc U,q0o K f42 [q2m sh gl,.agg [.d false (.str nm),.d false (.int .i64 ar),.d false (.sl 3 (cd.map q0j))]] []=some (.tup [.d cc (.sl 1 U),.d false (.int .i64 (depL sh cd cd.length 0 ((List.replicate cd.length 0).set 0 (ar+1))))],[],[]):=by
  obtain⟨c',Dp',hlen,l0⟩:=z5v K h48 h49 h50 h51 sh gl nm ar cd hl hs hn hw cd.length 0 true ((List.replicate cd.length 0).set 0 (ar+1)) (by omega) (by simp) (by
    intro v hv
    rcases List.mem_or_eq_of_mem_set hv with h1|h1
    · rw[List.mem_replicate] at h1;omega
    · omega)
  simp only[Int.natCast_zero] at l0
  have dv:=z1n sh cd cd.length 0 ((List.replicate cd.length 0).set 0 (ar+1))
  generalize depL sh cd cd.length 0 ((List.replicate cd.length 0).set 0 (ar+1))=r at l0 dv
  refine⟨c',Dp'.map eInt,?_⟩
  unfold q2m
  clear hn hs hw
  rcases dv with rfl|rfl|rfl
  · rw[q9A] at l0
    simp(disch:=first|decide|omega|(simp only[LN];first|done|omega)) only[SV,SW,f42,Nat.reduceAdd,Nat.reduceBEq,q75,z2v,Int.toNat_zero,q0q,q6Q,lose,reduceCtorEq,Nat.reduceEqDiff,l0,q0b,hNew,V.forget,V.drop1,V.ref0,V.newR,q0d]
  · rw[q1C] at l0
    simp(disch:=first|decide|omega|(simp only[LN];first|done|omega)) only[SV,SW,f42,Nat.reduceAdd,Nat.reduceBEq,q75,z2v,Int.toNat_zero,q0q,q6Q,lose,reduceCtorEq,Nat.reduceEqDiff,l0,q0b,hNew,V.forget,V.drop1,V.ref0,V.newR,q0d]
  · rw[q31] at l0
    simp(disch:=first|decide|omega|(simp only[LN];first|done|omega)) only[SV,SW,f42,Nat.reduceAdd,Nat.reduceBEq,q75,z2v,Int.toNat_zero,q0q,q6Q,lose,reduceCtorEq,Nat.reduceEqDiff,l0,q0b,hNew,V.forget,V.drop1,V.ref0,V.newR,q0d]
end Go.Vm
end

section
namespace Go.Vm
end Go.Vm
end

section
namespace Go.Vm
/- 'sloth/slothlaw17.CodeEnds' -/
end Go.Vm
end

section
namespace Go.Vm
structure TabOk(t:Table):Prop where
 sh:(t.shapes.length:Int)≤9223372036854775807
 gl:(t.globals.length:Int)≤9223372036854775807
 cd:∀ g∈t.globals,(g.code.length:Int)≤9223372036854775807
 sn:∀ s∈t.shapes,(s.name.length:Int)≤9223372036854775807
 gn:∀ g∈t.globals,(g.name.length:Int)≤9223372036854775807
 wd:∀ g∈t.globals,∀ x∈g.code,x.a≤9223372036854775807
def K20(K:Cx):Prop:=∀(t:Table),TabOk t→K.call 34 [.agg [.d false (.sl 2 (t.shapes.map q0c)),.d false (.sl 3 (t.globals.map q0l))]]=some (.d false (.bool (q2M t)),[])
def K22(K:Cx):Prop:=K.call 36 []=some (.bsl 0 0 7,[.dat true 2 (givenS.map q0c)])
def K23(K:Cx):Prop:=∀(sh:List Shape)(gl:List Glob)(nm:List UInt8)(ar:Int)(cd:List Instr),ShOk sh→cd.length≤8000→0≤ar∧ar≤24→(∀ x∈cd,x.a≤9223372036854775807)→
 K.call 37 [.agg [.d false (.sl 2 (sh.map q0c)),.d false (.sl 3 (gl.map q0l))],.agg [.d false (.str nm),.d false (.int .i64 ar),.d false (.sl 3 (cd.map q0j))]]=some (.d false (.int .i64 (q1l gl.length sh ⟨nm,ar,cd⟩)),[])
def q3a(r:Int):Ex×S:=if r=0 then(.exit 6,⟨[],[],0,[]⟩) else(.ret,⟨[(2,.d false (.int .i64 r))],[],0,[]⟩)
theorem z2G(K:Cx)(h23:K23 K)(t:Table)(hl:t.globals.length≤2000)(hs:ShOk t.shapes)(hg:∀ g∈t.globals,g.code.length≤8000∧(0≤g.arity∧g.arity≤24)∧∀ x∈g.code,x.a≤9223372036854775807):∀(k i:Nat),i+k=t.globals.length→
  lp K 0 [1,104,105,106] f13_L3 ⟨[(1,.ptr 0 0 0),(104,.d false (.sl 3 (t.globals.map q0l))),(105,.d false (.int .i64 t.globals.length)),(106,.d false (.int .i64 i))],[(0,.mix 2 [[.d false (.sl 2 (t.shapes.map q0c)),.d false (.sl 3 (t.globals.map q0l))]])],1,[]⟩ =
  some (q3a (q3P t.globals.length t.shapes (t.globals.drop i))):=by
 intro k
 induction k with
 |zero=>
  intro i hi
  rw[q0I f13_L3.eq_1,List.drop_of_length_le (by omega)]
  simp only[q3P]
  rw[show q3a 0=(.exit 6,⟨[],[],0,[]⟩) from rfl]
  simp(disch:=first|decide|omega|(simp only[LN];first|done|omega)) only[SV,SW,Nat.reduceBEq]
 |succ k ih=>
  intro i hi
  have hcast:((i+1:Nat):Int)=(i:Int)+1:=by omega
  have hlt:i<t.globals.length:=by omega
  rw[q0I f13_L3.eq_1,q0F hlt]
  obtain⟨g1,g2,g3⟩:=hg _ (q1h (l:=t.globals) (i:=(i:Int)) (by omega) (by omega))
  have ih:=ih (i+1) (by omega)
  rw[hcast] at ih
  simp only[q3P]
  generalize hgg:nth t.globals (i:Int)=g at g1 g2 g3
  have hc:=h23 t.shapes t.globals g.name g.arity g.code hs g1 g2 g3
  rw[show(⟨g.name,g.arity,g.code⟩:Glob)=g from rfl] at hc
  generalize q1l t.globals.length t.shapes g=r at hc
  clear g1 g2 g3 hg
  by_cases g0:r=0
  ·subst g0
   rw[if_pos rfl]
   simp(disch:=first|decide|omega|(simp only[LN];first|done|omega)) only[SV,SW,Nat.reduceBEq,Nat.reduceAdd,hgg,q0k,lose,q0d,hc]
   exact ih
  ·rw[if_neg g0]
   have d0:(r != 0)=true:=by simpa using g0
   have ho:q3a r=(.ret,⟨[(2,.d false (.int .i64 r))],[],0,[]⟩):=by unfold q3a;rw[if_neg g0]
   clear g0
   simp(disch:=first|decide|omega|(simp only[LN];first|done|omega)) only[SV,SW,Nat.reduceBEq,Nat.reduceAdd,hgg,q0k,lose,q0d,hc,d0,ho]
theorem q9W:∀ l,q02 (q17 l)=false
 |[]=>rfl
 |_ :: _=>rfl
theorem q77(H nx b l):mcB H nx b (.map (q17 l))=some (put H b (.map []),.junk,.none,nx):=z4u H nx b _ (q9W l)
theorem z7n(K:Cx)(h20:K20 K)(h21:K21 K)(h22:K22 K)(h23:K23 K)(t:Table)(ht:TabOk t) :
  q0o K f13 [.agg [.d false (.sl 2 (t.shapes.map q0c)),.d false (.sl 3 (t.globals.map q0l))]] []=some (.d false (.int .i64 (q5v t)),[],[]):=by
 have hc:=h20 t ht
 unfold q5v
 cases hgr:q2M t with
 |true=>
  rw[hgr] at hc
  rw[if_pos rfl]
  simp(disch:=first|decide|omega|(simp only[LN];first|done|omega)) only[SV,SW,f13,Nat.reduceAdd,Nat.reduceBEq,q0d,hc,q0b]
 |false=>
  rw[hgr] at hc
  rw[if_neg (by simp)]
  obtain⟨q1,q2,q3⟩:=z1a hgr
  have l0:=q92 K h21 t q1 ht.sn t.shapes.length 0 [] (by omega)
  simp only[Int.natCast_zero,List.drop_zero,q8W,List.nil_append] at l0
  cases hn1:q0B 8 (t.shapes.map fun s=>(s.name,s.fields)) [] with
  |false=>
   rw[if_pos rfl]
   rw[hn1,q1v] at l0
   clear hgr
   simp(disch:=first|decide|omega|(simp only[LN];first|done|omega)) only[SV,SW,f13,Nat.reduceAdd,Nat.reduceBEq,q0d,hc,reduceCtorEq,l0,q0b]
  |true=>
   rw[if_neg (by simp)]
   rw[hn1,q57] at l0
   have l1:=z4O K t q1 (t.shapes.map (·.name)) 7 0 rfl
   simp only[Int.natCast_zero] at l1
   unfold q6K
   cases hh:q47 t.shapes 7 0 with
   |false=>
    rw[if_pos rfl]
    rw[hh,q4v] at l1
    unfold K22 at h22
    simp(disch:=first|decide|omega|(simp only[LN];first|done|omega)) only[SV,SW,f13,Nat.reduceAdd,Nat.reduceBEq,q0d,hc,reduceCtorEq,l0,h22,V.new2,V.newR,V.shift,Nat.reduceEqDiff,l1,q0b]
   |true=>
    rw[if_neg (by simp)]
    rw[hh,q9l] at l1
    unfold K22 at h22
    have l2:=z2r K h21 t q2 ht.gn t.globals.length 0 [] (by omega)
    simp only[Int.natCast_zero,List.drop_zero,q8W] at l2
    cases hn2:q0B 24 (t.globals.map fun g=>(g.name,g.arity)) [] with
    |false=>
     rw[if_pos rfl]
     rw[hn2,q1Z] at l2
     simp(disch:=first|decide|omega|(simp only[LN];first|done|omega)) only[SV,SW,f13,Nat.reduceAdd,Nat.reduceBEq,q0d,hc,reduceCtorEq,l0,h22,V.new2,V.newR,V.shift,Nat.reduceEqDiff,l1,q77,lose,l2,q0b]
    |true=>
     rw[if_neg (by simp)]
     rw[hn2,q7E] at l2
     have m1:=q2Z _ _ _ hn1
     have m2:=q2Z _ _ _ hn2
     have l3:=z2G K h23 t q2 (fun s hs=>(m1 (s.name,s.fields) (List.mem_map.2 ⟨s,hs,rfl⟩)).2) (fun g hg=>⟨q3 g hg,(m2 (g.name,g.arity) (List.mem_map.2 ⟨g,hg,rfl⟩)).2,ht.wd g hg⟩) t.globals.length 0 (by omega)
     simp only[Int.natCast_zero,List.drop_zero] at l3
     generalize q3P t.globals.length t.shapes t.globals=r at l3
     by_cases g0:r=0
     ·subst g0
      rw[show q3a 0=(.exit 6,⟨[],[],0,[]⟩) from rfl] at l3
      clear m1 m2 q3
      simp(disch:=first|decide|omega|(simp only[LN];first|done|omega)) only[SV,SW,f13,Nat.reduceAdd,Nat.reduceBEq,q0d,hc,reduceCtorEq,l0,h22,V.new2,V.newR,V.shift,Nat.reduceEqDiff,l1,q77,lose,l2,l3,q0b]
     ·rw[show q3a r=(.ret,⟨[(2,.d false (.int .i64 r))],[],0,[]⟩) by unfold q3a;rw[if_neg g0]] at l3
      clear m1 m2 q3 g0
      simp(disch:=first|decide|omega|(simp only[LN];first|done|omega)) only[SV,SW,f13,Nat.reduceAdd,Nat.reduceBEq,q0d,hc,reduceCtorEq,l0,h22,V.new2,V.newR,V.shift,Nat.reduceEqDiff,l1,q77,lose,l2,l3,q0b]
end Go.Vm
end

section
namespace Go.Vm
/- 'sloth/slothref17.Check' -/
def f14_L0:C:= (.seq (.seq (.reg [⟨[],[(27,(.bin .lss (.sl 5) (.len false (.ld 1 false (.fa 1 (.sl 1))))))],[],none,[1,5],5,[],[],[]⟩]) (.cond (.sl 27) .skip (.seq (.tidy 0 []) (.exit 0)))) (.seq (.block 1 (.seq (.reg [⟨[],[(4,(.call 41 (.cons (.ld 2 true (.sl 1)) (.cons (.ld 1 false (.fa 2 (.ia 3 (.ld 1 false (.fa 1 (.sl 1))) (.sl 5)))) .nil))))],[],none,[1,5],9,[[],[],[1],[],[3,1,2],[2,1,3,4],[4,3,1,2,5],[5,2,1,3,4,6,0],[0,6,4,3,1,2,5,7]],[],[]⟩]) (.seq (.seq (.reg [⟨[],[(39,(.bin .neq (.sl 4) (.int .i64 0)))],[],none,[1,4,5],2,[],[],[]⟩]) (.cond (.sl 39) (.seq (.reg [⟨[],[(2,(.sl 4))],[],none,[],2,[],[],[]⟩]) (.seq (.tidy 0 [2]) .ret)) .skip)) (.seq (.reg [⟨[],[(7,(.ext 1 (.call 42 (.cons (.ld 2 true (.sl 1)) (.cons (.ld 3 true (.ia 3 (.ld 1 false (.fa 1 (.sl 1))) (.sl 5))) .nil)))))],[(.ext 0 (.call 42 (.cons (.ld 2 true (.sl 1)) (.cons (.ld 3 true (.ia 3 (.ld 1 false (.fa 1 (.sl 1))) (.sl 5))) .nil))))],none,[1,5],12,[[],[],[1],[],[3,1,2],[2,1,3,4],[4,3,1,2,5,0],[0,5,2,1,3,4,6],[6,4,3,1,2,5,0,7],[6,4,3,1,2,5,0,7],[7,0,5,2,1,3,4,6,8],[8,10,7,0,5,2,1,3,4,6,9]],[],[]⟩]) (.seq (.reg [⟨[],[(52,(.bin .neq (.sl 7) (.int .i64 0)))],[],none,[1,5,7],2,[],[],[]⟩]) (.cond (.sl 52) (.seq (.reg [⟨[],[(2,(.sl 7))],[],none,[],2,[],[],[]⟩]) (.seq (.tidy 0 [2]) .ret)) .skip)))))) (.reg [⟨[],[(5,(.bin .add (.sl 5) (.int .i64 1)))],[],none,[1],3,[],[],[]⟩])))
def f14:Fun:=⟨ (.seq (.reg [⟨[(1,.box (.sl 0))],[],[(.int .i64 0)],none,[1],2,[],[],[]⟩]) (.seq (.reg [⟨[],[(3,(.call 38 (.cons (.ld 2 true (.sl 1)) .nil)))],[],none,[1],3,[],[],[]⟩]) (.seq (.seq (.reg [⟨[],[(10,(.sl 3))],[],none,[1],1,[],[],[]⟩]) (.cond (.sl 10) (.seq (.reg [⟨[],[(2,(.int .i64 4))],[],none,[],1,[],[],[]⟩]) (.seq (.tidy 0 [2]) .ret)) .skip)) (.seq (.reg [⟨[],[(4,(.call 39 (.cons (.ld 1 false (.fa 0 (.sl 1))) .nil)))],[],none,[1],4,[],[],[]⟩]) (.seq (.seq (.reg [⟨[],[(15,(.bin .neq (.sl 4) (.int .i64 0)))],[],none,[1,4],2,[],[],[]⟩]) (.cond (.sl 15) (.seq (.reg [⟨[],[(2,(.sl 4))],[],none,[],2,[],[],[]⟩]) (.seq (.tidy 0 [2]) .ret)) .skip)) (.seq (.reg [⟨[],[(4,(.call 40 (.cons (.ld 1 false (.fa 1 (.sl 1))) .nil)))],[],none,[1],4,[],[],[]⟩]) (.seq (.seq (.reg [⟨[],[(21,(.bin .neq (.sl 4) (.int .i64 0)))],[],none,[1,4],2,[],[],[]⟩]) (.cond (.sl 21) (.seq (.reg [⟨[],[(2,(.sl 4))],[],none,[],2,[],[],[]⟩]) (.seq (.tidy 0 [2]) .ret)) .skip)) (.seq (.seq (.reg [⟨[],[(5,(.int .i64 0))],[],none,[1],1,[],[],[]⟩]) (.block 0 (.seq (.tidy 0 [1,5]) (.loop (.seq (.tidy 0 [1,5]) f14_L0))))) (.seq (.reg [⟨[],[(2,(.int .i64 0))],[],none,[],1,[],[],[]⟩]) (.seq (.tidy 0 [2]) .ret)))))))))), [(.sl 2)],false⟩
theorem j1F:q0J Go.Proofs.Tryz.prog 14 0 1 f14=true:=by kernel_rfl
def K24(K:Cx):Prop:=∀(t:Table),TabOk t→K.call 38 [q2m t.shapes t.globals]=some (.d false (.bool (q2M t)),[])
def K25(K:Cx):Prop:=∀(l:List Shape),(l.length:Int)≤9223372036854775807→(∀ s∈l,(s.name.length:Int)≤9223372036854775807)→K.call 39 [.d false (.sl 2 (l.map q0c))]=some (.d false (.int .i64 (q4g l)),[])
def K26(K:Cx):Prop:=∀(l:List Glob),(l.length:Int)≤9223372036854775807→(∀ s∈l,(s.name.length:Int)≤9223372036854775807)→K.call 40 [.d false (.sl 3 (l.map q0l))]=some (.d false (.int .i64 (q6H l)),[])
def K27(K:Cx):Prop:=∀(sh:List Shape)(gl:List Glob)(cd:List Instr),cd.length≤8000→K.call 41 [q2m sh gl,.d false (.sl 3 (cd.map q0j))]=some (.d false (.int .i64 (q3j gl.length sh cd)),[])
def q1b(r:Int):Ex×S:=if r=0 then(.exit 0,⟨[],[],0,[]⟩) else(.ret,⟨[(2,.d false (.int .i64 r))],[],0,[]⟩)
theorem z0A(K:Cx)(h27:K27 K)(h28:K28 K)(t:Table)(hl:t.globals.length≤2000)(hs:ShOk t.shapes)(hg:∀ g∈t.globals,g.code.length≤8000∧(0≤g.arity∧g.arity≤24)∧∀ x∈g.code,x.a≤9223372036854775807):∀(k i:Nat),i+k=t.globals.length→
    lp K 0 [1,5] f14_L0 ⟨[(1,.ptr 0 0 0),(5,.d false (.int .i64 i))],[(0,.mix 2 [[.d false (.sl 2 (t.shapes.map q0c)),.d false (.sl 3 (t.globals.map q0l))]])],1,[]⟩ =
    some (q1b (q3P t.globals.length t.shapes (t.globals.drop i))):=by
  intro k
  induction k with
  |zero=>
    intro i hi
    rw[q0I f14_L0.eq_1,List.drop_of_length_le (by omega)]
    simp only[q3P]
    rw[show q1b 0=(.exit 0,⟨[],[],0,[]⟩) from rfl]
    simp(disch:=first|decide|omega|(simp only[LN];first|done|omega)) only[SV,SW,Nat.reduceBEq]
  |succ k ih=>
    intro i hi
    have hcast:((i+1:Nat):Int)=(i:Int)+1:=by omega
    have hlt:i<t.globals.length:=by omega
    rw[q0I f14_L0.eq_1,q0F hlt]
    obtain⟨g1,g2,g3⟩:=hg _ (q1h (l:=t.globals) (i:=(i:Int)) (by omega) (by omega))
    have ih:=ih (i+1) (by omega)
    rw[hcast] at ih
    simp only[q3P]
    generalize hgg:nth t.globals (i:Int)=g at g1 g2 g3
    have c27:=h27 t.shapes t.globals g.code g1
    unfold q1l
    unfold q3j at c27
    unfold q2m at c27
    by_cases z:q1S t.globals.length t.shapes.length g.code.length g.code g.code.length 0=0
    · rw[if_pos z] at c27
      simp only[if_pos z]
      by_cases z2:g.code.length=0
      · rw[if_pos z2] at c27
        simp only[if_pos z2,Int.reduceEq,if_false]
        rw[show q1b 174=(.ret,⟨[(2,.d false (.int .i64 174))],[],0,[]⟩) from rfl]
        clear z z2 g1 g2 g3 hg
        simp(disch:=first|decide|omega|(simp only[LN];first|done|omega)) only[SV,SW,Nat.reduceBEq,Nat.reduceAdd,hgg,q0k,q0d,c27]
      · rw[if_neg z2] at c27
        simp only[if_neg z2]
        have hok:∀ i:Nat,i<g.code.length→NumOk t.shapes.length g.code.length i (nth g.code i):=fun i hi=>z0Y (z0Z g.code.length 0 z i (by omega) (by omega))
        obtain⟨cc,U,c28⟩:=h28 t.shapes t.globals g.name g.arity g.code g1 (by omega) g2 hs hok g3
        unfold q2m at c28
        generalize depL t.shapes g.code g.code.length 0 ((List.replicate g.code.length 0).set 0 (g.arity+1))=r at c28
        clear z z2 g1 g2 g3 hg hok
        by_cases g0:r=0
        · subst g0
          rw[if_pos rfl]
          simp(disch:=first|decide|omega|(simp only[LN];first|done|omega)) only[SV,SW,Nat.reduceBEq,Nat.reduceAdd,hgg,q0k,q0d,c27,c28]
          exact ih
        · rw[if_neg g0]
          have d0:(r != 0)=true:=by simpa using g0
          have ho:q1b r=(.ret,⟨[(2,.d false (.int .i64 r))],[],0,[]⟩):=by unfold q1b;rw[if_neg g0]
          clear g0
          simp(disch:=first|decide|omega|(simp only[LN];first|done|omega)) only[SV,SW,Nat.reduceBEq,Nat.reduceAdd,hgg,q0k,q0d,c27,c28,d0,ho]
    · rw[if_neg z] at c27
      simp only[if_neg z]
      generalize q1S t.globals.length t.shapes.length g.code.length g.code g.code.length 0=r at c27 z
      have d0:(r != 0)=true:=by simpa using z
      have ho:q1b r=(.ret,⟨[(2,.d false (.int .i64 r))],[],0,[]⟩):=by unfold q1b;rw[if_neg z]
      clear z g1 g2 g3 hg
      simp(disch:=first|decide|omega|(simp only[LN];first|done|omega)) only[SV,SW,Nat.reduceBEq,Nat.reduceAdd,hgg,q0k,q0d,c27,d0,ho]
theorem z5e(K:Cx)(h24:K24 K)(h25:K25 K)(h26:K26 K)(h27:K27 K)(h28:K28 K)(t:Table)(ht:TabOk t) :
    q0o K f14 [q2m t.shapes t.globals] []=some (.d false (.int .i64 (q5v t)),[],[]):=by
  have c24:=h24 t ht
  have c25:=h25 t.shapes ht.sh ht.sn
  have c26:=h26 t.globals ht.gl ht.gn
  unfold q2m at c24 ⊢
  unfold q4g at c25
  unfold q6H at c26
  unfold q5v
  cases hgr:q2M t with
  |true=>
    rw[hgr] at c24
    rw[if_pos rfl]
    simp(disch:=first|decide|omega|(simp only[LN];first|done|omega)) only[SV,SW,f14,Nat.reduceAdd,Nat.reduceBEq,q0d,c24,q0b]
  |false=>
    rw[hgr] at c24
    rw[if_neg (by simp)]
    obtain⟨q1,q2,q3⟩:=z1a hgr
    clear hgr
    cases hn1:q0B 8 (t.shapes.map fun s=>(s.name,s.fields)) [] with
    |false=>
      rw[if_pos rfl]
      rw[hn1,if_pos rfl] at c25
      simp(disch:=first|decide|omega|(simp only[LN];first|done|omega)) only[SV,SW,f14,Nat.reduceAdd,Nat.reduceBEq,q0d,c24,c25,q0b]
    |true=>
      rw[if_neg (by simp)]
      rw[hn1,if_neg (by simp)] at c25
      cases hh:q6K t.shapes with
      |false=>
        rw[if_pos rfl]
        rw[hh,if_pos rfl] at c25
        simp(disch:=first|decide|omega|(simp only[LN];first|done|omega)) only[SV,SW,f14,Nat.reduceAdd,Nat.reduceBEq,q0d,c24,c25,q0b]
      |true=>
        rw[if_neg (by simp)]
        rw[hh,if_neg (by simp)] at c25
        cases hn2:q0B 24 (t.globals.map fun g=>(g.name,g.arity)) [] with
        |false=>
          rw[if_pos rfl]
          rw[hn2,if_pos rfl] at c26
          simp(disch:=first|decide|omega|(simp only[LN];first|done|omega)) only[SV,SW,f14,Nat.reduceAdd,Nat.reduceBEq,q0d,c24,c25,c26,q0b]
        |true=>
          rw[if_neg (by simp)]
          rw[hn2,if_neg (by simp)] at c26
          have m1:=q2Z _ _ _ hn1
          have m2:=q2Z _ _ _ hn2
          have l3:=z0A K h27 h28 t q2 (fun s hs=>(m1 (s.name,s.fields) (List.mem_map.2 ⟨s,hs,rfl⟩)).2) (fun g hg=>⟨q3 g hg,(m2 (g.name,g.arity) (List.mem_map.2 ⟨g,hg,rfl⟩)).2,ht.wd g hg⟩) t.globals.length 0 (by omega)
          simp only[Int.natCast_zero,List.drop_zero] at l3
          generalize q3P t.globals.length t.shapes t.globals=r at l3
          by_cases g0:r=0
          · subst g0
            rw[show q1b 0=(.exit 0,⟨[],[],0,[]⟩) from rfl] at l3
            clear m1 m2 q3
            simp(disch:=first|decide|omega|(simp only[LN];first|done|omega)) only[SV,SW,f14,Nat.reduceAdd,Nat.reduceBEq,q0d,c24,c25,c26,l3,q0b]
          · rw[show q1b r=(.ret,⟨[(2,.d false (.int .i64 r))],[],0,[]⟩) by unfold q1b;rw[if_neg g0]] at l3
            clear m1 m2 q3 g0
            simp(disch:=first|decide|omega|(simp only[LN];first|done|omega)) only[SV,SW,f14,Nat.reduceAdd,Nat.reduceBEq,q0d,c24,c25,c26,l3,q0b]
end Go.Vm
end

section
namespace Go.Vm
def K13(K:Cx):Prop:=∀ t:Table,TabOk t→K.call 13 [.agg [.d false (.sl 2 (t.shapes.map q0c)),.d false (.sl 3 (t.globals.map q0l))]]=some (.d false (.int .i64 (q5v t)),[])
end Go.Vm
end
