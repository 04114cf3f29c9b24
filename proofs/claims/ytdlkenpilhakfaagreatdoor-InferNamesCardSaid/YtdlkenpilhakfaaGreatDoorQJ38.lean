/- . -/
import Derived.Test.YtdlkenpilhakfaaGreatDoorChecked
import Derived.Test.YtdlkenpilhakfaaGreatDoorQJ16
import Derived.Test.YtdlkenpilhakfaaGreatDoorQJ37
import Derived.Test.YtdlkenpilhakfaaGreatDoorQJ14
import Derived.Test.YtdlkenpilhakfaaGreatDoorQGrow
import Derived.Test.YtdlkenpilhakfaaGreatDoorQLxD
import Derived.Test.YtdlkenpilhakfaaGreatDoorQLexGl
import Derived.Test.YtdlkenpilhakfaaGreatDoorQLexBk
import Derived.Test.YtdlkenpilhakfaaGreatDoorQRefH
import Derived.Test.YtdlkenpilhakfaaGreatDoorQRefI
import Derived.Test.YtdlkenpilhakfaaGreatDoorQJ17
import Derived.Lib.ItoaLen
set_option linter.unusedSimpArgs false
set_option linter.unusedVariables false
set_option maxHeartbeats 8000000
set_option maxRecDepth 20000
open And renaming intro->eV
open Bool renaming and_eq_true->bG
open Go.Builtin renaming zeroCells->qo
open Go.IntKind renaming i64->aN
open Go.Lib renaming run_append_grow_zeros->vQ,wpList_append_run->vR
open Go.RowKit.Below renaming refl->ep
open List renaming all_eq_true->cU,append_assoc->dt,append_nil->cw,flatten_cons->dW,getElem?_append_left->cI,getElem?_eq_getElem->aO,getElem?_eq_some_iff->aL,getElem_mem->bt,length_append->bD,length_cons->bk,length_nil->cN,length_pos_iff->jR,map->ik,map_append->dv,map_cons->cx,map_nil->du,mem_cons->cA,mem_cons_of_mem->bS,mem_cons_self->bu,mem_map->eu,nil_append->eH,not_mem_nil->jj,take_length->oX,take_of_length_le->eT,take_succ_cons->dZ,take_zero->cV
open Nat renaming add_assoc->ji,add_sub_cancel_left->ft,le_refl->aA,le_trans->bE,mul_add->jl,reduceAdd->dI,zero_le->bC
open Go.Proofs.Tryz
namespace Go.Proofs.YtdlkenpilhakfaaGreatDoor
open Go.RowKit Go.Lamb
def c145:AC:=rsq [.o 4 (.box (.k (.agg [.c (.str []),.c (.int .i64 0)]))),.o 5 (.af zF)] (.seq (rsq [.m 9 0,.o 10 (.aR 9),.o 11 (.af (zK 0))] (.block 0 (.loop (rsq [.o 12 (.bin .lss 11 10)] (.seq (.cond 12 .skip (.exit 0)) (.seq (.block 1 (rsq [.o 13 (.aI 2 9 11),.d 14 2 13,.o 7 (.box (.k (.agg [.c (.str []),.c (.int .i64 0)]))),.s 2 7 14] (rif [.m 15 1,.d 16 2 7,.o 17 (.call 15 [16])] 17 (rsq [.d 18 2 7,.s 2 4 18,.o 5 (.af zT)] .ret) .skip))) (.aH [.o 19 (.bin .add 11 (zK 1)),.m 11 19]))))))) (rsq [.o 8 (.box (.k (.agg [.c (.str []),.c (.int .i64 0)])))] (rsq [.d 20 2 8,.s 2 4 20,.o 5 (.af zF)] .ret)))
def Jz:List aw:=[.br 2 4,.tmp 5]
theorem Ts:aB prog 145 2 Tryz.f145 c145 Jz:=.auto func145
def c146:AC:=rsq [.o 2 (.box 0),.o 3 (.af zF)] (rsq [.f 4 0 2,.l 5 4,.l 6 1,.o 7 (.bin .eql 5 6),.m 3 7] .ret)
def JA:List aw:=[.tmp 3]
theorem Tt:aB prog 146 2 Tryz.f146 c146 JA:=.auto func146
def JB:AC:=rsq [.o 2 (.box 0),.o 3 (.box 1),.o 4 (.af (zK 0)),.o 5 (.af zF)] (rsq [.f 9 0 2,.l 10 9,.o 11 (.gA 146 [3]),.k 12 145 [10,11],.m 8 12,.x 13 8 0,.x 14 8 1,.o 6 (.box (.k (.agg [.c (.str []),.c (.int .i64 0)]))),.s 2 6 13,.m 7 14] (rsq [.f 15 1 6,.l 16 15,.m 17 7,.m 4 16,.m 5 17] .ret))
def JC:List aw:=[.tmp 4,.tmp 5]
theorem Tu:aB prog 100 2 Tryz.f100 JB JC:=.auto func100
def JD:AC:=rsq [.o 4 (.box (.k (.agg [.c (.str []),.c (.int .i64 0),.c (.str []),.c (.int .i64 0),.ab []]))),.o 5 (.af zF)] (.seq (rsq [.m 9 0,.o 10 (.aR 9),.o 11 (.af (zK 0))] (.block 0 (.loop (rsq [.o 12 (.bin .lss 11 10)] (.seq (.cond 12 .skip (.exit 0)) (.seq (.block 1 (rsq [.o 13 (.aI 5 9 11),.d 14 5 13,.o 7 (.box (.k (.agg [.c (.str []),.c (.int .i64 0),.c (.str []),.c (.int .i64 0),.ab []]))),.s 5 7 14] (rif [.m 15 1,.d 16 5 7,.o 17 (.call 15 [16])] 17 (rsq [.d 18 5 7,.s 5 4 18,.o 5 (.af zT)] .ret) .skip))) (.aH [.o 19 (.bin .add 11 (zK 1)),.m 11 19]))))))) (rsq [.o 8 (.box (.k (.agg [.c (.str []),.c (.int .i64 0),.c (.str []),.c (.int .i64 0),.ab []])))] (rsq [.d 20 5 8,.s 5 4 20,.o 5 (.af zF)] .ret)))
def Cf:List aw:=[.br 5 4,.tmp 5]
theorem Tv:aB prog 50 2 Tryz.f50 JD Cf:=.auto func50
def c51:AC:=rsq [.o 2 (.box 0),.o 3 (.af zF)] (rsq [.f 4 0 2,.l 5 4,.l 6 1,.o 7 (.bin .eql 5 6),.m 3 7] .ret)
def JE:List aw:=[.tmp 3]
theorem Tw:aB prog 51 2 Tryz.f51 c51 JE:=.auto func51
def JF:AC:=rsq [.o 2 (.box 0),.o 3 (.box 1),.o 4 (.box (.k (.agg zS4))),.o 5 (.af zF)] (rsq [.f 9 1 2,.l 10 9,.o 11 (.gA 51 [3]),.k 12 50 [10,11],.m 8 12,.x 13 8 0,.x 14 8 1,.o 6 (.box (.k (.agg [.c (.str []),.c (.int .i64 0),.c (.str []),.c (.int .i64 0),.ab []]))),.s 5 6 13,.m 7 14] (rsq [.f 15 1 6,.d 16 4 15,.m 17 7,.s 4 4 16,.m 5 17] .ret))
def JG:List aw:=[.br 4 4,.tmp 5]
theorem Tx:aB prog 15 2 Tryz.f15 JF JG:=.auto func15
def JH:AC:=rsq [.o 2 (.box 0),.o 3 (.box 1),.o 4 (.af zF)] (.seq (rsq [.d 8 3 2,.f 9 1 3,.l 10 9,.k 11 100 [8,10],.m 7 11,.x 12 7 0,.x 13 7 1,.m 5 12,.m 6 13] (rif [.f 14 0 3,.l 15 14,.o 16 (.bin .eql 15 (zK 0)),.m 17 16,.y 18 (.af 6) 17,.y 19 (.un .not 18) 17,.y 20 (.af 19) 17,.z 21 (.af 5) 20,.z 22 (.aV 3 3) 20,.z 23 (.aU 22) 20,.z 24 (.aR 23) 20,.z 25 (.bin .neq 21 24) 20,.y 26 (.pick 20 zT 25) 17,.o 27 (.pick 17 26 zF)] 27 (rsq [.o 4 (.af zF)] .ret) .skip)) (rsq [.f 28 3 3,.l 29 28,.o 30 (.gA 144 [2]),.k 31 64 [29,30],.o 32 (.un .not 31),.m 4 32] .ret))
def JI:List aw:=[.tmp 4]
theorem Ty:aB prog 99 2 Tryz.f99 JH JI:=.auto func99
def JJ:AC:=rsq [.o 2 (.box 0),.o 3 (.af zF)] (rsq [.d 4 3 1,.d 5 4 2,.k 6 99 [4,5],.o 7 (.un .not 6),.m 3 7] .ret)
def JK:List aw:=[.tmp 3]
theorem Tz:aB prog 144 2 Tryz.f144 JJ JK:=.auto func144
def c53:AC:=rsq [.o 2 (.box 0),.o 3 (.box 1),.o 4 (.af zF)] (rsq [.d 5 4 3,.k 6 24 [5],.m 7 6,.y 8 (.eK 3 2) 7,.y 9 (.eK 4 3) 7,.y 10 (.call (.k (.fn 99 [])) [8,9]) 7,.o 11 (.pick 7 10 zF),.m 4 11] .ret)
def JL:List aw:=[.tmp 4]
theorem TA:aB prog 53 2 Tryz.f53 c53 JL:=.auto func53
def JM:AC:=rsq [.o 6 (.af (zK 0))] (.seq (.block 0 (rif [.m 8 0,.o 9 (.un .not 8),.m 7 9] 7 (rsq [.o 6 (.af (zK 113))] .ret) (rif [.m 11 1,.m 10 11] 10 (rsq [.o 6 (.af (zK 110))] .ret) (rif [.m 13 2,.o 14 (.bin .geq 13 (zK 1024)),.m 12 14] 12 (rsq [.o 6 (.af (zK 112))] .ret) .skip)))) (rsq [.o 6 (.af (zK 0))] .ret))
def JN:List aw:=[.tmp 6]
theorem TB:aB prog 101 3 Tryz.f101 JM JN:=.auto func101
def JO:AC:=rsq [.o 3 (.box 0),.o 4 (.box 1),.o 6 (.box (.k (.agg [.ab [],.ab [],.ab []]))),.o 7 (.af (zK 0))] (rsq [.o 8 (.af (zK 0))] (.seq (rsq [.f 14 0 4,.l 15 14] (.block 0 (rif [.o 17 (.bin .eql 15 (zK 0)),.m 16 17] 16 (rsq [.d 19 3 3,.m 20 2,.k 21 100 [19,20],.m 18 21,.x 22 18 0,.x 23 18 1,.m 9 22,.m 10 23] (.seq (drg [.m 24 2,.k 25 62 [24],.m 26 25,.y 27 (.aV 2 4) 26,.y 28 (.aU 27) 26,.y 29 (.bin .geq 28 (zK 0)) 26,.o 30 (.pick 26 29 zF),.m 31 10,.f 32 0 3,.l 33 32,.o 34 (.aR 33),.k 35 101 [30,31,34],.m 8 35] [0,101,202,203,204,205,206,7,8,9,10,311,412]) (drg [.f 36 0 3,.l 37 36,.k 38 102 [37],.m 39 2,.f 40 2 4,.l 41 40,.o 42 (.build [.c (.str []),.c (.int .i64 0)] [(0,1,39),(1,1,41)]),.o 43 (.bo 2 [42]),.o 44 (.app 106 2 24 38 43),.f 45 0 3,.s 1 45 44] [0,1,102,3,4,5,6,7,308,409,510]))) (rif [.o 47 (.bin .eql 15 (zK 1)),.m 46 47] 46 (rsq [.d 49 3 3,.m 50 2,.k 51 15 [49,50],.m 48 51,.x 52 48 0,.x 53 48 1,.o 11 (.box (.k (.agg zS4))),.s 4 11 52,.m 12 53] (.seq (drg [.m 54 2,.k 55 62 [54],.m 56 55,.z 57 (.af 2) 56,.z 58 (.call (.k (.fn 103 [])) [57]) 56,.o 59 (.pick 56 zT 58),.m 60 12,.f 61 1 3,.l 62 61,.o 63 (.aR 62),.k 64 101 [59,60,63],.m 8 64] [0,101,202,203,304,405,6,7,8,9,510,611]) (drg [.f 65 1 3,.l 66 65,.k 67 104 [66],.m 68 2,.f 69 3 4,.d 70 4 69,.o 71 (.build [.c (.str []),.c (.int .i64 0),.c (.str []),.c (.int .i64 0),.ab []] [(0,1,68),(1,4,70)]),.o 72 (.bo 5 [71]),.o 73 (.app 50 5 72 67 72),.f 74 1 3,.s 1 74 73] [0,1,102,3,4,5,6,7,308,409,510]))) (rif [.o 76 (.bin .eql 15 (zK 2)),.m 75 76] 75 (rsq [.f 77 7 4,.d 78 3 77,.o 13 (.box (.k (.agg [.c (.str []),.c (.int .i64 0),.c (.int .i64 0)]))),.s 3 13 78] (rsq [.m 79 2,.f 80 0 13,.s 1 80 79] (.aH [.f 82 2 3,.l 83 82,.d 84 3 13,.k 85 105 [83,84],.m 81 85,.x 86 81 0,.x 87 81 1,.f 88 2 3,.s 1 88 86,.m 8 87]))) .skip))))) (rsq [.d 89 3 3,.m 90 8,.s 3 6 89,.m 7 90] .ret)))
def JP:List aw:=[.br 3 6,.tmp 7]
theorem TC:aB prog 54 3 Tryz.f54 JO JP:=.auto func54
def JQ:AC:=rsq [.o 1 (.box 0),.o 2 (.box (.k (.agg [.ab [],.ab [],.ab []])))] (.seq (drg [.f 3 0 1,.l 4 3,.k 5 97 [4],.f 6 1 1,.l 7 6,.k 8 81 [7],.f 9 2 1,.l 10 9,.k 11 98 [10],.o 12 (.build [.ab [],.ab [],.ab []] [(0,1,5),(1,1,8),(2,1,11)]),.s 3 2 12] [0,1,102,3,4,305,6,7,508,609,710]) .ret)
def JR:List aw:=[.br 3 2]
theorem TD:aB prog 52 1 Tryz.f52 JQ JR:=.auto func52
def JS:AC:=rsq [.o 2 (.box 0),.o 3 (.box 1),.o 4 (.box (.k (.agg [.ab [],.ab [],.ab []]))),.o 5 (.af (zK 0))] (.seq (.block 0 (rif [.f 12 0 3,.l 13 12,.o 14 (.bin .lss 13 (zK 0)),.m 15 14,.z 16 (.aV 0 3) 15,.z 17 (.aU 16) 15,.z 18 (.bin .gtr 17 (zK 3)) 15,.o 19 (.pick 15 zT 18),.m 11 19] 11 (rsq [.d 20 3 2,.k 21 52 [20],.s 3 4 21,.o 5 (.af (zK 1))] .ret) (rif [.f 23 0 3,.l 24 23,.o 25 (.bin .eql 24 (zK 1)),.m 26 25,.y 27 (.eK 3 2) 26,.y 28 (.aV 3 3) 26,.y 29 (.eK 4 28) 26,.y 30 (.call (.k (.fn 53 [])) [27,29]) 26,.y 31 (.un .not 30) 26,.o 32 (.pick 26 31 zF),.m 22 32] 22 (rsq [.d 33 3 2,.k 34 52 [33],.s 3 4 34,.o 5 (.af (zK 111))] .ret) .skip))) (rsq [.d 35 3 2,.k 36 52 [35],.o 6 (.box (.k (.agg [.ab [],.ab [],.ab []]))),.s 3 6 36] (.seq (rsq [.f 37 1 3,.l 38 37,.o 39 (.aR 38),.o 40 (.af (zK 0))] (.block 1 (.loop (rsq [.o 41 (.bin .lss 40 39)] (.seq (.cond 41 .skip (.exit 1)) (.seq (.block 2 (rsq [.o 42 (.aI 1 38 40),.l 43 42,.m 8 43] (rsq [.d 45 3 6,.d 46 16 3,.m 47 8,.k 48 54 [45,46,47],.m 44 48,.x 49 44 0,.x 50 44 1,.o 9 (.box (.k (.agg [.ab [],.ab [],.ab []]))),.s 3 9 49,.m 10 50] (.seq (rif [.m 51 10,.o 52 (.bin .neq 51 (zK 0))] 52 (rsq [.d 53 3 2,.k 54 52 [53],.m 55 10,.s 3 4 54,.m 5 55] .ret) .skip) (.aH [.d 56 3 9,.s 3 6 56]))))) (.aH [.o 57 (.bin .add 40 (zK 1)),.m 40 57]))))))) (rsq [.d 58 3 6,.s 3 4 58,.o 5 (.af (zK 0))] .ret))))
def JT:List aw:=[.br 3 4,.tmp 5]
theorem TE:aB prog 16 2 Tryz.f16 JS JT:=.auto func16
def c159:AC:=rsq [.o 2 (.box (.k (.agg zS4)))] (rsq [.m 3 0,.o 4 (.build zS4 [(1,1,3)]),.s 4 2 4] .ret)
def JU:List aw:=[.br 4 2]
theorem TF:aB prog 159 1 Tryz.f159 c159 JU:=.auto func159
def JV:AC:=rsq [.o 2 (.box 0),.o 4 (.af (.k (.ab [])))] (rsq [.o 5 (.af (.k (.ab [])))] (.seq (rsq [.m 8 1,.o 9 (.aR 8),.o 10 (.af (zK 0))] (.block 0 (.loop (rsq [.o 11 (.bin .lss 10 9)] (.seq (.cond 11 .skip (.exit 0)) (.seq (.block 1 (rsq [.o 12 (.aI 1 8 10),.l 13 12,.m 7 13] (.aH [.m 14 5,.m 15 7,.d 16 4 2,.o 17 (.build [.c (.str []),.c (.int .i64 0),.c (.str []),.c (.int .i64 0),.ab []] [(0,1,15),(1,4,16)]),.o 18 (.bo 5 [17]),.o 19 (.app 50 5 72 14 18),.m 5 19]))) (.aH [.o 20 (.bin .add 10 (zK 1)),.m 10 20]))))))) (rsq [.m 21 5,.m 4 21] .ret)))
def JW:List aw:=[.tmp 4]
theorem TG:aB prog 161 2 Tryz.f161 JV JW:=.auto func161
def JX:AC:=rsq [.o 0 (.box (.k (.agg [.ab [],.ab [],.ab []])))] (rsq [.k 5 159 [(.k (.c (.str [111])))],.k 6 159 [(.k (.c (.str [105,110,116])))],.o 7 (.build zS4 [(0,1,(zK 1))]),.o 1 (.box (.k (.agg zS4))),.o 2 (.box (.k (.agg zS4))),.o 3 (.box (.k (.agg zS4))),.s 4 1 5,.s 4 2 6,.s 4 3 7] (.seq (drg [.d 8 4 1,.d 9 4 1,.d 10 4 1,.o 11 (.bo 4 [9,10]),.k 12 68 [8,11],.o 13 (.bo 1 [(.k (.c (.str [58,45]))),(.k (.c (.str [44]))),(.k (.c (.str [59]))),(.k (.c (.str [61,62])))]),.k 14 161 [12,13],.d 15 4 1,.d 16 4 3,.d 17 4 3,.o 18 (.bo 4 [16,17]),.k 19 68 [15,18],.o 20 (.bo 1 [(.k (.c (.str [61])))]),.k 21 161 [19,20],.d 22 4 1,.d 23 4 2,.d 24 4 2,.o 25 (.bo 4 [23,24]),.k 26 68 [22,25],.o 27 (.bo 1 [(.k (.c (.str [105,115]))),(.k (.c (.str [60]))),(.k (.c (.str [61,60]))),(.k (.c (.str [62]))),(.k (.c (.str [62,61])))]),.k 28 161 [26,27],.d 29 4 2,.d 30 4 2,.d 31 4 2,.o 32 (.bo 4 [30,31]),.k 33 68 [29,32],.o 34 (.bo 1 [(.k (.c (.str [43]))),(.k (.c (.str [45]))),(.k (.c (.str [42]))),(.k (.c (.str [100,105,118]))),(.k (.c (.str [109,111,100])))]),.k 35 161 [33,34],.d 36 4 2,.d 37 4 2,.o 38 (.bo 4 [37]),.k 39 68 [36,38],.o 40 (.bo 1 [(.k (.c (.str [126])))]),.k 41 161 [39,40],.d 42 4 1,.o 43 (.bo 1 [(.k (.c (.str [116,114,117,101]))),(.k (.c (.str [102,97,105,108]))),(.k (.c (.str [33])))]),.k 44 161 [42,43],.d 45 4 1,.d 46 4 1,.d 47 4 3,.o 48 (.bo 4 [47]),.k 49 68 [46,48],.o 50 (.bo 4 [49]),.k 51 68 [45,50],.o 52 (.bo 1 [(.k (.c (.str [112,105]))),(.k (.c (.str [115,105,103,109,97])))]),.k 53 161 [51,52],.o 54 (.bo 1 [14,21,28,35,41,44,53]),.k 55 160 [54],.m 4 55] [0,1,2,3,104,5,306,7,8,9,10,511,12,713,14,15,16,17,918,19,1120,21,22,23,24,1325,26,1527,28,29,30,1731,32,1933,34,35,2136,38,39,40,2341,37,2442,2543,44,2745,2846,2947,3048]) (rsq [.o 56 (.build [.c (.str []),.c (.int .i64 0)] [(0,1,(.k (.c (.str [111]))))]),.o 57 (.build [.c (.str []),.c (.int .i64 0)] [(0,1,(.k (.c (.str [105,110,116]))))]),.o 58 (.bo 2 [56,57]),.m 59 4,.k 60 106 [],.o 61 (.build [.ab [],.ab [],.ab []] [(0,1,58),(1,1,59),(2,1,60)]),.s 3 0 61] .ret)))
def JY:List aw:=[.br 3 0]
theorem TH:aB prog 108 0 Tryz.f108 JX JY:=.auto func108
def JZ:AC:=rsq [.o 2 (.af (.k (.ab [])))] (.seq (rif [.m 3 0,.o 4 (.iu false 3)] 4 (rsq [.o 2 (.af (.k (.ab [])))] .ret) .skip) (rsq [.o 5 (.bo 2 []),.m 6 0,.o 7 (.app 106 2 24 5 6),.m 2 7] .ret))
def TI:List aw:=[.tmp 2]
theorem TJ:aB prog 97 1 Tryz.f97 JZ TI:=.auto func97
def Cg:AC:=rsq [.o 2 (.af (.k (.ab [])))] (.seq (rif [.m 3 0,.o 4 (.iu false 3)] 4 (rsq [.o 2 (.af (.k (.ab [])))] .ret) .skip) (rsq [.o 5 (.bo 5 []),.m 6 0,.o 7 (.app 50 5 72 5 6),.m 2 7] .ret))
def TK:List aw:=[.tmp 2]
theorem J0:aB prog 81 1 Tryz.f81 Cg TK:=.auto func81
def J1:AC:=rsq [.o 2 (.af (.k (.ab [])))] (rsq [.m 3 0,.m 4 0,.o 5 (.aR 4),.m 6 0,.o 7 (.aR 6),.o 8 (.jn 5 3 none (some 5) (some 7)),.m 2 8] .ret)
def J2:List aw:=[.tmp 2]
theorem TL:aB prog 104 1 Tryz.f104 J1 J2:=.auto func104
def J4(t:List Tok)(i:Int)(l:List eA)(e p:Int):ad:=.cells [.c (ph t),I i,.c (oe l),I e,I p]
attribute [local go_sem] J4 jD Bf tD Bg Bh xp
end Go.Proofs.YtdlkenpilhakfaaGreatDoor
namespace Go.Proofs.YtdlkenpilhakfaaGreatDoor
open Go.RowKit Go.Lamb
attribute [local go_sem] xl J4 jD Bf tD Bg Bh xp
def TM:ad:=.cells [I 0,.ab [],I 0,I 0,S [],I 0,.ab [],S [],I 0,I 0,I 0,S [],I 0,.ab [],I 0,I 0]
attribute [local go_sem] TM
end Go.Proofs.YtdlkenpilhakfaaGreatDoor
namespace Go.Proofs.YtdlkenpilhakfaaGreatDoor
open Go.RowKit Go.Lamb
def J5:AC:=rsq [.o 6 (.af (.k (.ab [])))] (rsq [.o 7 (.af (.k (.ab [])))] (.seq (rsq [.m 10 2,.o 11 (.aR 10),.o 12 (.af (zK 0))] (.block 0 (.loop (rsq [.o 13 (.bin .lss 12 11)] (.seq (.cond 13 .skip (.exit 0)) (.seq (.block 1 (rsq [.o 14 (.aI 1 10 12),.l 15 14,.m 9 15] (.aH [.m 16 7,.m 17 9,.m 18 0,.m 19 1,.o 20 (.build [.c (.str []),.c (.int .i64 0),.c (.int .i64 0)] [(0,1,17),(1,1,18),(2,1,19)]),.o 21 (.bo 3 [20]),.o 22 (.app 60 3 32 16 21),.m 7 22]))) (.aH [.o 23 (.bin .add 12 (zK 1)),.m 12 23]))))))) (rsq [.m 24 7,.m 6 24] .ret)))
def J6:List aw:=[.tmp 6]
theorem TN:aB prog 151 3 Tryz.f151 J5 J6:=.auto func151
def J7:AC:=rsq [.o 2 (.af (.k (.ab [])))] (rsq [.o 3 (.af (zK 0))] (.seq (rsq [.m 9 0,.o 10 (.aR 9),.o 11 (.af (zK 0))] (.block 0 (.loop (rsq [.o 12 (.bin .lss 11 10)] (.seq (.cond 12 .skip (.exit 0)) (.seq (.block 1 (rsq [.o 13 (.aI 1 9 11),.l 14 13,.m 5 14] (rsq [.m 15 3,.m 16 5,.o 17 (.aR 16),.o 18 (.bin .add 15 17),.m 3 18] (rif [.m 19 3,.o 20 (.bin .lss 19 (zK 0))] 20 (.aH [.o 21 .bad,⟨none,.bad,none⟩]) .skip)))) (.aH [.o 22 (.bin .add 11 (zK 1)),.m 11 22]))))))) (rsq [.m 23 3,.k 24 203 [(.k (.ab [])),23],.m 6 24] (.seq (rsq [.m 25 0,.o 26 (.aR 25),.o 27 (.af (zK 0))] (.block 2 (.loop (rsq [.o 28 (.bin .lss 27 26)] (.seq (.cond 28 .skip (.exit 2)) (.seq (.block 3 (rsq [.o 29 (.aI 1 25 27),.l 30 29,.m 8 30] (.aH [.m 31 6,.m 32 8,.o 33 (.app 60 3 32 31 32),.m 6 33]))) (.aH [.o 34 (.bin .add 27 (zK 1)),.m 27 34]))))))) (rsq [.m 35 6,.m 2 35] .ret)))))
def J8:List aw:=[.tmp 2]
theorem TO:aB prog 150 1 Tryz.f150 J7 J8:=.auto func150
def J9:AC:=rsq [.o 0 (.af (.k (.ab [])))] (rsq [.o 1 (.bo 1 [(.k (.c (.str [58,45])))]),.k 2 151 [(zK 10),(zK 0),1],.o 3 (.bo 1 [(.k (.c (.str [59])))]),.k 4 151 [(zK 20),(zK 2),3],.o 5 (.bo 1 [(.k (.c (.str [44])))]),.k 6 151 [(zK 30),(zK 2),5],.o 7 (.bo 1 [(.k (.c (.str [61,62])))]),.k 8 151 [(zK 40),(zK 2),7],.o 9 (.bo 1 [(.k (.c (.str [61]))),(.k (.c (.str [105,115]))),(.k (.c (.str [60]))),(.k (.c (.str [61,60]))),(.k (.c (.str [62]))),(.k (.c (.str [62,61])))]),.k 10 151 [(zK 60),(zK 0),9],.o 11 (.bo 1 [(.k (.c (.str [43]))),(.k (.c (.str [45])))]),.k 12 151 [(zK 80),(zK 1),11],.o 13 (.bo 1 [(.k (.c (.str [42]))),(.k (.c (.str [100,105,118]))),(.k (.c (.str [109,111,100])))]),.k 14 151 [(zK 90),(zK 1),13],.o 15 (.bo 1 [2,4,6,8,10,12,14]),.k 16 150 [15],.m 0 16] .ret)
def Ka:List aw:=[.tmp 0]
theorem TP:aB prog 106 0 Tryz.f106 J9 Ka:=.auto func106
def Kb:AC:=rsq [.o 2 (.box 0),.o 4 (.af (zK 0))] (rsq [.m 7 1,.o 8 (.bin .sub 7 (zK 1)),.m 5 8] (.seq (rsq [.o 6 (.af (zK 0))] (forL 0 1 [.m 9 6,.f 10 3 2,.l 11 10,.o 12 (.aR 11),.o 13 (.bin .lss 9 12),.m 14 13,.y 15 (.af 5) 14,.y 16 (.bin .geq 15 (zK 0)) 14,.o 17 (.pick 14 16 zF)] 17 (.aH [.f 20 3 2,.l 21 20,.m 22 6,.o 23 (.aI 5 21 22),.d 24 5 23,.m 25 5,.k 26 61 [24,25],.m 5 26]) [.m 18 6,.o 19 (.bin .add 18 (zK 1)),.m 6 19])) (rsq [.m 27 5,.m 4 27] .ret)))
def Ch:List aw:=[.tmp 4]
theorem TQ:aB prog 61 2 Tryz.f61 Kb Ch:=.auto func61
def c21:AC:=rsq [.o 2 (.box 0),.o 4 (.af zF)] (rsq [.d 6 5 2,.m 7 1,.k 8 61 [6,7],.m 5 8] (rsq [.m 9 5,.o 10 (.bin .lss 9 (zK 0)),.m 4 10] .ret))
def Kc:List aw:=[.tmp 4]
theorem TS:aB prog 21 2 Tryz.f21 c21 Kc:=.auto func21
theorem Kd{α:Type}{ls:List (List α)}{i:Nat}(h:i<ls.length):(ls.take (i+1)).flatten=(ls.take i).flatten++ls[i]:=by
 rw[List.take_add_one,aO h,List.flatten_append];congr 1;exact cw _
theorem Ke{α:Type}{ls:List (List α)}(i:Nat):(ls.take i).flatten.length<=ls.flatten.length:=by
 have:ls.flatten=(ls.take i).flatten++(ls.drop i).flatten:=by rw[<-List.flatten_append,List.take_append_drop]
 rw[this,bD];omega
theorem Kf{p:ah}{args:List V}(h:∀y∈args,V.Sz y)(hx:p.v∈args):p.l.length<=9223372036854775807:=by
 have:=h _ hx;rw[ah.v,Gc]at this;exact tn (this (.c (.sl (p.l.map ah.cs))) (by simp))
attribute [local go_sem] aa.v aa.aM a7 bh aW aQ aX eC.v eC.cs az.v az.cs kZ gg Sg.v
def ru(o:Option az):V:=.ay [(o.getD .none).ty.v,B o.isSome]
theorem TT(w0:World)(x:az)(name:aY)(σ:H)(b:Nat)(hb:σ[b]?=some (.cells [S name])):DC prog w0 51 [x.v,.ptr b 0] σ (Same (B (x.name==name)) σ):=by
 refine Tw.go rfl (fun hok hsz=>?_);(refine W.a ?_;simp only[go_sem,c51,hG hb]);(refine W.fs (hok) (by simp only[JE,go_sem];rfl) ?_;simp only[al];try exact V.wk.rfl _)
theorem TU(w0:World)(l:List az)(f:FuncId)(caps:List V)(p:az->Bool)(σ:H)(hcaps:∀k,V.low (σ.length+k) (.fn f caps))(hp:∀x L,DC prog w0 f (az.v x::caps) (σ++L) (Same (B (p x)) (σ++L))):
  DC prog w0 50 [.c (gg l),.fn f caps] σ (Same (.ay [((l.find? p).getD .none).v,B (l.find? p).isSome]) σ):=by
 generalize hF:V.fn f caps=F at hcaps;refine Tv.go rfl (fun hok hsz=>?_);have hlen:l.length<=9223372036854775807:=tn (f:=az.cs) (hsz _ (bu ..));(refine W.a ?_;simp only[go_sem,JD]);refine W.bB (fun i=>i<=l.length/\mX p l i) (fun i=>⟨((((((base.put (some 1) (F)).put (some 4) (.ptr σ.length 0)).put (some 5) (B false)).put (some 9) (.c (gg l))).put (some 10) (I l.length)).put (some 11) (I (i:Nat))),σ++[.cells [S [],I 0,S [],I 0,.ab []]]⟩) (fun i=>l.length-i) 0 ⟨bC _,AV⟩ ?_ (fun i hi=>?_)
 ·(refine ao.env ?_;exact aF)
 ·obtain⟨hi,hinv⟩:=hi;by_cases hlt:i<l.length
  ·have h1:((i:Int)<(l.length:Int)):=by omega
   have hx:l[i]?=some l[i]:=aO hlt;have hw:aN.wrap ((i:Int)+1)=((i+1:Nat):Int):=eB hlt hlen;(refine W.a ?_;simp only[go_sem,h1]);refine W.yes rfl (W.a ?_);simp only[go_sem,h1,bQ,hx];refine W.c1 (hp l[i] _) ?_ (hf:=hF.symm);simp only[go_sem];refine W.test rfl (fun h=>?_) (fun h=>?_)
   ·(refine W.a ?_;simp only[go_sem]);rw[QB hinv hlt h];(refine W.fg (hok) (d:=.ay [l[i].v,B true]) (by simp only[Cf,go_sem];rfl) (by simp only[al,go_sem];exact au) ?_);exact⟨rfl,rfl⟩
   ·(refine W.a ?_;simp only[go_sem,hw]);refine .inv ⟨i+1,⟨hlt,AU hinv hlt h⟩,by omega,?_⟩;(refine ao.eN (hok) ?_ (by simp) (by simp) ?_ ?_ ?_;exact aF;((try simp only[okB,bx,go_sem,hcaps])<;>omega);(simp only[bk,cN,dI,dZ,cV,bx,and_true];(repeat' (refine eV ?_ ?_))<;>(first|exact ad.wk.rfl _|exact ad.wk.gone _|(refine ad.eO ?_ rfl;(exact au))));(repeat' (first|exact aZ.base _|(refine aZ.put ?_ (by first|exact .c _|((try simp only[okB,bx,go_sem,hcaps])<;>omega))))))
  ·have h1:¬((i:Int)<(l.length:Int)):=by omega
   (refine W.a ?_;simp only[go_sem,h1]);refine W.no rfl (W.a ?_);simp only[go_sem];rw[QC hinv (by omega)];(refine W.fg (hok) (d:=.ay [az.none.v,B false]) (by simp only[Cf,go_sem,az.none,aa.none];rfl) (by simp only[al,go_sem,az.none,aa.none];exact au) ?_ (hl:=by(first|exact .c _|(simp only[go_sem,az.none,aa.none];done))));exact⟨rfl,rfl⟩
theorem TV(n b f:Nat)(h:b<n)(k:Nat):V.low (n+k) (.fn f [.ptr b 0]):=(wX _ _ _).2 (fun x hx=>by simp only[List.mem_singleton]at hx;subst hx;exact .ptr (by omega))
theorem Ci(w0:World)(s:Sg)(name:aY)(σ:H):DC prog w0 15 [s.v,S name] σ (Same (ru (qY s.types name)) σ):=by
 refine Tx.go rfl (fun hok hsz=>?_);have hc0:=TU w0 s.types 51 [.ptr (σ.length+1) 0] (·.name==name) (σ++[.cells s.v.ai,.cells [S name],.cells [I 0,S [],I 0,.ab []]]) (TV _ _ _ (by simp)) (fun x L=>TT w0 x name _ _ (by rw[dt,bT];rfl));unfold qY ru;generalize s.types.find? (·.name==name)=r at hc0;(refine W.a ?_;simp only[go_sem,JF]);(refine W.c1 (hc0) ?_;simp only[go_sem]);(refine W.fg (hok) (d:=.ay [(r.getD .none).ty.v,B r.isSome]) (by simp only[JG,go_sem];rfl) (by simp only[al,go_sem];exact au) ?_)
 exact⟨rfl,rfl⟩
end Go.Proofs.YtdlkenpilhakfaaGreatDoor
namespace Go.Proofs.YtdlkenpilhakfaaGreatDoor
open Go.RowKit Go.Lamb
def yf:AC:=rsq [.o 2 (.af (.k (.ab [])))] (.seq (rif [.m 3 0,.o 4 (.iu false 3)] 4 (rsq [.o 2 (.af (.k (.ab [])))] .ret) .skip) (rsq [.o 5 (.bo 4 []),.m 6 0,.o 7 (.app 41 4 56 5 6),.m 2 7] .ret))
def TW:List aw:=[.tmp 2]
theorem Cj:aB prog 185 1 Tryz.f185 yf TW:=.auto func185
theorem TX(w0:World)(l:List (List C))(hb3:∀r∈l,r.length=3)(hn:l.length<=1000000)(σ:H):DC prog w0 98 [.c (.sl l)] σ (Same (.aG σ.length l) (σ++[.spare 60 3 l.length])):=by
 refine Tc.dL rfl (fun hok hsz=>?_);have hb1:l.length*32<=140737488355328:=by omega
 have hb2:l.length<=140737488355328:=by omega
 (refine W.a ?_;simp only[go_sem,Je]);refine W.kP rfl rfl rfl (fun b hb=>?_);cases b
 ·(refine W.a ?_;simp only[go_sem]);refine W.no rfl (W.a ?_);simp only[go_sem,hb1,hb2,eq_true hb3,true_or];refine W.ret ⟨_,_,rfl,.rfl _,?_⟩;exact⟨rfl,rfl⟩
 ·have hl:l=[]:=by simpa using hb rfl
  subst hl;(refine W.a ?_;simp only[go_sem]);refine W.yes rfl (W.a ?_);simp only[go_sem];refine W.own 2 60 3 rfl ?_;exact W.ret ⟨_,_,rfl,.rfl _,rfl,rfl⟩
theorem TY(w0:World)(l:List (List C))(hb3:∀r∈l,r.length=2)(hn:l.length<=1000000)(σ:H):DC prog w0 97 [.c (.sl l)] σ (Same (.aG σ.length l) (σ++[.spare 106 2 l.length])):=by
 refine TJ.dL rfl (fun hok hsz=>?_);have hb1:l.length*24<=140737488355328:=by omega
 have hb2:l.length<=140737488355328:=by omega
 (refine W.a ?_;simp only[go_sem,JZ]);refine W.kP rfl rfl rfl (fun b hb=>?_);cases b
 ·(refine W.a ?_;simp only[go_sem]);refine W.no rfl (W.a ?_);simp only[go_sem,hb1,hb2,eq_true hb3,true_or];refine W.ret ⟨_,_,rfl,.rfl _,?_⟩;exact⟨rfl,rfl⟩
 ·have hl:l=[]:=by simpa using hb rfl
  subst hl;(refine W.a ?_;simp only[go_sem]);refine W.yes rfl (W.a ?_);simp only[go_sem];refine W.own 2 106 2 rfl ?_;exact W.ret ⟨_,_,rfl,.rfl _,rfl,rfl⟩
theorem Kg(w0:World)(l:List (List C))(hb3:∀r∈l,r.length=5)(hn:l.length<=1000000)(σ:H):DC prog w0 81 [.c (.sl l)] σ (Same (.aG σ.length l) (σ++[.spare 50 5 l.length])):=by
 refine J0.dL rfl (fun hok hsz=>?_);have hb1:l.length*72<=140737488355328:=by omega
 have hb2:l.length<=140737488355328:=by omega
 (refine W.a ?_;simp only[go_sem,Cg]);refine W.kP rfl rfl rfl (fun b hb=>?_);cases b
 ·(refine W.a ?_;simp only[go_sem]);refine W.no rfl (W.a ?_);simp only[go_sem,hb1,hb2,eq_true hb3,true_or];refine W.ret ⟨_,_,rfl,.rfl _,?_⟩;exact⟨rfl,rfl⟩
 ·have hl:l=[]:=by simpa using hb rfl
  subst hl;(refine W.a ?_;simp only[go_sem]);refine W.yes rfl (W.a ?_);simp only[go_sem];refine W.own 2 50 5 rfl ?_;exact W.ret ⟨_,_,rfl,.rfl _,rfl,rfl⟩
theorem Kh(w0:World)(l:List (List C))(hl0:l=[])(σ:H):DC prog w0 185 [.c (.sl l)] σ (Same (.aG σ.length l) (σ++[.spare 41 4 l.length])):=by
 refine Cj.dL rfl (fun hok hsz=>?_);have hln:l.length=0:=by rw[hl0];rfl
 have hb3:∀r∈l,r.length=4:=fun r hr=>by rw[hl0]at hr;cases hr
 have hb1:l.length*56<=140737488355328:=by omega
 have hb2:l.length<=140737488355328:=by omega
 (refine W.a ?_;simp only[go_sem,yf]);refine W.kP rfl rfl rfl (fun b hb=>?_);cases b
 ·(refine W.a ?_;simp only[go_sem]);refine W.no rfl (W.a ?_);simp only[go_sem,hb1,hb2,eq_true hb3,true_or];refine W.ret ⟨_,_,rfl,.rfl _,?_⟩;exact⟨rfl,rfl⟩
 ·subst hl0;(refine W.a ?_;simp only[go_sem]);refine W.yes rfl (W.a ?_);simp only[go_sem];refine W.own 2 41 4 rfl ?_;exact W.ret ⟨_,_,rfl,.rfl _,rfl,rfl⟩
theorem TZ:(prog.info? 41).map (fun i=>(i.zero,i.size,i.bytes))=some (some (.agg #[.int .i64 0,.string ⟨#[]⟩,.int .i64 0,.slice none 0 0]),4,56):=by kernel_rfl
theorem Ki(w:World)(n:Nat)(hn:n<=30000000000)(zc:Array Value)(hz:zc.size=4):
  (w.alloc (.cells (qo zc n++qo zc (grownCap w n 0 41-n)) 41)).drew.ownsRow w.heap.size 41 4 (.slice (some ⟨w.heap.size,0,none⟩) 0 (grownCap w n 0 41)) 0 []:=by
 have hge:=grownCap_ge w n 0 41;refine⟨by simp,.inr ⟨w.heap.size,_,_,rfl,aA _,heap_alloc_new w _,bC _,grownCap_le_maxLen w n 0 41 (by unfold maxLen;omega),?_,by simp⟩⟩;simp only[Array.size_append,size_zeroCells,hz];omega
set_option maxHeartbeats 4000000 in
set_option maxRecDepth 100000 in
theorem T0(A:Option Addr)(n:Nat)(w:World)(hn:n<=30000000000):Calls prog 178 #[.slice A 0 0,.int .i64 n] w (fun e w'=>∃v,e= .returned v/\Below w.heap.size w w'/\Roomy w w' 41 4 v):=by
 by_cases h0:n=0
 ·subst h0;cases A
  ·go_enter func178,ntmps178
   go_wp2_with fail
   go_ret
   exact⟨_,rfl,ep _ _,.inl ⟨_,rfl⟩⟩
  ·go_enter func178,ntmps178
   go_wp2_with fail
   go_ret
   exact⟨_,rfl,ep _ _,.inl ⟨_,rfl⟩⟩
 ·obtain⟨i0,hi0,hz0,hz1,hz2⟩:=info_parts TZ;have h1:¬((n:Int)<0):=by omega
  have h2:(n:Int)>0:=by omega
  have hw:aN.wrap (n:Int)=n:=by rw[bn]<;>omega
  cases A
  case none=>
   have hr:=vQ (P:=prog) w 39 3 39 41 i0 _ .i64 .i64 underlying39 underlying3 hi0 hz0 none 0 0 [] (nQ (by simp) (by simp)) n (by omega) (by rw[hz1];decide) (by omega) (by omega) (by rw[hz2];omega) (growslice_fits (by omega) (by rw[hz2];omega))
   go_enter func178,ntmps178
   go_wp2_with (first
    |(at_builtin;refine vR w rfl (.tmp 20) (.tmp 21) 39 3 rfl _ _ rfl rfl _ _ hr ?_))
   go_ret
   exact⟨_,rfl,qy w _,.inr (Ki w n hn _ rfl)⟩
  case some a=>
   have hr:=vQ (P:=prog) w 39 3 39 41 i0 _ .i64 .i64 underlying39 underlying3 hi0 hz0 (some a) 0 0 [] (nQ (by simp) (by simp)) n (by omega) (by rw[hz1];decide) (by omega) (by omega) (by rw[hz2];omega) (growslice_fits (by omega) (by rw[hz2];omega))
   go_enter func178,ntmps178
   go_wp2_with (first
    |(at_builtin;refine vR w rfl (.tmp 20) (.tmp 21) 39 3 rfl _ _ rfl rfl _ _ hr ?_))
   go_ret
   exact⟨_,rfl,qy w _,.inr (Ki w n hn _ rfl)⟩
theorem Kj(w0:World)(n:Nat)(hn:n<=30000000000)(σ:H):DC prog w0 178 [.ab [],I n] σ (Same (.aG σ.length []) (σ++[.spare 41 4 0])):=by
 refine DC.zR (lI func178 (by kernel_rfl) rfl) fun κ w vs hrep hfit=>?_;obtain⟨v,ys,rfl,hv,hfit⟩:=hfit.cons_inv;obtain⟨u,zs,rfl,hu,hfit⟩:=hfit.cons_inv;have:=hfit.kI;subst this;cases hv with
 |ab h1=>
  rename_i A;cases hu with
  |c hu=>
   cases hu with
   |int=>exact T0 A n w hn
def rv:AC:=rsq [.o 2 (.box 0),.o 4 (.box (.k (.agg zS4)))] (.seq (rif [.m 6 1,.o 7 (.aR 6),.o 8 (.bin .eql 7 (zK 0))] 8 (rsq [.d 9 4 2,.s 4 4 9] .ret) .skip) (rsq [.d 10 4 2,.o 11 (.bo 4 [10]),.m 5 11] (.seq (rif [.f 12 0 2,.l 13 12,.o 14 (.bin .eql 13 (zK 6)),.m 15 14,.y 16 (.aV 3 2) 15,.y 17 (.aU 16) 15,.y 18 (.aR 17) 15,.y 19 (.bin .gtr 18 (zK 0)) 15,.o 20 (.pick 15 19 zF)] 20 (.aH [.f 21 3 2,.l 22 21,.m 5 22]) .skip) (rsq [.m 23 5,.m 24 1,.o 25 (.bo 1 [23,24]),.k 26 120 [25],.o 27 (.build zS4 [(0,1,(zK 6)),(3,1,26)]),.s 4 4 27] .ret))))
def rA:List aw:=[.br 4 4]
theorem Kk:aB prog 69 2 Tryz.f69 rv rA:=.auto func69
def Ck:AC:=rsq [.o 3 (.box 1),.o 4 (.box (.k (.agg zS4)))] (.seq (rsq [.m 5 0,.o 6 (.mx 5 (zK 0)),.o 7 (.af (zK 0))] (.block 0 (.loop (rsq [.o 8 (.bin .lss 7 6)] (.seq (.cond 8 .skip (.exit 0)) (.seq (.block 1 (.aH [.d 9 4 3,.o 10 (.bo 4 [9]),.o 11 (.build zS4 [(0,1,(zK 5)),(3,1,10)]),.s 4 3 11])) (.aH [.o 12 (.bin .add 7 (zK 1)),.m 7 12]))))))) (rsq [.d 13 4 3,.s 4 4 13] .ret))
def Cl:List aw:=[.br 4 4]
theorem Kl:aB prog 118 2 Tryz.f118 Ck Cl:=.auto func118
def Cm:AC:=rsq [.o 2 (.af (.k (.ab [])))] (rsq [.o 3 (.af (zK 0))] (.seq (rsq [.m 9 0,.o 10 (.aR 9),.o 11 (.af (zK 0))] (.block 0 (.loop (rsq [.o 12 (.bin .lss 11 10)] (.seq (.cond 12 .skip (.exit 0)) (.seq (.block 1 (rsq [.o 13 (.aI 1 9 11),.l 14 13,.m 5 14] (rsq [.m 15 3,.m 16 5,.o 17 (.aR 16),.o 18 (.bin .add 15 17),.m 3 18] (rif [.m 19 3,.o 20 (.bin .lss 19 (zK 0))] 20 (.aH [.o 21 .bad,⟨none,.bad,none⟩]) .skip)))) (.aH [.o 22 (.bin .add 11 (zK 1)),.m 11 22]))))))) (rsq [.m 23 3,.k 24 178 [(.k (.ab [])),23],.m 6 24] (.seq (rsq [.m 25 0,.o 26 (.aR 25),.o 27 (.af (zK 0))] (.block 2 (.loop (rsq [.o 28 (.bin .lss 27 26)] (.seq (.cond 28 .skip (.exit 2)) (.seq (.block 3 (rsq [.o 29 (.aI 1 25 27),.l 30 29,.m 8 30] (.aH [.m 31 6,.m 32 8,.o 33 (.app 41 4 56 31 32),.m 6 33]))) (.aH [.o 34 (.bin .add 27 (zK 1)),.m 27 34]))))))) (rsq [.m 35 6,.m 2 35] .ret)))))
def Cn:List aw:=[.tmp 2]
theorem Km:aB prog 120 1 Tryz.f120 Cm Cn:=.auto func120
def eR:AC:=rsq [.o 1 (.box 0),.o 2 (.af (.k (.ab []))),.o 3 (.af (zK 0))] (.seq (rsq [.f 4 0 1,.l 5 4] (.block 0 (rif [.o 7 (.bin .eql 5 (zK 5)),.m 6 7] 6 (rsq [.f 8 3 1,.l 9 8,.m 2 9,.o 3 (.af (zK 1))] .ret) (rif [.o 11 (.bin .eql 5 (zK 6)),.m 10 11] 10 (rsq [.f 12 3 1,.l 13 12,.m 2 13,.o 3 (.af (zK 0))] .ret) .skip)))) (rsq [.o 2 (.af (.k (.ab []))),.o 3 (.af (zK 0))] .ret))
def uc:List aw:=[.tmp 2,.tmp 3]
theorem Kn:aB prog 77 1 Tryz.f77 eR uc:=.auto func77
def c183:AC:=rsq [.o 1 (.box 0),.o 2 (.af zF)] (rsq [.o 3 (.af zF),.o 4 (.af (zK 0))] (.seq (rsq [.f 5 0 1,.l 6 5] (.block 0 (rif [.o 8 (.bin .eql 6 (zK 0)),.m 7 8] 7 (rsq [.f 9 1 1,.l 10 9,.k 11 62 [10],.m 12 11,.z 13 (.aV 1 1) 12,.z 14 (.aU 13) 12,.z 15 (.call (.k (.fn 103 [])) [14]) 12,.o 16 (.pick 12 zT 15),.m 17 16,.y 18 (.aV 2 1) 17,.y 19 (.aU 18) 17,.y 20 (.bin .eql 19 (zK 0)) 17,.o 21 (.pick 17 20 zF),.m 22 21,.y 23 (.aV 3 1) 22,.y 24 (.aU 23) 22,.y 25 (.aR 24) 22,.y 26 (.bin .eql 25 (zK 0)) 22,.o 27 (.pick 22 26 zF),.m 2 27] .ret) (rif [.o 29 (.bin .eql 6 (zK 1)),.m 28 29] 28 (.aH [.f 30 2 1,.l 31 30,.o 32 (.bin .geq 31 (zK 1)),.m 3 32]) (rif [.o 34 (.bin .eql 6 (zK 2)),.m 33 34] 33 (.aH [.o 3 (.af zT)]) (.seq (rif [.o 36 (.bin .eql 6 (zK 3)),.m 35 36] 35 .skip (.aH [.o 37 (.bin .eql 6 (zK 4)),.m 35 37])) (.cond 35 (.aH [.f 38 2 1,.l 39 38,.o 40 (.bin .geq 39 (zK 0)),.m 41 40,.y 42 (.aV 2 1) 41,.y 43 (.aU 42) 41,.y 44 (.bin .leq 43 (zK 4611686018427387904)) 41,.o 45 (.pick 41 44 zF),.m 3 45]) (rif [.o 47 (.bin .eql 6 (zK 5)),.m 46 47] 46 (.aH [.f 48 2 1,.l 49 48,.o 50 (.bin .eql 49 (zK 0)),.m 3 50,.o 4 (.af (zK 1))]) (rif [.o 52 (.bin .eql 6 (zK 6)),.m 51 52] 51 (drg [.f 53 2 1,.l 54 53,.o 55 (.bin .eql 54 (zK 0)),.m 56 55,.y 57 (.aV 3 1) 56,.y 58 (.aU 57) 56,.y 59 (.aR 58) 56,.y 60 (.bin .geq 59 (zK 2)) 56,.o 61 (.pick 56 60 zF),.m 62 61,.y 63 (.aV 3 1) 62,.y 64 (.aU 63) 62,.y 65 (.aI 4 64 (zK 0)) 62,.y 66 (.aV 0 65) 62,.y 67 (.aU 66) 62,.y 68 (.bin .neq 67 (zK 6)) 62,.o 69 (.pick 62 68 zF),.f 70 3 1,.l 71 70,.o 72 (.aR 71),.m 3 69,.m 4 72] [0,1,2,3,4,5,6,7,8,9,10,11,12,13,14,15,16,17,18,19,20,21]) .skip))))))))) (rsq [.m 73 3,.m 74 73,.y 75 (.aV 1 1) 74,.y 76 (.aU 75) 74,.y 77 (.bin .eql 76 (.k (.c (.str [])))) 74,.o 78 (.pick 74 77 zF),.m 79 78,.y 80 (.aV 3 1) 79,.y 81 (.aU 80) 79,.y 82 (.aR 81) 79,.y 83 (.af 4) 79,.y 84 (.bin .eql 82 83) 79,.o 85 (.pick 79 84 zF),.m 86 85,.y 87 (.aV 3 1) 86,.y 88 (.aU 87) 86,.y 89 (.call (.k (.fn 228 [])) [88,(.k (.fn 229 []))]) 86,.y 90 (.un .not 89) 86,.o 91 (.pick 86 90 zF),.m 2 91] .ret)))
def yg:List aw:=[.tmp 2]
theorem T1:aB prog 183 1 Tryz.f183 c183 yg:=.auto func183
def c229:AC:=rsq [.o 1 (.box 0),.o 2 (.af zF)] (rsq [.d 3 4 1,.k 4 183 [3],.o 5 (.un .not 4),.m 2 5] .ret)
def Ko:List aw:=[.tmp 2]
theorem T2:aB prog 229 1 Tryz.f229 c229 Ko:=.auto func229
def c228:AC:=rsq [.o 4 (.af zF)] (rsq [.m 5 0,.m 6 1,.k 7 260 [5,6],.o 8 (.bin .geq 7 (zK 0)),.m 4 8] .ret)
def Kp:List aw:=[.tmp 4]
theorem T3:aB prog 228 2 Tryz.f228 c228 Kp:=.auto func228
def Kq:AC:=rsq [.o 4 (.af (zK 0))] (.seq (rsq [.m 6 0,.o 7 (.aR 6),.o 8 (.af (zK 0))] (.block 0 (.loop (rsq [.o 9 (.bin .lss 8 7)] (.seq (.cond 9 .skip (.exit 0)) (.seq (.block 1 (rsq [.m 10 8,.m 5 10] (rif [.m 11 1,.m 12 0,.m 13 5,.o 14 (.aI 4 12 13),.d 15 4 14,.o 16 (.call 11 [15])] 16 (rsq [.m 17 5,.m 4 17] .ret) .skip))) (.aH [.o 18 (.bin .add 8 (zK 1)),.m 8 18]))))))) (rsq [.o 4 (.af (.k (.c (.int .i64 (-1)))))] .ret))
def Co:List aw:=[.tmp 4]
theorem T4:aB prog 260 2 Tryz.f260 Kq Co:=.auto func260
attribute [local go_sem] aa.v aa.aM a7 bh aW aQ aX
theorem T5(w0:World)(l:List aa)(f:FuncId)(caps:List V)(p:aa->Bool)(σ:H)(hp:∀o∈l,DC prog w0 f (o.v::caps) σ (Same (B (p o)) σ)):DC prog w0 260 [.c (.sl (l.map aa.cs)),.fn f caps] σ (Same (I (jZ p l)) σ):=by
 refine T4.go rfl (fun hok hsz=>?_);have hlen:=Jh hsz (bu ..) rfl;(refine W.a ?_;simp only[go_sem,Kq]);refine W.bB (fun i=>i<=l.length/\mX p l i) (fun i=>⟨((((base.put (some 0) (.c (.sl (l.map aa.cs)))).put (some 1) (.fn f caps)).put (some 7) (I l.length)).put (some 8) (I i)),σ⟩) (fun i=>l.length-i) 0 ⟨bC _,AV⟩ ?_ (fun i hi=>?_)
 ·(refine ao.env ?_;exact aF)
 ·obtain⟨hi,hinv⟩:=hi;by_cases hlt:i<l.length
  ·have h1:((i:Int)<(l.length:Int)):=by omega
   have hx:l[i]?=some l[i]:=aO hlt;(refine W.a ?_;simp only[go_sem,h1]);refine W.yes rfl (W.a ?_);simp only[go_sem,h1,bQ,hx];(refine W.c1 (hp l[i] (bt hlt)) ?_;simp only[go_sem]);refine W.test rfl (fun h=>?_) (fun h=>?_)
   ·(refine W.a ?_;simp only[go_sem]);(refine W.ret (Fin.same hok (by simp only[bA,Co,go_sem];rfl) ?_ (by first|exact .c _|(simp only[go_sem];done)) (by first|exact⟨[],(cw _).symm⟩|exact⟨_,rfl⟩));simp only[al]);rw[Ge hinv hlt h]
   ·have hw:=eB hlt hlen;(refine W.a ?_;simp only[go_sem,hw]);refine .inv ⟨i+1,⟨hlt,AU hinv hlt h⟩,by omega,?_⟩;(refine ao.env ?_;exact aF)
  ·have h1:¬((i:Int)<(l.length:Int)):=by omega
   (refine W.a ?_;simp only[go_sem,h1]);refine W.no rfl (W.a ?_);simp only[go_sem];(refine W.ret (Fin.same hok (by simp only[bA,Co,go_sem];rfl) ?_ (by first|exact .c _|(simp only[go_sem];done)) (by first|exact⟨[],(cw _).symm⟩|exact⟨_,rfl⟩));simp only[al]);rw[Gf (fun j hj=>hinv j hj (by omega))]
theorem T6(w0:World)(l:List aa)(f:FuncId)(caps:List V)(p:aa->Bool)(σ:H)(hp:∀o∈l,DC prog w0 f (o.v::caps) σ (Same (B (p o)) σ)):DC prog w0 228 [.c (.sl (l.map aa.cs)),.fn f caps] σ (Same (B (l.any p)) σ):=by
 refine T3.go rfl (fun hok hsz=>?_);(refine W.a ?_;simp only[go_sem,c228]);(refine W.c1 (T5 w0 l f caps p σ hp) ?_;simp only[go_sem]);(refine W.fs (hok) (by simp only[Kp,go_sem];rfl) ?_;simp only[al];(first|exact V.wk.rfl _|(refine od ?_;clear hsz hok;rw[Ji]<;>((try simp only[beq_iff_eq,beq_eq_false_iff_ne,ne_eq,decide_eq_true_eq,decide_eq_false_iff_not]at*);first|(exfalso;omega)|(simp[*];done)|(simp[*];omega)|(simp[*])))))
theorem T7(w0:World)(p:aa)(b:Bool)(σ:H)(hp:∀τ,DC prog w0 183 [p.v] τ (Same (B b) τ)):DC prog w0 229 [p.v] σ (Same (B (!b)) σ):=by
 refine T2.go rfl (fun hok hsz=>?_);(refine W.a ?_;simp only[go_sem,c229]);(refine W.c1 (hp _) ?_;simp only[go_sem]);(refine W.fs (hok) (by simp only[Ko,go_sem];rfl) ?_;simp only[al];try exact V.wk.rfl _)
end Go.Proofs.YtdlkenpilhakfaaGreatDoor
namespace Go.Proofs.YtdlkenpilhakfaaGreatDoor
open Go.RowKit Go.Lamb
attribute [local go_sem] aa.v aa.aM a7 bh aW aQ aX
theorem yi(w0:World)(p:aa):∀(σ:H),DC prog w0 183 [p.v] σ (Same (B (bc p)) σ):=by
 refine aa.ind (P:=fun p=>∀(σ:H),DC prog w0 183 [p.v] σ (Same (B (bc p)) σ)) (fun p ih σ=>?_) p;refine T1.go rfl (fun hok hsz=>?_);have hC:=fun σ=>T6 w0 p.l 229 [] (fun q=>!bc q) σ (fun q hq=>T7 w0 q _ _ (fun τ=>ih q hq τ));have l0:=tY (n:=p.l.length) 0;have l1:=tY (n:=p.l.length) 1;simp only[mY,Gg]at l0 l1;by_cases h6:p.k=6
 ·have h6':(p.k==6)=true:=by simpa using h6
  by_cases h2:2<=p.l.length
  ·have h2':((p.l.length:Int)>=2):=by omega
   have h3:((0:Nat):Int)<(p.l.length:Int):=by omega
   have h3':(0:Int)<(p.l.length:Int):=by omega
   have hx:p.l[0]?=some p.l[0]:=aO (by omega);have hh:p.l.head?.getD .none=p.l[0]:=by rw[<-Sf (by omega)];simp
   cases hn:(p.n==0)<;>cases hk:(p.l[0].k !=6)
   all_goals
    ((refine W.a ?_;(try simp only[bne,go_sem,c183,l0,l1,h6',h2',h3,h3',hx,bQ,hn,hk, *]));(repeat' (first|(refine W.yes rfl ?_;(refine W.a ?_;simp only[bne,go_sem,c183,l0,l1,h6',h2',h3,h3',hx,bQ,hn,hk, *]))|(refine W.no rfl ?_;(refine W.a ?_;simp only[bne,go_sem,c183,l0,l1,h6',h2',h3,h3',hx,bQ,hn,hk, *]))|(refine W.c1 (hC _) ?_;simp only[bne,go_sem,c183,l0,l1,h6',h2',h3,h3',hx,bQ,hn,hk, *])|(refine W.jY rfl (fun hT=>?_) (fun hT=>?_)<;>(refine W.a ?_;simp only[bne,go_sem,c183,l0,l1,h6',h2',h3,h3',hx,bQ,hn,hk, *]))|(refine W.test rfl (fun hT=>?_) (fun hT=>?_)<;>(refine W.a ?_;simp only[bne,go_sem,c183,l0,l1,h6',h2',h3,h3',hx,bQ,hn,hk, *]))|(refine kS _ _ _ _ (fun hT=>?_) (fun hT=>?_)<;>simp only[bne,go_sem,c183,l0,l1,h6',h2',h3,h3',hx,bQ,hn,hk, *])|(refine kR _ _ _ _ (fun hT=>?_) (fun hT=>?_)<;>simp only[bne,go_sem,c183,l0,l1,h6',h2',h3,h3',hx,bQ,hn,hk, *]))))
    apply W.fw
    case hc=>
     (apply Canon.fY;simp only[lU,lV,lW,lX,lY,lZ,go_sem,l0,l1,h6',h2',h3,h3',hx,bQ,hn,hk]);exact Canon.nil
    ((refine W.a ?_;(try simp only[bne,go_sem,l0,l1,h6',h2',h3,h3',hx,bQ,hn,hk, *]));(repeat' (first|(refine W.yes rfl ?_;(refine W.a ?_;simp only[bne,go_sem,l0,l1,h6',h2',h3,h3',hx,bQ,hn,hk, *]))|(refine W.no rfl ?_;(refine W.a ?_;simp only[bne,go_sem,l0,l1,h6',h2',h3,h3',hx,bQ,hn,hk, *]))|(refine W.c1 (hC _) ?_;simp only[bne,go_sem,l0,l1,h6',h2',h3,h3',hx,bQ,hn,hk, *])|(refine W.jY rfl (fun hT=>?_) (fun hT=>?_)<;>(refine W.a ?_;simp only[bne,go_sem,l0,l1,h6',h2',h3,h3',hx,bQ,hn,hk, *]))|(refine W.test rfl (fun hT=>?_) (fun hT=>?_)<;>(refine W.a ?_;simp only[bne,go_sem,l0,l1,h6',h2',h3,h3',hx,bQ,hn,hk, *]))|(refine kS _ _ _ _ (fun hT=>?_) (fun hT=>?_)<;>simp only[bne,go_sem,l0,l1,h6',h2',h3,h3',hx,bQ,hn,hk, *])|(refine kR _ _ _ _ (fun hT=>?_) (fun hT=>?_)<;>simp only[bne,go_sem,l0,l1,h6',h2',h3,h3',hx,bQ,hn,hk, *]))))
    all_goals (try (refine W.fs (hok) (by simp only[yg,go_sem];rfl) ?_;simp only[al];(first|exact V.wk.rfl _|(refine od ?_;clear hsz hok;rw[rm]<;>((try simp only[beq_iff_eq,beq_eq_false_iff_ne,ne_eq,decide_eq_true_eq,decide_eq_false_iff_not]at*);first|(exfalso;omega)|(simp[dP,nn,hh, *];done)|(simp[dP,nn,hh, *];omega)|(simp[dP,nn,hh, *]))))))
  ·have h2':¬((p.l.length:Int)>=2):=by omega
   have h2n:decide (2<=p.l.length)=false:=by simpa using h2
   have hv:bc p=false:=by rw[rm,dP];simp[h6,h2]
   cases hn:(p.n==0)
   all_goals
    ((refine W.a ?_;(try simp only[bne,go_sem,c183,l0,l1,h6',h2',hn, *]));(repeat' (first|(refine W.yes rfl ?_;(refine W.a ?_;simp only[bne,go_sem,c183,l0,l1,h6',h2',hn, *]))|(refine W.no rfl ?_;(refine W.a ?_;simp only[bne,go_sem,c183,l0,l1,h6',h2',hn, *]))|(refine W.c1 (hC _) ?_;simp only[bne,go_sem,c183,l0,l1,h6',h2',hn, *])|(refine W.jY rfl (fun hT=>?_) (fun hT=>?_)<;>(refine W.a ?_;simp only[bne,go_sem,c183,l0,l1,h6',h2',hn, *]))|(refine W.test rfl (fun hT=>?_) (fun hT=>?_)<;>(refine W.a ?_;simp only[bne,go_sem,c183,l0,l1,h6',h2',hn, *]))|(refine kS _ _ _ _ (fun hT=>?_) (fun hT=>?_)<;>simp only[bne,go_sem,c183,l0,l1,h6',h2',hn, *])|(refine kR _ _ _ _ (fun hT=>?_) (fun hT=>?_)<;>simp only[bne,go_sem,c183,l0,l1,h6',h2',hn, *]))))
    apply W.fw
    case hc=>
     (apply Canon.fY;simp only[lU,lV,lW,lX,lY,lZ,go_sem,l0,l1,h6',h2',hn]);exact Canon.nil
    ((refine W.a ?_;(try simp only[bne,go_sem,l0,l1,h6',h2',hn, *]));(repeat' (first|(refine W.yes rfl ?_;(refine W.a ?_;simp only[bne,go_sem,l0,l1,h6',h2',hn, *]))|(refine W.no rfl ?_;(refine W.a ?_;simp only[bne,go_sem,l0,l1,h6',h2',hn, *]))|(refine W.c1 (hC _) ?_;simp only[bne,go_sem,l0,l1,h6',h2',hn, *])|(refine W.jY rfl (fun hT=>?_) (fun hT=>?_)<;>(refine W.a ?_;simp only[bne,go_sem,l0,l1,h6',h2',hn, *]))|(refine W.test rfl (fun hT=>?_) (fun hT=>?_)<;>(refine W.a ?_;simp only[bne,go_sem,l0,l1,h6',h2',hn, *]))|(refine kS _ _ _ _ (fun hT=>?_) (fun hT=>?_)<;>simp only[bne,go_sem,l0,l1,h6',h2',hn, *])|(refine kR _ _ _ _ (fun hT=>?_) (fun hT=>?_)<;>simp only[bne,go_sem,l0,l1,h6',h2',hn, *]))))
    all_goals (try (refine W.fs (hok) (by simp only[yg,go_sem];rfl) ?_;simp only[al];(first|exact V.wk.rfl _|(refine od ?_;clear hsz hok;rw[hv]<;>((try simp only[beq_iff_eq,beq_eq_false_iff_ne,ne_eq,decide_eq_true_eq,decide_eq_false_iff_not]at*);first|(exfalso;omega)|(simp[*];done)|(simp[*];omega)|(simp[*]))))))
 ·have h6':(p.k==6)=false:=by simpa using h6
  ((refine W.a ?_;(try simp only[bne,go_sem,c183,l0,l1,h6', *]));(repeat' (first|(refine W.yes rfl ?_;(refine W.a ?_;simp only[bne,go_sem,c183,l0,l1,h6', *]))|(refine W.no rfl ?_;(refine W.a ?_;simp only[bne,go_sem,c183,l0,l1,h6', *]))|(refine W.c1 (B6 w0 p.name _) ?_;simp only[bne,go_sem,c183,l0,l1,h6', *])|(refine W.c1 (Jg w0 p.name _) ?_;simp only[bne,go_sem,c183,l0,l1,h6', *])|(refine W.c1 (hC _) ?_;simp only[bne,go_sem,c183,l0,l1,h6', *])|(refine W.jY rfl (fun hT=>?_) (fun hT=>?_)<;>(refine W.a ?_;simp only[bne,go_sem,c183,l0,l1,h6', *]))|(refine W.test rfl (fun hT=>?_) (fun hT=>?_)<;>(refine W.a ?_;simp only[bne,go_sem,c183,l0,l1,h6', *]))|(refine kS _ _ _ _ (fun hT=>?_) (fun hT=>?_)<;>simp only[bne,go_sem,c183,l0,l1,h6', *])|(refine kR _ _ _ _ (fun hT=>?_) (fun hT=>?_)<;>simp only[bne,go_sem,c183,l0,l1,h6', *]))))
  all_goals (try (refine W.fs (hok) (by simp only[yg,go_sem];rfl) ?_;simp only[al];(first|exact V.wk.rfl _|(refine od ?_;clear hsz hok;rw[rm]<;>((try simp only[beq_iff_eq,beq_eq_false_iff_ne,ne_eq,decide_eq_true_eq,decide_eq_false_iff_not]at*);first|(exfalso;omega)|(simp[dP,nn, *];done)|(simp[dP,nn, *];omega)|(simp[dP,nn, *]))))))
  all_goals
   intro h x hx;rw[h]at hx;simp at hx
end Go.Proofs.YtdlkenpilhakfaaGreatDoor
namespace Go.Lamb
open Go Go.RowKit
def Z6(n:Nat):aY:=120::Lib.decDigits n
mutual
def ax:aa->Nat
 | .mk _ _ _ l=>1+bj l
def bj:List aa->Nat
 |[]=>0
 |p::l=>ax p+bj l
end
theorem eS(p:aa):ax p=1+bj p.l:=by cases p;rw[ax];rfl
theorem Cp:∀{l:List aa} {u:aa},u∈l->ax u<=bj l
 |x::l,u,h=>by
  rw[bj];rcases cA.1 h with rfl|h
  ·omega
  ·have:=Cp h;omega
theorem jI{t u:aa}(h:u∈t.l):ax u<ax t:=by rw[eS t];have:=Cp h;omega
theorem T8{t:aa}(h:dP t=true):t.k=0\/t.k=1\/t.k=2\/t.k=3\/t.k=4\/t.k=5\/t.k=6:=by
 unfold dP at h
 repeat' split at h
 all_goals first|omega|(cases h;done)
def ct(f:aa)(args:List aa):aa:=if args=[]then f else .mk 6 [] 0 ((if f.k=6/\f.l≠[]then f.l else[f])++args)
def fz(t:aa)(l:List aa):aa:=if t.k=6/\1<l.length/\(l.headD .none).k=6/\(t.l.headD .none).k≠6 then ct (l.headD .none) l.tail else .mk t.k t.name t.n l
mutual
def bN(f:aa->Int->aa)(k:Int):aa->aa
 | .mk kd a n l=>if kd=5 then fz (.mk kd a n l) (ud f (k+1) l)else if kd=6 then fz (.mk kd a n l) (ud f k l)else f (.mk kd a n l) k
def ud(f:aa->Int->aa)(k:Int):List aa->List aa
 |[]=>[]
 |x::l=>bN f k x::ud f k l
end
theorem Kr(f:aa->Int->aa)(k:Int)(l:List aa):ud f k l=l.map (bN f k):=by
 induction l with
 |nil=>rfl
 |cons x l ih=>rw[ud,ih];rfl
theorem kf(f:aa->Int->aa)(k:Int)(t:aa):bN f k t=if t.k=5 then fz t (t.l.map (bN f (k+1)))else if t.k=6 then fz t (t.l.map (bN f k))else f t k:=by
 cases t;rw[bN,Kr,Kr];rfl
def cH(a b:Int):aa->Int->aa:=fun u k=>if u.k=3/\u.n>=k+a then .mk u.k u.name (u.n+b) u.l else u
def np(a b:Int)(t:aa):aa:=bN (cH a b) 0 t
def eE(i:Int)(s:aa):aa->Int->aa:=fun u k=>if u.k≠3\/u.n<k+i then u else if u.n=k+i then np 0 k s else .mk u.k u.name (u.n-1) u.l
def rB(i:Int)(s:aa)(t:aa):aa:=bN (eE i s) 0 t
theorem gi{t:aa}(h:bc t=true):∀u∈t.l,bc u=true:=by
 rw[rm,bG]at h;exact cU.1 h.2
theorem ue{t:aa}(h:bc t=true):dP t=true:=by
 rw[rm,bG]at h;exact h.1
theorem uf{t:aa}(h:dP t=true)(k:∀u∈t.l,bc u=true):bc t=true:=by
 rw[rm,bG];exact⟨h,cU.2 k⟩
theorem iF{m:Int}{t:aa}(h:bM m t=true):∀u∈t.l,bM m u=true:=by
 rw[BU,bG]at h;exact cU.1 h.2
theorem pR{m:Int}{t:aa}(h:bM m t=true)(hk:t.k≠2):-m<=t.n/\t.n<=m:=by
 rw[BU,bG]at h;have h:=h.1;simp[hk]at h;omega
theorem gY{m:Int}{t:aa}(h:t.k=2\/(-m<=t.n/\t.n<=m))(k:∀u∈t.l,bM m u=true):bM m t=true:=by
 rw[BU,bG];refine⟨?_,cU.2 k⟩;rcases h with h|h
 ·simp[h]
 ·simp only[Bool.or_eq_true,Bool.not_eq_true',Bool.or_eq_false_iff,decide_eq_false_iff_not];right;omega
theorem oz{m m':Int}(hm:m<=m')(t:aa):bM m t=true->bM m' t=true:=by
 refine aa.ind (P:=fun t=>bM m t=true->bM m' t=true) (fun t ih h=>?_) t;refine gY ?_ (fun u hu=>ih u hu (iF h u hu));by_cases hk:t.k=2
 ·exact .inl hk
 ·have:=pR h hk;right;omega
theorem iG{t:aa}(h:bc t=true)(hk:t.k=6):t.n=0/\t.name=[]/\∃a b l,t.l=a::b::l/\a.k≠6:=by
 have hn:=ue h;unfold dP at hn;simp[hk]at hn;obtain⟨⟨⟨h1,h2⟩,h3⟩,h4⟩:=hn
 match hl:t.l,h2 with
 |a::b::l,_=>exact⟨h1,h4,a,b,l,rfl,by rw[hl]at h3;exact h3⟩
theorem pS{t:aa}(h:bc t=true)(hk:t.k=5):t.n=0/\t.name=[]/\∃b,t.l=[b]:=by
 have hn:=ue h;unfold dP at hn;simp[hk]at hn;obtain⟨⟨h1,h2⟩,h3⟩:=hn
 match hl:t.l,h3 with
 |[b],_=>exact⟨h1,h2,b,rfl⟩
theorem yj{a b:aa}{l:List aa}(ha:a.k≠6)(h:∀u∈a::b::l,bc u=true):bc (.mk 6 [] 0 (a::b::l))=true:=by
 refine uf ?_ h;simp[dP,a7,aW,aQ,bh,ha]
theorem rC{b:aa}(h:bc b=true):bc (.mk 5 [] 0 [b])=true:=by
 refine uf ?_ (fun u hu=>?_)
 ·simp[dP,a7,aW,aQ,bh]
 ·simp[aQ]at hu;rw[hu];exact h
theorem ug{t:aa}(h:bc t=true)(h5:t.k≠5)(h6:t.k≠6):t.l=[]:=by
 have hn:=ue h;rcases T8 hn with hk|hk|hk|hk|hk|hk|hk
 ·unfold dP at hn;simp[hk]at hn;exact hn.2
 ·unfold dP at hn;simp[hk]at hn;exact hn.2
 ·unfold dP at hn;simp[hk]at hn;exact hn.2
 ·unfold dP at hn;simp[hk]at hn;exact hn.2
 ·unfold dP at hn;simp[hk]at hn;exact hn.2
 ·exact absurd hk h5
 ·exact absurd hk h6
theorem rD(f b:aa)(l:List aa):ct f (b::l)= .mk 6 [] 0 ((if f.k=6/\f.l≠[]then f.l else[f])++b::l):=by
 unfold ct;rw[if_neg (by simp)]
theorem Cq(f:aa):ct f []=f:=by unfold ct;rw[if_pos rfl]
theorem Ks{f b:aa}{l:List aa}(h:f.k≠6):ct f (b::l)= .mk 6 [] 0 (f::b::l):=by
 rw[rD,if_neg (fun e=>h e.1)];rfl
theorem uh{f:aa}{args:List aa}(hf:bc f=true)(h:∀u∈args,bc u=true):bc (ct f args)=true:=by
 cases args with
 |nil=>rw[Cq];exact hf
 |cons b l=>
  by_cases hk:f.k=6
  ·obtain⟨_,_,a,c,r,hl,ha⟩:=iG hf hk;rw[rD,if_pos ⟨hk,by rw[hl];simp⟩,hl];refine yj ha fun u hu=>?_;have hu':u∈f.l\/u∈b::l:=by rw[hl];simpa[or_assoc]using hu
   rcases hu' with hu|hu
   ·exact gi hf u hu
   ·exact h u hu
  ·rw[Ks hk];refine yj hk fun u hu=>?_;rcases cA.1 hu with rfl|hu
   ·exact hf
   ·exact h u hu
theorem rE{m:Int}{f:aa}{args:List aa}(hm:0<=m)(hf:bM m f=true)(h:∀u∈args,bM m u=true):bM m (ct f args)=true:=by
 unfold ct;split
 ·exact hf
 ·refine gY (.inr (by simp[aW];omega)) fun u hu=>?_;simp only[aQ]at hu;rcases List.mem_append.1 hu with hu|hu
  ·split at hu
   ·exact iF hf u hu
   ·simp at hu;rw[hu];exact hf
  ·exact h u hu
theorem Kt(a b:Int)(t:aa):∀k,bc t=true->(bN (cH a b) k t).k=t.k:=by
 refine aa.ind (P:=fun t=>∀k,bc t=true->(bN (cH a b) k t).k=t.k) (fun t ih k h=>?_) t;rw[kf];by_cases h5:t.k=5
 ·rw[if_pos h5];unfold fz;rw[if_neg (fun e=>by have:=e.1;omega)];rfl
 ·rw[if_neg h5];by_cases h6:t.k=6
  ·rw[if_pos h6];obtain⟨_,_,a',b',l,hl,ha⟩:=iG h h6;have hka:=ih a' (by rw[hl];simp) k (gi h a' (by rw[hl];simp));unfold fz;rw[if_neg (fun e=>?_)]
   ·rfl
   ·rw[hl]at e;simp[hka,ha]at e
  ·rw[if_neg h6];unfold cH;split<;>rfl
theorem T9{a b:Int}{t:aa}(k:Int)(h:bc t=true)(h6:t.k=6):bN (cH a b) k t= .mk 6 [] 0 (t.l.map (bN (cH a b) k)):=by
 obtain⟨h1,h2,a',b',l,hl,ha⟩:=iG h h6;have hka:=Kt a b a' k (gi h a' (by rw[hl];simp));rw[kf,if_neg (by omega),if_pos h6];unfold fz;rw[if_neg (fun e=>by rw[hl]at e;simp[hka,ha]at e),h6,h2,h1]
theorem Ua{a b:Int}{t:aa}(k:Int)(h:bc t=true)(h5:t.k=5):bN (cH a b) k t= .mk 5 [] 0 (t.l.map (bN (cH a b) (k+1))):=by
 obtain⟨h1,h2,_⟩:=pS h h5;rw[kf,if_pos h5];unfold fz;rw[if_neg (fun e=>by have:=e.1;omega),h5,h2,h1]
theorem Ku{a b m:Int}(ha:0<=a)(hb:0<=b)(hm:0<=m)(hmb:m+b<=4611686018427387904)(t:aa):∀k,0<=k->bc t=true->bM m t=true->bc (bN (cH a b) k t)=true/\bM (m+b) (bN (cH a b) k t)=true:=by
 refine aa.ind (P:=fun t=>∀k,0<=k->bc t=true->bM m t=true->bc (bN (cH a b) k t)=true/\bM (m+b) (bN (cH a b) k t)=true) (fun t ih k hk h hn=>?_) t;by_cases h5:t.k=5
 ·obtain⟨_,_,c,hl⟩:=pS h h5;have hc:c∈t.l:=by rw[hl];simp
  have:=ih c hc (k+1) (by omega) (gi h c hc) (iF hn c hc);rw[Ua k h h5,hl];refine⟨rC this.1,gY (.inr (by simp[aW];omega)) fun u hu=>?_⟩;simp[aQ]at hu;rw[hu];exact this.2
 ·by_cases h6:t.k=6
  ·obtain⟨_,_,c,d,l,hl,hca⟩:=iG h h6;have hu:∀u∈t.l.map (bN (cH a b) k),bc u=true/\bM (m+b) u=true:=fun u hu=>by
    obtain⟨x,hx,rfl⟩:=eu.1 hu;exact ih x hx k hk (gi h x hx) (iF hn x hx)
   rw[T9 k h h6];rw[hl]at hu⊢;refine⟨yj ?_ fun u hx=>(hu u hx).1,gY (.inr (by simp[aW];omega)) fun u hx=>(hu u hx).2⟩;rw[Kt a b c k (gi h c (by rw[hl];simp))];exact hca
  ·rw[kf,if_neg h5,if_neg h6];have hl:=ug h h5 h6;unfold cH;split
   ·rename_i hs;have hnn:=pR hn (by omega);have hnm:t.name=[]:=by have hv:=ue h;unfold dP at hv;simp[hs.1]at hv;exact hv.1.2
    refine⟨uf ?_ (fun u hu=>by simp[aQ,hl]at hu),gY (.inr (by simp[aW];omega)) (fun u hu=>by simp[aQ,hl]at hu)⟩;simp[dP,a7,aW,aQ,bh,hs.1,hl,hnm];omega
   ·exact⟨h,oz (by omega) t hn⟩
end Go.Lamb
namespace Go.Proofs.YtdlkenpilhakfaaGreatDoor
open Go.RowKit Go.Lamb
section
attribute [local go_sem] aX
theorem Ub(w0:World)(ls:List (List aa))(hn:ls.flatten.length<=30000000000)(hls:ls.length<=30000000000)(σ:H):
  DC prog w0 120 [.ab (ls.map fun r=>[aX r])] σ (Same (.c (aX ls.flatten)) σ):=by
 refine Km.go rfl (fun hok hsz=>?_);(refine W.a ?_;simp only[go_sem,Cm]);refine W.bB (fun i=>i<=ls.length) (fun i=>⟨(((((base.put (some 0) (.ab (ls.map fun r=>[aX r]))).put (some 3) (I (ls.take i).flatten.length)).put (some 9) (.ab (ls.map fun r=>[aX r]))).put (some 10) (I ls.length)).put (some 11) (I i)),σ⟩) (fun i=>ls.length-i) 0 (bC _) ?_ (fun i hi=>?_)
 ·(refine ao.env ?_;exact aF)
 ·by_cases hlt:i<ls.length
  ·have h1:((i:Int)<(ls.length:Int)):=by omega
   have hx:ls[i]?=some ls[i]:=aO hlt;have hft:=Kd hlt;have hfl:(ls.take (i+1)).flatten.length=(ls.take i).flatten.length+ls[i].length:=by rw[hft,bD]
   have hle:=Ke (ls:=ls) (i+1);have hw:aN.wrap ((i:Int)+1)=((i+1:Nat):Int):=by rw[bn]<;>omega
   have hw2:aN.wrap (((ls.take i).flatten.length:Int)+(ls[i].length:Int))=(((ls.take (i+1)).flatten.length:Nat):Int):=by rw[bn]<;>omega
   have hneg:¬((((ls.take (i+1)).flatten.length:Nat):Int)<0):=by omega
   (refine W.a ?_;simp only[go_sem,h1]);refine W.yes rfl (W.a ?_);simp only[go_sem,h1,bQ,hx,hw2,hneg];refine W.no rfl (W.a ?_);simp only[go_sem,hw];refine .inv ⟨i+1,hlt,by omega,?_⟩;(refine ao.env ?_;exact aF)
  ·have h1:¬((i:Int)<(ls.length:Int)):=by omega
   have hi':i=ls.length:=by omega
   subst hi';(refine W.a ?_;simp only[go_sem,h1]);refine W.no rfl (W.a ?_);simp only[go_sem,oX];(refine W.c1 (Kj w0 ls.flatten.length (by omega) _) ?_;simp only[go_sem]);refine W.bB (fun i=>i<=ls.length) (fun i=>⟨((((base.put (some 6) (.aG σ.length ((ls.take i).flatten.map aa.cs))).put (some 25) (.ab (ls.map fun r=>[aX r]))).put (some 26) (I ls.length)).put (some 27) (I i)),σ++[.spare 41 4 (ls.take i).flatten.length]⟩) (fun i=>ls.length-i) 0 (bC _) ?_ (fun i hi=>?_)
   ·(refine ao.env ?_;exact aF)
   ·by_cases hlt:i<ls.length
    ·have h1:((i:Int)<(ls.length:Int)):=by omega
     have hx:ls[i]?=some ls[i]:=aO hlt;have hft:=Kd hlt;have hfl:(ls.take (i+1)).flatten.length=(ls.take i).flatten.length+ls[i].length:=by rw[hft,bD]
     have hle:=Ke (ls:=ls) (i+1);have hb1:((ls.take i).flatten.length+ls[i].length)*56<=140737488355328:=by omega
     have hb2:(ls.take i).flatten.length+ls[i].length<=140737488355328:=by omega
     have hb3:∀r∈ls[i].map aa.cs,r.length=4:=fun r hr=>by obtain⟨o,_,rfl⟩:=eu.1 hr;rw[aa.aM];rfl
     have hta:(ls.take (i+1)).flatten.map aa.cs=(ls.take i).flatten.map aa.cs++ls[i].map aa.cs:=by rw[hft,dv]
     have hw:aN.wrap ((i:Int)+1)=((i+1:Nat):Int):=by rw[bn]<;>omega
     (refine W.a ?_;simp only[go_sem,h1]);refine W.yes rfl (W.a ?_);simp only[go_sem,h1,bQ,hx,hb1,hb2,eq_self,hw,eq_true hb3];refine .inv ⟨i+1,hlt,by omega,?_⟩;simp only[go_sem,hta,hfl];(refine ao.env ?_;exact aF)
    ·have h1:¬((i:Int)<(ls.length:Int)):=by omega
     have hi':i=ls.length:=by omega
     subst hi';(refine W.a ?_;simp only[go_sem,h1]);refine W.no rfl (W.a ?_);simp only[go_sem,oX];(refine W.fs (hok) (by simp only[Cn,go_sem];rfl) ?_;simp only[al];try exact V.wk.rfl _);(all_goals exact au)
end
attribute [local go_sem] aa.v aa.aM a7 bh aW aQ
theorem Cr(w0:World)(t:aa)(σ:H):DC prog w0 77 [t.v] σ (Same (.ay [.c (aX (if t.k=5\/t.k=6 then t.l else[])),I (if t.k=5 then 1 else 0)]) σ):=by
 refine Kn.go rfl (fun hok hsz=>?_);by_cases h5:t.k=5
 ·have k5:(t.k==5)=true:=by simp[h5]
  rw[if_pos (.inl h5),if_pos h5];clear h5;((refine W.a ?_;(try simp only[bne,go_sem,eR,k5, *]));(repeat' (first|(refine W.yes rfl ?_;(refine W.a ?_;simp only[bne,go_sem,eR,k5, *]))|(refine W.no rfl ?_;(refine W.a ?_;simp only[bne,go_sem,eR,k5, *]))|(refine W.jY rfl (fun hT=>?_) (fun hT=>?_)<;>(refine W.a ?_;simp only[bne,go_sem,eR,k5, *]))|(refine W.test rfl (fun hT=>?_) (fun hT=>?_)<;>(refine W.a ?_;simp only[bne,go_sem,eR,k5, *]))|(refine kS _ _ _ _ (fun hT=>?_) (fun hT=>?_)<;>simp only[bne,go_sem,eR,k5, *])|(refine kR _ _ _ _ (fun hT=>?_) (fun hT=>?_)<;>simp only[bne,go_sem,eR,k5, *]))))
  all_goals (refine W.fs (hok) (by simp only[uc,go_sem];rfl) ?_;simp only[al];try exact V.wk.rfl _)
  all_goals (all_goals exact au)
 ·rw[if_neg h5];have k5:(t.k==5)=false:=by simp[h5]
  by_cases h6:t.k=6
  ·have k6:(t.k==6)=true:=by simp[h6]
   rw[if_pos (.inr h6)];clear h6 h5;((refine W.a ?_;(try simp only[bne,go_sem,eR,k5,k6, *]));(repeat' (first|(refine W.yes rfl ?_;(refine W.a ?_;simp only[bne,go_sem,eR,k5,k6, *]))|(refine W.no rfl ?_;(refine W.a ?_;simp only[bne,go_sem,eR,k5,k6, *]))|(refine W.jY rfl (fun hT=>?_) (fun hT=>?_)<;>(refine W.a ?_;simp only[bne,go_sem,eR,k5,k6, *]))|(refine W.test rfl (fun hT=>?_) (fun hT=>?_)<;>(refine W.a ?_;simp only[bne,go_sem,eR,k5,k6, *]))|(refine kS _ _ _ _ (fun hT=>?_) (fun hT=>?_)<;>simp only[bne,go_sem,eR,k5,k6, *])|(refine kR _ _ _ _ (fun hT=>?_) (fun hT=>?_)<;>simp only[bne,go_sem,eR,k5,k6, *]))))
   all_goals (refine W.fs (hok) (by simp only[uc,go_sem];rfl) ?_;simp only[al];try exact V.wk.rfl _)
   all_goals (all_goals exact au)
  ·have k6:(t.k==6)=false:=by simp[h6]
   rw[if_neg (by omega)];clear h6 h5;((refine W.a ?_;(try simp only[bne,go_sem,eR,k5,k6, *]));(repeat' (first|(refine W.yes rfl ?_;(refine W.a ?_;simp only[bne,go_sem,eR,k5,k6, *]))|(refine W.no rfl ?_;(refine W.a ?_;simp only[bne,go_sem,eR,k5,k6, *]))|(refine W.jY rfl (fun hT=>?_) (fun hT=>?_)<;>(refine W.a ?_;simp only[bne,go_sem,eR,k5,k6, *]))|(refine W.test rfl (fun hT=>?_) (fun hT=>?_)<;>(refine W.a ?_;simp only[bne,go_sem,eR,k5,k6, *]))|(refine kS _ _ _ _ (fun hT=>?_) (fun hT=>?_)<;>simp only[bne,go_sem,eR,k5,k6, *])|(refine kR _ _ _ _ (fun hT=>?_) (fun hT=>?_)<;>simp only[bne,go_sem,eR,k5,k6, *]))))
   all_goals (refine W.fs (hok) (by simp only[uc,go_sem];rfl) ?_;simp only[al];try exact V.wk.rfl _)
   all_goals (all_goals exact au)
theorem ui(w0:World)(f:aa)(xs:List aa)(hn:f.l.length+xs.length<=29999999998)(σ:H):DC prog w0 69 [f.v,.c (.sl (xs.map aa.cs))] σ (Same (ct f xs).v σ):=by
 refine Kk.go rfl (fun hok hsz=>?_);by_cases h0:xs=[]
 ·have e:ct f xs=f:=by unfold ct;rw[if_pos h0]
  rw[e];subst h0;(refine W.a ?_;simp only[go_sem,rv]);refine W.yes rfl (W.a ?_);simp only[go_sem];(refine W.fs (hok) (by simp only[rA,go_sem];rfl) ?_;simp only[al];try exact V.wk.rfl _)
  all_goals (all_goals exact au)
 have hl:0<xs.length:=jR.2 h0;have q0:((xs.length:Int)==0)=false:=by simp;omega
 have e:ct f xs= .mk 6 [] 0 ((if f.k=6/\f.l≠[]then f.l else[f])++xs):=by unfold ct;rw[if_neg h0]
 rw[e];clear e;have hC:=fun(h:List aa) (hh:h.length<=29999999999-xs.length) σ=>Ub w0 [h,xs] (by simp;omega) (by simp) σ;simp only[cx,du,dW,List.flatten_nil,cw,aX]at hC;by_cases h6:f.k=6
 ·have k6:(f.k==6)=true:=by simp[h6]
  by_cases hf:f.l=[]
  ·rw[if_neg (fun h=>h.2 hf)];have q1:¬((f.l.length:Int)>0):=by rw[hf];simp
   have hCc:=hC [f] (by simp only[bk,cN];omega);simp only[cx,du,aa.aM]at hCc;clear h6 hf;(refine W.a ?_;simp only[go_sem,rv,q0]);refine W.no rfl (W.a ?_);simp only[go_sem,k6,q1];refine W.no rfl (W.a ?_);simp only[go_sem];(refine W.c1 (hCc _) ?_;simp only[go_sem]);(refine W.a ?_;simp only[go_sem]);(refine W.fs (hok) (by simp only[rA,go_sem];rfl) ?_;simp only[al];try exact V.wk.rfl _)
   all_goals (all_goals exact au)
  ·rw[if_pos ⟨h6,hf⟩];have hp:0<f.l.length:=jR.2 hf;have q1:((f.l.length:Int)>0):=by omega
   have hCc:=hC f.l (by omega);clear h6 hf;(refine W.a ?_;simp only[go_sem,rv,q0]);refine W.no rfl (W.a ?_);simp only[go_sem,k6,q1];refine W.yes rfl (W.a ?_);simp only[go_sem];(refine W.c1 (hCc _) ?_;simp only[go_sem]);(refine W.a ?_;simp only[go_sem]);(refine W.fs (hok) (by simp only[rA,go_sem];rfl) ?_;simp only[al];try exact V.wk.rfl _)
   all_goals (all_goals exact au)
 ·rw[if_neg (fun h=>h6 h.1)];have k6:(f.k==6)=false:=by simp[h6]
  have hCc:=hC [f] (by simp only[bk,cN];omega);simp only[cx,du,aa.aM]at hCc;clear h6;(refine W.a ?_;simp only[go_sem,rv,q0]);refine W.no rfl (W.a ?_);simp only[go_sem,k6];refine W.no rfl (W.a ?_);simp only[go_sem];(refine W.c1 (hCc _) ?_;simp only[go_sem]);(refine W.a ?_;simp only[go_sem]);(refine W.fs (hok) (by simp only[rA,go_sem];rfl) ?_;simp only[al];try exact V.wk.rfl _)
  all_goals (all_goals exact au)
end Go.Proofs.YtdlkenpilhakfaaGreatDoor
namespace Go.Proofs.YtdlkenpilhakfaaGreatDoor
open Go.RowKit Go.Lamb
def uj:AC:=rsq [.o 3 (.box 0),.o 4 (.box 1),.o 6 (.box (.k (.agg zS4)))] (.seq (rif [.f 12 0 4,.l 13 12,.o 14 (.bin .neq 13 (zK 5)),.m 15 14,.y 16 (.aV 0 4) 15,.y 17 (.aU 16) 15,.y 18 (.bin .neq 17 (zK 6)) 15,.o 19 (.pick 15 18 zF)] 19 (rsq [.f 20 0 3,.l 21 20,.d 22 4 4,.m 23 2,.o 24 (.call 21 [22,23]),.s 4 6 24] .ret) .skip) (rsq [.d 26 4 4,.k 27 77 [26],.m 25 27,.x 28 25 0,.x 29 25 1,.m 7 28,.m 8 29] (rsq [.o 9 (.af (.k (.ab [])))] (.seq (rsq [.m 30 7,.o 31 (.aR 30),.o 32 (.af (zK 0))] (.block 0 (.loop (rsq [.o 33 (.bin .lss 32 31)] (.seq (.cond 33 .skip (.exit 0)) (.seq (.block 1 (rsq [.o 34 (.aI 4 30 32),.d 35 4 34,.o 11 (.box (.k (.agg zS4))),.s 4 11 35] (.aH [.m 36 9,.d 37 1 3,.d 38 4 11,.m 39 2,.m 40 8,.o 41 (.bin .add 39 40),.k 42 235 [37,38,41],.o 43 (.bo 4 [42]),.o 44 (.app 41 4 56 36 43),.m 9 44]))) (.aH [.o 45 (.bin .add 32 (zK 1)),.m 32 45]))))))) (.seq (rif [.f 46 0 4,.l 47 46,.o 48 (.bin .eql 47 (zK 6)),.m 49 48,.y 50 (.af 9) 49,.y 51 (.aR 50) 49,.y 52 (.bin .gtr 51 (zK 1)) 49,.o 53 (.pick 49 52 zF),.m 54 53,.y 55 (.af 9) 54,.y 56 (.aI 4 55 (zK 0)) 54,.y 57 (.aV 0 56) 54,.y 58 (.aU 57) 54,.y 59 (.bin .eql 58 (zK 6)) 54,.o 60 (.pick 54 59 zF),.m 61 60,.y 62 (.af 7) 61,.y 63 (.aI 4 62 (zK 0)) 61,.y 64 (.aV 0 63) 61,.y 65 (.aU 64) 61,.y 66 (.bin .neq 65 (zK 6)) 61,.o 67 (.pick 61 66 zF)] 67 (.seq (drg [.m 68 9,.o 69 (.aI 4 68 (zK 0)),.d 70 4 69,.m 71 9,.o 72 (.jn 4 71 (some (zK 1)) none none),.k 73 69 [70,72],.s 4 6 73] [0,1,2,3,4,105,306]) .ret) .skip) (rsq [.f 74 0 4,.l 75 74,.f 76 1 4,.l 77 76,.f 78 2 4,.l 79 78,.m 80 9,.o 81 (.build zS4 [(0,1,75),(1,1,77),(2,1,79),(3,1,80)]),.s 4 6 81] .ret))))))
def nw:List aw:=[.br 4 6]
theorem Kv:aB prog 235 3 Tryz.f235 uj nw:=.auto func235
def Cs:AC:=rsq [.o 3 (.box 0),.o 4 (.box 1),.o 5 (.box 2),.o 6 (.box (.k (.agg zS4)))] (rsq [.o 7 (.gA 233 [4,5]),.o 8 (.build [.cg] [(0,1,7)]),.d 9 4 3,.k 10 235 [8,9,(zK 0)],.s 4 6 10] .ret)
def Ct:List aw:=[.br 4 6]
theorem Kw:aB prog 187 3 Tryz.f187 Cs Ct:=.auto func187
def c233:AC:=rsq [.o 4 (.box 0),.o 6 (.box (.k (.agg zS4)))] (.seq (rif [.f 7 0 4,.l 8 7,.o 9 (.bin .eql 8 (zK 3)),.m 10 9,.y 11 (.aV 2 4) 10,.y 12 (.aU 11) 10,.y 13 (.af 1) 10,.y 14 (.aU 2) 10,.y 15 (.bin .add 13 14) 10,.y 16 (.bin .geq 12 15) 10,.o 17 (.pick 10 16 zF)] 17 (rsq [.d 18 4 4,.l 19 3,.k 20 234 [18,19],.s 4 6 20] .ret) .skip) (rsq [.d 21 4 4,.s 4 6 21] .ret))
def uk:List aw:=[.br 4 6]
theorem Kx:aB prog 233 4 Tryz.f233 c233 uk:=.auto func233
def Ky:AC:=rsq [.o 3 (.box 0),.o 4 (.box 1),.o 5 (.box 2),.o 6 (.box (.k (.agg zS4)))] (rsq [.o 7 (.gA 280 [4,5]),.o 8 (.build [.cg] [(0,1,7)]),.d 9 4 3,.k 10 235 [8,9,(zK 0)],.s 4 6 10] .ret)
def Kz:List aw:=[.br 4 6]
theorem Uc:aB prog 262 3 Tryz.f262 Ky Kz:=.auto func262
def um:AC:=rsq [.o 4 (.box 0),.o 6 (.box (.k (.agg zS4)))] (.seq (.block 0 (rif [.f 8 0 4,.l 9 8,.o 10 (.bin .neq 9 (zK 3)),.m 11 10,.z 12 (.aV 2 4) 11,.z 13 (.aU 12) 11,.z 14 (.af 1) 11,.z 15 (.aU 2) 11,.z 16 (.bin .add 14 15) 11,.z 17 (.bin .lss 13 16) 11,.o 18 (.pick 11 zT 17),.m 7 18] 7 (rsq [.d 19 4 4,.s 4 6 19] .ret) (rif [.f 21 2 4,.l 22 21,.m 23 1,.l 24 2,.o 25 (.bin .add 23 24),.o 26 (.bin .eql 22 25),.m 20 26] 20 (rsq [.d 27 4 3,.m 28 1,.k 29 187 [27,(zK 0),28],.s 4 6 29] .ret) .skip))) (rsq [.d 30 4 4,.k 31 234 [30,(.k (.c (.int .i64 (-1))))],.s 4 6 31] .ret))
def uo:List aw:=[.br 4 6]
theorem Ud:aB prog 280 4 Tryz.f280 um uo:=.auto func280
def c234:AC:=rsq [.o 2 (.box 0),.o 4 (.box (.k (.agg zS4)))] (rsq [.f 5 2 2,.l 6 5,.m 7 1,.o 8 (.bin .add 6 7),.f 9 2 2,.s 1 9 8] (rsq [.d 10 4 2,.s 4 4 10] .ret))
def KA:List aw:=[.br 4 4]
theorem Ue:aB prog 234 2 Tryz.f234 c234 KA:=.auto func234
attribute [local go_sem] aa.v aa.aM a7 bh aW aQ aX
structure Cu (w0:World) (E:H->Prop) (Pp:aa->Prop) (g:aa->Int->aa) (fid:FuncId) (caps:List V):Prop where
 more:∀σ L,E σ->E (σ++L)
 low:∀σ,E σ->∀x∈caps,V.low σ.length x
 dO:∀u,Pp u->∀v∈u.l,Pp v
 len:∀u,Pp u->u.l.length<=12000000000
 nz:∀u,Pp u->∀j:Nat,(bN g (j:Int) u).l.length<=12000000000
 leaf:∀σ,E σ->∀u (j:Nat),Pp u->j<=30000000000->u.k≠5->u.k≠6->DC prog w0 fid ([u.v,I (j:Int)]++caps) σ (Same (g u (j:Int)).v σ)
theorem KB{w0:World}{E:H->Prop}{Pp:aa->Prop}{g:aa->Int->aa}{fid:FuncId}{caps:List V}(hR:Cu w0 E Pp g fid caps)(t:aa):Pp t->∀(k:Nat),k+ax t<=30000000000->∀σ,E σ->DC prog w0 235 [.agg [.fn fid caps],t.v,I (k:Int)] σ (Same (bN g (k:Int) t).v σ):=by
 refine aa.ind (P:=fun t=>Pp t->∀(k:Nat),k+ax t<=30000000000->∀σ,E σ->DC prog w0 235 [.agg [.fn fid caps],t.v,I (k:Int)] σ (Same (bN g (k:Int) t).v σ)) (fun t ih hp k hk σ hσ=>?_) t;refine Kv.go rfl (fun hok hsz=>?_);by_cases hlf:t.k≠5/\t.k≠6
 ·have hc:=fun L=>hR.leaf (σ++L) (hR.more _ _ hσ) t k hp (by omega) hlf.1 hlf.2;rw[kf,if_neg hlf.1,if_neg hlf.2];have k5:(t.k==5)=false:=by simp[hlf.1]
  have k6:(t.k==6)=false:=by simp[hlf.2]
  clear hlf;((try refine W.a ?_);simp only[go_sem,uj,bne,k5,k6]);refine W.yes rfl (W.a ?_);simp only[go_sem];(refine W.c1 (hc _) ?_;simp only[go_sem]);((try refine W.a ?_);simp only[go_sem]);(refine W.fs (hok) (by simp only[nw,go_sem];rfl) ?_;simp only[al];try exact V.wk.rfl _)
  all_goals (all_goals exact au)
 obtain⟨B,hB,hwk,hwi⟩:∃B:Nat,B<=1/\bN g (k:Int) t=fz t (t.l.map (bN g ((k+B:Nat):Int)))/\∀σ,DC prog w0 77 [t.v] σ (Same (.ay [.c (aX t.l),I (B:Int)]) σ):=by
  by_cases h5:t.k=5
  ·refine⟨1,aA _,?_,fun σ=>?_⟩
   ·rw[kf,if_pos h5];rfl
   ·have:=Cr w0 t σ;rwa [if_pos (.inl h5),if_pos h5]at this
  ·have h6:t.k=6:=by omega
   refine⟨0,by decide,?_,fun σ=>?_⟩
   ·rw[kf,if_neg h5,if_pos h6];rfl
   ·have:=Cr w0 t σ;rwa [if_pos (.inr h6),if_neg h5]at this
 rw[hwk];clear hwk;have hlen:=hR.len t hp;obtain⟨o,ho⟩:∃o,o=t.l.map (bN g ((k+B:Nat):Int)):=⟨_,rfl⟩;have hol:o.length=t.l.length:=by rw[ho,List.length_map]
 have hkids:∀i (hi:i<t.l.length) (hi':i<o.length) L,DC prog w0 235 [.agg [.fn fid caps],t.l[i].v,I ((k+B:Nat):Int)] (σ++L) (Same o[i].v (σ++L)):=fun i hi hi' L=>by
  have hm:=bt hi;have:=jI hm;have e:o[i]=bN g ((k+B:Nat):Int) t.l[i]:=by simp[ho]
  rw[e];exact ih _ hm (hR.dO t hp _ hm) (k+B) (by omega) _ (hR.more _ _ hσ)
 have hbig:∀u∈o,u.l.length<=12000000000:=fun u hu=>by
  rw[ho]at hu;obtain⟨v,hv,rfl⟩:=eu.1 hu;exact hR.nz v (hR.dO t hp v hv) _
 rw[<-ho];clear ho;have hw0:aN.wrap ((k:Int)+(B:Int))=((k+B:Nat):Int):=by rw[bn]<;>omega
 have hor:(t.k==5)=true/\(t.k==6)=false\/(t.k==5)=false/\(t.k==6)=true:=by
  by_cases h5:t.k=5
  ·exact .inl ⟨by simp[h5],by simp[h5]⟩
  ·exact .inr ⟨by simp[h5],by simp;omega⟩
 have hfl:∀n,σ.length<=n->((∀x,x∈caps->V.low n x)↔True):=fun n hn=>by
  simp only[iff_true];exact fun x hx=>V.wv hn (hR.low σ hσ x hx)
 have hfl4:=hfl (σ.length+4) (by omega);obtain⟨z,hz⟩:∃z,z=fz t o:=⟨_,rfl⟩;rw[<-hz];have hst:W prog w0 σ.length (Lamb.Fin nw σ.length (Same z.v σ)) [.code uj] ⟨iz [.agg [.fn fid caps],t.v,I (k:Int)],σ⟩:=by
  rcases hor with⟨k5,k6⟩|⟨k5,k6⟩
  all_goals clear hlf
  all_goals (
   ((try refine W.a ?_);simp only[go_sem,uj,bne,k5,k6]);refine W.no rfl (W.a ?_);simp only[go_sem];(refine W.c1 (hwi _) ?_;simp only[go_sem]);((try refine W.a ?_);simp only[go_sem]);refine W.own 9 41 4 rfl ?_;((try refine W.a ?_);simp only[go_sem]);refine W.bB (fun i=>i<=t.l.length) (fun i=>⟨((((((((((base.put (some 2) (I (k:Int))).put (some 3) (.ptr σ.length 0)).put (some 4) (.ptr (σ.length+1) 0)).put (some 6) (.ptr (σ.length+2) 0)).put (some 7) (.c (.sl (t.l.map aa.cs)))).put (some 8) (I (B:Int))).put (some 9) (.aG (σ.length+3) ((o.take i).map aa.cs))).put (some 30) (.c (.sl (t.l.map aa.cs)))).put (some 31) (I (t.l.length:Int))).put (some 32) (I (i:Int))),σ++[.cells [.fn fid caps],.cells t.v.ai,.cells [I 0,S [],I 0,.ab []],.spare 41 4 i]⟩) (fun i=>t.l.length-i) 0 (bC _) ?_ (fun i hi=>?_)
   ·(refine ao.env ?_;exact aF)
   by_cases hlt:i<t.l.length
   ·have hlt':i<o.length:=by omega
    have h1:(i:Int)<(t.l.length:Int):=by omega
    have h0:(0:Int)<=(i:Int):=by omega
    have hx:t.l[i]?=some t.l[i]:=aO hlt;have hw:aN.wrap ((i:Int)+1)=((i+1:Nat):Int):=by rw[bn]<;>omega
    have hb1:(i+1)*56<=140737488355328:=by omega
    have hb2:i<=140737488355327:=by omega
    have hti:(o.take i).length=i:=by rw[List.length_take];omega
    have hts:(o.take (i+1)).map aa.cs=(o.take i).map aa.cs++[[.int .i64 o[i].k,.str o[i].name,.int .i64 o[i].n,.sl (o[i].l.map aa.cs)]]:=by
     rw[List.take_succ_eq_append_getElem hlt',dv,cx,du,aa.aM]
    have hki:=fun L=>hkids i hlt hlt' L;((try refine W.a ?_);simp only[go_sem,h1]);refine W.yes rfl (W.a ?_);simp only[go_sem,h1,h0,hx,hw0];(refine W.c1 (hki _) ?_;simp only[go_sem]);((try refine W.a ?_);simp only[go_sem,hb1,hb2,hti,hw]);refine .inv ⟨i+1,hlt,by omega,?_⟩;simp only[go_sem,hts];(refine ao.eN (hok) ?_ (by simp) (by simp) ?_ ?_ ?_;exact aF;((try simp only[okB,bx,go_sem,hfl4])<;>omega);(simp only[bk,cN,dI,dZ,cV,bx,and_true];(repeat' (refine eV ?_ ?_))<;>(first|exact ad.wk.rfl _|exact ad.wk.gone _|(refine ad.eO ?_ rfl;(exact au))));(repeat' (first|exact aZ.base _|(refine aZ.put ?_ (by first|exact .c _|((try simp only[okB,bx,go_sem,hfl4])<;>omega))))))
   obtain rfl:i=t.l.length:=by omega
   have h1:¬((t.l.length:Nat):Int)<((t.l.length:Nat):Int):=by omega
   have hta:o.take t.l.length=o:=by rw[<-hol,oX]
   rw[hta];((try refine W.a ?_);simp only[go_sem,h1]);refine W.no rfl ?_;skip)
  ·have hz':z= .mk t.k t.name t.n o:=by
    rw[hz,fz,if_neg (fun h=>by simp[h.1]at k6)]
   subst hz';((try refine W.a ?_);simp only[go_sem,k6]);refine W.no rfl (W.a ?_);simp only[go_sem];(refine W.fs (hok) (by simp only[nw,go_sem];rfl) ?_;simp only[al];try exact V.wk.rfl _)
   all_goals (all_goals exact au)
  ·have h6:t.k=6:=by simpa using k6
   by_cases c1:1<o.length
   ·obtain⟨o0,o1,rfl⟩:∃a l,o=a::l:=by
     cases o with
     |nil=>simp at c1
     |cons a l=>exact⟨a,l,rfl⟩
    have hl0:0<t.l.length:=by omega
    have hx:t.l[0]?=some t.l[0]:=aO hl0;have hhd:(t.l.headD .none)=t.l[0]:=by
     rw[List.headD_eq_head?_getD,List.head?_eq_getElem?,hx];rfl
    have q1:((o1.length+1:Nat):Int)>1:=by simp at c1;omega
    have h00:(0:Int)<((o1.length+1:Nat):Int):=by omega
    have hl00:(0:Int)<(t.l.length:Int):=by omega
    by_cases c2:o0.k=6
    ·have p2:(o0.k==6)=true:=by simp[c2]
     by_cases c3:t.l[0].k=6
     ·have p3:(t.l[0].k==6)=true:=by simp[c3]
      have hz':z= .mk t.k t.name t.n (o0::o1):=by
       rw[hz,fz,if_neg (fun h=>h.2.2.2 (by rw[hhd];exact c3))]
      subst hz';clear c3 c2 h6 hhd hz;((try refine W.a ?_);simp only[go_sem,k6,q1,p2,p3,hx,bQ,bne,h00,hl00]);refine W.no rfl (W.a ?_);simp only[go_sem];(refine W.fs (hok) (by simp only[nw,go_sem];rfl) ?_;simp only[al];try exact V.wk.rfl _)
      all_goals (all_goals exact au)
     ·have p3:(t.l[0].k==6)=false:=by simp[c3]
      have hz':z=ct o0 o1:=by
       rw[hz,fz,if_pos ⟨h6,c1,c2,by rw[hhd];exact c3⟩];rfl
      have hb:=hbig o0 (bu ..);have hA:=fun σ=>ui w0 o0 o1 (by simp at hol;omega) σ;rw[<-hz']at hA;clear c3 c2 h6 hhd hz hz';have hrw:(∀(x:List C),x∈ik aa.cs o1->x.length=4)↔True:=by
       simp only[eu,iff_true];rintro x ⟨u,_,rfl⟩;rw[aa.aM];rfl
      have hge:(1:Int)<=((o1.length+1:Nat):Int):=by omega
      have htk2:List.take o1.length (ik aa.cs o1)=ik aa.cs o1:=eT (by simp);((try refine W.a ?_);simp only[go_sem,k6,q1,p2,p3,hx,bQ,bne,h00,hl00]);refine W.yes rfl (W.a ?_);simp only[go_sem];apply W.aS (List.cons_ne_nil _ _)
      case hc=>
       (apply ae.aq;simp only[go_sem,bQ,h00,hrw,hge,htk2]);(apply ae.call (hA _);(case hg=>rfl);(case hf=>rfl);(case ha=>first|rfl|simp));(apply ae.aq;simp only[go_sem]);exact ae.nil
      ((try refine W.a ?_);simp only[go_sem]);(refine W.fs (hok) (by simp only[nw,go_sem];rfl) ?_;simp only[al];try exact V.wk.rfl _)
      all_goals (all_goals exact au)
    ·have p2:(o0.k==6)=false:=by simp[c2]
     have hz':z= .mk t.k t.name t.n (o0::o1):=by
      rw[hz,fz,if_neg (fun h=>c2 h.2.2.1)]
     subst hz';clear c2 h6 hhd hz;((try refine W.a ?_);simp only[go_sem,k6,q1,p2,bQ,bne,h00,hl00]);refine W.no rfl (W.a ?_);simp only[go_sem];(refine W.fs (hok) (by simp only[nw,go_sem];rfl) ?_;simp only[al];try exact V.wk.rfl _)
     all_goals (all_goals exact au)
   ·have q1:¬((o.length:Nat):Int)>1:=by omega
    have hz':z= .mk t.k t.name t.n o:=by
     rw[hz,fz,if_neg (fun h=>c1 h.2.1)]
    subst hz';clear h6 hz;((try refine W.a ?_);simp only[go_sem,k6,q1,bne]);refine W.no rfl (W.a ?_);simp only[go_sem];(refine W.fs (hok) (by simp only[nw,go_sem];rfl) ?_;simp only[al];try exact V.wk.rfl _)
    all_goals (all_goals exact au)
 exact hst
end Go.Proofs.YtdlkenpilhakfaaGreatDoor
namespace Go.Lamb
open Go Go.RowKit
theorem uq(t:aa):1<=ax t:=by rw[eS];omega
theorem rF:∀(a b:List aa),bj (a++b)=bj a+bj b
 |[],b=>by rw[bj];simp
 |x::a,b=>by rw[List.cons_append,bj,bj,rF a b];omega
theorem iW(k:Int)(s:aY)(n:Int)(l:List aa):ax (.mk k s n l)=1+bj l:=by rw[ax]
theorem Cv(t:aa)(l:List aa):ax (fz t l)<=1+bj l:=by
 unfold fz;split
 ·rename_i h;obtain⟨_,hl,hk,_⟩:=h
  match l,hl with
  |a::b::r,_=>
   simp only[List.headD_cons,List.tail_cons]at hk⊢;unfold ct;rw[if_neg (by simp),iW,rF,show bj (a::b::r)=ax a+bj (b::r)from by rw[bj]];split
   ·rw[eS a];omega
   ·rw[bj,bj];omega
 ·rw[iW];exact aA _
theorem Cw{g:aa->Int->aa}{C:Nat}(hC:1<=C)(hg:∀u (j:Nat),u.k≠5->u.k≠6->ax (g u (j:Int))<=C*ax u)(t:aa):∀(k:Nat),ax (bN g (k:Int) t)<=C*ax t:=by
 refine aa.ind (P:=fun t=>∀(k:Nat),ax (bN g (k:Int) t)<=C*ax t) (fun t ih k=>?_) t;have key:∀(j:Nat) (l:List aa),(∀u∈l,u∈t.l)->bj (l.map (bN g (j:Int)))<=C*bj l:=by
  intro j l;induction l with
  |nil=>intro _;rw[du,bj];exact bC _
  |cons x l ihl=>
   intro h;have h1:=ih x (h x (bu ..)) j;have h2:=ihl (fun u hu=>h u (bS _ hu));rw[cx,bj,bj,jl];omega
 have fin:∀(j:Nat),ax (fz t (t.l.map (bN g (j:Int))))<=C*ax t:=fun j=>by
  have h1:=Cv t (t.l.map (bN g (j:Int)));have h2:=key j t.l (fun _ h=>h);rw[eS t,jl];omega
 rw[kf];split
 ·exact fin (k+1)
 ·split
  ·exact fin k
  ·exact hg t k (by assumption) (by assumption)
theorem ur:∀(l:List aa),l.length<=bj l
 |[]=>bC _
 |p::l=>by
  have:=ur l;rw[bj,eS,bk];omega
theorem kg(t:aa):t.l.length<=ax t:=by
 have:=ur t.l;rw[eS];omega
theorem Cx(a b:Int)(t:aa)(j:Nat):ax (bN (cH a b) (j:Int) t)<=ax t:=by
 have h1:=Cw (g:=cH a b) (C:=1) (aA _) (fun v i _ _=>by
  unfold cH;split
  ·rw[iW,eS v];omega
  ·omega) t j
 omega
theorem Uf(i:Int)(s t:aa)(j:Nat):ax (bN (eE i s) (j:Int) t)<=ax s*ax t:=by
 refine Cw (uq s) (fun v k _ _=>?_) t j;have hs:=uq s;have hv:ax v<=ax s*ax v:=Nat.le_mul_of_pos_left _ hs;have hv1:=uq v;have ix:ax s<=ax s*ax v:=Nat.le_mul_of_pos_right _ hv1;unfold eE;split
 ·exact hv
 ·split
  ·exact bE (Cx 0 k s 0) ix
  ·rw[iW];have:=eS v;omega
end Go.Lamb
namespace Go.Proofs.YtdlkenpilhakfaaGreatDoor
open Go.RowKit Go.Lamb
attribute [local go_sem] aa.v aa.aM a7 bh aW aQ aX
theorem KC(w0:World)(t:aa)(b:Int)(h1:-9223372036854775808<=t.n+b)(h2:t.n+b<=9223372036854775807)(σ:H):DC prog w0 234 [t.v,I b] σ (Same (aa.mk t.k t.name (t.n+b) t.l).v σ):=by
 refine Ue.go rfl (fun hok hsz=>?_);have hw:aN.wrap (t.n+b)=t.n+b:=by rw[bn]<;>omega
 (refine W.a ?_;simp only[go_sem,c234,hw]);(refine W.fs (hok) (by simp only[KA,go_sem];rfl) ?_;simp only[al];try exact V.wk.rfl _)
 all_goals (all_goals exact au)
theorem Ug(w0:World)(a b:Int)(ha:0<=a)(ha':a<=30000000000)(hb:-1152921504606846976<=b)(hb':b<=1152921504606846976)(p:Nat)(σ:H)(e1:σ[p]?=some (.cells [I a]))(e2:σ[p+1]?=some (.cells [I b]))(u:aa)(j:Nat)(hj:j<=30000000000)(hu:u.k=3->-2305843009213693952<=u.n/\u.n<=2305843009213693952):
  DC prog w0 233 [u.v,I (j:Int),.ptr p 0,.ptr (p+1) 0] σ (Same (cH a b u (j:Int)).v σ):=by
 refine Kx.go rfl (fun hok hsz=>?_);have e1:∀L,(σ++L)[p]?=some (.cells [I a]):=fun L=>by rw[cI (aL.1 e1).1];exact e1
 have e2:∀L,(σ++L)[p+1]?=some (.cells [I b]):=fun L=>by rw[cI (aL.1 e2).1];exact e2
 have hw:aN.wrap ((j:Int)+a)=(j:Int)+a:=by rw[bn]<;>omega
 by_cases h3:u.k=3
 ·have k3:(u.k==3)=true:=by simp[h3]
  have hu:=hu h3;by_cases hge:u.n>=(j:Int)+a
  ·have hE:cH a b u (j:Int)= .mk u.k u.name (u.n+b) u.l:=by unfold cH;rw[if_pos ⟨h3,hge⟩]
   have hM:=fun σ=>KC w0 u b (by omega) (by omega) σ;rw[hE];clear h3 hE;(refine W.a ?_;simp only[go_sem,c233,k3,e1,e2,hw,hge]);refine W.yes rfl (W.a ?_);simp only[go_sem,e1,e2];(refine W.c1 (hM _) ?_;simp only[go_sem]);(refine W.a ?_;simp only[go_sem]);(refine W.fs (hok) (by simp only[uk,go_sem];rfl) ?_;simp only[al];try exact V.wk.rfl _)
   all_goals (all_goals exact au)
  ·have hE:cH a b u (j:Int)=u:=by unfold cH;rw[if_neg (fun h=>hge h.2)]
   rw[hE];clear h3 hE;(refine W.a ?_;simp only[go_sem,c233,k3,e1,e2,hw,hge]);refine W.no rfl (W.a ?_);simp only[go_sem];(refine W.fs (hok) (by simp only[uk,go_sem];rfl) ?_;simp only[al];try exact V.wk.rfl _)
   all_goals (all_goals exact au)
 ·have hE:cH a b u (j:Int)=u:=by unfold cH;rw[if_neg (fun h=>h3 h.1)]
  have k3:(u.k==3)=false:=by simp[h3]
  rw[hE];clear h3 hE;(refine W.a ?_;simp only[go_sem,c233,k3]);refine W.no rfl (W.a ?_);simp only[go_sem];(refine W.fs (hok) (by simp only[uk,go_sem];rfl) ?_;simp only[al];try exact V.wk.rfl _)
  all_goals (all_goals exact au)
theorem Uh(w0:World)(a b:Int)(ha:0<=a)(ha':a<=30000000000)(hb:-1152921504606846976<=b)(hb':b<=1152921504606846976)(p:Nat):
  Cu w0 (fun σ=>σ[p]?=some (.cells [I a])/\σ[p+1]?=some (.cells [I b])) (fun u=>bM 2305843009213693952 u=true/\ax u<=12000000000) (cH a b) 233 [.ptr p 0,.ptr (p+1) 0] where
 more:=fun σ L ⟨e1,e2⟩=>⟨by rw[cI (aL.1 e1).1];exact e1,by rw[cI (aL.1 e2).1];exact e2⟩
 low:=fun σ ⟨e1,e2⟩ x hx=>by
  have h1:=(aL.1 e1).1;have h2:=(aL.1 e2).1;simp only[cA,jj,or_false]at hx;rcases hx with rfl|rfl
  ·exact .ptr h1
  ·exact .ptr h2
 dO:=fun u ⟨h1,h2⟩ v hv=>⟨iF h1 v hv,by have:=jI hv;omega⟩
 len:=fun u ⟨_,h2⟩=>bE (kg u) h2
 nz:=fun u ⟨_,h2⟩ j=>by
  have h1:=Cw (g:=cH a b) (C:=1) (aA _) (fun v i _ _=>by
   unfold cH;split
   ·rw[iW,eS v];omega
   ·omega) u j
  have:=kg (bN (cH a b) (j:Int) u);omega
 leaf:=fun σ ⟨e1,e2⟩ u j ⟨h1,_⟩ hj _ _=>Ug w0 a b ha ha' hb hb' p σ e1 e2 u j hj (fun h3=>pR h1 (by omega))
theorem KE(w0:World)(t:aa)(a b:Int)(ha:0<=a)(ha':a<=30000000000)(hb:-1152921504606846976<=b)(hb':b<=1152921504606846976)(hnr:bM 2305843009213693952 t=true)(hn:ax t<=12000000000)(σ:H):DC prog w0 187 [t.v,I a,I b] σ (Same (np a b t).v σ):=by
 refine Kw.go rfl (fun hok hsz=>?_);have hw:=KB (Uh w0 a b ha ha' hb hb' (σ.length+1)) t ⟨hnr,hn⟩ 0 (by omega) (σ++[.cells t.v.ai,.cells [I a],.cells [I b],.cells [I 0,S [],I 0,.ab []]]) ⟨by simp,by rw[ji];simp⟩;have hz:np a b t=bN (cH a b) ((0:Nat):Int) t:=rfl;rw[hz];generalize bN (cH a b) ((0:Nat):Int) t=z at*
 (refine W.a ?_;simp only[go_sem,Cs]);(refine W.c1 (hw) ?_;simp only[go_sem]);(refine W.a ?_;simp only[go_sem]);(refine W.fs (hok) (by simp only[Ct,go_sem];rfl) ?_;simp only[al];try exact V.wk.rfl _)
 all_goals (all_goals exact au)
theorem Ui(w0:World)(i:Int)(s:aa)(hi:0<=i)(hi':i<=30000000000)(hsn:bM 2305843009213693952 s=true)(ix:ax s<=12000000000)(p:Nat)(σ:H)(e1:σ[p]?=some (.cells [I i]))(e2:σ[p+1]?=some (.cells s.v.ai))(u:aa)(j:Nat)(hj:j<=30000000000)(hu:u.k=3->-2305843009213693952<=u.n/\u.n<=2305843009213693952):
  DC prog w0 280 [u.v,I (j:Int),.ptr p 0,.ptr (p+1) 0] σ (Same (eE i s u (j:Int)).v σ):=by
 refine Ud.go rfl (fun hok hsz=>?_);have e1:∀L,(σ++L)[p]?=some (.cells [I i]):=fun L=>by rw[cI (aL.1 e1).1];exact e1
 have e2:∀L,(σ++L)[p+1]?=some (.cells [I s.k,S s.name,I s.n,.c (.sl (s.l.map aa.cs))]):=fun L=>by rw[cI (aL.1 e2).1];exact e2
 have hw:aN.wrap ((j:Int)+i)=(j:Int)+i:=by rw[bn]<;>omega
 by_cases h3:u.k=3
 ·have k3:(u.k==3)=true:=by simp[h3]
  have hu:=hu h3;by_cases hlt:u.n<(j:Int)+i
  ·have hE:eE i s u (j:Int)=u:=by unfold eE;rw[if_pos (.inr hlt)]
   rw[hE];clear h3 hE;(refine W.a ?_;simp only[go_sem,um,k3,bne,e1,e2,hw,hlt]);refine W.yes rfl (W.a ?_);simp only[go_sem];(refine W.fs (hok) (by simp only[uo,go_sem];rfl) ?_;simp only[al];try exact V.wk.rfl _)
   all_goals (all_goals exact au)
  ·by_cases heq:u.n=(j:Int)+i
   ·have hE:eE i s u (j:Int)=np 0 (j:Int) s:=by unfold eE;rw[if_neg (by omega),if_pos heq]
    have hS:=fun σ=>KE w0 s 0 (j:Int) (by decide) (by decide) (by omega) (by omega) hsn ix σ;have q:(u.n==(j:Int)+i)=true:=by simp[heq]
    rw[hE];generalize np 0 (j:Int) s=z at*;clear h3 hE heq;(refine W.a ?_;simp only[go_sem,um,k3,bne,e1,e2,hw,hlt]);refine W.no rfl (W.a ?_);simp only[go_sem,e1,e2,hw,q];refine W.yes rfl (W.a ?_);simp only[go_sem,e1,e2];(refine W.c1 (hS _) ?_;simp only[go_sem]);(refine W.a ?_;simp only[go_sem]);(refine W.fs (hok) (by simp only[uo,go_sem];rfl) ?_;simp only[al];try exact V.wk.rfl _)
    all_goals (all_goals exact au)
   ·have hE:eE i s u (j:Int)= .mk u.k u.name (u.n+-1) u.l:=by unfold eE;rw[if_neg (by omega),if_neg heq];rfl
    have hM:=fun σ=>KC w0 u (-1) (by omega) (by omega) σ;have q:(u.n==(j:Int)+i)=false:=by simp[heq]
    rw[hE];clear h3 hE heq;(refine W.a ?_;simp only[go_sem,um,k3,bne,e1,e2,hw,hlt]);refine W.no rfl (W.a ?_);simp only[go_sem,e1,e2,hw,q];refine W.no rfl (W.a ?_);simp only[go_sem,e1,e2];(refine W.c1 (hM _) ?_;simp only[go_sem]);(refine W.a ?_;simp only[go_sem]);(refine W.fs (hok) (by simp only[uo,go_sem];rfl) ?_;simp only[al];try exact V.wk.rfl _)
    all_goals (all_goals exact au)
 ·have hE:eE i s u (j:Int)=u:=by unfold eE;rw[if_pos (.inl h3)]
  have k3:(u.k==3)=false:=by simp[h3]
  rw[hE];clear h3 hE;(refine W.a ?_;simp only[go_sem,um,k3,bne]);refine W.yes rfl (W.a ?_);simp only[go_sem];(refine W.fs (hok) (by simp only[uo,go_sem];rfl) ?_;simp only[al];try exact V.wk.rfl _)
  all_goals (all_goals exact au)
theorem Uj(w0:World)(i:Int)(s:aa)(hi:0<=i)(hi':i<=30000000000)(hsn:bM 2305843009213693952 s=true)(ix:ax s<=12000000000)(p:Nat):
  Cu w0 (fun σ=>σ[p]?=some (.cells [I i])/\σ[p+1]?=some (.cells s.v.ai)) (fun u=>bM 2305843009213693952 u=true/\ax u<=12000000000/\ax s*ax u<=12000000000) (eE i s) 280 [.ptr p 0,.ptr (p+1) 0] where
 more:=fun σ L ⟨e1,e2⟩=>⟨by rw[cI (aL.1 e1).1];exact e1,by rw[cI (aL.1 e2).1];exact e2⟩
 low:=fun σ ⟨e1,e2⟩ x hx=>by
  have h1:=(aL.1 e1).1;have h2:=(aL.1 e2).1;simp only[cA,jj,or_false]at hx;rcases hx with rfl|rfl
  ·exact .ptr h1
  ·exact .ptr h2
 dO:=fun u ⟨h1,h2,h3⟩ v hv=>⟨iF h1 v hv,by have:=jI hv;omega,bE (Nat.mul_le_mul_left _ (Nat.le_of_lt (jI hv))) h3⟩
 len:=fun u ⟨_,h2,_⟩=>bE (kg u) h2
 nz:=fun u ⟨_,_,h3⟩ j=>bE (kg _) (bE (Uf i s u j) h3)
 leaf:=fun σ ⟨e1,e2⟩ u j ⟨h1,_⟩ hj _ _=>Ui w0 i s hi hi' hsn ix p σ e1 e2 u j hj (fun h3=>pR h1 (by omega))
theorem Uk(w0:World)(t:aa)(i:Int)(s:aa)(hi:0<=i)(hi':i<=30000000000)(hsn:bM 2305843009213693952 s=true)(ix:ax s<=12000000000)(hnr:bM 2305843009213693952 t=true)(hn:ax t<=12000000000)(hm:ax s*ax t<=12000000000)(σ:H):DC prog w0 262 [t.v,I i,s.v] σ (Same (rB i s t).v σ):=by
 refine Uc.go rfl (fun hok hsz=>?_);have hw:=KB (Uj w0 i s hi hi' hsn ix (σ.length+1)) t ⟨hnr,hn,hm⟩ 0 (by omega) (σ++[.cells t.v.ai,.cells [I i],.cells s.v.ai,.cells [I 0,S [],I 0,.ab []]]) ⟨by simp,by rw[ji];simp⟩;have hz:rB i s t=bN (eE i s) ((0:Nat):Int) t:=rfl;rw[hz];generalize bN (eE i s) ((0:Nat):Int) t=z at*
 (refine W.a ?_;simp only[go_sem,Ky]);(refine W.c1 (hw) ?_;simp only[go_sem]);(refine W.a ?_;simp only[go_sem]);(refine W.fs (hok) (by simp only[Kz,go_sem];rfl) ?_;simp only[al];try exact V.wk.rfl _)
 all_goals (all_goals exact au)
end Go.Proofs.YtdlkenpilhakfaaGreatDoor
namespace Go.Lamb
open Go Go.RowKit
theorem Ul{rows:List (List C)}(h:∀r∈rows,r.length=4){i:Nat}(hi:i<rows.length):(rows.flatten.drop (i*4)).take 4=rows[i]:=by
 have h1:=ti 4 rows.length rows.flatten i (by rw[wY];exact hi);rw[<-h1];have h2:=pf h;simp only[h2]
theorem Um{rows:List (List C)}:(∀r∈rows,r.length=4)->rows.flatten.length=rows.length*4:=by
 induction rows with
 |nil=>intro _;rfl
 |cons r l ih=>
  intro h;rw[dW,bD,ih (fun q hq=>h q (bS _ hq)),h r (bu ..),bk];omega
theorem Un{rows:List (List C)}:(∀r∈rows,r.length=4)->∀{i:Nat} (hi:i<rows.length) (y:List C),y.length=4->rows.flatten.take (i*4)++y++rows.flatten.drop (i*4+4)=(rows.set i y).flatten:=by
 induction rows with
 |nil=>intro _ i hi;simp at hi
 |cons r l ih=>
  intro h i hi y hy;have hr:=h r (bu ..);cases i with
  |zero=>
   rw[List.set_cons_zero,dW,dW,Nat.zero_mul,cV,eH,Nat.zero_add,<-hr,List.drop_left]
  |succ i=>
   rw[List.set_cons_succ,dW,dW,<-ih (fun q hq=>h q (bS _ hq)) (by simpa using hi) y hy];have e1:(i+1)*4=r.length+i*4:=by rw[hr];omega
   rw[e1,List.take_append,eT (by omega),ft,ji,List.drop_append,List.drop_of_length_le (by omega),ft,eH];simp only[dt]
theorem ki(l:List aa):∀r∈l.map aa.cs,r.length=4:=fun r hr=>by
 obtain⟨u,_,rfl⟩:=eu.1 hr;rw[aa.aM];rfl
end Go.Lamb
