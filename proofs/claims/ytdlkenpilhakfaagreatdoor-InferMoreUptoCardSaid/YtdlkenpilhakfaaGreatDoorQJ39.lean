/- . -/
import Derived.Test.YtdlkenpilhakfaaGreatDoorChecked
import Derived.Test.YtdlkenpilhakfaaGreatDoorQJ16
import Derived.Test.YtdlkenpilhakfaaGreatDoorQJ38
import Derived.Test.YtdlkenpilhakfaaGreatDoorQJ14
import Derived.Test.YtdlkenpilhakfaaGreatDoorQGrow
import Derived.Test.YtdlkenpilhakfaaGreatDoorQLxD
import Derived.Test.YtdlkenpilhakfaaGreatDoorQLexGl
import Derived.Test.YtdlkenpilhakfaaGreatDoorQLexBk
import Derived.Test.YtdlkenpilhakfaaGreatDoorQRefH
import Derived.Test.YtdlkenpilhakfaaGreatDoorQRefI
import Derived.Test.YtdlkenpilhakfaaGreatDoorQJ17
import Derived.Lib.ItoaLen
set_option linter.unusedSimpArgs false
set_option linter.unusedVariables false
set_option maxHeartbeats 8000000
set_option maxRecDepth 20000
open And renaming intro->fb
open Bool renaming and_eq_true->bz,true_and->qz
open Go.Builtin renaming zeroCells->qt
open Go.IntKind renaming i64->aW
open Go.Lib renaming run_append_grow_zeros->vV,wpList_append_run->vW
open Go.RowKit.Below renaming refl->ep
open List renaming all_eq_true->cL,append_assoc->dc,append_nil->cq,getElem?_eq_getElem->aR,getElem_mem->bw,length_append->bt,length_cons->bo,length_nil->cM,length_pos_iff->jV,map->il,map_append->dX,map_cons->cE,map_nil->dT,mem_cons->cD,mem_cons_self->bp,mem_map->dK,take_length->oZ,take_succ_cons->ey,take_zero->dj
open Nat renaming le_refl->aA,reduceAdd->dL,zero_le->bx
open Option renaming getD_none->qD,getD_some->ir,isSome_none->Fi,isSome_some->sL
open Go.Proofs.Tryz
namespace Go.Proofs.YtdlkenpilhakfaaGreatDoor
open Go.RowKit Go.Lamb
def c145:AC:=rsq [.o 4 (.box (.k (.agg [.c (.str []),.c (.int .i64 0)]))),.o 5 (.af zF)] (.seq (rsq [.m 9 0,.o 10 (.aO 9),.o 11 (.af (zK 0))] (.block 0 (.loop (rsq [.o 12 (.bin .lss 11 10)] (.seq (.cond 12 .skip (.exit 0)) (.seq (.block 1 (rsq [.o 13 (.aI 2 9 11),.d 14 2 13,.o 7 (.box (.k (.agg [.c (.str []),.c (.int .i64 0)]))),.s 2 7 14] (rif [.m 15 1,.d 16 2 7,.o 17 (.call 15 [16])] 17 (rsq [.d 18 2 7,.s 2 4 18,.o 5 (.af zT)] .ret) .skip))) (.aG [.o 19 (.bin .add 11 (zK 1)),.m 11 19]))))))) (rsq [.o 8 (.box (.k (.agg [.c (.str []),.c (.int .i64 0)])))] (rsq [.d 20 2 8,.s 2 4 20,.o 5 (.af zF)] .ret)))
def yo:List aw:=[.bj 2 4,.tmp 5]
theorem J5:az prog 145 2 Tryz.f145 c145 yo:=.auto func145
def c146:AC:=rsq [.o 2 (.box 0),.o 3 (.af zF)] (rsq [.f 4 0 2,.l 5 4,.l 6 1,.o 7 (.bin .eql 5 6),.m 3 7] .ret)
def Co:List aw:=[.tmp 3]
theorem J6:az prog 146 2 Tryz.f146 c146 Co:=.auto func146
def Cp:AC:=rsq [.o 2 (.box 0),.o 3 (.box 1),.o 4 (.af (zK 0)),.o 5 (.af zF)] (rsq [.f 9 0 2,.l 10 9,.o 11 (.gB 146 [3]),.k 12 145 [10,11],.m 8 12,.x 13 8 0,.x 14 8 1,.o 6 (.box (.k (.agg [.c (.str []),.c (.int .i64 0)]))),.s 2 6 13,.m 7 14] (rsq [.f 15 1 6,.l 16 15,.m 17 7,.m 4 16,.m 5 17] .ret))
def Cq:List aw:=[.tmp 4,.tmp 5]
theorem J7:az prog 100 2 Tryz.f100 Cp Cq:=.auto func100
def J8:AC:=rsq [.o 4 (.box (.k (.agg [.c (.str []),.c (.int .i64 0),.c (.str []),.c (.int .i64 0),.ab []]))),.o 5 (.af zF)] (.seq (rsq [.m 9 0,.o 10 (.aO 9),.o 11 (.af (zK 0))] (.block 0 (.loop (rsq [.o 12 (.bin .lss 11 10)] (.seq (.cond 12 .skip (.exit 0)) (.seq (.block 1 (rsq [.o 13 (.aI 5 9 11),.d 14 5 13,.o 7 (.box (.k (.agg [.c (.str []),.c (.int .i64 0),.c (.str []),.c (.int .i64 0),.ab []]))),.s 5 7 14] (rif [.m 15 1,.d 16 5 7,.o 17 (.call 15 [16])] 17 (rsq [.d 18 5 7,.s 5 4 18,.o 5 (.af zT)] .ret) .skip))) (.aG [.o 19 (.bin .add 11 (zK 1)),.m 11 19]))))))) (rsq [.o 8 (.box (.k (.agg [.c (.str []),.c (.int .i64 0),.c (.str []),.c (.int .i64 0),.ab []])))] (rsq [.d 20 5 8,.s 5 4 20,.o 5 (.af zF)] .ret)))
def Cr:List aw:=[.bj 5 4,.tmp 5]
theorem TJ:az prog 50 2 Tryz.f50 J8 Cr:=.auto func50
def c51:AC:=rsq [.o 2 (.box 0),.o 3 (.af zF)] (rsq [.f 4 0 2,.l 5 4,.l 6 1,.o 7 (.bin .eql 5 6),.m 3 7] .ret)
def J9:List aw:=[.tmp 3]
theorem TK:az prog 51 2 Tryz.f51 c51 J9:=.auto func51
def Ka:AC:=rsq [.o 2 (.box 0),.o 3 (.box 1),.o 4 (.box (.k (.agg zS4))),.o 5 (.af zF)] (rsq [.f 9 1 2,.l 10 9,.o 11 (.gB 51 [3]),.k 12 50 [10,11],.m 8 12,.x 13 8 0,.x 14 8 1,.o 6 (.box (.k (.agg [.c (.str []),.c (.int .i64 0),.c (.str []),.c (.int .i64 0),.ab []]))),.s 5 6 13,.m 7 14] (rsq [.f 15 1 6,.d 16 4 15,.m 17 7,.s 4 4 16,.m 5 17] .ret))
def Kb:List aw:=[.bj 4 4,.tmp 5]
theorem TL:az prog 15 2 Tryz.f15 Ka Kb:=.auto func15
def rG:AC:=rsq [.o 2 (.box 0),.o 3 (.box 1),.o 4 (.af zF)] (.seq (rsq [.d 8 3 2,.f 9 1 3,.l 10 9,.k 11 100 [8,10],.m 7 11,.x 12 7 0,.x 13 7 1,.m 5 12,.m 6 13] (rif [.f 14 0 3,.l 15 14,.o 16 (.bin .eql 15 (zK 0)),.m 17 16,.y 18 (.af 6) 17,.y 19 (.un .not 18) 17,.y 20 (.af 19) 17,.z 21 (.af 5) 20,.z 22 (.aX 3 3) 20,.z 23 (.aU 22) 20,.z 24 (.aO 23) 20,.z 25 (.bin .neq 21 24) 20,.y 26 (.pick 20 zT 25) 17,.o 27 (.pick 17 26 zF)] 27 (rsq [.o 4 (.af zF)] .ret) .skip)) (rsq [.f 28 3 3,.l 29 28,.o 30 (.gB 144 [2]),.k 31 64 [29,30],.o 32 (.un .not 31),.m 4 32] .ret))
def rH:List aw:=[.tmp 4]
theorem Kc:az prog 99 2 Tryz.f99 rG rH:=.auto func99
def Cs:AC:=rsq [.o 2 (.box 0),.o 3 (.af zF)] (rsq [.d 4 3 1,.d 5 4 2,.k 6 99 [4,5],.o 7 (.un .not 6),.m 3 7] .ret)
def Ct:List aw:=[.tmp 3]
theorem Kd:az prog 144 2 Tryz.f144 Cs Ct:=.auto func144
def c53:AC:=rsq [.o 2 (.box 0),.o 3 (.box 1),.o 4 (.af zF)] (rsq [.d 5 4 3,.k 6 24 [5],.m 7 6,.y 8 (.eJ 3 2) 7,.y 9 (.eJ 4 3) 7,.y 10 (.call (.k (.fn 99 [])) [8,9]) 7,.o 11 (.pick 7 10 zF),.m 4 11] .ret)
def yp:List aw:=[.tmp 4]
theorem Ke:az prog 53 2 Tryz.f53 c53 yp:=.auto func53
def yq:AC:=rsq [.o 6 (.af (zK 0))] (.seq (.block 0 (rif [.m 8 0,.o 9 (.un .not 8),.m 7 9] 7 (rsq [.o 6 (.af (zK 113))] .ret) (rif [.m 11 1,.m 10 11] 10 (rsq [.o 6 (.af (zK 110))] .ret) (rif [.m 13 2,.o 14 (.bin .geq 13 (zK 1024)),.m 12 14] 12 (rsq [.o 6 (.af (zK 112))] .ret) .skip)))) (rsq [.o 6 (.af (zK 0))] .ret))
def rI:List aw:=[.tmp 6]
theorem Kf:az prog 101 3 Tryz.f101 yq rI:=.auto func101
def Cu:AC:=rsq [.o 3 (.box 0),.o 4 (.box 1),.o 6 (.box (.k (.agg [.ab [],.ab [],.ab []]))),.o 7 (.af (zK 0))] (rsq [.o 8 (.af (zK 0))] (.seq (rsq [.f 14 0 4,.l 15 14] (.block 0 (rif [.o 17 (.bin .eql 15 (zK 0)),.m 16 17] 16 (rsq [.d 19 3 3,.m 20 2,.k 21 100 [19,20],.m 18 21,.x 22 18 0,.x 23 18 1,.m 9 22,.m 10 23] (.seq (drg [.m 24 2,.k 25 62 [24],.m 26 25,.y 27 (.aX 2 4) 26,.y 28 (.aU 27) 26,.y 29 (.bin .geq 28 (zK 0)) 26,.o 30 (.pick 26 29 zF),.m 31 10,.f 32 0 3,.l 33 32,.o 34 (.aO 33),.k 35 101 [30,31,34],.m 8 35] [0,101,202,203,204,205,206,7,8,9,10,311,412]) (drg [.f 36 0 3,.l 37 36,.k 38 102 [37],.m 39 2,.f 40 2 4,.l 41 40,.o 42 (.build [.c (.str []),.c (.int .i64 0)] [(0,1,39),(1,1,41)]),.o 43 (.bn 2 [42]),.o 44 (.app 106 2 24 38 43),.f 45 0 3,.s 1 45 44] [0,1,102,3,4,5,6,7,308,409,510]))) (rif [.o 47 (.bin .eql 15 (zK 1)),.m 46 47] 46 (rsq [.d 49 3 3,.m 50 2,.k 51 15 [49,50],.m 48 51,.x 52 48 0,.x 53 48 1,.o 11 (.box (.k (.agg zS4))),.s 4 11 52,.m 12 53] (.seq (drg [.m 54 2,.k 55 62 [54],.m 56 55,.z 57 (.af 2) 56,.z 58 (.call (.k (.fn 103 [])) [57]) 56,.o 59 (.pick 56 zT 58),.m 60 12,.f 61 1 3,.l 62 61,.o 63 (.aO 62),.k 64 101 [59,60,63],.m 8 64] [0,101,202,203,304,405,6,7,8,9,510,611]) (drg [.f 65 1 3,.l 66 65,.k 67 104 [66],.m 68 2,.f 69 3 4,.d 70 4 69,.o 71 (.build [.c (.str []),.c (.int .i64 0),.c (.str []),.c (.int .i64 0),.ab []] [(0,1,68),(1,4,70)]),.o 72 (.bn 5 [71]),.o 73 (.app 50 5 72 67 72),.f 74 1 3,.s 1 74 73] [0,1,102,3,4,5,6,7,308,409,510]))) (rif [.o 76 (.bin .eql 15 (zK 2)),.m 75 76] 75 (rsq [.f 77 7 4,.d 78 3 77,.o 13 (.box (.k (.agg [.c (.str []),.c (.int .i64 0),.c (.int .i64 0)]))),.s 3 13 78] (rsq [.m 79 2,.f 80 0 13,.s 1 80 79] (.aG [.f 82 2 3,.l 83 82,.d 84 3 13,.k 85 105 [83,84],.m 81 85,.x 86 81 0,.x 87 81 1,.f 88 2 3,.s 1 88 86,.m 8 87]))) .skip))))) (rsq [.d 89 3 3,.m 90 8,.s 3 6 89,.m 7 90] .ret)))
def yr:List aw:=[.bj 3 6,.tmp 7]
theorem Kg:az prog 54 3 Tryz.f54 Cu yr:=.auto func54
def Cv:AC:=rsq [.o 1 (.box 0),.o 2 (.box (.k (.agg [.ab [],.ab [],.ab []])))] (.seq (drg [.f 3 0 1,.l 4 3,.k 5 97 [4],.f 6 1 1,.l 7 6,.k 8 81 [7],.f 9 2 1,.l 10 9,.k 11 98 [10],.o 12 (.build [.ab [],.ab [],.ab []] [(0,1,5),(1,1,8),(2,1,11)]),.s 3 2 12] [0,1,102,3,4,305,6,7,508,609,710]) .ret)
def Cw:List aw:=[.bj 3 2]
theorem Kh:az prog 52 1 Tryz.f52 Cv Cw:=.auto func52
def yt:AC:=rsq [.o 2 (.box 0),.o 3 (.box 1),.o 4 (.box (.k (.agg [.ab [],.ab [],.ab []]))),.o 5 (.af (zK 0))] (.seq (.block 0 (rif [.f 12 0 3,.l 13 12,.o 14 (.bin .lss 13 (zK 0)),.m 15 14,.z 16 (.aX 0 3) 15,.z 17 (.aU 16) 15,.z 18 (.bin .gtr 17 (zK 3)) 15,.o 19 (.pick 15 zT 18),.m 11 19] 11 (rsq [.d 20 3 2,.k 21 52 [20],.s 3 4 21,.o 5 (.af (zK 1))] .ret) (rif [.f 23 0 3,.l 24 23,.o 25 (.bin .eql 24 (zK 1)),.m 26 25,.y 27 (.eJ 3 2) 26,.y 28 (.aX 3 3) 26,.y 29 (.eJ 4 28) 26,.y 30 (.call (.k (.fn 53 [])) [27,29]) 26,.y 31 (.un .not 30) 26,.o 32 (.pick 26 31 zF),.m 22 32] 22 (rsq [.d 33 3 2,.k 34 52 [33],.s 3 4 34,.o 5 (.af (zK 111))] .ret) .skip))) (rsq [.d 35 3 2,.k 36 52 [35],.o 6 (.box (.k (.agg [.ab [],.ab [],.ab []]))),.s 3 6 36] (.seq (rsq [.f 37 1 3,.l 38 37,.o 39 (.aO 38),.o 40 (.af (zK 0))] (.block 1 (.loop (rsq [.o 41 (.bin .lss 40 39)] (.seq (.cond 41 .skip (.exit 1)) (.seq (.block 2 (rsq [.o 42 (.aI 1 38 40),.l 43 42,.m 8 43] (rsq [.d 45 3 6,.d 46 16 3,.m 47 8,.k 48 54 [45,46,47],.m 44 48,.x 49 44 0,.x 50 44 1,.o 9 (.box (.k (.agg [.ab [],.ab [],.ab []]))),.s 3 9 49,.m 10 50] (.seq (rif [.m 51 10,.o 52 (.bin .neq 51 (zK 0))] 52 (rsq [.d 53 3 2,.k 54 52 [53],.m 55 10,.s 3 4 54,.m 5 55] .ret) .skip) (.aG [.d 56 3 9,.s 3 6 56]))))) (.aG [.o 57 (.bin .add 40 (zK 1)),.m 40 57]))))))) (rsq [.d 58 3 6,.s 3 4 58,.o 5 (.af (zK 0))] .ret))))
def uq:List aw:=[.bj 3 4,.tmp 5]
theorem Ki:az prog 16 2 Tryz.f16 yt uq:=.auto func16
def c159:AC:=rsq [.o 2 (.box (.k (.agg zS4)))] (rsq [.m 3 0,.o 4 (.build zS4 [(1,1,3)]),.s 4 2 4] .ret)
def Kj:List aw:=[.bj 4 2]
theorem TM:az prog 159 1 Tryz.f159 c159 Kj:=.auto func159
def Kk:AC:=rsq [.o 2 (.box 0),.o 4 (.af (.k (.ab [])))] (rsq [.o 5 (.af (.k (.ab [])))] (.seq (rsq [.m 8 1,.o 9 (.aO 8),.o 10 (.af (zK 0))] (.block 0 (.loop (rsq [.o 11 (.bin .lss 10 9)] (.seq (.cond 11 .skip (.exit 0)) (.seq (.block 1 (rsq [.o 12 (.aI 1 8 10),.l 13 12,.m 7 13] (.aG [.m 14 5,.m 15 7,.d 16 4 2,.o 17 (.build [.c (.str []),.c (.int .i64 0),.c (.str []),.c (.int .i64 0),.ab []] [(0,1,15),(1,4,16)]),.o 18 (.bn 5 [17]),.o 19 (.app 50 5 72 14 18),.m 5 19]))) (.aG [.o 20 (.bin .add 10 (zK 1)),.m 10 20]))))))) (rsq [.m 21 5,.m 4 21] .ret)))
def Kl:List aw:=[.tmp 4]
theorem TN:az prog 161 2 Tryz.f161 Kk Kl:=.auto func161
def Km:AC:=rsq [.o 0 (.box (.k (.agg [.ab [],.ab [],.ab []])))] (rsq [.k 5 159 [(.k (.c (.str [111])))],.k 6 159 [(.k (.c (.str [105,110,116])))],.o 7 (.build zS4 [(0,1,(zK 1))]),.o 1 (.box (.k (.agg zS4))),.o 2 (.box (.k (.agg zS4))),.o 3 (.box (.k (.agg zS4))),.s 4 1 5,.s 4 2 6,.s 4 3 7] (.seq (drg [.d 8 4 1,.d 9 4 1,.d 10 4 1,.o 11 (.bn 4 [9,10]),.k 12 68 [8,11],.o 13 (.bn 1 [(.k (.c (.str [58,45]))),(.k (.c (.str [44]))),(.k (.c (.str [59]))),(.k (.c (.str [61,62])))]),.k 14 161 [12,13],.d 15 4 1,.d 16 4 3,.d 17 4 3,.o 18 (.bn 4 [16,17]),.k 19 68 [15,18],.o 20 (.bn 1 [(.k (.c (.str [61])))]),.k 21 161 [19,20],.d 22 4 1,.d 23 4 2,.d 24 4 2,.o 25 (.bn 4 [23,24]),.k 26 68 [22,25],.o 27 (.bn 1 [(.k (.c (.str [105,115]))),(.k (.c (.str [60]))),(.k (.c (.str [61,60]))),(.k (.c (.str [62]))),(.k (.c (.str [62,61])))]),.k 28 161 [26,27],.d 29 4 2,.d 30 4 2,.d 31 4 2,.o 32 (.bn 4 [30,31]),.k 33 68 [29,32],.o 34 (.bn 1 [(.k (.c (.str [43]))),(.k (.c (.str [45]))),(.k (.c (.str [42]))),(.k (.c (.str [100,105,118]))),(.k (.c (.str [109,111,100])))]),.k 35 161 [33,34],.d 36 4 2,.d 37 4 2,.o 38 (.bn 4 [37]),.k 39 68 [36,38],.o 40 (.bn 1 [(.k (.c (.str [126])))]),.k 41 161 [39,40],.d 42 4 1,.o 43 (.bn 1 [(.k (.c (.str [116,114,117,101]))),(.k (.c (.str [102,97,105,108]))),(.k (.c (.str [33])))]),.k 44 161 [42,43],.d 45 4 1,.d 46 4 1,.d 47 4 3,.o 48 (.bn 4 [47]),.k 49 68 [46,48],.o 50 (.bn 4 [49]),.k 51 68 [45,50],.o 52 (.bn 1 [(.k (.c (.str [112,105]))),(.k (.c (.str [115,105,103,109,97])))]),.k 53 161 [51,52],.o 54 (.bn 1 [14,21,28,35,41,44,53]),.k 55 160 [54],.m 4 55] [0,1,2,3,104,5,306,7,8,9,10,511,12,713,14,15,16,17,918,19,1120,21,22,23,24,1325,26,1527,28,29,30,1731,32,1933,34,35,2136,38,39,40,2341,37,2442,2543,44,2745,2846,2947,3048]) (rsq [.o 56 (.build [.c (.str []),.c (.int .i64 0)] [(0,1,(.k (.c (.str [111]))))]),.o 57 (.build [.c (.str []),.c (.int .i64 0)] [(0,1,(.k (.c (.str [105,110,116]))))]),.o 58 (.bn 2 [56,57]),.m 59 4,.k 60 106 [],.o 61 (.build [.ab [],.ab [],.ab []] [(0,1,58),(1,1,59),(2,1,60)]),.s 3 0 61] .ret)))
def Kn:List aw:=[.bj 3 0]
theorem TO:az prog 108 0 Tryz.f108 Km Kn:=.auto func108
def Cx:AC:=rsq [.o 2 (.af (.k (.ab [])))] (.seq (rif [.m 3 0,.o 4 (.iw false 3)] 4 (rsq [.o 2 (.af (.k (.ab [])))] .ret) .skip) (rsq [.o 5 (.bn 2 []),.m 6 0,.o 7 (.app 106 2 24 5 6),.m 2 7] .ret))
def TP:List aw:=[.tmp 2]
theorem Ko:az prog 97 1 Tryz.f97 Cx TP:=.auto func97
def yu:AC:=rsq [.o 2 (.af (.k (.ab [])))] (.seq (rif [.m 3 0,.o 4 (.iw false 3)] 4 (rsq [.o 2 (.af (.k (.ab [])))] .ret) .skip) (rsq [.o 5 (.bn 5 []),.m 6 0,.o 7 (.app 50 5 72 5 6),.m 2 7] .ret))
def TQ:List aw:=[.tmp 2]
theorem Cy:az prog 81 1 Tryz.f81 yu TQ:=.auto func81
def Cz:AC:=rsq [.o 2 (.af (.k (.ab [])))] (rsq [.m 3 0,.m 4 0,.o 5 (.aO 4),.m 6 0,.o 7 (.aO 6),.o 8 (.jq 5 3 none (some 5) (some 7)),.m 2 8] .ret)
def CA:List aw:=[.tmp 2]
theorem Kp:az prog 104 1 Tryz.f104 Cz CA:=.auto func104
def Kq:AC:=rsq [.o 2 (.box 0),.o 3 (.box 1),.o 4 (.af zF)] (.seq (rif [.f 8 0 2,.l 9 8,.o 10 (.aO 9),.f 11 0 3,.l 12 11,.o 13 (.aO 12),.o 14 (.bin .neq 10 13),.m 15 14,.z 16 (.aX 1 2) 15,.z 17 (.aU 16) 15,.z 18 (.aO 17) 15,.z 19 (.aX 1 3) 15,.z 20 (.aU 19) 15,.z 21 (.aO 20) 15,.z 22 (.bin .neq 18 21) 15,.o 23 (.pick 15 zT 22)] 23 (rsq [.o 4 (.af zF)] .ret) .skip) (.seq (rsq [.o 5 (.af (zK 0))] (forL 0 1 [.m 24 5,.f 25 0 2,.l 26 25,.o 27 (.aO 26),.o 28 (.bin .lss 24 27)] 28 (.seq (drg [.f 31 0 2,.l 32 31,.m 33 5,.o 34 (.aI 2 32 33),.d 35 2 34,.f 36 0 3,.l 37 36,.m 38 5,.o 39 (.aI 2 37 38),.d 40 2 39,.o 41 (.eqs true [2,1] 35 40)] [0,1,2,3,4,5,6,7,8,9,10]) (.cond 41 (rsq [.o 4 (.af zF)] .ret) .skip)) [.m 29 5,.o 30 (.bin .add 29 (zK 1)),.m 5 30])) (.seq (rsq [.o 6 (.af (zK 0))] (forL 2 3 [.m 42 6,.f 43 1 2,.l 44 43,.o 45 (.aO 44),.o 46 (.bin .lss 42 45)] 46 (.seq (drg [.f 49 1 2,.l 50 49,.m 51 6,.o 52 (.aI 5 50 51),.f 53 1 52,.d 54 4 53,.f 55 1 3,.l 56 55,.m 57 6,.o 58 (.aI 5 56 57),.f 59 1 58,.d 60 4 59,.k 61 49 [54,60],.m 7 61] [0,1,2,3,4,5,6,7,8,9,10,11,112,213]) (.seq (drg [.f 62 1 2,.l 63 62,.m 64 6,.o 65 (.aI 5 63 64),.f 66 0 65,.l 67 66,.f 68 1 3,.l 69 68,.m 70 6,.o 71 (.aI 5 69 70),.f 72 0 71,.l 73 72,.o 74 (.bin .neq 67 73),.m 75 74,.z 76 (.af 7) 75,.z 77 (.un .not 76) 75,.o 78 (.pick 75 zT 77)] [0,1,2,3,4,5,6,7,8,9,10,11,12,13,14,15,16]) (.cond 78 (rsq [.o 4 (.af zF)] .ret) .skip))) [.m 47 6,.o 48 (.bin .add 47 (zK 1)),.m 6 48])) (rsq [.f 79 2 2,.l 80 79,.f 81 2 3,.l 82 81,.k 83 55 [80,82],.m 4 83] .ret))))
def Kr:List aw:=[.tmp 4]
theorem TS:az prog 18 2 Tryz.f18 Kq Kr:=.auto func18
def Ks(t:List Tok)(i:Int)(l:List cN)(e p:Int):ad:=.cells [.c (po t),I i,.c (iC l),I e,I p]
attribute [local go_sem] Ks jG Bn tN Bo Bp xv
end Go.Proofs.YtdlkenpilhakfaaGreatDoor
namespace Go.Proofs.YtdlkenpilhakfaaGreatDoor
open Go.RowKit Go.Lamb
attribute [local go_sem] pz Ks jG Bn tN Bo Bp xv
def TT:ad:=.cells [I 0,.ab [],I 0,I 0,S [],I 0,.ab [],S [],I 0,I 0,I 0,S [],I 0,.ab [],I 0,I 0]
attribute [local go_sem] TT
end Go.Proofs.YtdlkenpilhakfaaGreatDoor
namespace Go.Proofs.YtdlkenpilhakfaaGreatDoor
open Go.RowKit Go.Lamb
def Kt:AC:=rsq [.o 6 (.af (.k (.ab [])))] (rsq [.o 7 (.af (.k (.ab [])))] (.seq (rsq [.m 10 2,.o 11 (.aO 10),.o 12 (.af (zK 0))] (.block 0 (.loop (rsq [.o 13 (.bin .lss 12 11)] (.seq (.cond 13 .skip (.exit 0)) (.seq (.block 1 (rsq [.o 14 (.aI 1 10 12),.l 15 14,.m 9 15] (.aG [.m 16 7,.m 17 9,.m 18 0,.m 19 1,.o 20 (.build [.c (.str []),.c (.int .i64 0),.c (.int .i64 0)] [(0,1,17),(1,1,18),(2,1,19)]),.o 21 (.bn 3 [20]),.o 22 (.app 60 3 32 16 21),.m 7 22]))) (.aG [.o 23 (.bin .add 12 (zK 1)),.m 12 23]))))))) (rsq [.m 24 7,.m 6 24] .ret)))
def Ku:List aw:=[.tmp 6]
theorem TU:az prog 151 3 Tryz.f151 Kt Ku:=.auto func151
def Kv:AC:=rsq [.o 2 (.af (.k (.ab [])))] (rsq [.o 3 (.af (zK 0))] (.seq (rsq [.m 9 0,.o 10 (.aO 9),.o 11 (.af (zK 0))] (.block 0 (.loop (rsq [.o 12 (.bin .lss 11 10)] (.seq (.cond 12 .skip (.exit 0)) (.seq (.block 1 (rsq [.o 13 (.aI 1 9 11),.l 14 13,.m 5 14] (rsq [.m 15 3,.m 16 5,.o 17 (.aO 16),.o 18 (.bin .add 15 17),.m 3 18] (rif [.m 19 3,.o 20 (.bin .lss 19 (zK 0))] 20 (.aG [.o 21 .bad,⟨none,.bad,none⟩]) .skip)))) (.aG [.o 22 (.bin .add 11 (zK 1)),.m 11 22]))))))) (rsq [.m 23 3,.k 24 203 [(.k (.ab [])),23],.m 6 24] (.seq (rsq [.m 25 0,.o 26 (.aO 25),.o 27 (.af (zK 0))] (.block 2 (.loop (rsq [.o 28 (.bin .lss 27 26)] (.seq (.cond 28 .skip (.exit 2)) (.seq (.block 3 (rsq [.o 29 (.aI 1 25 27),.l 30 29,.m 8 30] (.aG [.m 31 6,.m 32 8,.o 33 (.app 60 3 32 31 32),.m 6 33]))) (.aG [.o 34 (.bin .add 27 (zK 1)),.m 27 34]))))))) (rsq [.m 35 6,.m 2 35] .ret)))))
def Kw:List aw:=[.tmp 2]
theorem TV:az prog 150 1 Tryz.f150 Kv Kw:=.auto func150
def Kx:AC:=rsq [.o 0 (.af (.k (.ab [])))] (rsq [.o 1 (.bn 1 [(.k (.c (.str [58,45])))]),.k 2 151 [(zK 10),(zK 0),1],.o 3 (.bn 1 [(.k (.c (.str [59])))]),.k 4 151 [(zK 20),(zK 2),3],.o 5 (.bn 1 [(.k (.c (.str [44])))]),.k 6 151 [(zK 30),(zK 2),5],.o 7 (.bn 1 [(.k (.c (.str [61,62])))]),.k 8 151 [(zK 40),(zK 2),7],.o 9 (.bn 1 [(.k (.c (.str [61]))),(.k (.c (.str [105,115]))),(.k (.c (.str [60]))),(.k (.c (.str [61,60]))),(.k (.c (.str [62]))),(.k (.c (.str [62,61])))]),.k 10 151 [(zK 60),(zK 0),9],.o 11 (.bn 1 [(.k (.c (.str [43]))),(.k (.c (.str [45])))]),.k 12 151 [(zK 80),(zK 1),11],.o 13 (.bn 1 [(.k (.c (.str [42]))),(.k (.c (.str [100,105,118]))),(.k (.c (.str [109,111,100])))]),.k 14 151 [(zK 90),(zK 1),13],.o 15 (.bn 1 [2,4,6,8,10,12,14]),.k 16 150 [15],.m 0 16] .ret)
def Ky:List aw:=[.tmp 0]
theorem TW:az prog 106 0 Tryz.f106 Kx Ky:=.auto func106
def Kz:AC:=rsq [.o 2 (.box 0),.o 4 (.af (zK 0))] (rsq [.m 7 1,.o 8 (.bin .sub 7 (zK 1)),.m 5 8] (.seq (rsq [.o 6 (.af (zK 0))] (forL 0 1 [.m 9 6,.f 10 3 2,.l 11 10,.o 12 (.aO 11),.o 13 (.bin .lss 9 12),.m 14 13,.y 15 (.af 5) 14,.y 16 (.bin .geq 15 (zK 0)) 14,.o 17 (.pick 14 16 zF)] 17 (.aG [.f 20 3 2,.l 21 20,.m 22 6,.o 23 (.aI 5 21 22),.d 24 5 23,.m 25 5,.k 26 61 [24,25],.m 5 26]) [.m 18 6,.o 19 (.bin .add 18 (zK 1)),.m 6 19])) (rsq [.m 27 5,.m 4 27] .ret)))
def CB:List aw:=[.tmp 4]
theorem TX:az prog 61 2 Tryz.f61 Kz CB:=.auto func61
def c21:AC:=rsq [.o 2 (.box 0),.o 4 (.af zF)] (rsq [.d 6 5 2,.m 7 1,.k 8 61 [6,7],.m 5 8] (rsq [.m 9 5,.o 10 (.bin .lss 9 (zK 0)),.m 4 10] .ret))
def KA:List aw:=[.tmp 4]
theorem TY:az prog 21 2 Tryz.f21 c21 KA:=.auto func21
theorem KB{α:Type}{ls:List (List α)}{i:Nat}(h:i<ls.length):(ls.take (i+1)).flatten=(ls.take i).flatten++ls[i]:=by
 rw[List.take_add_one,aR h,List.flatten_append];congr 1;exact cq _
theorem KC{α:Type}{ls:List (List α)}(i:Nat):(ls.take i).flatten.length<=ls.flatten.length:=by
 have:ls.flatten=(ls.take i).flatten++(ls.drop i).flatten:=by rw[<-List.flatten_append,List.take_append_drop]
 rw[this,bt];omega
def KE:AC:=rsq [.o 4 (.af zF)] (.seq (rif [.m 6 0,.o 7 (.aO 6),.m 8 1,.o 9 (.aO 8),.o 10 (.bin .neq 7 9)] 10 (rsq [.o 4 (.af zF)] .ret) .skip) (.seq (rsq [.o 5 (.af (zK 0))] (forL 0 1 [.m 11 5,.m 12 0,.o 13 (.aO 12),.o 14 (.bin .lss 11 13)] 14 (.seq (drg [.m 17 0,.m 18 5,.o 19 (.aI 3 17 18),.d 20 3 19,.m 21 1,.m 22 5,.o 23 (.aI 3 21 22),.d 24 3 23,.o 25 (.eqs true [2,1,1] 20 24)] [0,1,2,3,4,5,6,7,8]) (.cond 25 (rsq [.o 4 (.af zF)] .ret) .skip)) [.m 15 5,.o 16 (.bin .add 15 (zK 1)),.m 5 16])) (rsq [.o 4 (.af zT)] .ret)))
def KF:List aw:=[.tmp 4]
theorem TZ:az prog 55 2 Tryz.f55 KE KF:=.auto func55
theorem T0{p:ao}{args:List V}(h:∀y∈args,V.Sz y)(hx:p.v∈args):p.l.length<=9223372036854775807:=by
 have:=h _ hx;rw[ao.v,Gz]at this;exact pq (this (.c (.sl (p.l.map ao.cs))) (by simp))
attribute [local go_sem] aa.v aa.aM aY a7 aV aL aT bL.v bL.cs ay.v ay.cs fO ef Sg.v
def CC(o:Option bL):V:=.av [I (o.getD .none).n,B o.isSome]
def oA(o:Option ay):V:=.av [(o.getD .none).ty.v,B o.isSome]
theorem T1(w0:World)(x:bL)(name:bG)(σ:H)(b:Nat)(hb:σ[b]?=some (.cells [S name])):DC prog w0 146 [x.v,.ptr b 0] σ (Same (B (x.name==name)) σ):=by
 refine J6.go rfl (fun hok hsz=>?_);(refine W.a ?_;simp only[go_sem,c146,hG hb]);(refine W.fs (hok) (by simp only[Co,go_sem];rfl) ?_;simp only[ak];try exact V.wk.rfl _)
theorem T2(w0:World)(x:ay)(name:bG)(σ:H)(b:Nat)(hb:σ[b]?=some (.cells [S name])):DC prog w0 51 [x.v,.ptr b 0] σ (Same (B (x.name==name)) σ):=by
 refine TK.go rfl (fun hok hsz=>?_);(refine W.a ?_;simp only[go_sem,c51,hG hb]);(refine W.fs (hok) (by simp only[J9,go_sem];rfl) ?_;simp only[ak];try exact V.wk.rfl _)
theorem T3(w0:World)(l:List bL)(f:FuncId)(caps:List V)(p:bL->Bool)(σ:H)(hcaps:∀k,V.low (σ.length+k) (.fn f caps))(hp:∀x L,DC prog w0 f (bL.v x::caps) (σ++L) (Same (B (p x)) (σ++L))):
  DC prog w0 145 [.c (fO l),.fn f caps] σ (Same (.av [((l.find? p).getD .none).v,B (l.find? p).isSome]) σ):=by
 generalize hF:V.fn f caps=F at hcaps;refine J5.go rfl (fun hok hsz=>?_);have hlen:l.length<=9223372036854775807:=pq (f:=bL.cs) (hsz _ (bp ..));(refine W.a ?_;simp only[go_sem,c145]);refine W.bA (fun i=>i<=l.length/\mg p l i) (fun i=>⟨((((((base.put (some 1) (F)).put (some 4) (.ptr σ.length 0)).put (some 5) (B false)).put (some 9) (.c (fO l))).put (some 10) (I l.length)).put (some 11) (I (i:Nat))),σ++[.cells [S [],I 0]]⟩) (fun i=>l.length-i) 0 ⟨bx _,xi⟩ ?_ (fun i hi=>?_)
 ·(refine aq.env ?_;exact aE)
 ·obtain⟨hi,hinv⟩:=hi;by_cases hlt:i<l.length
  ·have h1:((i:Int)<(l.length:Int)):=by omega
   have hx:l[i]?=some l[i]:=aR hlt;have hw:aW.wrap ((i:Int)+1)=((i+1:Nat):Int):=ed hlt hlen;(refine W.a ?_;simp only[go_sem,h1]);refine W.yes rfl (W.a ?_);simp only[go_sem,h1,bP,hx];refine W.c1 (hp l[i] _) ?_ (hf:=hF.symm);simp only[go_sem];refine W.test rfl (fun h=>?_) (fun h=>?_)
   ·(refine W.a ?_;simp only[go_sem]);rw[GD hinv hlt h];(refine W.fg (hok) (d:=.av [l[i].v,B true]) (by simp only[yo,go_sem];rfl) (by simp only[ak,go_sem];exact au) ?_);exact⟨rfl,rfl⟩
   ·(refine W.a ?_;simp only[go_sem,hw]);refine .inv ⟨i+1,⟨hlt,xg hinv hlt h⟩,by omega,?_⟩;(refine aq.eS (hok) ?_ (by simp) (by simp) ?_ ?_ ?_;exact aE;((try simp only[okB,bu,go_sem,hcaps])<;>omega);(simp only[bo,cM,dL,ey,dj,bu,and_true];(repeat' (refine fb ?_ ?_))<;>(first|exact ad.wk.rfl _|exact ad.wk.gone _|(refine ad.eT ?_ rfl;(exact au))));(repeat' (first|exact aZ.base _|(refine aZ.put ?_ (by first|exact .c _|((try simp only[okB,bu,go_sem,hcaps])<;>omega))))))
  ·have h1:¬((i:Int)<(l.length:Int)):=by omega
   (refine W.a ?_;simp only[go_sem,h1]);refine W.no rfl (W.a ?_);simp only[go_sem];rw[GF hinv (by omega)];(refine W.fg (hok) (d:=.av [bL.none.v,B false]) (by simp only[yo,go_sem,bL.none];rfl) (by simp only[ak,go_sem,bL.none];exact au) ?_ (hl:=by(first|exact .c _|(simp only[go_sem,bL.none];done))));exact⟨rfl,rfl⟩
theorem T4(w0:World)(l:List ay)(f:FuncId)(caps:List V)(p:ay->Bool)(σ:H)(hcaps:∀k,V.low (σ.length+k) (.fn f caps))(hp:∀x L,DC prog w0 f (ay.v x::caps) (σ++L) (Same (B (p x)) (σ++L))):
  DC prog w0 50 [.c (ef l),.fn f caps] σ (Same (.av [((l.find? p).getD .none).v,B (l.find? p).isSome]) σ):=by
 generalize hF:V.fn f caps=F at hcaps;refine TJ.go rfl (fun hok hsz=>?_);have hlen:l.length<=9223372036854775807:=pq (f:=ay.cs) (hsz _ (bp ..));(refine W.a ?_;simp only[go_sem,J8]);refine W.bA (fun i=>i<=l.length/\mg p l i) (fun i=>⟨((((((base.put (some 1) (F)).put (some 4) (.ptr σ.length 0)).put (some 5) (B false)).put (some 9) (.c (ef l))).put (some 10) (I l.length)).put (some 11) (I (i:Nat))),σ++[.cells [S [],I 0,S [],I 0,.ab []]]⟩) (fun i=>l.length-i) 0 ⟨bx _,xi⟩ ?_ (fun i hi=>?_)
 ·(refine aq.env ?_;exact aE)
 ·obtain⟨hi,hinv⟩:=hi;by_cases hlt:i<l.length
  ·have h1:((i:Int)<(l.length:Int)):=by omega
   have hx:l[i]?=some l[i]:=aR hlt;have hw:aW.wrap ((i:Int)+1)=((i+1:Nat):Int):=ed hlt hlen;(refine W.a ?_;simp only[go_sem,h1]);refine W.yes rfl (W.a ?_);simp only[go_sem,h1,bP,hx];refine W.c1 (hp l[i] _) ?_ (hf:=hF.symm);simp only[go_sem];refine W.test rfl (fun h=>?_) (fun h=>?_)
   ·(refine W.a ?_;simp only[go_sem]);rw[GD hinv hlt h];(refine W.fg (hok) (d:=.av [l[i].v,B true]) (by simp only[Cr,go_sem];rfl) (by simp only[ak,go_sem];exact au) ?_);exact⟨rfl,rfl⟩
   ·(refine W.a ?_;simp only[go_sem,hw]);refine .inv ⟨i+1,⟨hlt,xg hinv hlt h⟩,by omega,?_⟩;(refine aq.eS (hok) ?_ (by simp) (by simp) ?_ ?_ ?_;exact aE;((try simp only[okB,bu,go_sem,hcaps])<;>omega);(simp only[bo,cM,dL,ey,dj,bu,and_true];(repeat' (refine fb ?_ ?_))<;>(first|exact ad.wk.rfl _|exact ad.wk.gone _|(refine ad.eT ?_ rfl;(exact au))));(repeat' (first|exact aZ.base _|(refine aZ.put ?_ (by first|exact .c _|((try simp only[okB,bu,go_sem,hcaps])<;>omega))))))
  ·have h1:¬((i:Int)<(l.length:Int)):=by omega
   (refine W.a ?_;simp only[go_sem,h1]);refine W.no rfl (W.a ?_);simp only[go_sem];rw[GF hinv (by omega)];(refine W.fg (hok) (d:=.av [ay.none.v,B false]) (by simp only[Cr,go_sem,ay.none,aa.none];rfl) (by simp only[ak,go_sem,ay.none,aa.none];exact au) ?_ (hl:=by(first|exact .c _|(simp only[go_sem,ay.none,aa.none];done))));exact⟨rfl,rfl⟩
theorem KG(n b f:Nat)(h:b<n)(k:Nat):V.low (n+k) (.fn f [.ptr b 0]):=(w8 _ _ _).2 (fun x hx=>by simp only[List.mem_singleton]at hx;subst hx;exact .ptr (by omega))
theorem T5(w0:World)(s:Sg)(name:bG)(σ:H):DC prog w0 100 [s.v,S name] σ (Same (CC (mm s.kinds name)) σ):=by
 refine J7.go rfl (fun hok hsz=>?_);have hc:=fun M=>T3 w0 s.kinds 146 [.ptr (σ.length+1) 0] (·.name==name) (σ++[.cells s.v.ah,.cells [S name]]++M) (KG _ _ _ (by simp)) (fun x L=>T1 w0 x name _ _ (by rw[dc,dc,bY];rfl));have hc0:=hc [];rw[cq]at hc0;unfold mm CC;generalize s.kinds.find? (·.name==name)=r at hc0;(refine W.a ?_;simp only[go_sem,Cp]);(refine W.c1 (hc0) ?_;simp only[go_sem]);(refine W.fg (hok) (d:=.av [I (r.getD .none).n,B r.isSome]) (by simp only[Cq,go_sem];rfl) (by simp only[ak,go_sem];exact au) ?_)
 exact⟨rfl,rfl⟩
theorem rJ(w0:World)(s:Sg)(name:bG)(σ:H):DC prog w0 15 [s.v,S name] σ (Same (oA (fP s.types name)) σ):=by
 refine TL.go rfl (fun hok hsz=>?_);have hc0:=T4 w0 s.types 51 [.ptr (σ.length+1) 0] (·.name==name) (σ++[.cells s.v.ah,.cells [S name],.cells [I 0,S [],I 0,.ab []]]) (KG _ _ _ (by simp)) (fun x L=>T2 w0 x name _ _ (by rw[dc,bY];rfl));unfold fP oA;generalize s.types.find? (·.name==name)=r at hc0;(refine W.a ?_;simp only[go_sem,Ka]);(refine W.c1 (hc0) ?_;simp only[go_sem]);(refine W.fg (hok) (d:=.av [(r.getD .none).ty.v,B r.isSome]) (by simp only[Kb,go_sem];rfl) (by simp only[ak,go_sem];exact au) ?_)
 exact⟨rfl,rfl⟩
end Go.Proofs.YtdlkenpilhakfaaGreatDoor
namespace Go.Proofs.YtdlkenpilhakfaaGreatDoor
open Go.RowKit Go.Lamb
attribute [local go_sem] aa.v aa.aM aY a7 aV aL aT bL.v bL.cs ay.v ay.cs fO ef Sg.v
theorem T6(w0:World)(s:Sg)(q:aa)(b:Bool)(σ:H)(a:Nat)(ha:σ[a]?=some (.cells s.v.ah))(hq:∀τ,DC prog w0 99 [s.v,q.v] τ (Same (B b) τ)):DC prog w0 144 [q.v,.ptr a 0] σ (Same (B (!b)) σ):=by
 refine Kd.go rfl (fun hok hsz=>?_);have ha':∀L,(σ++L)[a]?=some (.cells [.c (.sl (s.kinds.map bL.cs)),.c (.sl (s.types.map ay.cs)),.c (iC s.ops)]):=fun L=>hG ha L;(refine W.a ?_;simp only[go_sem,Cs,ha']);(refine W.c1 (hq _) ?_;simp only[go_sem]);(refine W.fs (hok) (by simp only[Ct,go_sem];rfl) ?_;simp only[ak];try exact V.wk.rfl _)
theorem T7{l:List bL}{p:aa}{x:bL}(h:mm l p.name=some x)(hk:(p.k==0)=true):pB l p=(x.n==(p.l.length:Int)):=by
 unfold pB;rw[h,hk];rfl
theorem T8{l:List bL}{p:aa}(h:mm l p.name=none)(hk:(p.k==0)=true):pB l p=false:=by
 unfold pB;rw[h,hk];rfl
theorem T9{l:List bL}{p:aa}(hk:(p.k==0)=false):pB l p=true:=by
 unfold pB;rw[hk];rfl
theorem Ua(w0:World)(s:Sg)(p:aa):∀(σ:H),DC prog w0 99 [s.v,p.v] σ (Same (B (nn s.kinds p)) σ):=by
 induction p using aa.ind with
 |h p ih=>
 intro σ;refine Kc.go rfl (fun hok hsz=>?_);have hC:=ui w0 p.l 144 [.ptr σ.length 0] (fun q=>!nn s.kinds q) (σ++[.cells s.v.ah,.cells p.v.ah]) (fun q hq=>T6 w0 s q _ _ _ (by rw[eB];rfl) (fun τ=>ih q hq τ));have hany:=mu p.l (nn s.kinds);have hK:=fun σ=>T5 w0 s p.name σ;rw[Rj];unfold CC at hK;cases hk0:(p.k==0)
 ·rw[T9 hk0,qz];generalize mm s.kinds p.name=r at hK;(refine W.a ?_;simp only[go_sem,rG,hk0]);(refine W.c1 (hK _) ?_;simp only[go_sem,hk0]);refine W.no rfl (W.a ?_);simp only[go_sem];(refine W.c1 (hC) ?_;simp only[go_sem,hany]);(refine W.fs (hok) (by simp only[rH,go_sem];rfl) ?_;simp only[ak];try exact V.wk.rfl _)
 ·cases hr:mm s.kinds p.name with
  |none=>
   rw[T8 hr hk0,Bool.false_and];rw[hr]at hK;(refine W.a ?_;simp only[go_sem,rG,hk0,qD,Fi]);(refine W.c1 (hK _) ?_;simp only[go_sem,hk0,qD,Fi]);refine W.yes rfl (W.a ?_);simp only[go_sem];(refine W.fs (hok) (by simp only[rH,go_sem];rfl) ?_;simp only[ak];try exact V.wk.rfl _)
  |some x=>
   rw[T7 hr hk0];rw[hr]at hK;cases hn:(x.n==(p.l.length:Int))
   ·rw[Bool.false_and];have hn':(x.n !=(p.l.length:Int))=true:=by rw[bne,hn];rfl
    (refine W.a ?_;simp only[go_sem,rG,hk0,ir,sL]);(refine W.c1 (hK _) ?_;simp only[go_sem,hk0,ir,sL,hn']);refine W.yes rfl (W.a ?_);simp only[go_sem];(refine W.fs (hok) (by simp only[rH,go_sem];rfl) ?_;simp only[ak];try exact V.wk.rfl _)
   ·rw[qz];have hn':(x.n !=(p.l.length:Int))=false:=by rw[bne,hn];rfl
    (refine W.a ?_;simp only[go_sem,rG,hk0,ir,sL]);(refine W.c1 (hK _) ?_;simp only[go_sem,hk0,ir,sL,hn']);refine W.no rfl (W.a ?_);simp only[go_sem];(refine W.c1 (hC) ?_;simp only[go_sem,hany]);(refine W.fs (hok) (by simp only[rH,go_sem];rfl) ?_;simp only[ak];try exact V.wk.rfl _)
theorem Ub(w0:World)(s:Sg)(p:aa)(σ:H):DC prog w0 53 [s.v,p.v] σ (Same (B (pC s.kinds p)) σ):=by
 refine Ke.go rfl (fun hok hsz=>?_);unfold pC;cases hv:cJ p
 ·(refine W.a ?_;simp only[go_sem,c53]);(refine W.c1 (nB w0 p _) ?_;simp only[go_sem,hv]);(refine W.fs (hok) (by simp only[yp,go_sem];rfl) ?_;simp only[ak];try exact V.wk.rfl _)
 ·(refine W.a ?_;simp only[go_sem,c53]);(refine W.c1 (nB w0 p _) ?_;simp only[go_sem,hv]);(refine W.c1 (Ua w0 s p _) ?_;simp only[go_sem]);(refine W.fs (hok) (by simp only[yp,go_sem];rfl) ?_;simp only[ak];try exact V.wk.rfl _)
end Go.Proofs.YtdlkenpilhakfaaGreatDoor
namespace Go.Proofs.YtdlkenpilhakfaaGreatDoor
open Go.RowKit Go.Lamb
def yv:AC:=rsq [.o 2 (.af (.k (.ab [])))] (.seq (rif [.m 3 0,.o 4 (.iw false 3)] 4 (rsq [.o 2 (.af (.k (.ab [])))] .ret) .skip) (rsq [.o 5 (.bn 4 []),.m 6 0,.o 7 (.app 41 4 56 5 6),.m 2 7] .ret))
def Uc:List aw:=[.tmp 2]
theorem CD:az prog 185 1 Tryz.f185 yv Uc:=.auto func185
theorem Ud(w0:World)(l:List (List C))(hb3:∀r∈l,r.length=3)(hn:l.length<=1000000)(σ:H):DC prog w0 98 [.c (.sl l)] σ (Same (.aF σ.length l) (σ++[.spare 60 3 l.length])):=by
 refine JK.dn rfl (fun hok hsz=>?_);have hb1:l.length*32<=140737488355328:=by omega
 have hb2:l.length<=140737488355328:=by omega
 (refine W.a ?_;simp only[go_sem,Ce]);refine W.ja rfl rfl rfl (fun b hb=>?_);cases b
 ·(refine W.a ?_;simp only[go_sem]);refine W.no rfl (W.a ?_);simp only[go_sem,hb1,hb2,eq_true hb3,true_or];refine W.ret ⟨_,_,rfl,.rfl _,?_⟩;exact⟨rfl,rfl⟩
 ·have hl:l=[]:=by simpa using hb rfl
  subst hl;(refine W.a ?_;simp only[go_sem]);refine W.yes rfl (W.a ?_);simp only[go_sem];refine W.own 2 60 3 rfl ?_;exact W.ret ⟨_,_,rfl,.rfl _,rfl,rfl⟩
theorem Ue(w0:World)(l:List (List C))(hb3:∀r∈l,r.length=2)(hn:l.length<=1000000)(σ:H):DC prog w0 97 [.c (.sl l)] σ (Same (.aF σ.length l) (σ++[.spare 106 2 l.length])):=by
 refine Ko.dn rfl (fun hok hsz=>?_);have hb1:l.length*24<=140737488355328:=by omega
 have hb2:l.length<=140737488355328:=by omega
 (refine W.a ?_;simp only[go_sem,Cx]);refine W.ja rfl rfl rfl (fun b hb=>?_);cases b
 ·(refine W.a ?_;simp only[go_sem]);refine W.no rfl (W.a ?_);simp only[go_sem,hb1,hb2,eq_true hb3,true_or];refine W.ret ⟨_,_,rfl,.rfl _,?_⟩;exact⟨rfl,rfl⟩
 ·have hl:l=[]:=by simpa using hb rfl
  subst hl;(refine W.a ?_;simp only[go_sem]);refine W.yes rfl (W.a ?_);simp only[go_sem];refine W.own 2 106 2 rfl ?_;exact W.ret ⟨_,_,rfl,.rfl _,rfl,rfl⟩
theorem KH(w0:World)(l:List (List C))(hb3:∀r∈l,r.length=5)(hn:l.length<=1000000)(σ:H):DC prog w0 81 [.c (.sl l)] σ (Same (.aF σ.length l) (σ++[.spare 50 5 l.length])):=by
 refine Cy.dn rfl (fun hok hsz=>?_);have hb1:l.length*72<=140737488355328:=by omega
 have hb2:l.length<=140737488355328:=by omega
 (refine W.a ?_;simp only[go_sem,yu]);refine W.ja rfl rfl rfl (fun b hb=>?_);cases b
 ·(refine W.a ?_;simp only[go_sem]);refine W.no rfl (W.a ?_);simp only[go_sem,hb1,hb2,eq_true hb3,true_or];refine W.ret ⟨_,_,rfl,.rfl _,?_⟩;exact⟨rfl,rfl⟩
 ·have hl:l=[]:=by simpa using hb rfl
  subst hl;(refine W.a ?_;simp only[go_sem]);refine W.yes rfl (W.a ?_);simp only[go_sem];refine W.own 2 50 5 rfl ?_;exact W.ret ⟨_,_,rfl,.rfl _,rfl,rfl⟩
theorem KI(w0:World)(l:List (List C))(hl0:l=[])(σ:H):DC prog w0 185 [.c (.sl l)] σ (Same (.aF σ.length l) (σ++[.spare 41 4 l.length])):=by
 refine CD.dn rfl (fun hok hsz=>?_);have hln:l.length=0:=by rw[hl0];rfl
 have hb3:∀r∈l,r.length=4:=fun r hr=>by rw[hl0]at hr;cases hr
 have hb1:l.length*56<=140737488355328:=by omega
 have hb2:l.length<=140737488355328:=by omega
 (refine W.a ?_;simp only[go_sem,yv]);refine W.ja rfl rfl rfl (fun b hb=>?_);cases b
 ·(refine W.a ?_;simp only[go_sem]);refine W.no rfl (W.a ?_);simp only[go_sem,hb1,hb2,eq_true hb3,true_or];refine W.ret ⟨_,_,rfl,.rfl _,?_⟩;exact⟨rfl,rfl⟩
 ·subst hl0;(refine W.a ?_;simp only[go_sem]);refine W.yes rfl (W.a ?_);simp only[go_sem];refine W.own 2 41 4 rfl ?_;exact W.ret ⟨_,_,rfl,.rfl _,rfl,rfl⟩
theorem Uf:(prog.info? 41).map (fun i=>(i.zero,i.size,i.bytes))=some (some (.agg #[.int .i64 0,.string ⟨#[]⟩,.int .i64 0,.slice none 0 0]),4,56):=by kernel_rfl
theorem KJ(w:World)(n:Nat)(hn:n<=30000000000)(zc:Array Value)(hz:zc.size=4):
  (w.alloc (.cells (qt zc n++qt zc (grownCap w n 0 41-n)) 41)).drew.ownsRow w.heap.size 41 4 (.slice (some ⟨w.heap.size,0,none⟩) 0 (grownCap w n 0 41)) 0 []:=by
 have hge:=grownCap_ge w n 0 41;refine⟨by simp,.inr ⟨w.heap.size,_,_,rfl,aA _,heap_alloc_new w _,bx _,grownCap_le_maxLen w n 0 41 (by unfold maxLen;omega),?_,by simp⟩⟩;simp only[Array.size_append,size_zeroCells,hz];omega
set_option maxHeartbeats 4000000 in
set_option maxRecDepth 100000 in
theorem Ug(A:Option Addr)(n:Nat)(w:World)(hn:n<=30000000000):Calls prog 178 #[.slice A 0 0,.int .i64 n] w (fun e w'=>∃v,e= .returned v/\Below w.heap.size w w'/\Roomy w w' 41 4 v):=by
 by_cases h0:n=0
 ·subst h0;cases A
  ·go_enter func178,ntmps178
   go_wp2_with fail
   go_ret
   exact⟨_,rfl,ep _ _,.inl ⟨_,rfl⟩⟩
  ·go_enter func178,ntmps178
   go_wp2_with fail
   go_ret
   exact⟨_,rfl,ep _ _,.inl ⟨_,rfl⟩⟩
 ·obtain⟨i0,hi0,hz0,hz1,hz2⟩:=info_parts Uf;have h1:¬((n:Int)<0):=by omega
  have h2:(n:Int)>0:=by omega
  have hw:aW.wrap (n:Int)=n:=by rw[bD]<;>omega
  cases A
  case none=>
   have hr:=vV (P:=prog) w 39 3 39 41 i0 _ .i64 .i64 underlying39 underlying3 hi0 hz0 none 0 0 [] (nT (by simp) (by simp)) n (by omega) (by rw[hz1];decide) (by omega) (by omega) (by rw[hz2];omega) (growslice_fits (by omega) (by rw[hz2];omega))
   go_enter func178,ntmps178
   go_wp2_with (first
    |(at_builtin;refine vW w rfl (.tmp 20) (.tmp 21) 39 3 rfl _ _ rfl rfl _ _ hr ?_))
   go_ret
   exact⟨_,rfl,qI w _,.inr (KJ w n hn _ rfl)⟩
  case some a=>
   have hr:=vV (P:=prog) w 39 3 39 41 i0 _ .i64 .i64 underlying39 underlying3 hi0 hz0 (some a) 0 0 [] (nT (by simp) (by simp)) n (by omega) (by rw[hz1];decide) (by omega) (by omega) (by rw[hz2];omega) (growslice_fits (by omega) (by rw[hz2];omega))
   go_enter func178,ntmps178
   go_wp2_with (first
    |(at_builtin;refine vW w rfl (.tmp 20) (.tmp 21) 39 3 rfl _ _ rfl rfl _ _ hr ?_))
   go_ret
   exact⟨_,rfl,qI w _,.inr (KJ w n hn _ rfl)⟩
theorem KK(w0:World)(n:Nat)(hn:n<=30000000000)(σ:H):DC prog w0 178 [.ab [],I n] σ (Same (.aF σ.length []) (σ++[.spare 41 4 0])):=by
 refine DC.z8 (lO func178 (by kernel_rfl) rfl) fun κ w vs hrep hfit=>?_;obtain⟨v,ys,rfl,hv,hfit⟩:=hfit.cons_inv;obtain⟨u,zs,rfl,hu,hfit⟩:=hfit.cons_inv;have:=hfit.kS;subst this;cases hv with
 |ab h1=>
  rename_i A;cases hu with
  |c hu=>
   cases hu with
   |int=>exact Ug A n w hn
def rK:AC:=rsq [.o 2 (.box 0),.o 4 (.box (.k (.agg zS4)))] (.seq (rif [.m 6 1,.o 7 (.aO 6),.o 8 (.bin .eql 7 (zK 0))] 8 (rsq [.d 9 4 2,.s 4 4 9] .ret) .skip) (rsq [.d 10 4 2,.o 11 (.bn 4 [10]),.m 5 11] (.seq (rif [.f 12 0 2,.l 13 12,.o 14 (.bin .eql 13 (zK 6)),.m 15 14,.y 16 (.aX 3 2) 15,.y 17 (.aU 16) 15,.y 18 (.aO 17) 15,.y 19 (.bin .gtr 18 (zK 0)) 15,.o 20 (.pick 15 19 zF)] 20 (.aG [.f 21 3 2,.l 22 21,.m 5 22]) .skip) (rsq [.m 23 5,.m 24 1,.o 25 (.bn 1 [23,24]),.k 26 120 [25],.o 27 (.build zS4 [(0,1,(zK 6)),(3,1,26)]),.s 4 4 27] .ret))))
def rL:List aw:=[.bj 4 4]
theorem KL:az prog 69 2 Tryz.f69 rK rL:=.auto func69
def CF:AC:=rsq [.o 3 (.box 1),.o 4 (.box (.k (.agg zS4)))] (.seq (rsq [.m 5 0,.o 6 (.mx 5 (zK 0)),.o 7 (.af (zK 0))] (.block 0 (.loop (rsq [.o 8 (.bin .lss 7 6)] (.seq (.cond 8 .skip (.exit 0)) (.seq (.block 1 (.aG [.d 9 4 3,.o 10 (.bn 4 [9]),.o 11 (.build zS4 [(0,1,(zK 5)),(3,1,10)]),.s 4 3 11])) (.aG [.o 12 (.bin .add 7 (zK 1)),.m 7 12]))))))) (rsq [.d 13 4 3,.s 4 4 13] .ret))
def CG:List aw:=[.bj 4 4]
theorem KM:az prog 118 2 Tryz.f118 CF CG:=.auto func118
def CH:AC:=rsq [.o 2 (.af (.k (.ab [])))] (rsq [.o 3 (.af (zK 0))] (.seq (rsq [.m 9 0,.o 10 (.aO 9),.o 11 (.af (zK 0))] (.block 0 (.loop (rsq [.o 12 (.bin .lss 11 10)] (.seq (.cond 12 .skip (.exit 0)) (.seq (.block 1 (rsq [.o 13 (.aI 1 9 11),.l 14 13,.m 5 14] (rsq [.m 15 3,.m 16 5,.o 17 (.aO 16),.o 18 (.bin .add 15 17),.m 3 18] (rif [.m 19 3,.o 20 (.bin .lss 19 (zK 0))] 20 (.aG [.o 21 .bad,⟨none,.bad,none⟩]) .skip)))) (.aG [.o 22 (.bin .add 11 (zK 1)),.m 11 22]))))))) (rsq [.m 23 3,.k 24 178 [(.k (.ab [])),23],.m 6 24] (.seq (rsq [.m 25 0,.o 26 (.aO 25),.o 27 (.af (zK 0))] (.block 2 (.loop (rsq [.o 28 (.bin .lss 27 26)] (.seq (.cond 28 .skip (.exit 2)) (.seq (.block 3 (rsq [.o 29 (.aI 1 25 27),.l 30 29,.m 8 30] (.aG [.m 31 6,.m 32 8,.o 33 (.app 41 4 56 31 32),.m 6 33]))) (.aG [.o 34 (.bin .add 27 (zK 1)),.m 27 34]))))))) (rsq [.m 35 6,.m 2 35] .ret)))))
def CI:List aw:=[.tmp 2]
theorem KN:az prog 120 1 Tryz.f120 CH CI:=.auto func120
def eN:AC:=rsq [.o 1 (.box 0),.o 2 (.af (.k (.ab []))),.o 3 (.af (zK 0))] (.seq (rsq [.f 4 0 1,.l 5 4] (.block 0 (rif [.o 7 (.bin .eql 5 (zK 5)),.m 6 7] 6 (rsq [.f 8 3 1,.l 9 8,.m 2 9,.o 3 (.af (zK 1))] .ret) (rif [.o 11 (.bin .eql 5 (zK 6)),.m 10 11] 10 (rsq [.f 12 3 1,.l 13 12,.m 2 13,.o 3 (.af (zK 0))] .ret) .skip)))) (rsq [.o 2 (.af (.k (.ab []))),.o 3 (.af (zK 0))] .ret))
def ur:List aw:=[.tmp 2,.tmp 3]
theorem KO:az prog 77 1 Tryz.f77 eN ur:=.auto func77
def c183:AC:=rsq [.o 1 (.box 0),.o 2 (.af zF)] (rsq [.o 3 (.af zF),.o 4 (.af (zK 0))] (.seq (rsq [.f 5 0 1,.l 6 5] (.block 0 (rif [.o 8 (.bin .eql 6 (zK 0)),.m 7 8] 7 (rsq [.f 9 1 1,.l 10 9,.k 11 62 [10],.m 12 11,.z 13 (.aX 1 1) 12,.z 14 (.aU 13) 12,.z 15 (.call (.k (.fn 103 [])) [14]) 12,.o 16 (.pick 12 zT 15),.m 17 16,.y 18 (.aX 2 1) 17,.y 19 (.aU 18) 17,.y 20 (.bin .eql 19 (zK 0)) 17,.o 21 (.pick 17 20 zF),.m 22 21,.y 23 (.aX 3 1) 22,.y 24 (.aU 23) 22,.y 25 (.aO 24) 22,.y 26 (.bin .eql 25 (zK 0)) 22,.o 27 (.pick 22 26 zF),.m 2 27] .ret) (rif [.o 29 (.bin .eql 6 (zK 1)),.m 28 29] 28 (.aG [.f 30 2 1,.l 31 30,.o 32 (.bin .geq 31 (zK 1)),.m 3 32]) (rif [.o 34 (.bin .eql 6 (zK 2)),.m 33 34] 33 (.aG [.o 3 (.af zT)]) (.seq (rif [.o 36 (.bin .eql 6 (zK 3)),.m 35 36] 35 .skip (.aG [.o 37 (.bin .eql 6 (zK 4)),.m 35 37])) (.cond 35 (.aG [.f 38 2 1,.l 39 38,.o 40 (.bin .geq 39 (zK 0)),.m 41 40,.y 42 (.aX 2 1) 41,.y 43 (.aU 42) 41,.y 44 (.bin .leq 43 (zK 4611686018427387904)) 41,.o 45 (.pick 41 44 zF),.m 3 45]) (rif [.o 47 (.bin .eql 6 (zK 5)),.m 46 47] 46 (.aG [.f 48 2 1,.l 49 48,.o 50 (.bin .eql 49 (zK 0)),.m 3 50,.o 4 (.af (zK 1))]) (rif [.o 52 (.bin .eql 6 (zK 6)),.m 51 52] 51 (drg [.f 53 2 1,.l 54 53,.o 55 (.bin .eql 54 (zK 0)),.m 56 55,.y 57 (.aX 3 1) 56,.y 58 (.aU 57) 56,.y 59 (.aO 58) 56,.y 60 (.bin .geq 59 (zK 2)) 56,.o 61 (.pick 56 60 zF),.m 62 61,.y 63 (.aX 3 1) 62,.y 64 (.aU 63) 62,.y 65 (.aI 4 64 (zK 0)) 62,.y 66 (.aX 0 65) 62,.y 67 (.aU 66) 62,.y 68 (.bin .neq 67 (zK 6)) 62,.o 69 (.pick 62 68 zF),.f 70 3 1,.l 71 70,.o 72 (.aO 71),.m 3 69,.m 4 72] [0,1,2,3,4,5,6,7,8,9,10,11,12,13,14,15,16,17,18,19,20,21]) .skip))))))))) (rsq [.m 73 3,.m 74 73,.y 75 (.aX 1 1) 74,.y 76 (.aU 75) 74,.y 77 (.bin .eql 76 (.k (.c (.str [])))) 74,.o 78 (.pick 74 77 zF),.m 79 78,.y 80 (.aX 3 1) 79,.y 81 (.aU 80) 79,.y 82 (.aO 81) 79,.y 83 (.af 4) 79,.y 84 (.bin .eql 82 83) 79,.o 85 (.pick 79 84 zF),.m 86 85,.y 87 (.aX 3 1) 86,.y 88 (.aU 87) 86,.y 89 (.call (.k (.fn 228 [])) [88,(.k (.fn 229 []))]) 86,.y 90 (.un .not 89) 86,.o 91 (.pick 86 90 zF),.m 2 91] .ret)))
def yw:List aw:=[.tmp 2]
theorem Uh:az prog 183 1 Tryz.f183 c183 yw:=.auto func183
def c229:AC:=rsq [.o 1 (.box 0),.o 2 (.af zF)] (rsq [.d 3 4 1,.k 4 183 [3],.o 5 (.un .not 4),.m 2 5] .ret)
def KP:List aw:=[.tmp 2]
theorem Ui:az prog 229 1 Tryz.f229 c229 KP:=.auto func229
def c228:AC:=rsq [.o 4 (.af zF)] (rsq [.m 5 0,.m 6 1,.k 7 260 [5,6],.o 8 (.bin .geq 7 (zK 0)),.m 4 8] .ret)
def KQ:List aw:=[.tmp 4]
theorem Uj:az prog 228 2 Tryz.f228 c228 KQ:=.auto func228
def KR:AC:=rsq [.o 4 (.af (zK 0))] (.seq (rsq [.m 6 0,.o 7 (.aO 6),.o 8 (.af (zK 0))] (.block 0 (.loop (rsq [.o 9 (.bin .lss 8 7)] (.seq (.cond 9 .skip (.exit 0)) (.seq (.block 1 (rsq [.m 10 8,.m 5 10] (rif [.m 11 1,.m 12 0,.m 13 5,.o 14 (.aI 4 12 13),.d 15 4 14,.o 16 (.call 11 [15])] 16 (rsq [.m 17 5,.m 4 17] .ret) .skip))) (.aG [.o 18 (.bin .add 8 (zK 1)),.m 8 18]))))))) (rsq [.o 4 (.af (.k (.c (.int .i64 (-1)))))] .ret))
def CJ:List aw:=[.tmp 4]
theorem Uk:az prog 260 2 Tryz.f260 KR CJ:=.auto func260
attribute [local go_sem] aa.v aa.aM aY a7 aV aL aT
theorem Ul(w0:World)(l:List aa)(f:FuncId)(caps:List V)(p:aa->Bool)(σ:H)(hp:∀o∈l,DC prog w0 f (o.v::caps) σ (Same (B (p o)) σ)):DC prog w0 260 [.c (.sl (l.map aa.cs)),.fn f caps] σ (Same (I (ki p l)) σ):=by
 refine Uk.go rfl (fun hok hsz=>?_);have hlen:=JM hsz (bp ..) rfl;(refine W.a ?_;simp only[go_sem,KR]);refine W.bA (fun i=>i<=l.length/\mg p l i) (fun i=>⟨((((base.put (some 0) (.c (.sl (l.map aa.cs)))).put (some 1) (.fn f caps)).put (some 7) (I l.length)).put (some 8) (I i)),σ⟩) (fun i=>l.length-i) 0 ⟨bx _,xi⟩ ?_ (fun i hi=>?_)
 ·(refine aq.env ?_;exact aE)
 ·obtain⟨hi,hinv⟩:=hi;by_cases hlt:i<l.length
  ·have h1:((i:Int)<(l.length:Int)):=by omega
   have hx:l[i]?=some l[i]:=aR hlt;(refine W.a ?_;simp only[go_sem,h1]);refine W.yes rfl (W.a ?_);simp only[go_sem,h1,bP,hx];(refine W.c1 (hp l[i] (bw hlt)) ?_;simp only[go_sem]);refine W.test rfl (fun h=>?_) (fun h=>?_)
   ·(refine W.a ?_;simp only[go_sem]);(refine W.ret (Fin.same hok (by simp only[br,CJ,go_sem];rfl) ?_ (by first|exact .c _|(simp only[go_sem];done)) (by first|exact⟨[],(cq _).symm⟩|exact⟨_,rfl⟩));simp only[ak]);rw[GB hinv hlt h]
   ·have hw:=ed hlt hlen;(refine W.a ?_;simp only[go_sem,hw]);refine .inv ⟨i+1,⟨hlt,xg hinv hlt h⟩,by omega,?_⟩;(refine aq.env ?_;exact aE)
  ·have h1:¬((i:Int)<(l.length:Int)):=by omega
   (refine W.a ?_;simp only[go_sem,h1]);refine W.no rfl (W.a ?_);simp only[go_sem];(refine W.ret (Fin.same hok (by simp only[br,CJ,go_sem];rfl) ?_ (by first|exact .c _|(simp only[go_sem];done)) (by first|exact⟨[],(cq _).symm⟩|exact⟨_,rfl⟩));simp only[ak]);rw[GC (fun j hj=>hinv j hj (by omega))]
theorem Um(w0:World)(l:List aa)(f:FuncId)(caps:List V)(p:aa->Bool)(σ:H)(hp:∀o∈l,DC prog w0 f (o.v::caps) σ (Same (B (p o)) σ)):DC prog w0 228 [.c (.sl (l.map aa.cs)),.fn f caps] σ (Same (B (l.any p)) σ):=by
 refine Uj.go rfl (fun hok hsz=>?_);(refine W.a ?_;simp only[go_sem,c228]);(refine W.c1 (Ul w0 l f caps p σ hp) ?_;simp only[go_sem]);(refine W.fs (hok) (by simp only[KQ,go_sem];rfl) ?_;simp only[ak];(first|exact V.wk.rfl _|(refine og ?_;clear hsz hok;rw[JN]<;>((try simp only[beq_iff_eq,beq_eq_false_iff_ne,ne_eq,decide_eq_true_eq,decide_eq_false_iff_not]at*);first|(exfalso;omega)|(simp[*];done)|(simp[*];omega)|(simp[*])))))
theorem Un(w0:World)(p:aa)(b:Bool)(σ:H)(hp:∀τ,DC prog w0 183 [p.v] τ (Same (B b) τ)):DC prog w0 229 [p.v] σ (Same (B (!b)) σ):=by
 refine Ui.go rfl (fun hok hsz=>?_);(refine W.a ?_;simp only[go_sem,c229]);(refine W.c1 (hp _) ?_;simp only[go_sem]);(refine W.fs (hok) (by simp only[KP,go_sem];rfl) ?_;simp only[ak];try exact V.wk.rfl _)
end Go.Proofs.YtdlkenpilhakfaaGreatDoor
namespace Go.Proofs.YtdlkenpilhakfaaGreatDoor
open Go.RowKit Go.Lamb
attribute [local go_sem] aa.v aa.aM aY a7 aV aL aT
theorem yx(w0:World)(p:aa):∀(σ:H),DC prog w0 183 [p.v] σ (Same (B (ba p)) σ):=by
 refine aa.ind (P:=fun p=>∀(σ:H),DC prog w0 183 [p.v] σ (Same (B (ba p)) σ)) (fun p ih σ=>?_) p;refine Uh.go rfl (fun hok hsz=>?_);have hC:=fun σ=>Um w0 p.l 229 [] (fun q=>!ba q) σ (fun q hq=>Un w0 q _ _ (fun τ=>ih q hq τ));have l0:=uj (n:=p.l.length) 0;have l1:=uj (n:=p.l.length) 1;simp only[rh,GG]at l0 l1;by_cases h6:p.k=6
 ·have h6':(p.k==6)=true:=by simpa using h6
  by_cases h2:2<=p.l.length
  ·have h2':((p.l.length:Int)>=2):=by omega
   have h3:((0:Nat):Int)<(p.l.length:Int):=by omega
   have h3':(0:Int)<(p.l.length:Int):=by omega
   have hx:p.l[0]?=some p.l[0]:=aR (by omega);have hh:p.l.head?.getD .none=p.l[0]:=by rw[<-SA (by omega)];simp
   cases hn:(p.n==0)<;>cases hk:(p.l[0].k !=6)
   all_goals
    ((refine W.a ?_;(try simp only[bne,go_sem,c183,l0,l1,h6',h2',h3,h3',hx,bP,hn,hk, *]));(repeat' (first|(refine W.yes rfl ?_;(refine W.a ?_;simp only[bne,go_sem,c183,l0,l1,h6',h2',h3,h3',hx,bP,hn,hk, *]))|(refine W.no rfl ?_;(refine W.a ?_;simp only[bne,go_sem,c183,l0,l1,h6',h2',h3,h3',hx,bP,hn,hk, *]))|(refine W.c1 (hC _) ?_;simp only[bne,go_sem,c183,l0,l1,h6',h2',h3,h3',hx,bP,hn,hk, *])|(refine W.kg rfl (fun hT=>?_) (fun hT=>?_)<;>(refine W.a ?_;simp only[bne,go_sem,c183,l0,l1,h6',h2',h3,h3',hx,bP,hn,hk, *]))|(refine W.test rfl (fun hT=>?_) (fun hT=>?_)<;>(refine W.a ?_;simp only[bne,go_sem,c183,l0,l1,h6',h2',h3,h3',hx,bP,hn,hk, *]))|(refine ld _ _ _ _ (fun hT=>?_) (fun hT=>?_)<;>simp only[bne,go_sem,c183,l0,l1,h6',h2',h3,h3',hx,bP,hn,hk, *])|(refine la _ _ _ _ (fun hT=>?_) (fun hT=>?_)<;>simp only[bne,go_sem,c183,l0,l1,h6',h2',h3,h3',hx,bP,hn,hk, *]))))
    apply W.ft
    case hc=>
     (apply Canon.fX;simp only[l8,ma,mb,mc,me,mf,go_sem,l0,l1,h6',h2',h3,h3',hx,bP,hn,hk]);exact Canon.nil
    ((refine W.a ?_;(try simp only[bne,go_sem,l0,l1,h6',h2',h3,h3',hx,bP,hn,hk, *]));(repeat' (first|(refine W.yes rfl ?_;(refine W.a ?_;simp only[bne,go_sem,l0,l1,h6',h2',h3,h3',hx,bP,hn,hk, *]))|(refine W.no rfl ?_;(refine W.a ?_;simp only[bne,go_sem,l0,l1,h6',h2',h3,h3',hx,bP,hn,hk, *]))|(refine W.c1 (hC _) ?_;simp only[bne,go_sem,l0,l1,h6',h2',h3,h3',hx,bP,hn,hk, *])|(refine W.kg rfl (fun hT=>?_) (fun hT=>?_)<;>(refine W.a ?_;simp only[bne,go_sem,l0,l1,h6',h2',h3,h3',hx,bP,hn,hk, *]))|(refine W.test rfl (fun hT=>?_) (fun hT=>?_)<;>(refine W.a ?_;simp only[bne,go_sem,l0,l1,h6',h2',h3,h3',hx,bP,hn,hk, *]))|(refine ld _ _ _ _ (fun hT=>?_) (fun hT=>?_)<;>simp only[bne,go_sem,l0,l1,h6',h2',h3,h3',hx,bP,hn,hk, *])|(refine la _ _ _ _ (fun hT=>?_) (fun hT=>?_)<;>simp only[bne,go_sem,l0,l1,h6',h2',h3,h3',hx,bP,hn,hk, *]))))
    all_goals (try (refine W.fs (hok) (by simp only[yw,go_sem];rfl) ?_;simp only[ak];(first|exact V.wk.rfl _|(refine og ?_;clear hsz hok;rw[rC]<;>((try simp only[beq_iff_eq,beq_eq_false_iff_ne,ne_eq,decide_eq_true_eq,decide_eq_false_iff_not]at*);first|(exfalso;omega)|(simp[dP,mu,hh, *];done)|(simp[dP,mu,hh, *];omega)|(simp[dP,mu,hh, *]))))))
  ·have h2':¬((p.l.length:Int)>=2):=by omega
   have h2n:decide (2<=p.l.length)=false:=by simpa using h2
   have hv:ba p=false:=by rw[rC,dP];simp[h6,h2]
   cases hn:(p.n==0)
   all_goals
    ((refine W.a ?_;(try simp only[bne,go_sem,c183,l0,l1,h6',h2',hn, *]));(repeat' (first|(refine W.yes rfl ?_;(refine W.a ?_;simp only[bne,go_sem,c183,l0,l1,h6',h2',hn, *]))|(refine W.no rfl ?_;(refine W.a ?_;simp only[bne,go_sem,c183,l0,l1,h6',h2',hn, *]))|(refine W.c1 (hC _) ?_;simp only[bne,go_sem,c183,l0,l1,h6',h2',hn, *])|(refine W.kg rfl (fun hT=>?_) (fun hT=>?_)<;>(refine W.a ?_;simp only[bne,go_sem,c183,l0,l1,h6',h2',hn, *]))|(refine W.test rfl (fun hT=>?_) (fun hT=>?_)<;>(refine W.a ?_;simp only[bne,go_sem,c183,l0,l1,h6',h2',hn, *]))|(refine ld _ _ _ _ (fun hT=>?_) (fun hT=>?_)<;>simp only[bne,go_sem,c183,l0,l1,h6',h2',hn, *])|(refine la _ _ _ _ (fun hT=>?_) (fun hT=>?_)<;>simp only[bne,go_sem,c183,l0,l1,h6',h2',hn, *]))))
    apply W.ft
    case hc=>
     (apply Canon.fX;simp only[l8,ma,mb,mc,me,mf,go_sem,l0,l1,h6',h2',hn]);exact Canon.nil
    ((refine W.a ?_;(try simp only[bne,go_sem,l0,l1,h6',h2',hn, *]));(repeat' (first|(refine W.yes rfl ?_;(refine W.a ?_;simp only[bne,go_sem,l0,l1,h6',h2',hn, *]))|(refine W.no rfl ?_;(refine W.a ?_;simp only[bne,go_sem,l0,l1,h6',h2',hn, *]))|(refine W.c1 (hC _) ?_;simp only[bne,go_sem,l0,l1,h6',h2',hn, *])|(refine W.kg rfl (fun hT=>?_) (fun hT=>?_)<;>(refine W.a ?_;simp only[bne,go_sem,l0,l1,h6',h2',hn, *]))|(refine W.test rfl (fun hT=>?_) (fun hT=>?_)<;>(refine W.a ?_;simp only[bne,go_sem,l0,l1,h6',h2',hn, *]))|(refine ld _ _ _ _ (fun hT=>?_) (fun hT=>?_)<;>simp only[bne,go_sem,l0,l1,h6',h2',hn, *])|(refine la _ _ _ _ (fun hT=>?_) (fun hT=>?_)<;>simp only[bne,go_sem,l0,l1,h6',h2',hn, *]))))
    all_goals (try (refine W.fs (hok) (by simp only[yw,go_sem];rfl) ?_;simp only[ak];(first|exact V.wk.rfl _|(refine og ?_;clear hsz hok;rw[hv]<;>((try simp only[beq_iff_eq,beq_eq_false_iff_ne,ne_eq,decide_eq_true_eq,decide_eq_false_iff_not]at*);first|(exfalso;omega)|(simp[*];done)|(simp[*];omega)|(simp[*]))))))
 ·have h6':(p.k==6)=false:=by simpa using h6
  ((refine W.a ?_;(try simp only[bne,go_sem,c183,l0,l1,h6', *]));(repeat' (first|(refine W.yes rfl ?_;(refine W.a ?_;simp only[bne,go_sem,c183,l0,l1,h6', *]))|(refine W.no rfl ?_;(refine W.a ?_;simp only[bne,go_sem,c183,l0,l1,h6', *]))|(refine W.c1 (uh w0 p.name _) ?_;simp only[bne,go_sem,c183,l0,l1,h6', *])|(refine W.c1 (Cf w0 p.name _) ?_;simp only[bne,go_sem,c183,l0,l1,h6', *])|(refine W.c1 (hC _) ?_;simp only[bne,go_sem,c183,l0,l1,h6', *])|(refine W.kg rfl (fun hT=>?_) (fun hT=>?_)<;>(refine W.a ?_;simp only[bne,go_sem,c183,l0,l1,h6', *]))|(refine W.test rfl (fun hT=>?_) (fun hT=>?_)<;>(refine W.a ?_;simp only[bne,go_sem,c183,l0,l1,h6', *]))|(refine ld _ _ _ _ (fun hT=>?_) (fun hT=>?_)<;>simp only[bne,go_sem,c183,l0,l1,h6', *])|(refine la _ _ _ _ (fun hT=>?_) (fun hT=>?_)<;>simp only[bne,go_sem,c183,l0,l1,h6', *]))))
  all_goals (try (refine W.fs (hok) (by simp only[yw,go_sem];rfl) ?_;simp only[ak];(first|exact V.wk.rfl _|(refine og ?_;clear hsz hok;rw[rC]<;>((try simp only[beq_iff_eq,beq_eq_false_iff_ne,ne_eq,decide_eq_true_eq,decide_eq_false_iff_not]at*);first|(exfalso;omega)|(simp[dP,mu, *];done)|(simp[dP,mu, *];omega)|(simp[dP,mu, *]))))))
  all_goals
   intro h x hx;rw[h]at hx;simp at hx
end Go.Proofs.YtdlkenpilhakfaaGreatDoor
namespace Go.Lamb
open Go Go.RowKit
def nmX(n:Nat):bG:=120::Lib.decDigits n
mutual
def ax:aa->Nat
 | .mk _ _ _ l=>1+bg l
def bg:List aa->Nat
 |[]=>0
 |p::l=>ax p+bg l
end
theorem eO(p:aa):ax p=1+bg p.l:=by cases p;rw[ax];rfl
theorem CK:∀{l:List aa} {u:aa},u∈l->ax u<=bg l
 |x::l,u,h=>by
  rw[bg];rcases cD.1 h with rfl|h
  ·omega
  ·have:=CK h;omega
theorem jM{t u:aa}(h:u∈t.l):ax u<ax t:=by rw[eO t];have:=CK h;omega
theorem Uo{t:aa}(h:dP t=true):t.k=0\/t.k=1\/t.k=2\/t.k=3\/t.k=4\/t.k=5\/t.k=6:=by
 unfold dP at h
 repeat' split at h
 all_goals first|omega|(cases h;done)
def cv(f:aa)(args:List aa):aa:=if args=[]then f else .mk 6 [] 0 ((if f.k=6/\f.l≠[]then f.l else[f])++args)
def fw(t:aa)(l:List aa):aa:=if t.k=6/\1<l.length/\(l.headD .none).k=6/\(t.l.headD .none).k≠6 then cv (l.headD .none) l.tail else .mk t.k t.name t.n l
mutual
def bN(f:aa->Int->aa)(k:Int):aa->aa
 | .mk kd a n l=>if kd=5 then fw (.mk kd a n l) (uu f (k+1) l)else if kd=6 then fw (.mk kd a n l) (uu f k l)else f (.mk kd a n l) k
def uu(f:aa->Int->aa)(k:Int):List aa->List aa
 |[]=>[]
 |x::l=>bN f k x::uu f k l
end
theorem KS(f:aa->Int->aa)(k:Int)(l:List aa):uu f k l=l.map (bN f k):=by
 induction l with
 |nil=>rfl
 |cons x l ih=>rw[uu,ih];rfl
theorem ku(f:aa->Int->aa)(k:Int)(t:aa):bN f k t=if t.k=5 then fw t (t.l.map (bN f (k+1)))else if t.k=6 then fw t (t.l.map (bN f k))else f t k:=by
 cases t;rw[bN,KS,KS];rfl
def cB(a b:Int):aa->Int->aa:=fun u k=>if u.k=3/\u.n>=k+a then .mk u.k u.name (u.n+b) u.l else u
def nC(a b:Int)(t:aa):aa:=bN (cB a b) 0 t
def eD(i:Int)(s:aa):aa->Int->aa:=fun u k=>if u.k≠3\/u.n<k+i then u else if u.n=k+i then nC 0 k s else .mk u.k u.name (u.n-1) u.l
def rM(i:Int)(s:aa)(t:aa):aa:=bN (eD i s) 0 t
theorem gi{t:aa}(h:ba t=true):∀u∈t.l,ba u=true:=by
 rw[rC,bz]at h;exact cL.1 h.2
theorem uv{t:aa}(h:ba t=true):dP t=true:=by
 rw[rC,bz]at h;exact h.1
theorem uw{t:aa}(h:dP t=true)(k:∀u∈t.l,ba u=true):ba t=true:=by
 rw[rC,bz];exact⟨h,cL.2 k⟩
theorem iJ{m:Int}{t:aa}(h:bM m t=true):∀u∈t.l,bM m u=true:=by
 rw[B3,bz]at h;exact cL.1 h.2
theorem pY{m:Int}{t:aa}(h:bM m t=true)(hk:t.k≠2):-m<=t.n/\t.n<=m:=by
 rw[B3,bz]at h;have h:=h.1;simp[hk]at h;omega
theorem gZ{m:Int}{t:aa}(h:t.k=2\/(-m<=t.n/\t.n<=m))(k:∀u∈t.l,bM m u=true):bM m t=true:=by
 rw[B3,bz];refine⟨?_,cL.2 k⟩;rcases h with h|h
 ·simp[h]
 ·simp only[Bool.or_eq_true,Bool.not_eq_true',Bool.or_eq_false_iff,decide_eq_false_iff_not];right;omega
theorem oB{m m':Int}(hm:m<=m')(t:aa):bM m t=true->bM m' t=true:=by
 refine aa.ind (P:=fun t=>bM m t=true->bM m' t=true) (fun t ih h=>?_) t;refine gZ ?_ (fun u hu=>ih u hu (iJ h u hu));by_cases hk:t.k=2
 ·exact .inl hk
 ·have:=pY h hk;right;omega
theorem iK{t:aa}(h:ba t=true)(hk:t.k=6):t.n=0/\t.name=[]/\∃a b l,t.l=a::b::l/\a.k≠6:=by
 have hn:=uv h;unfold dP at hn;simp[hk]at hn;obtain⟨⟨⟨h1,h2⟩,h3⟩,h4⟩:=hn
 match hl:t.l,h2 with
 |a::b::l,_=>exact⟨h1,h4,a,b,l,rfl,by rw[hl]at h3;exact h3⟩
theorem pZ{t:aa}(h:ba t=true)(hk:t.k=5):t.n=0/\t.name=[]/\∃b,t.l=[b]:=by
 have hn:=uv h;unfold dP at hn;simp[hk]at hn;obtain⟨⟨h1,h2⟩,h3⟩:=hn
 match hl:t.l,h3 with
 |[b],_=>exact⟨h1,h2,b,rfl⟩
theorem yy{a b:aa}{l:List aa}(ha:a.k≠6)(h:∀u∈a::b::l,ba u=true):ba (.mk 6 [] 0 (a::b::l))=true:=by
 refine uw ?_ h;simp[dP,aY,aV,aL,a7,ha]
theorem rN{b:aa}(h:ba b=true):ba (.mk 5 [] 0 [b])=true:=by
 refine uw ?_ (fun u hu=>?_)
 ·simp[dP,aY,aV,aL,a7]
 ·simp[aL]at hu;rw[hu];exact h
theorem ux{t:aa}(h:ba t=true)(h5:t.k≠5)(h6:t.k≠6):t.l=[]:=by
 have hn:=uv h;rcases Uo hn with hk|hk|hk|hk|hk|hk|hk
 ·unfold dP at hn;simp[hk]at hn;exact hn.2
 ·unfold dP at hn;simp[hk]at hn;exact hn.2
 ·unfold dP at hn;simp[hk]at hn;exact hn.2
 ·unfold dP at hn;simp[hk]at hn;exact hn.2
 ·unfold dP at hn;simp[hk]at hn;exact hn.2
 ·exact absurd hk h5
 ·exact absurd hk h6
theorem rO(f b:aa)(l:List aa):cv f (b::l)= .mk 6 [] 0 ((if f.k=6/\f.l≠[]then f.l else[f])++b::l):=by
 unfold cv;rw[if_neg (by simp)]
theorem CL(f:aa):cv f []=f:=by unfold cv;rw[if_pos rfl]
theorem KT{f b:aa}{l:List aa}(h:f.k≠6):cv f (b::l)= .mk 6 [] 0 (f::b::l):=by
 rw[rO,if_neg (fun e=>h e.1)];rfl
theorem uy{f:aa}{args:List aa}(hf:ba f=true)(h:∀u∈args,ba u=true):ba (cv f args)=true:=by
 cases args with
 |nil=>rw[CL];exact hf
 |cons b l=>
  by_cases hk:f.k=6
  ·obtain⟨_,_,a,c,r,hl,ha⟩:=iK hf hk;rw[rO,if_pos ⟨hk,by rw[hl];simp⟩,hl];refine yy ha fun u hu=>?_;have hu':u∈f.l\/u∈b::l:=by rw[hl];simpa[or_assoc]using hu
   rcases hu' with hu|hu
   ·exact gi hf u hu
   ·exact h u hu
  ·rw[KT hk];refine yy hk fun u hu=>?_;rcases cD.1 hu with rfl|hu
   ·exact hf
   ·exact h u hu
theorem rP{m:Int}{f:aa}{args:List aa}(hm:0<=m)(hf:bM m f=true)(h:∀u∈args,bM m u=true):bM m (cv f args)=true:=by
 unfold cv;split
 ·exact hf
 ·refine gZ (.inr (by simp[aV];omega)) fun u hu=>?_;simp only[aL]at hu;rcases List.mem_append.1 hu with hu|hu
  ·split at hu
   ·exact iJ hf u hu
   ·simp at hu;rw[hu];exact hf
  ·exact h u hu
theorem KU(a b:Int)(t:aa):∀k,ba t=true->(bN (cB a b) k t).k=t.k:=by
 refine aa.ind (P:=fun t=>∀k,ba t=true->(bN (cB a b) k t).k=t.k) (fun t ih k h=>?_) t;rw[ku];by_cases h5:t.k=5
 ·rw[if_pos h5];unfold fw;rw[if_neg (fun e=>by have:=e.1;omega)];rfl
 ·rw[if_neg h5];by_cases h6:t.k=6
  ·rw[if_pos h6];obtain⟨_,_,a',b',l,hl,ha⟩:=iK h h6;have hka:=ih a' (by rw[hl];simp) k (gi h a' (by rw[hl];simp));unfold fw;rw[if_neg (fun e=>?_)]
   ·rfl
   ·rw[hl]at e;simp[hka,ha]at e
  ·rw[if_neg h6];unfold cB;split<;>rfl
theorem Up{a b:Int}{t:aa}(k:Int)(h:ba t=true)(h6:t.k=6):bN (cB a b) k t= .mk 6 [] 0 (t.l.map (bN (cB a b) k)):=by
 obtain⟨h1,h2,a',b',l,hl,ha⟩:=iK h h6;have hka:=KU a b a' k (gi h a' (by rw[hl];simp));rw[ku,if_neg (by omega),if_pos h6];unfold fw;rw[if_neg (fun e=>by rw[hl]at e;simp[hka,ha]at e),h6,h2,h1]
theorem Uq{a b:Int}{t:aa}(k:Int)(h:ba t=true)(h5:t.k=5):bN (cB a b) k t= .mk 5 [] 0 (t.l.map (bN (cB a b) (k+1))):=by
 obtain⟨h1,h2,_⟩:=pZ h h5;rw[ku,if_pos h5];unfold fw;rw[if_neg (fun e=>by have:=e.1;omega),h5,h2,h1]
theorem KV{a b m:Int}(ha:0<=a)(hb:0<=b)(hm:0<=m)(hmb:m+b<=4611686018427387904)(t:aa):∀k,0<=k->ba t=true->bM m t=true->ba (bN (cB a b) k t)=true/\bM (m+b) (bN (cB a b) k t)=true:=by
 refine aa.ind (P:=fun t=>∀k,0<=k->ba t=true->bM m t=true->ba (bN (cB a b) k t)=true/\bM (m+b) (bN (cB a b) k t)=true) (fun t ih k hk h hn=>?_) t;by_cases h5:t.k=5
 ·obtain⟨_,_,c,hl⟩:=pZ h h5;have hc:c∈t.l:=by rw[hl];simp
  have:=ih c hc (k+1) (by omega) (gi h c hc) (iJ hn c hc);rw[Uq k h h5,hl];refine⟨rN this.1,gZ (.inr (by simp[aV];omega)) fun u hu=>?_⟩;simp[aL]at hu;rw[hu];exact this.2
 ·by_cases h6:t.k=6
  ·obtain⟨_,_,c,d,l,hl,hca⟩:=iK h h6;have hu:∀u∈t.l.map (bN (cB a b) k),ba u=true/\bM (m+b) u=true:=fun u hu=>by
    obtain⟨x,hx,rfl⟩:=dK.1 hu;exact ih x hx k hk (gi h x hx) (iJ hn x hx)
   rw[Up k h h6];rw[hl]at hu⊢;refine⟨yy ?_ fun u hx=>(hu u hx).1,gZ (.inr (by simp[aV];omega)) fun u hx=>(hu u hx).2⟩;rw[KU a b c k (gi h c (by rw[hl];simp))];exact hca
  ·rw[ku,if_neg h5,if_neg h6];have hl:=ux h h5 h6;unfold cB;split
   ·rename_i hs;have hnn:=pY hn (by omega);have hnm:t.name=[]:=by have hv:=uv h;unfold dP at hv;simp[hs.1]at hv;exact hv.1.2
    refine⟨uw ?_ (fun u hu=>by simp[aL,hl]at hu),gZ (.inr (by simp[aV];omega)) (fun u hu=>by simp[aL,hl]at hu)⟩;simp[dP,aY,aV,aL,a7,hs.1,hl,hnm];omega
   ·exact⟨h,oB (by omega) t hn⟩
end Go.Lamb
namespace Go.Proofs.YtdlkenpilhakfaaGreatDoor
open Go.RowKit Go.Lamb
section
attribute [local go_sem] aT
theorem Ur(w0:World)(ls:List (List aa))(hn:ls.flatten.length<=30000000000)(hls:ls.length<=30000000000)(σ:H):
  DC prog w0 120 [.ab (ls.map fun r=>[aT r])] σ (Same (.c (aT ls.flatten)) σ):=by
 refine KN.go rfl (fun hok hsz=>?_);(refine W.a ?_;simp only[go_sem,CH]);refine W.bA (fun i=>i<=ls.length) (fun i=>⟨(((((base.put (some 0) (.ab (ls.map fun r=>[aT r]))).put (some 3) (I (ls.take i).flatten.length)).put (some 9) (.ab (ls.map fun r=>[aT r]))).put (some 10) (I ls.length)).put (some 11) (I i)),σ⟩) (fun i=>ls.length-i) 0 (bx _) ?_ (fun i hi=>?_)
 ·(refine aq.env ?_;exact aE)
 ·by_cases hlt:i<ls.length
  ·have h1:((i:Int)<(ls.length:Int)):=by omega
   have hx:ls[i]?=some ls[i]:=aR hlt;have hft:=KB hlt;have hfl:(ls.take (i+1)).flatten.length=(ls.take i).flatten.length+ls[i].length:=by rw[hft,bt]
   have hle:=KC (ls:=ls) (i+1);have hw:aW.wrap ((i:Int)+1)=((i+1:Nat):Int):=by rw[bD]<;>omega
   have hw2:aW.wrap (((ls.take i).flatten.length:Int)+(ls[i].length:Int))=(((ls.take (i+1)).flatten.length:Nat):Int):=by rw[bD]<;>omega
   have hneg:¬((((ls.take (i+1)).flatten.length:Nat):Int)<0):=by omega
   (refine W.a ?_;simp only[go_sem,h1]);refine W.yes rfl (W.a ?_);simp only[go_sem,h1,bP,hx,hw2,hneg];refine W.no rfl (W.a ?_);simp only[go_sem,hw];refine .inv ⟨i+1,hlt,by omega,?_⟩;(refine aq.env ?_;exact aE)
  ·have h1:¬((i:Int)<(ls.length:Int)):=by omega
   have hi':i=ls.length:=by omega
   subst hi';(refine W.a ?_;simp only[go_sem,h1]);refine W.no rfl (W.a ?_);simp only[go_sem,oZ];(refine W.c1 (KK w0 ls.flatten.length (by omega) _) ?_;simp only[go_sem]);refine W.bA (fun i=>i<=ls.length) (fun i=>⟨((((base.put (some 6) (.aF σ.length ((ls.take i).flatten.map aa.cs))).put (some 25) (.ab (ls.map fun r=>[aT r]))).put (some 26) (I ls.length)).put (some 27) (I i)),σ++[.spare 41 4 (ls.take i).flatten.length]⟩) (fun i=>ls.length-i) 0 (bx _) ?_ (fun i hi=>?_)
   ·(refine aq.env ?_;exact aE)
   ·by_cases hlt:i<ls.length
    ·have h1:((i:Int)<(ls.length:Int)):=by omega
     have hx:ls[i]?=some ls[i]:=aR hlt;have hft:=KB hlt;have hfl:(ls.take (i+1)).flatten.length=(ls.take i).flatten.length+ls[i].length:=by rw[hft,bt]
     have hle:=KC (ls:=ls) (i+1);have hb1:((ls.take i).flatten.length+ls[i].length)*56<=140737488355328:=by omega
     have hb2:(ls.take i).flatten.length+ls[i].length<=140737488355328:=by omega
     have hb3:∀r∈ls[i].map aa.cs,r.length=4:=fun r hr=>by obtain⟨o,_,rfl⟩:=dK.1 hr;rw[aa.aM];rfl
     have hta:(ls.take (i+1)).flatten.map aa.cs=(ls.take i).flatten.map aa.cs++ls[i].map aa.cs:=by rw[hft,dX]
     have hw:aW.wrap ((i:Int)+1)=((i+1:Nat):Int):=by rw[bD]<;>omega
     (refine W.a ?_;simp only[go_sem,h1]);refine W.yes rfl (W.a ?_);simp only[go_sem,h1,bP,hx,hb1,hb2,eq_self,hw,eq_true hb3];refine .inv ⟨i+1,hlt,by omega,?_⟩;simp only[go_sem,hta,hfl];(refine aq.env ?_;exact aE)
    ·have h1:¬((i:Int)<(ls.length:Int)):=by omega
     have hi':i=ls.length:=by omega
     subst hi';(refine W.a ?_;simp only[go_sem,h1]);refine W.no rfl (W.a ?_);simp only[go_sem,oZ];(refine W.fs (hok) (by simp only[CI,go_sem];rfl) ?_;simp only[ak];try exact V.wk.rfl _);(all_goals exact au)
end
attribute [local go_sem] aa.v aa.aM aY a7 aV aL
theorem CM(w0:World)(t:aa)(σ:H):DC prog w0 77 [t.v] σ (Same (.av [.c (aT (if t.k=5\/t.k=6 then t.l else[])),I (if t.k=5 then 1 else 0)]) σ):=by
 refine KO.go rfl (fun hok hsz=>?_);by_cases h5:t.k=5
 ·have k5:(t.k==5)=true:=by simp[h5]
  rw[if_pos (.inl h5),if_pos h5];clear h5;((refine W.a ?_;(try simp only[bne,go_sem,eN,k5, *]));(repeat' (first|(refine W.yes rfl ?_;(refine W.a ?_;simp only[bne,go_sem,eN,k5, *]))|(refine W.no rfl ?_;(refine W.a ?_;simp only[bne,go_sem,eN,k5, *]))|(refine W.kg rfl (fun hT=>?_) (fun hT=>?_)<;>(refine W.a ?_;simp only[bne,go_sem,eN,k5, *]))|(refine W.test rfl (fun hT=>?_) (fun hT=>?_)<;>(refine W.a ?_;simp only[bne,go_sem,eN,k5, *]))|(refine ld _ _ _ _ (fun hT=>?_) (fun hT=>?_)<;>simp only[bne,go_sem,eN,k5, *])|(refine la _ _ _ _ (fun hT=>?_) (fun hT=>?_)<;>simp only[bne,go_sem,eN,k5, *]))))
  all_goals (refine W.fs (hok) (by simp only[ur,go_sem];rfl) ?_;simp only[ak];try exact V.wk.rfl _)
  all_goals (all_goals exact au)
 ·rw[if_neg h5];have k5:(t.k==5)=false:=by simp[h5]
  by_cases h6:t.k=6
  ·have k6:(t.k==6)=true:=by simp[h6]
   rw[if_pos (.inr h6)];clear h6 h5;((refine W.a ?_;(try simp only[bne,go_sem,eN,k5,k6, *]));(repeat' (first|(refine W.yes rfl ?_;(refine W.a ?_;simp only[bne,go_sem,eN,k5,k6, *]))|(refine W.no rfl ?_;(refine W.a ?_;simp only[bne,go_sem,eN,k5,k6, *]))|(refine W.kg rfl (fun hT=>?_) (fun hT=>?_)<;>(refine W.a ?_;simp only[bne,go_sem,eN,k5,k6, *]))|(refine W.test rfl (fun hT=>?_) (fun hT=>?_)<;>(refine W.a ?_;simp only[bne,go_sem,eN,k5,k6, *]))|(refine ld _ _ _ _ (fun hT=>?_) (fun hT=>?_)<;>simp only[bne,go_sem,eN,k5,k6, *])|(refine la _ _ _ _ (fun hT=>?_) (fun hT=>?_)<;>simp only[bne,go_sem,eN,k5,k6, *]))))
   all_goals (refine W.fs (hok) (by simp only[ur,go_sem];rfl) ?_;simp only[ak];try exact V.wk.rfl _)
   all_goals (all_goals exact au)
  ·have k6:(t.k==6)=false:=by simp[h6]
   rw[if_neg (by omega)];clear h6 h5;((refine W.a ?_;(try simp only[bne,go_sem,eN,k5,k6, *]));(repeat' (first|(refine W.yes rfl ?_;(refine W.a ?_;simp only[bne,go_sem,eN,k5,k6, *]))|(refine W.no rfl ?_;(refine W.a ?_;simp only[bne,go_sem,eN,k5,k6, *]))|(refine W.kg rfl (fun hT=>?_) (fun hT=>?_)<;>(refine W.a ?_;simp only[bne,go_sem,eN,k5,k6, *]))|(refine W.test rfl (fun hT=>?_) (fun hT=>?_)<;>(refine W.a ?_;simp only[bne,go_sem,eN,k5,k6, *]))|(refine ld _ _ _ _ (fun hT=>?_) (fun hT=>?_)<;>simp only[bne,go_sem,eN,k5,k6, *])|(refine la _ _ _ _ (fun hT=>?_) (fun hT=>?_)<;>simp only[bne,go_sem,eN,k5,k6, *]))))
   all_goals (refine W.fs (hok) (by simp only[ur,go_sem];rfl) ?_;simp only[ak];try exact V.wk.rfl _)
   all_goals (all_goals exact au)
theorem uz(w0:World)(f:aa)(xs:List aa)(hn:f.l.length+xs.length<=29999999998)(σ:H):DC prog w0 69 [f.v,.c (.sl (xs.map aa.cs))] σ (Same (cv f xs).v σ):=by
 refine KL.go rfl (fun hok hsz=>?_);by_cases h0:xs=[]
 ·have e:cv f xs=f:=by unfold cv;rw[if_pos h0]
  rw[e];subst h0;(refine W.a ?_;simp only[go_sem,rK]);refine W.yes rfl (W.a ?_);simp only[go_sem];(refine W.fs (hok) (by simp only[rL,go_sem];rfl) ?_;simp only[ak];try exact V.wk.rfl _)
  all_goals (all_goals exact au)
 have hl:0<xs.length:=jV.2 h0;have q0:((xs.length:Int)==0)=false:=by simp;omega
 have e:cv f xs= .mk 6 [] 0 ((if f.k=6/\f.l≠[]then f.l else[f])++xs):=by unfold cv;rw[if_neg h0]
 rw[e];clear e;have hC:=fun(h:List aa) (hh:h.length<=29999999999-xs.length) σ=>Ur w0 [h,xs] (by simp;omega) (by simp) σ;simp only[cE,dT,List.flatten_cons,List.flatten_nil,cq,aT]at hC;by_cases h6:f.k=6
 ·have k6:(f.k==6)=true:=by simp[h6]
  by_cases hf:f.l=[]
  ·rw[if_neg (fun h=>h.2 hf)];have q1:¬((f.l.length:Int)>0):=by rw[hf];simp
   have hCc:=hC [f] (by simp only[bo,cM];omega);simp only[cE,dT,aa.aM]at hCc;clear h6 hf;(refine W.a ?_;simp only[go_sem,rK,q0]);refine W.no rfl (W.a ?_);simp only[go_sem,k6,q1];refine W.no rfl (W.a ?_);simp only[go_sem];(refine W.c1 (hCc _) ?_;simp only[go_sem]);(refine W.a ?_;simp only[go_sem]);(refine W.fs (hok) (by simp only[rL,go_sem];rfl) ?_;simp only[ak];try exact V.wk.rfl _)
   all_goals (all_goals exact au)
  ·rw[if_pos ⟨h6,hf⟩];have hp:0<f.l.length:=jV.2 hf;have q1:((f.l.length:Int)>0):=by omega
   have hCc:=hC f.l (by omega);clear h6 hf;(refine W.a ?_;simp only[go_sem,rK,q0]);refine W.no rfl (W.a ?_);simp only[go_sem,k6,q1];refine W.yes rfl (W.a ?_);simp only[go_sem];(refine W.c1 (hCc _) ?_;simp only[go_sem]);(refine W.a ?_;simp only[go_sem]);(refine W.fs (hok) (by simp only[rL,go_sem];rfl) ?_;simp only[ak];try exact V.wk.rfl _)
   all_goals (all_goals exact au)
 ·rw[if_neg (fun h=>h6 h.1)];have k6:(f.k==6)=false:=by simp[h6]
  have hCc:=hC [f] (by simp only[bo,cM];omega);simp only[cE,dT,aa.aM]at hCc;clear h6;(refine W.a ?_;simp only[go_sem,rK,q0]);refine W.no rfl (W.a ?_);simp only[go_sem,k6];refine W.no rfl (W.a ?_);simp only[go_sem];(refine W.c1 (hCc _) ?_;simp only[go_sem]);(refine W.a ?_;simp only[go_sem]);(refine W.fs (hok) (by simp only[rL,go_sem];rfl) ?_;simp only[ak];try exact V.wk.rfl _)
  all_goals (all_goals exact au)
end Go.Proofs.YtdlkenpilhakfaaGreatDoor
namespace Go.Proofs.YtdlkenpilhakfaaGreatDoor
open Go.RowKit Go.Lamb
def uA:AC:=rsq [.o 3 (.box 0),.o 4 (.box 1),.o 6 (.box (.k (.agg zS4)))] (.seq (rif [.f 12 0 4,.l 13 12,.o 14 (.bin .neq 13 (zK 5)),.m 15 14,.y 16 (.aX 0 4) 15,.y 17 (.aU 16) 15,.y 18 (.bin .neq 17 (zK 6)) 15,.o 19 (.pick 15 18 zF)] 19 (rsq [.f 20 0 3,.l 21 20,.d 22 4 4,.m 23 2,.o 24 (.call 21 [22,23]),.s 4 6 24] .ret) .skip) (rsq [.d 26 4 4,.k 27 77 [26],.m 25 27,.x 28 25 0,.x 29 25 1,.m 7 28,.m 8 29] (rsq [.o 9 (.af (.k (.ab [])))] (.seq (rsq [.m 30 7,.o 31 (.aO 30),.o 32 (.af (zK 0))] (.block 0 (.loop (rsq [.o 33 (.bin .lss 32 31)] (.seq (.cond 33 .skip (.exit 0)) (.seq (.block 1 (rsq [.o 34 (.aI 4 30 32),.d 35 4 34,.o 11 (.box (.k (.agg zS4))),.s 4 11 35] (.aG [.m 36 9,.d 37 1 3,.d 38 4 11,.m 39 2,.m 40 8,.o 41 (.bin .add 39 40),.k 42 235 [37,38,41],.o 43 (.bn 4 [42]),.o 44 (.app 41 4 56 36 43),.m 9 44]))) (.aG [.o 45 (.bin .add 32 (zK 1)),.m 32 45]))))))) (.seq (rif [.f 46 0 4,.l 47 46,.o 48 (.bin .eql 47 (zK 6)),.m 49 48,.y 50 (.af 9) 49,.y 51 (.aO 50) 49,.y 52 (.bin .gtr 51 (zK 1)) 49,.o 53 (.pick 49 52 zF),.m 54 53,.y 55 (.af 9) 54,.y 56 (.aI 4 55 (zK 0)) 54,.y 57 (.aX 0 56) 54,.y 58 (.aU 57) 54,.y 59 (.bin .eql 58 (zK 6)) 54,.o 60 (.pick 54 59 zF),.m 61 60,.y 62 (.af 7) 61,.y 63 (.aI 4 62 (zK 0)) 61,.y 64 (.aX 0 63) 61,.y 65 (.aU 64) 61,.y 66 (.bin .neq 65 (zK 6)) 61,.o 67 (.pick 61 66 zF)] 67 (.seq (drg [.m 68 9,.o 69 (.aI 4 68 (zK 0)),.d 70 4 69,.m 71 9,.o 72 (.jq 4 71 (some (zK 1)) none none),.k 73 69 [70,72],.s 4 6 73] [0,1,2,3,4,105,306]) .ret) .skip) (rsq [.f 74 0 4,.l 75 74,.f 76 1 4,.l 77 76,.f 78 2 4,.l 79 78,.m 80 9,.o 81 (.build zS4 [(0,1,75),(1,1,77),(2,1,79),(3,1,80)]),.s 4 6 81] .ret))))))
def nD:List aw:=[.bj 4 6]
theorem KW:az prog 235 3 Tryz.f235 uA nD:=.auto func235
def CN:AC:=rsq [.o 3 (.box 0),.o 4 (.box 1),.o 5 (.box 2),.o 6 (.box (.k (.agg zS4)))] (rsq [.o 7 (.gB 233 [4,5]),.o 8 (.build [.cj] [(0,1,7)]),.d 9 4 3,.k 10 235 [8,9,(zK 0)],.s 4 6 10] .ret)
def CO:List aw:=[.bj 4 6]
theorem KX:az prog 187 3 Tryz.f187 CN CO:=.auto func187
def c233:AC:=rsq [.o 4 (.box 0),.o 6 (.box (.k (.agg zS4)))] (.seq (rif [.f 7 0 4,.l 8 7,.o 9 (.bin .eql 8 (zK 3)),.m 10 9,.y 11 (.aX 2 4) 10,.y 12 (.aU 11) 10,.y 13 (.af 1) 10,.y 14 (.aU 2) 10,.y 15 (.bin .add 13 14) 10,.y 16 (.bin .geq 12 15) 10,.o 17 (.pick 10 16 zF)] 17 (rsq [.d 18 4 4,.l 19 3,.k 20 234 [18,19],.s 4 6 20] .ret) .skip) (rsq [.d 21 4 4,.s 4 6 21] .ret))
def uB:List aw:=[.bj 4 6]
theorem KY:az prog 233 4 Tryz.f233 c233 uB:=.auto func233
def KZ:AC:=rsq [.o 3 (.box 0),.o 4 (.box 1),.o 5 (.box 2),.o 6 (.box (.k (.agg zS4)))] (rsq [.o 7 (.gB 280 [4,5]),.o 8 (.build [.cj] [(0,1,7)]),.d 9 4 3,.k 10 235 [8,9,(zK 0)],.s 4 6 10] .ret)
def K0:List aw:=[.bj 4 6]
theorem Us:az prog 262 3 Tryz.f262 KZ K0:=.auto func262
def uC:AC:=rsq [.o 4 (.box 0),.o 6 (.box (.k (.agg zS4)))] (.seq (.block 0 (rif [.f 8 0 4,.l 9 8,.o 10 (.bin .neq 9 (zK 3)),.m 11 10,.z 12 (.aX 2 4) 11,.z 13 (.aU 12) 11,.z 14 (.af 1) 11,.z 15 (.aU 2) 11,.z 16 (.bin .add 14 15) 11,.z 17 (.bin .lss 13 16) 11,.o 18 (.pick 11 zT 17),.m 7 18] 7 (rsq [.d 19 4 4,.s 4 6 19] .ret) (rif [.f 21 2 4,.l 22 21,.m 23 1,.l 24 2,.o 25 (.bin .add 23 24),.o 26 (.bin .eql 22 25),.m 20 26] 20 (rsq [.d 27 4 3,.m 28 1,.k 29 187 [27,(zK 0),28],.s 4 6 29] .ret) .skip))) (rsq [.d 30 4 4,.k 31 234 [30,(.k (.c (.int .i64 (-1))))],.s 4 6 31] .ret))
def uD:List aw:=[.bj 4 6]
theorem Ut:az prog 280 4 Tryz.f280 uC uD:=.auto func280
def c234:AC:=rsq [.o 2 (.box 0),.o 4 (.box (.k (.agg zS4)))] (rsq [.f 5 2 2,.l 6 5,.m 7 1,.o 8 (.bin .add 6 7),.f 9 2 2,.s 1 9 8] (rsq [.d 10 4 2,.s 4 4 10] .ret))
def K1:List aw:=[.bj 4 4]
theorem Uu:az prog 234 2 Tryz.f234 c234 K1:=.auto func234
attribute [local go_sem] aa.v aa.aM aY a7 aV aL aT
structure CP (w0:World) (E:H->Prop) (Pp:aa->Prop) (g:aa->Int->aa) (fid:FuncId) (caps:List V):Prop where
 more:∀σ L,E σ->E (σ++L)
 low:∀σ,E σ->∀x∈caps,V.low σ.length x
 dO:∀u,Pp u->∀v∈u.l,Pp v
 len:∀u,Pp u->u.l.length<=12000000000
 nE:∀u,Pp u->∀j:Nat,(bN g (j:Int) u).l.length<=12000000000
 leaf:∀σ,E σ->∀u (j:Nat),Pp u->j<=30000000000->u.k≠5->u.k≠6->DC prog w0 fid ([u.v,I (j:Int)]++caps) σ (Same (g u (j:Int)).v σ)
theorem K2{w0:World}{E:H->Prop}{Pp:aa->Prop}{g:aa->Int->aa}{fid:FuncId}{caps:List V}(hR:CP w0 E Pp g fid caps)(t:aa):Pp t->∀(k:Nat),k+ax t<=30000000000->∀σ,E σ->DC prog w0 235 [.agg [.fn fid caps],t.v,I (k:Int)] σ (Same (bN g (k:Int) t).v σ):=by
 refine aa.ind (P:=fun t=>Pp t->∀(k:Nat),k+ax t<=30000000000->∀σ,E σ->DC prog w0 235 [.agg [.fn fid caps],t.v,I (k:Int)] σ (Same (bN g (k:Int) t).v σ)) (fun t ih hp k hk σ hσ=>?_) t;refine KW.go rfl (fun hok hsz=>?_);by_cases hlf:t.k≠5/\t.k≠6
 ·have hc:=fun L=>hR.leaf (σ++L) (hR.more _ _ hσ) t k hp (by omega) hlf.1 hlf.2;rw[ku,if_neg hlf.1,if_neg hlf.2];have k5:(t.k==5)=false:=by simp[hlf.1]
  have k6:(t.k==6)=false:=by simp[hlf.2]
  clear hlf;((try refine W.a ?_);simp only[go_sem,uA,bne,k5,k6]);refine W.yes rfl (W.a ?_);simp only[go_sem];(refine W.c1 (hc _) ?_;simp only[go_sem]);((try refine W.a ?_);simp only[go_sem]);(refine W.fs (hok) (by simp only[nD,go_sem];rfl) ?_;simp only[ak];try exact V.wk.rfl _)
  all_goals (all_goals exact au)
 obtain⟨B,hB,hwk,hwi⟩:∃B:Nat,B<=1/\bN g (k:Int) t=fw t (t.l.map (bN g ((k+B:Nat):Int)))/\∀σ,DC prog w0 77 [t.v] σ (Same (.av [.c (aT t.l),I (B:Int)]) σ):=by
  by_cases h5:t.k=5
  ·refine⟨1,aA _,?_,fun σ=>?_⟩
   ·rw[ku,if_pos h5];rfl
   ·have:=CM w0 t σ;rwa [if_pos (.inl h5),if_pos h5]at this
  ·have h6:t.k=6:=by omega
   refine⟨0,by decide,?_,fun σ=>?_⟩
   ·rw[ku,if_neg h5,if_pos h6];rfl
   ·have:=CM w0 t σ;rwa [if_pos (.inr h6),if_neg h5]at this
 rw[hwk];clear hwk;have hlen:=hR.len t hp;obtain⟨o,ho⟩:∃o,o=t.l.map (bN g ((k+B:Nat):Int)):=⟨_,rfl⟩;have hol:o.length=t.l.length:=by rw[ho,List.length_map]
 have hkids:∀i (hi:i<t.l.length) (hi':i<o.length) L,DC prog w0 235 [.agg [.fn fid caps],t.l[i].v,I ((k+B:Nat):Int)] (σ++L) (Same o[i].v (σ++L)):=fun i hi hi' L=>by
  have hm:=bw hi;have:=jM hm;have e:o[i]=bN g ((k+B:Nat):Int) t.l[i]:=by simp[ho]
  rw[e];exact ih _ hm (hR.dO t hp _ hm) (k+B) (by omega) _ (hR.more _ _ hσ)
 have hbig:∀u∈o,u.l.length<=12000000000:=fun u hu=>by
  rw[ho]at hu;obtain⟨v,hv,rfl⟩:=dK.1 hu;exact hR.nE v (hR.dO t hp v hv) _
 rw[<-ho];clear ho;have hw0:aW.wrap ((k:Int)+(B:Int))=((k+B:Nat):Int):=by rw[bD]<;>omega
 have hor:(t.k==5)=true/\(t.k==6)=false\/(t.k==5)=false/\(t.k==6)=true:=by
  by_cases h5:t.k=5
  ·exact .inl ⟨by simp[h5],by simp[h5]⟩
  ·exact .inr ⟨by simp[h5],by simp;omega⟩
 have hfl:∀n,σ.length<=n->((∀x,x∈caps->V.low n x)↔True):=fun n hn=>by
  simp only[iff_true];exact fun x hx=>V.wA hn (hR.low σ hσ x hx)
 have hfl4:=hfl (σ.length+4) (by omega);obtain⟨z,hz⟩:∃z,z=fw t o:=⟨_,rfl⟩;rw[<-hz];have hst:W prog w0 σ.length (Lamb.Fin nD σ.length (Same z.v σ)) [.code uA] ⟨iB [.agg [.fn fid caps],t.v,I (k:Int)],σ⟩:=by
  rcases hor with⟨k5,k6⟩|⟨k5,k6⟩
  all_goals clear hlf
  all_goals (
   ((try refine W.a ?_);simp only[go_sem,uA,bne,k5,k6]);refine W.no rfl (W.a ?_);simp only[go_sem];(refine W.c1 (hwi _) ?_;simp only[go_sem]);((try refine W.a ?_);simp only[go_sem]);refine W.own 9 41 4 rfl ?_;((try refine W.a ?_);simp only[go_sem]);refine W.bA (fun i=>i<=t.l.length) (fun i=>⟨((((((((((base.put (some 2) (I (k:Int))).put (some 3) (.ptr σ.length 0)).put (some 4) (.ptr (σ.length+1) 0)).put (some 6) (.ptr (σ.length+2) 0)).put (some 7) (.c (.sl (t.l.map aa.cs)))).put (some 8) (I (B:Int))).put (some 9) (.aF (σ.length+3) ((o.take i).map aa.cs))).put (some 30) (.c (.sl (t.l.map aa.cs)))).put (some 31) (I (t.l.length:Int))).put (some 32) (I (i:Int))),σ++[.cells [.fn fid caps],.cells t.v.ah,.cells [I 0,S [],I 0,.ab []],.spare 41 4 i]⟩) (fun i=>t.l.length-i) 0 (bx _) ?_ (fun i hi=>?_)
   ·(refine aq.env ?_;exact aE)
   by_cases hlt:i<t.l.length
   ·have hlt':i<o.length:=by omega
    have h1:(i:Int)<(t.l.length:Int):=by omega
    have h0:(0:Int)<=(i:Int):=by omega
    have hx:t.l[i]?=some t.l[i]:=aR hlt;have hw:aW.wrap ((i:Int)+1)=((i+1:Nat):Int):=by rw[bD]<;>omega
    have hb1:(i+1)*56<=140737488355328:=by omega
    have hb2:i<=140737488355327:=by omega
    have hti:(o.take i).length=i:=by rw[List.length_take];omega
    have hts:(o.take (i+1)).map aa.cs=(o.take i).map aa.cs++[[.int .i64 o[i].k,.str o[i].name,.int .i64 o[i].n,.sl (o[i].l.map aa.cs)]]:=by
     rw[List.take_succ_eq_append_getElem hlt',dX,cE,dT,aa.aM]
    have hki:=fun L=>hkids i hlt hlt' L;((try refine W.a ?_);simp only[go_sem,h1]);refine W.yes rfl (W.a ?_);simp only[go_sem,h1,h0,hx,hw0];(refine W.c1 (hki _) ?_;simp only[go_sem]);((try refine W.a ?_);simp only[go_sem,hb1,hb2,hti,hw]);refine .inv ⟨i+1,hlt,by omega,?_⟩;simp only[go_sem,hts];(refine aq.eS (hok) ?_ (by simp) (by simp) ?_ ?_ ?_;exact aE;((try simp only[okB,bu,go_sem,hfl4])<;>omega);(simp only[bo,cM,dL,ey,dj,bu,and_true];(repeat' (refine fb ?_ ?_))<;>(first|exact ad.wk.rfl _|exact ad.wk.gone _|(refine ad.eT ?_ rfl;(exact au))));(repeat' (first|exact aZ.base _|(refine aZ.put ?_ (by first|exact .c _|((try simp only[okB,bu,go_sem,hfl4])<;>omega))))))
   obtain rfl:i=t.l.length:=by omega
   have h1:¬((t.l.length:Nat):Int)<((t.l.length:Nat):Int):=by omega
   have hta:o.take t.l.length=o:=by rw[<-hol,oZ]
   rw[hta];((try refine W.a ?_);simp only[go_sem,h1]);refine W.no rfl ?_;skip)
  ·have hz':z= .mk t.k t.name t.n o:=by
    rw[hz,fw,if_neg (fun h=>by simp[h.1]at k6)]
   subst hz';((try refine W.a ?_);simp only[go_sem,k6]);refine W.no rfl (W.a ?_);simp only[go_sem];(refine W.fs (hok) (by simp only[nD,go_sem];rfl) ?_;simp only[ak];try exact V.wk.rfl _)
   all_goals (all_goals exact au)
  ·have h6:t.k=6:=by simpa using k6
   by_cases c1:1<o.length
   ·obtain⟨o0,o1,rfl⟩:∃a l,o=a::l:=by
     cases o with
     |nil=>simp at c1
     |cons a l=>exact⟨a,l,rfl⟩
    have hl0:0<t.l.length:=by omega
    have hx:t.l[0]?=some t.l[0]:=aR hl0;have hhd:(t.l.headD .none)=t.l[0]:=by
     rw[List.headD_eq_head?_getD,List.head?_eq_getElem?,hx];rfl
    have q1:((o1.length+1:Nat):Int)>1:=by simp at c1;omega
    have h00:(0:Int)<((o1.length+1:Nat):Int):=by omega
    have hl00:(0:Int)<(t.l.length:Int):=by omega
    by_cases c2:o0.k=6
    ·have p2:(o0.k==6)=true:=by simp[c2]
     by_cases c3:t.l[0].k=6
     ·have p3:(t.l[0].k==6)=true:=by simp[c3]
      have hz':z= .mk t.k t.name t.n (o0::o1):=by
       rw[hz,fw,if_neg (fun h=>h.2.2.2 (by rw[hhd];exact c3))]
      subst hz';clear c3 c2 h6 hhd hz;((try refine W.a ?_);simp only[go_sem,k6,q1,p2,p3,hx,bP,bne,h00,hl00]);refine W.no rfl (W.a ?_);simp only[go_sem];(refine W.fs (hok) (by simp only[nD,go_sem];rfl) ?_;simp only[ak];try exact V.wk.rfl _)
      all_goals (all_goals exact au)
     ·have p3:(t.l[0].k==6)=false:=by simp[c3]
      have hz':z=cv o0 o1:=by
       rw[hz,fw,if_pos ⟨h6,c1,c2,by rw[hhd];exact c3⟩];rfl
      have hb:=hbig o0 (bp ..);have hA:=fun σ=>uz w0 o0 o1 (by simp at hol;omega) σ;rw[<-hz']at hA;clear c3 c2 h6 hhd hz hz';have hrw:(∀(x:List C),x∈il aa.cs o1->x.length=4)↔True:=by
       simp only[dK,iff_true];rintro x ⟨u,_,rfl⟩;rw[aa.aM];rfl
      have hge:(1:Int)<=((o1.length+1:Nat):Int):=by omega
      have htk2:List.take o1.length (il aa.cs o1)=il aa.cs o1:=List.take_of_length_le (by simp);((try refine W.a ?_);simp only[go_sem,k6,q1,p2,p3,hx,bP,bne,h00,hl00]);refine W.yes rfl (W.a ?_);simp only[go_sem];apply W.aQ (List.cons_ne_nil _ _)
      case hc=>
       (apply ae.al;simp only[go_sem,bP,h00,hrw,hge,htk2]);(apply ae.call (hA _);(case hg=>rfl);(case hf=>rfl);(case ha=>first|rfl|simp));(apply ae.al;simp only[go_sem]);exact ae.nil
      ((try refine W.a ?_);simp only[go_sem]);(refine W.fs (hok) (by simp only[nD,go_sem];rfl) ?_;simp only[ak];try exact V.wk.rfl _)
      all_goals (all_goals exact au)
    ·have p2:(o0.k==6)=false:=by simp[c2]
     have hz':z= .mk t.k t.name t.n (o0::o1):=by
      rw[hz,fw,if_neg (fun h=>c2 h.2.2.1)]
     subst hz';clear c2 h6 hhd hz;((try refine W.a ?_);simp only[go_sem,k6,q1,p2,bP,bne,h00,hl00]);refine W.no rfl (W.a ?_);simp only[go_sem];(refine W.fs (hok) (by simp only[nD,go_sem];rfl) ?_;simp only[ak];try exact V.wk.rfl _)
     all_goals (all_goals exact au)
   ·have q1:¬((o.length:Nat):Int)>1:=by omega
    have hz':z= .mk t.k t.name t.n o:=by
     rw[hz,fw,if_neg (fun h=>c1 h.2.1)]
    subst hz';clear h6 hz;((try refine W.a ?_);simp only[go_sem,k6,q1,bne]);refine W.no rfl (W.a ?_);simp only[go_sem];(refine W.fs (hok) (by simp only[nD,go_sem];rfl) ?_;simp only[ak];try exact V.wk.rfl _)
    all_goals (all_goals exact au)
 exact hst
end Go.Proofs.YtdlkenpilhakfaaGreatDoor
