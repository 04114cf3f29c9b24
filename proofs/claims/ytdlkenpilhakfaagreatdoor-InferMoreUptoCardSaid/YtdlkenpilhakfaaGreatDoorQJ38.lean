/- . -/
import Derived.Test.YtdlkenpilhakfaaGreatDoorChecked
import Derived.Test.YtdlkenpilhakfaaGreatDoorQJ16
import Derived.Test.YtdlkenpilhakfaaGreatDoorQJ14
import Derived.Test.YtdlkenpilhakfaaGreatDoorQTyA2
import Derived.Test.YtdlkenpilhakfaaGreatDoorQLexC
set_option linter.unusedSimpArgs false
set_option linter.unusedVariables false
set_option maxHeartbeats 8000000
set_option maxRecDepth 20000
open And renaming intro->fb
open Bool renaming eq_iff_iff->oX
open Go.IntKind renaming i64->aW
open List renaming all_cons->jl,append_assoc->dc,append_nil->cq,cons_append->iR,cons_ne_nil->aS,getElem?_cons_succ->we,getElem?_cons_zero->qw,getElem?_eq_getElem->aR,getElem_cons_succ->nP,getElem_cons_zero->dq,getElem_mem->bw,length_cons->bo,length_nil->cM,length_take->eu,map_append->dX,mem_cons->cD,mem_cons_self->bp,mem_singleton->lM,not_mem_nil->jm,take_of_length_le->fj,take_succ_cons->ey,take_succ_eq_append_getElem->jZ,take_zero->dj
open Nat renaming le_add_right->oY,le_trans->bB,reduceAdd->dL,succ_lt_succ->zR,zero_add->eF,zero_le->bx
open Go.Proofs.Tryz
namespace Go.Proofs.YtdlkenpilhakfaaGreatDoor
open Go.RowKit Go.Lamb
def nA:AC:=rsq [.o 1 (.box 0),.o 2 (.af zF)] (rsq [.f 3 0 1,.l 4 3,.o 5 (.bin .eql 4 (zK 2)),.m 6 5,.y 7 (.aX 3 1) 6,.y 8 (.aU 7) 6,.y 9 (.aO 8) 6,.y 10 (.bin .eql 9 (zK 2)) 6,.o 11 (.pick 6 10 zF),.m 2 11] .ret)
def B7:List aw:=[.tmp 2]
theorem Ip:az prog 63 1 Tryz.f63 nA B7:=.auto func63
def c80:AC:=rsq [.o 1 (.box 0),.o 2 (.af (.k (.ab []))),.o 3 (.box (.k (.agg zS4)))] (rsq [.o 4 (.af (.k (.ab [])))] (.seq (.block 0 (.loop (.seq (rif [.d 5 4 1,.k 6 63 [5]] 6 .skip (.exit 0)) (.block 1 (drg [.m 7 4,.f 8 3 1,.l 9 8,.o 10 (.aI 4 9 (zK 0)),.d 11 4 10,.o 12 (.bn 4 [11]),.o 13 (.app 34 4 56 7 12),.f 14 3 1,.l 15 14,.o 16 (.aI 4 15 (zK 1)),.d 17 4 16,.m 4 13,.s 4 1 17] [0,1,2,3,4,5,106,7,8,9,10,211,312]))))) (.seq (drg [.m 18 4,.d 19 4 1,.m 2 18,.s 4 3 19] [0,1,2,103]) .ret)))
def B8:List aw:=[.tmp 2,.bj 4 3]
theorem Iq:az prog 80 1 Tryz.f80 c80 B8:=.auto func80
def c24:AC:=rsq [.o 1 (.box 0),.o 2 (.af zF)] (rsq [.o 3 (.af zF)] (.seq (rsq [.f 4 0 1,.l 5 4] (.block 0 (rif [.o 7 (.bin .eql 5 (zK 0)),.m 6 7] 6 (.aG [.f 8 1 1,.l 9 8,.k 10 62 [9],.m 11 10,.y 12 (.aX 2 1) 11,.y 13 (.aU 12) 11,.y 14 (.bin .eql 13 (zK 0)) 11,.o 15 (.pick 11 14 zF),.m 3 15]) (rif [.o 17 (.bin .eql 5 (zK 1)),.m 16 17] 16 (.aG [.f 18 1 1,.l 19 18,.o 20 (.bin .eql 19 (.k (.c (.str [])))),.m 21 20,.y 22 (.aX 2 1) 21,.y 23 (.aU 22) 21,.y 24 (.bin .geq 23 (zK 0)) 21,.o 25 (.pick 21 24 zF),.m 26 25,.y 27 (.aX 2 1) 26,.y 28 (.aU 27) 26,.y 29 (.bin .leq 28 (zK 4611686018427387904)) 26,.o 30 (.pick 26 29 zF),.m 31 30,.y 32 (.aX 3 1) 31,.y 33 (.aU 32) 31,.y 34 (.aO 33) 31,.y 35 (.bin .eql 34 (zK 0)) 31,.o 36 (.pick 31 35 zF),.m 3 36]) (rif [.o 38 (.bin .eql 5 (zK 2)),.m 37 38] 37 (.aG [.f 39 1 1,.l 40 39,.o 41 (.bin .eql 40 (.k (.c (.str [])))),.m 42 41,.y 43 (.aX 2 1) 42,.y 44 (.aU 43) 42,.y 45 (.bin .eql 44 (zK 0)) 42,.o 46 (.pick 42 45 zF),.m 47 46,.y 48 (.eJ 4 1) 47,.y 49 (.call (.k (.fn 63 [])) [48]) 47,.o 50 (.pick 47 49 zF),.m 3 50]) .skip))))) (rsq [.m 51 3,.m 52 51,.y 53 (.aX 3 1) 52,.y 54 (.aU 53) 52,.y 55 (.call (.k (.fn 64 [])) [54,(.k (.fn 65 []))]) 52,.y 56 (.un .not 55) 52,.o 57 (.pick 52 56 zF),.m 2 57] .ret)))
def Ir:List aw:=[.tmp 2]
theorem SL:az prog 24 1 Tryz.f24 c24 Ir:=.auto func24
def Is:AC:=rsq [.o 1 (.box 0),.o 2 (.af zF)] (rsq [.d 3 4 1,.k 4 24 [3],.o 5 (.un .not 4),.m 2 5] .ret)
def Iu:List aw:=[.tmp 2]
theorem SM:az prog 65 1 Tryz.f65 Is Iu:=.auto func65
def Iv:AC:=rsq [.o 1 (.box 0),.o 2 (.af (zK 0))] (rsq [.o 3 (.box (zK 0)),⟨none,.store 1 3 (zK 0),none⟩] (rsq [.d 4 4 1,.o 5 (.gB 128 [3]),.k 6 124 [4,5]] (rsq [.l 7 3,.m 2 7] .ret)))
def Iw:List aw:=[.tmp 2]
theorem SN:az prog 74 1 Tryz.f74 Iv Iw:=.auto func74
def Ix:AC:=rsq [.o 3 (.box (.k (.agg zS4)))] (rsq [.l 4 1,.m 5 0,.o 6 (.mx 5 (.k (.c (.int .i64 (-1))))),.o 7 (.bin .add 6 (zK 1)),.o 8 (.mx 4 7),.s 1 1 8] (rsq [.o 9 (.build zS4 []),.s 4 3 9] .ret))
def Iy:List aw:=[.bj 4 3]
theorem SO:az prog 128 2 Tryz.f128 Ix Iy:=.auto func128
def c124:AC:=rsq [.o 2 (.box 0),.o 4 (.box (.k (.agg zS4)))] (.seq (rif [.f 8 0 2,.l 9 8,.o 10 (.bin .eql 9 (zK 1))] 10 (rsq [.m 11 1,.f 12 2 2,.l 13 12,.o 14 (.call 11 [13]),.s 4 4 14] .ret) .skip) (rsq [.f 15 1 2,.l 16 15,.o 17 (.build zS4 [(0,1,(zK 0)),(1,1,16)]),.o 5 (.box (.k (.agg zS4))),.s 4 5 17] (.seq (rif [.d 18 4 2,.k 19 63 [18]] 19 (.aG [.o 20 (.build zS4 [(0,1,(zK 2))]),.s 4 5 20]) .skip) (.seq (rsq [.f 21 3 2,.l 22 21,.o 23 (.aO 22),.o 24 (.af (zK 0))] (.block 0 (.loop (rsq [.o 25 (.bin .lss 24 23)] (.seq (.cond 25 .skip (.exit 0)) (.seq (.block 1 (rsq [.o 26 (.aI 4 22 24),.d 27 4 26,.o 7 (.box (.k (.agg zS4))),.s 4 7 27] (drg [.f 28 3 5,.l 29 28,.d 30 4 7,.m 31 1,.k 32 124 [30,31],.o 33 (.bn 4 [32]),.o 34 (.app 34 4 56 29 33),.f 35 3 5,.s 1 35 34] [2,3,104,0,1,205,306,407,508]))) (.aG [.o 36 (.bin .add 24 (zK 1)),.m 24 36]))))))) (rsq [.d 37 4 5,.s 4 4 37] .ret)))))
def oz:List aw:=[.bj 4 4]
theorem B9:az prog 124 2 Tryz.f124 c124 oz:=.auto func124
def rE:AC:=rsq [.o 4 (.af zF)] (rsq [.m 5 0,.m 6 1,.k 7 117 [5,6],.o 8 (.bin .geq 7 (zK 0)),.m 4 8] .ret)
def rF:List aw:=[.tmp 4]
theorem yd:az prog 64 2 Tryz.f64 rE rF:=.auto func64
def c117:AC:=rsq [.o 4 (.af (zK 0))] (.seq (rsq [.m 6 0,.o 7 (.aO 6),.o 8 (.af (zK 0))] (.block 0 (.loop (rsq [.o 9 (.bin .lss 8 7)] (.seq (.cond 9 .skip (.exit 0)) (.seq (.block 1 (rsq [.m 10 8,.m 5 10] (rif [.m 11 1,.m 12 0,.m 13 5,.o 14 (.aI 4 12 13),.d 15 4 14,.o 16 (.call 11 [15])] 16 (rsq [.m 17 5,.m 4 17] .ret) .skip))) (.aG [.o 18 (.bin .add 8 (zK 1)),.m 8 18]))))))) (rsq [.o 4 (.af (.k (.c (.int .i64 (-1)))))] .ret))
def pV:List aw:=[.tmp 4]
theorem ye:az prog 117 2 Tryz.f117 c117 pV:=.auto func117
def Iz:AC:=rsq [.o 2 (.box (.k (.agg [.c (.int .i64 0),.c (.str []),.c (.int .i64 0),.c (.int .i64 0)])))] (.seq (.seq (drg [.m 3 0,.n 4 3,.f 5 1 4,.l 6 5,.o 7 (.bin .leq (zK 0) 6),.m 8 7,.y 9 (.af 0) 8,.y 10 (.gO 9) 8,.y 11 (.aX 1 10) 8,.y 12 (.aU 11) 8,.y 13 (.af 0) 8,.y 14 (.gO 13) 8,.y 15 (.aX 0 14) 8,.y 16 (.aU 15) 8,.y 17 (.aO 16) 8,.y 18 (.bin .lss 12 17) 8,.o 19 (.pick 8 18 zF)] [0,1,2,3,4,5,6,7,8,9,10,11,12,13,14,15,16]) (.cond 19 (.seq (drg [.m 20 0,.n 21 20,.f 22 0 21,.l 23 22,.m 24 0,.n 25 24,.f 26 1 25,.l 27 26,.o 28 (.aI 4 23 27),.d 29 4 28,.s 4 2 29] [0,1,2,3,4,5,6,7,8,9,110]) .ret) .skip)) (.seq (rif [.m 30 0,.n 31 30,.f 32 0 31,.l 33 32,.o 34 (.aO 33),.o 35 (.bin .gtr 34 (zK 0))] 35 (.seq (drg [.m 36 0,.n 37 36,.f 38 0 37,.l 39 38,.m 40 0,.n 41 40,.f 42 0 41,.l 43 42,.o 44 (.aO 43),.o 45 (.bin .sub 44 (zK 1)),.o 46 (.aI 4 39 45),.f 47 3 46,.l 48 47,.o 49 (.build [.c (.int .i64 0),.c (.str []),.c (.int .i64 0),.c (.int .i64 0)] [(3,1,48)]),.s 4 2 49] [0,1,2,3,4,5,6,7,8,9,10,11,12,13,114]) .ret) .skip) (rsq [.o 50 (.build [.c (.int .i64 0),.c (.str []),.c (.int .i64 0),.c (.int .i64 0)] []),.s 4 2 50] .ret)))
def IA:List aw:=[.bj 4 2]
theorem SP:az prog 268 1 Tryz.f268 Iz IA:=.auto func268
def IB:AC:=rsq [.o 2 (.af zF)] (.seq (rsq [.m 3 0,.k 4 268 [3],.o 5 (.jr 0 4)] (.block 0 (.seq (rif [.o 7 (.bin .eql 5 (zK 1)),.m 6 7] 6 .skip (rif [.o 8 (.bin .eql 5 (zK 2)),.m 6 8] 6 .skip (.aG [.o 9 (.bin .eql 5 (zK 5)),.m 6 9]))) (.cond 6 (rsq [.o 2 (.af zT)] .ret) .skip)))) (rsq [.o 2 (.af zF)] .ret))
def IC:List aw:=[.tmp 2]
theorem SQ:az prog 270 1 Tryz.f270 IB IC:=.auto func270
def ID:AC:=rsq [.o 4 (.af (zK 0))] (.seq (rsq [.m 6 0,.o 7 (.aO 6),.o 8 (.af (zK 0))] (.block 0 (.loop (rsq [.o 9 (.bin .lss 8 7)] (.seq (.cond 9 .skip (.exit 0)) (.seq (.block 1 (rsq [.m 10 8,.m 5 10] (rif [.m 11 1,.m 12 0,.m 13 5,.o 14 (.aI 1 12 13),.l 15 14,.o 16 (.bin .eql 11 15)] 16 (rsq [.m 17 5,.m 4 17] .ret) .skip))) (.aG [.o 18 (.bin .add 8 (zK 1)),.m 8 18]))))))) (rsq [.o 4 (.af (.k (.c (.int .i64 (-1)))))] .ret))
def IE:List aw:=[.tmp 4]
theorem SR:az prog 204 2 Tryz.f204 ID IE:=.auto func204
def Ca:AC:=rsq [.o 2 (.box (.k (.agg zS4)))] (rsq [.m 3 0,.o 4 (.build zS4 [(0,1,(zK 1)),(2,1,3)]),.s 4 2 4] .ret)
def Cb:List aw:=[.bj 4 2]
theorem IF:az prog 126 1 Tryz.f126 Ca Cb:=.auto func126
def IG:AC:=rsq [.o 5 (.box 2),.o 6 (.box (.k (.agg zS4)))] (.seq (rif [.m 7 1,.o 8 (.bin .geq 7 (zK 200))] 8 (rsq [.m 9 0,.f 10 3 5,.l 11 10,.k 12 282 [9,(zK 31),11]] (rsq [.o 13 (.build zS4 []),.s 4 6 13] .ret)) .skip) (rsq [.m 14 0,.m 15 1,.o 16 (.bin .add 15 (zK 1)),.k 17 247 [14,16],.s 4 6 17] .ret))
def II:List aw:=[.bj 4 6]
theorem SS:az prog 271 3 Tryz.f271 IG II:=.auto func271
def IJ:AC:=rsq [.o 4 (.box (.k (.agg zS4)))] (rsq [.m 8 0,.k 9 268 [8],.o 5 (.box (.k (.agg [.c (.int .i64 0),.c (.str []),.c (.int .i64 0),.c (.int .i64 0)]))),.s 4 5 9] (.seq (rif [.m 10 0,.k 11 270 [10],.o 12 (.un .not 11)] 12 (rsq [.m 13 0,.f 14 3 5,.l 15 14,.k 16 282 [13,(zK 50),15]] (rsq [.o 17 (.build zS4 []),.s 4 4 17] .ret)) .skip) (rsq [.m 18 0,.n 19 18,.f 20 1 19,.l 21 20,.o 22 (.bin .add 21 (zK 1)),.n 23 18,.f 24 1 23,.s 1 24 22] (.seq (rsq [.f 25 0 5,.l 26 25] (.block 0 (rif [.o 28 (.bin .eql 26 (zK 1)),.m 27 28] 27 (rsq [.f 29 1 5,.l 30 29,.o 31 (.build zS4 [(0,1,(zK 0)),(1,1,30)]),.s 4 4 31] .ret) (rif [.o 33 (.bin .eql 26 (zK 2)),.m 32 33] 32 (rsq [.m 34 0,.f 35 1 5,.l 36 35,.k 37 283 [34,36],.s 4 4 37] .ret) .skip)))) (rsq [.m 38 0,.m 39 1,.d 40 4 5,.k 41 271 [38,39,40],.o 6 (.box (.k (.agg zS4))),.s 4 6 41] (.seq (rsq [.m 42 0,.k 43 268 [42],.o 7 (.box (.k (.agg [.c (.int .i64 0),.c (.str []),.c (.int .i64 0),.c (.int .i64 0)]))),.s 4 7 43] (rif [.f 44 0 7,.l 45 44,.o 46 (.bin .neq 45 (zK 6))] 46 (.aG [.m 47 0,.f 48 3 7,.l 49 48,.k 50 282 [47,(zK 50),49]]) .skip)) (rsq [.m 51 0,.n 52 51,.f 53 1 52,.l 54 53,.o 55 (.bin .add 54 (zK 1)),.n 56 51,.f 57 1 56,.s 1 57 55] (rsq [.d 58 4 6,.s 4 4 58] .ret))))))))
def IK:List aw:=[.bj 4 4]
theorem SU:az prog 269 2 Tryz.f269 IJ IK:=.auto func269
def IL:AC:=rsq [.o 4 (.box (.k (.agg zS4)))] (rsq [.m 8 0,.k 9 268 [8],.o 10 (.jr 0 9),.o 11 (.bin .eql 10 (zK 1)),.m 5 11] (rsq [.m 12 0,.m 13 1,.k 14 269 [12,13],.o 6 (.box (.k (.agg zS4))),.s 4 6 14] (.seq (.block 0 (.loop (.seq (rif [.m 15 5,.m 16 15,.y 17 (.af 0) 16,.y 18 (.gO 17) 16,.y 19 (.aX 3 18) 16,.y 20 (.aU 19) 16,.y 21 (.bin .eql 20 (zK 0)) 16,.o 22 (.pick 16 21 zF),.m 23 22,.y 24 (.af 0) 23,.y 25 (.call (.k (.fn 270 [])) [24]) 23,.o 26 (.pick 23 25 zF)] 26 .skip (.exit 0)) (.block 1 (drg [.f 27 3 6,.l 28 27,.m 29 0,.m 30 1,.k 31 269 [29,30],.o 32 (.bn 4 [31]),.o 33 (.app 34 4 56 28 32),.f 34 3 6,.s 1 34 33] [2,3,104,0,1,205,306,407,508]))))) (rsq [.m 35 0,.k 36 268 [35],.o 7 (.box (.k (.agg [.c (.int .i64 0),.c (.str []),.c (.int .i64 0),.c (.int .i64 0)]))),.s 4 7 36] (.seq (rif [.m 37 0,.n 38 37,.f 39 3 38,.l 40 39,.o 41 (.bin .neq 40 (zK 0)),.m 42 41,.z 43 (.aX 0 7) 42,.z 44 (.aU 43) 42,.z 45 (.bin .neq 44 (zK 4)) 42,.o 46 (.pick 42 zT 45),.m 47 46,.z 48 (.aX 1 7) 47,.z 49 (.aU 48) 47,.z 50 (.bin .neq 49 (.k (.c (.str [45,62])))) 47,.o 51 (.pick 47 zT 50)] 51 (rsq [.d 52 4 6,.s 4 4 52] .ret) .skip) (rsq [.m 53 0,.n 54 53,.f 55 1 54,.l 56 55,.o 57 (.bin .add 56 (zK 1)),.n 58 53,.f 59 1 58,.s 1 59 57] (.seq (drg [.m 60 0,.m 61 1,.d 62 4 7,.k 63 271 [60,61,62],.d 64 4 6,.o 65 (.bn 4 [64]),.k 66 68 [63,65],.s 4 4 66] [0,1,2,103,4,5,306,507]) .ret)))))))
def IM:List aw:=[.bj 4 4]
theorem SV:az prog 247 2 Tryz.f247 IL IM:=.auto func247
def IN:AC:=rsq [.o 4 (.box (.k (.agg zS4))),.o 5 (.af (zK 0)),.o 6 (.af (zK 0)),.o 7 (.af (zK 0))] (rsq [.m 10 0,.m 11 1,.o 12 (.build [.ab [],.c (.int .i64 0),.ab [],.c (.int .i64 0),.c (.int .i64 0)] [(0,1,10),(1,1,11)]),.o 13 (.box 12),.m 8 13] (rsq [.m 14 8,.k 15 247 [14,(zK 0)],.o 9 (.box (.k (.agg zS4))),.s 4 9 15] (.seq (rif [.m 16 8,.n 17 16,.f 18 3 17,.l 19 18,.o 20 (.bin .neq 19 (zK 0))] 20 (.seq (drg [.o 21 (.build zS4 []),.m 22 1,.m 23 8,.n 24 23,.f 25 3 24,.l 26 25,.m 27 8,.n 28 27,.f 29 4 28,.l 30 29,.s 4 4 21,.m 5 22,.m 6 26,.m 7 30] [0,110,1,2,3,4,5,6,7,8,9,211,212,213]) .ret) .skip) (.seq (drg [.d 31 4 9,.m 32 8,.n 33 32,.f 34 1 33,.l 35 34,.s 4 4 31,.m 5 35,.o 6 (.af (zK 0)),.o 7 (.af (zK 0))] [0,105,1,2,3,4,206,207,208]) .ret))))
def IP:List aw:=[.bj 4 4,.tmp 5,.tmp 6,.tmp 7]
theorem SW:az prog 209 2 Tryz.f209 IN IP:=.auto func209
def IQ:AC:=rsq [.o 2 (.box 0),.o 3 (.af zF)] (rsq [.f 4 0 2,.l 5 4,.l 6 1,.o 7 (.bin .eql 5 6),.m 3 7] .ret)
def IS:List aw:=[.tmp 3]
theorem SX:az prog 246 2 Tryz.f246 IQ IS:=.auto func246
def IT:AC:=rsq [.o 4 (.af (zK 0))] (.seq (rsq [.m 6 0,.o 7 (.aO 6),.o 8 (.af (zK 0))] (.block 0 (.loop (rsq [.o 9 (.bin .lss 8 7)] (.seq (.cond 9 .skip (.exit 0)) (.seq (.block 1 (rsq [.m 10 8,.m 5 10] (rif [.m 11 1,.m 12 0,.m 13 5,.o 14 (.aI 3 12 13),.d 15 3 14,.o 16 (.call 11 [15])] 16 (rsq [.m 17 5,.m 4 17] .ret) .skip))) (.aG [.o 18 (.bin .add 8 (zK 1)),.m 8 18]))))))) (rsq [.o 4 (.af (.k (.c (.int .i64 (-1)))))] .ret))
def IU:List aw:=[.tmp 4]
theorem SY:az prog 245 2 Tryz.f245 IT IU:=.auto func245
def c201:AC:=rsq [.o 3 (.box 1),.o 4 (.box (.k (.agg [.c (.str []),.c (.int .i64 0),.c (.int .i64 0)]))),.o 5 (.af zF)] (rsq [.m 7 0,.o 8 (.gB 246 [3]),.k 9 245 [7,8],.m 6 9] (.seq (rif [.m 10 6,.o 11 (.bin .lss 10 (zK 0))] 11 (rsq [.o 12 (.build [.c (.str []),.c (.int .i64 0),.c (.int .i64 0)] []),.s 3 4 12,.o 5 (.af zF)] .ret) .skip) (rsq [.m 13 0,.m 14 6,.o 15 (.aI 3 13 14),.d 16 3 15,.s 3 4 16,.o 5 (.af zT)] .ret)))
def IV:List aw:=[.bj 3 4,.tmp 5]
theorem SZ:az prog 201 2 Tryz.f201 c201 IV:=.auto func201
def IW:AC:=rsq [.o 3 (.box 1),.o 4 (.box (.k (.agg [.c (.str []),.c (.int .i64 0),.c (.int .i64 0)]))),.o 5 (.af zF)] (.seq (rsq [.f 6 0 3,.l 7 6] (.block 0 (.seq (rif [.o 9 (.bin .eql 7 (zK 1)),.m 8 9] 8 .skip (.aG [.o 10 (.bin .eql 7 (zK 4)),.m 8 10])) (.cond 8 (rsq [.m 11 0,.f 12 1 3,.l 13 12,.k 14 201 [11,13],.x 15 14 0,.x 16 14 1,.s 3 4 15,.m 5 16] .ret) .skip)))) (rsq [.o 17 (.build [.c (.str []),.c (.int .i64 0),.c (.int .i64 0)] []),.s 3 4 17,.o 5 (.af zF)] .ret))
def IX:List aw:=[.bj 3 4,.tmp 5]
theorem S2:az prog 224 2 Tryz.f224 IW IX:=.auto func224
def IY:AC:=rsq [.o 3 (.box 0),.o 4 (.box 1),.o 6 (.af zF)] (rsq [.f 7 1 4,.l 8 7,.f 9 1 3,.l 10 9,.o 11 (.bin .gtr 8 10),.m 12 11,.z 13 (.aX 1 4) 12,.z 14 (.aU 13) 12,.z 15 (.aX 1 3) 12,.z 16 (.aU 15) 12,.z 17 (.bin .eql 14 16) 12,.z 18 (.af 17) 12,.y 19 (.aX 2 3) 18,.y 20 (.aU 19) 18,.y 21 (.af 2) 18,.y 22 (.bin .eql 20 21) 18,.z 23 (.pick 18 22 zF) 12,.z 24 (.af 23) 12,.y 25 (.aX 2 4) 24,.y 26 (.aU 25) 24,.y 27 (.af 2) 24,.y 28 (.bin .eql 26 27) 24,.z 29 (.pick 24 28 zF) 12,.o 30 (.pick 12 zT 29),.m 6 30] .ret)
def IZ:List aw:=[.tmp 6]
theorem S3:az prog 225 3 Tryz.f225 IY IZ:=.auto func225
def c173:AC:=rsq [.o 2 (.box 0),.o 3 (.box 1),.o 4 (.af zF)] (rsq [.d 5 3 2,.d 6 3 3,.k 7 225 [5,6,(zK 1)],.m 4 7] .ret)
def I0:List aw:=[.tmp 4]
theorem S4:az prog 173 2 Tryz.f173 c173 I0:=.auto func173
def c171:AC:=rsq [.o 4 (.box (.k (.agg [.c (.int .i64 0),.c (.str []),.c (.int .i64 0),.c (.int .i64 0)])))] (.seq (rsq [.m 6 0,.n 7 6,.f 8 2 7,.l 9 8,.m 10 1,.o 11 (.bin .add 9 10),.m 5 11] (rif [.m 12 5,.o 13 (.bin .leq (zK 0) 12),.m 14 13,.y 15 (.af 5) 14,.y 16 (.af 0) 14,.y 17 (.gO 16) 14,.y 18 (.aX 1 17) 14,.y 19 (.aU 18) 14,.y 20 (.aO 19) 14,.y 21 (.bin .lss 15 20) 14,.o 22 (.pick 14 21 zF)] 22 (rsq [.m 23 0,.n 24 23,.f 25 1 24,.l 26 25,.m 27 5,.o 28 (.aI 4 26 27),.d 29 4 28,.s 4 4 29] .ret) .skip)) (.seq (rif [.m 30 0,.n 31 30,.f 32 1 31,.l 33 32,.o 34 (.aO 33),.o 35 (.bin .gtr 34 (zK 0))] 35 (.seq (drg [.m 36 0,.n 37 36,.f 38 1 37,.l 39 38,.m 40 0,.n 41 40,.f 42 1 41,.l 43 42,.o 44 (.aO 43),.o 45 (.bin .sub 44 (zK 1)),.o 46 (.aI 4 39 45),.f 47 3 46,.l 48 47,.o 49 (.build [.c (.int .i64 0),.c (.str []),.c (.int .i64 0),.c (.int .i64 0)] [(3,1,48)]),.s 4 4 49] [0,1,2,3,4,5,6,7,8,9,10,11,12,13,114]) .ret) .skip) (rsq [.o 50 (.build [.c (.int .i64 0),.c (.str []),.c (.int .i64 0),.c (.int .i64 0)] []),.s 4 4 50] .ret)))
def I1:List aw:=[.bj 4 4]
theorem S5:az prog 171 2 Tryz.f171 c171 I1:=.auto func171
def I2:AC:=rsq [.o 3 (.box 1),.o 4 (.box (.k (.agg [.c (.str []),.c (.int .i64 0),.c (.int .i64 0)]))),.o 5 (.af zF)] (.seq (drg [.m 6 0,.n 7 6,.f 8 0 7,.l 9 8,.d 10 4 3,.k 11 224 [9,10],.x 12 11 0,.x 13 11 1,.s 3 4 12,.m 5 13] [0,1,2,3,4,105,206,207,308,409]) .ret)
def I3:List aw:=[.bj 3 4,.tmp 5]
theorem S6:az prog 172 2 Tryz.f172 I2 I3:=.auto func172
def I4:AC:=rsq [.o 2 (.af zF)] (.seq (rsq [.m 6 0,.k 7 171 [6,(zK 0)],.o 3 (.box (.k (.agg [.c (.int .i64 0),.c (.str []),.c (.int .i64 0),.c (.int .i64 0)]))),.s 4 3 7] (rsq [.f 8 0 3,.l 9 8] (.block 0 (.seq (rif [.o 11 (.bin .eql 9 (zK 1)),.m 10 11] 10 .skip (.aG [.o 12 (.bin .eql 9 (zK 4)),.m 10 12])) (.cond 10 (rsq [.m 14 0,.d 15 4 3,.k 16 172 [14,15],.m 13 16,.x 17 13 0,.x 18 13 1,.o 4 (.box (.k (.agg [.c (.str []),.c (.int .i64 0),.c (.int .i64 0)]))),.s 3 4 17,.m 5 18] (rsq [.m 19 5,.o 20 (.un .not 19),.m 2 20] .ret)) (.seq (rif [.o 22 (.bin .eql 9 (zK 2)),.m 21 22] 21 .skip (rif [.o 23 (.bin .eql 9 (zK 3)),.m 21 23] 21 .skip (.aG [.o 24 (.bin .eql 9 (zK 5)),.m 21 24]))) (.cond 21 (rsq [.o 2 (.af zT)] .ret) .skip))))))) (rsq [.o 2 (.af zF)] .ret))
def I5:List aw:=[.tmp 2]
theorem S7:az prog 223 1 Tryz.f223 I4 I5:=.auto func223
def I6:AC:=rsq [.o 2 (.af zF)] (rsq [.m 4 0,.k 5 171 [4,(zK 0)],.o 6 (.jr 0 5),.m 3 6] (rsq [.m 7 3,.o 8 (.bin .eql 7 (zK 1)),.m 9 8,.z 10 (.af 3) 9,.z 11 (.bin .eql 10 (zK 2)) 9,.o 12 (.pick 9 zT 11),.m 13 12,.y 14 (.af 0) 13,.y 15 (.call (.k (.fn 171 [])) [14,(zK 1)]) 13,.y 16 (.jr 0 15) 13,.y 17 (.bin .eql 16 (zK 8)) 13,.o 18 (.pick 13 17 zF),.m 2 18] .ret))
def I7:List aw:=[.tmp 2]
theorem S8:az prog 221 1 Tryz.f221 I6 I7:=.auto func221
def I8:AC:=rsq [.o 1 (.box 0),.o 2 (.af zF)] (rsq [.f 3 0 1,.l 4 3,.o 5 (.bin .eql 4 (zK 0)),.m 2 5] .ret)
def I9:List aw:=[.tmp 2]
theorem S9:az prog 112 1 Tryz.f112 I8 I9:=.auto func112
def Ja:AC:=rsq [.o 4 (.box 0),.o 6 (.box 2),.o 7 (.box 3),.o 8 (.box (.k (.agg [.c (.int .i64 0),.c (.str []),.c (.int .i64 0),.ab [],.c (.int .i64 0)])))] (rsq [.f 12 0 4,.l 13 12,.m 14 1,.o 15 (.build [.c (.int .i64 0),.c (.str []),.c (.int .i64 0),.ab [],.c (.int .i64 0)] [(0,1,(zK 0)),(1,1,13),(4,1,14)]),.o 9 (.box (.k (.agg [.c (.int .i64 0),.c (.str []),.c (.int .i64 0),.ab [],.c (.int .i64 0)]))),.s 5 9 15] (.seq (rsq [.d 16 5 6,.d 17 5 7,.o 18 (.bn 5 [16,17]),.o 19 (.aO 18),.o 20 (.af (zK 0))] (.block 0 (.loop (rsq [.o 21 (.bin .lss 20 19)] (.seq (.cond 21 .skip (.exit 0)) (.seq (.block 1 (rsq [.o 22 (.aI 5 18 20),.d 23 5 22,.o 11 (.box (.k (.agg [.c (.int .i64 0),.c (.str []),.c (.int .i64 0),.ab [],.c (.int .i64 0)]))),.s 5 11 23] (.aG [.d 24 5 9,.d 25 5 11,.o 26 (.bn 5 [24,25]),.m 27 1,.o 28 (.build [.c (.int .i64 0),.c (.str []),.c (.int .i64 0),.ab [],.c (.int .i64 0)] [(0,1,(zK 3)),(3,1,26),(4,1,27)]),.s 5 9 28]))) (.aG [.o 29 (.bin .add 20 (zK 1)),.m 20 29]))))))) (rsq [.d 30 5 9,.s 5 8 30] .ret)))
def Jb:List aw:=[.bj 5 8]
theorem Ta:az prog 176 4 Tryz.f176 Ja Jb:=.auto func176
def Jc:AC:=rsq [.o 7 (.box 3),.o 8 (.box (.k (.agg [.c (.int .i64 0),.c (.str []),.c (.int .i64 0),.ab [],.c (.int .i64 0),.c (.ez),.c (.int .i64 0),.c (.str []),.c (.int .i64 0),.c (.int .i64 0)]))),.o 9 (.box (.k (.agg [.c (.int .i64 0),.c (.int .i64 0)])))] (.seq (rif [.m 10 2,.o 11 (.bin .geq 10 (zK 200))] 11 (.seq (drg [.o 12 (.build [.c (.int .i64 0),.c (.str []),.c (.int .i64 0),.ab [],.c (.int .i64 0),.c (.ez),.c (.int .i64 0),.c (.str []),.c (.int .i64 0),.c (.int .i64 0)] []),.f 13 3 7,.l 14 13,.o 15 (.build [.c (.int .i64 0),.c (.int .i64 0)] [(0,1,(zK 31)),(1,1,14)]),.s 10 8 12,.s 2 9 15] [0,104,1,2,3,305]) .ret) .skip) (rsq [.m 16 0,.m 17 1,.m 18 2,.o 19 (.bin .add 18 (zK 1)),.k 20 111 [16,17,19],.x 21 20 0,.x 22 20 1,.s 10 8 21,.s 2 9 22] .ret))
def Jd:List aw:=[.bj 10 8,.bj 2 9]
theorem Tb:az prog 174 4 Tryz.f174 Jc Jd:=.auto func174
def c222:AC:=rsq [.o 4 (.box (.k (.agg [.c (.int .i64 0),.c (.str []),.c (.int .i64 0),.ab [],.c (.int .i64 0)]))),.o 5 (.box (.k (.agg [.c (.int .i64 0),.c (.int .i64 0)])))] (rsq [.m 10 0,.k 11 171 [10,(zK 0)],.o 6 (.box (.k (.agg [.c (.int .i64 0),.c (.str []),.c (.int .i64 0),.c (.int .i64 0)]))),.s 4 6 11] (rsq [.f 12 1 6,.l 13 12,.f 14 3 6,.l 15 14,.o 16 (.build [.c (.int .i64 0),.c (.str []),.c (.int .i64 0),.ab [],.c (.int .i64 0)] [(0,1,(zK 0)),(1,1,13),(4,1,15)]),.o 7 (.box (.k (.agg [.c (.int .i64 0),.c (.str []),.c (.int .i64 0),.ab [],.c (.int .i64 0)]))),.s 5 7 16] (.seq (.block 0 (rif [.m 18 0,.k 19 223 [18],.o 20 (.un .not 19),.m 17 20] 17 (.seq (drg [.o 21 (.build [.c (.int .i64 0),.c (.str []),.c (.int .i64 0),.ab [],.c (.int .i64 0)] []),.f 22 3 6,.l 23 22,.o 24 (.build [.c (.int .i64 0),.c (.int .i64 0)] [(0,1,(zK 30)),(1,1,23)]),.s 5 4 21,.s 2 5 24] [0,104,1,2,3,305]) .ret) (rif [.f 26 0 6,.l 27 26,.o 28 (.bin .eql 27 (zK 5)),.m 25 28] 25 (rsq [.m 29 0,.m 30 1,.k 31 258 [29,30],.x 32 31 0,.x 33 31 1,.s 5 4 32,.s 2 5 33] .ret) (rif [.f 35 0 6,.l 36 35,.o 37 (.bin .eql 36 (zK 3)),.m 34 37] 34 (.aG [.f 38 2 6,.l 39 38,.f 40 3 6,.l 41 40,.o 42 (.build [.c (.int .i64 0),.c (.str []),.c (.int .i64 0),.ab [],.c (.int .i64 0)] [(0,1,(zK 2)),(2,1,39),(4,1,41)]),.s 5 7 42]) (rif [.f 44 0 6,.l 45 44,.o 46 (.bin .neq 45 (zK 4)),.m 47 46,.y 48 (.af 0) 47,.y 49 (.call (.k (.fn 171 [])) [48,(zK 1)]) 47,.y 50 (.jr 0 49) 47,.y 51 (.bin .eql 50 (zK 8)) 47,.o 52 (.pick 47 51 zF),.m 43 52] 43 (rsq [.m 53 0,.n 54 53,.f 55 2 54,.l 56 55,.o 57 (.bin .add 56 (zK 2)),.n 58 53,.f 59 2 58,.s 1 59 57] (rsq [.m 61 0,.m 62 1,.d 63 4 6,.k 64 174 [61,(zK 0),62,63],.m 60 64,.x 65 60 0,.x 66 60 1,.o 8 (.box (.k (.agg [.c (.int .i64 0),.c (.str []),.c (.int .i64 0),.ab [],.c (.int .i64 0),.c (.ez),.c (.int .i64 0),.c (.str []),.c (.int .i64 0),.c (.int .i64 0)]))),.o 9 (.box (.k (.agg [.c (.int .i64 0),.c (.int .i64 0)]))),.s 10 8 65,.s 2 9 66] (.seq (drg [.f 67 1 6,.l 68 67,.f 69 0 8,.d 70 5 69,.o 71 (.bn 5 [70]),.f 72 3 6,.l 73 72,.o 74 (.build [.c (.int .i64 0),.c (.str []),.c (.int .i64 0),.ab [],.c (.int .i64 0)] [(0,1,(zK 4)),(1,1,68),(3,1,71),(4,1,73)]),.d 75 2 9,.s 5 4 74,.s 2 5 75] [0,1,2,3,4,5,6,7,109,8,310]) .ret))) (rif [.f 77 0 6,.l 78 77,.o 79 (.bin .eql 78 (zK 2)),.m 76 79] 76 (.aG [.f 80 0 7,⟨none,.store 1 80 (zK 1),none⟩]) .skip)))))) (rsq [.m 81 0,.n 82 81,.f 83 2 82,.l 84 83,.o 85 (.bin .add 84 (zK 1)),.n 86 81,.f 87 2 86,.s 1 87 85] (rsq [.d 88 5 7,.o 89 (.build [.c (.int .i64 0),.c (.int .i64 0)] []),.s 5 4 88,.s 2 5 89] .ret)))))
def Je:List aw:=[.bj 5 4,.bj 2 5]
theorem Tc:az prog 222 2 Tryz.f222 c222 Je:=.auto func222
def Jf:AC:=rsq [.o 4 (.box (.k (.agg [.c (.int .i64 0),.c (.str []),.c (.int .i64 0),.ab [],.c (.int .i64 0)]))),.o 5 (.box (.k (.agg [.c (.int .i64 0),.c (.int .i64 0)])))] (rsq [.m 11 0,.k 12 221 [11],.m 6 12] (rsq [.m 14 0,.m 15 1,.k 16 222 [14,15],.m 13 16,.x 17 13 0,.x 18 13 1,.o 7 (.box (.k (.agg [.c (.int .i64 0),.c (.str []),.c (.int .i64 0),.ab [],.c (.int .i64 0)]))),.o 8 (.box (.k (.agg [.c (.int .i64 0),.c (.int .i64 0)]))),.s 5 7 17,.s 2 8 18] (rsq [.f 19 4 7,.l 20 19,.m 9 20] (.seq (.block 0 (.loop (.seq (rif [.d 21 2 8,.k 22 112 [21],.m 23 22,.y 24 (.af 6) 23,.y 25 (.un .not 24) 23,.o 26 (.pick 23 25 zF),.m 27 26,.y 28 (.af 0) 27,.y 29 (.call (.k (.fn 223 [])) [28]) 27,.o 30 (.pick 27 29 zF)] 30 .skip (.exit 0)) (.block 1 (rsq [.m 31 0,.k 32 221 [31],.m 6 32] (rsq [.o 10 (.box (.k (.agg [.c (.int .i64 0),.c (.str []),.c (.int .i64 0),.ab [],.c (.int .i64 0)])))] (rsq [.m 34 0,.m 35 1,.k 36 222 [34,35],.m 33 36,.x 37 33 0,.x 38 33 1,.s 5 10 37,.s 2 8 38] (.aG [.d 39 5 7,.d 40 5 10,.o 41 (.bn 5 [39,40]),.m 42 9,.o 43 (.build [.c (.int .i64 0),.c (.str []),.c (.int .i64 0),.ab [],.c (.int .i64 0)] [(0,1,(zK 3)),(3,1,41),(4,1,42)]),.s 5 7 43])))))))) (.seq (drg [.d 44 5 7,.d 45 2 8,.s 5 4 44,.s 2 5 45] [0,102,1,303]) .ret)))))
def Jg:List aw:=[.bj 5 4,.bj 2 5]
theorem Td:az prog 170 2 Tryz.f170 Jf Jg:=.auto func170
def Jh:AC:=rsq [.o 6 (.box (.k (.agg [.c (.int .i64 0),.c (.str []),.c (.int .i64 0),.ab [],.c (.int .i64 0),.c (.ez),.c (.int .i64 0),.c (.str []),.c (.int .i64 0),.c (.int .i64 0)]))),.o 7 (.box (.k (.agg [.c (.int .i64 0),.c (.int .i64 0)])))] (rsq [.m 17 0,.m 18 2,.k 19 170 [17,18],.m 16 19,.x 20 16 0,.x 21 16 1,.o 8 (.box (.k (.agg [.c (.int .i64 0),.c (.str []),.c (.int .i64 0),.ab [],.c (.int .i64 0)]))),.o 9 (.box (.k (.agg [.c (.int .i64 0),.c (.int .i64 0)]))),.s 5 8 20,.s 2 9 21] (rsq [.d 22 5 8,.o 23 (.build [.c (.int .i64 0),.c (.str []),.c (.int .i64 0),.ab [],.c (.int .i64 0),.c (.ez),.c (.int .i64 0),.c (.str []),.c (.int .i64 0),.c (.int .i64 0)] [(0,5,22)]),.o 10 (.box (.k (.agg [.c (.int .i64 0),.c (.str []),.c (.int .i64 0),.ab [],.c (.int .i64 0),.c (.ez),.c (.int .i64 0),.c (.str []),.c (.int .i64 0),.c (.int .i64 0)]))),.s 10 10 23] (.seq .skip (.seq (.block 0 (.loop (.seq (rif [.d 24 2 9,.k 25 112 [24]] 25 .skip (.exit 0)) (.block 1 (rsq [.m 26 0,.k 27 171 [26,(zK 0)],.o 11 (.box (.k (.agg [.c (.int .i64 0),.c (.str []),.c (.int .i64 0),.c (.int .i64 0)]))),.s 4 11 27] (rsq [.m 29 0,.d 30 4 11,.k 31 172 [29,30],.m 28 31,.x 32 28 0,.x 33 28 1,.o 12 (.box (.k (.agg [.c (.str []),.c (.int .i64 0),.c (.int .i64 0)]))),.s 3 12 32,.m 13 33] (.seq (.block 2 (rif [.m 35 13,.o 36 (.un .not 35),.m 37 36,.z 38 (.aX 1 12) 37,.z 39 (.aU 38) 37,.z 40 (.af 1) 37,.z 41 (.bin .lss 39 40) 37,.o 42 (.pick 37 zT 41),.m 34 42] 34 (.exit 0) (.seq (drg [.f 44 5 10,.l 45 44,.o 46 (.lQ true 0 45),.m 47 46,.y 48 (.eJ 3 12) 47,.y 49 (.aX 5 10) 47,.y 50 (.aU 49) 47,.y 51 (.gO 50) 47,.y 52 (.eJ 3 51) 47,.y 53 (.call (.k (.fn 173 [])) [48,52]) 47,.y 54 (.un .not 53) 47,.o 55 (.pick 47 54 zF),.m 43 55] [0,1,2,3,4,5,6,7,8,109,210,211,212]) (.cond 43 (.seq (drg [.o 56 (.build [.c (.int .i64 0),.c (.str []),.c (.int .i64 0),.ab [],.c (.int .i64 0),.c (.ez),.c (.int .i64 0),.c (.str []),.c (.int .i64 0),.c (.int .i64 0)] []),.f 57 3 11,.l 58 57,.o 59 (.build [.c (.int .i64 0),.c (.int .i64 0)] [(0,1,(zK 32)),(1,1,58)]),.s 10 6 56,.s 2 7 59] [0,104,1,2,3,305]) .ret) .skip)))) (rsq [.m 60 0,.n 61 60,.f 62 2 61,.l 63 62,.o 64 (.bin .add 63 (zK 1)),.n 65 60,.f 66 2 65,.s 1 66 64] (rsq [.f 67 1 12,.l 68 67,.o 69 (.bin .add 68 (zK 1)),.m 14 69] (.seq (rif [.f 70 2 12,.l 71 70,.o 72 (.bin .eql 71 (zK 2))] 72 (.aG [.f 73 1 12,.l 74 73,.m 14 74]) .skip) (rsq [.o 15 (.box (.k (.agg [.c (.int .i64 0),.c (.str []),.c (.int .i64 0),.ab [],.c (.int .i64 0),.c (.ez),.c (.int .i64 0),.c (.str []),.c (.int .i64 0),.c (.int .i64 0)])))] (rsq [.m 76 0,.m 77 14,.m 78 2,.d 79 4 11,.k 80 174 [76,77,78,79],.m 75 80,.x 81 75 0,.x 82 75 1,.s 10 15 81,.s 2 9 82] (.seq (.seq (drg [.d 83 2 9,.k 84 112 [83],.m 85 84,.y 86 (.aX 5 15) 85,.y 87 (.aU 86) 85,.y 88 (.lQ true 0 87) 85,.o 89 (.pick 85 88 zF),.m 90 89,.y 91 (.eJ 3 12) 90,.y 92 (.aX 5 15) 90,.y 93 (.aU 92) 90,.y 94 (.gO 93) 90,.y 95 (.eJ 3 94) 90,.y 96 (.call (.k (.fn 175 [])) [91,95]) 90,.y 97 (.un .not 96) 90,.o 98 (.pick 90 97 zF)] [0,101,202,203,204,205,206,207,208,209,210,211,212,313,414,415]) (.cond 98 (.aG [.f 99 6 15,.f 100 3 99,.l 101 100,.o 102 (.build [.c (.int .i64 0),.c (.int .i64 0)] [(0,1,(zK 32)),(1,1,101)]),.s 2 9 102]) .skip)) (drg [.d 103 3 12,.f 104 3 11,.l 105 104,.f 106 0 10,.d 107 5 106,.f 108 0 15,.d 109 5 108,.k 110 176 [103,105,107,109],.d 111 4 11,.o 112 (.build [.c (.int .i64 0),.c (.str []),.c (.int .i64 0),.ab [],.c (.int .i64 0),.c (.ez),.c (.int .i64 0),.c (.str []),.c (.int .i64 0),.c (.int .i64 0)] [(0,5,110),(5,1,12),(6,4,111)]),.s 10 10 112] [0,1,2,3,4,5,6,107,8,209,310])))))))))))))) (.seq (drg [.d 113 10 10,.d 114 2 9,.s 10 6 113,.s 2 7 114] [0,102,1,303]) .ret)))))
def Ji:List aw:=[.bj 10 6,.bj 2 7]
theorem Te:az prog 111 3 Tryz.f111 Jh Ji:=.auto func111
def c59:AC:=rsq [.o 6 (.box (.k (.agg [.c (.int .i64 0),.c (.str []),.c (.int .i64 0),.ab [],.c (.int .i64 0)]))),.o 7 (.af (zK 0)),.o 8 (.af (zK 0)),.o 9 (.af (zK 0))] (rsq [.m 13 0,.m 14 1,.m 15 2,.o 16 (.build [.ab [],.ab [],.c (.int .i64 0)] [(0,1,13),(1,1,14),(2,1,15)]),.o 17 (.box 16),.m 10 17] (rsq [.m 19 10,.k 20 111 [19,(zK 0),(zK 0)],.m 18 20,.x 21 18 0,.x 22 18 1,.o 11 (.box (.k (.agg [.c (.int .i64 0),.c (.str []),.c (.int .i64 0),.ab [],.c (.int .i64 0),.c (.ez),.c (.int .i64 0),.c (.str []),.c (.int .i64 0),.c (.int .i64 0)]))),.o 12 (.box (.k (.agg [.c (.int .i64 0),.c (.int .i64 0)]))),.s 10 11 21,.s 2 12 22] (.seq (rif [.d 23 2 12,.k 24 112 [23],.o 25 (.un .not 24)] 25 (.seq (drg [.o 26 (.build [.c (.int .i64 0),.c (.str []),.c (.int .i64 0),.ab [],.c (.int .i64 0)] []),.m 27 2,.f 28 0 12,.l 29 28,.f 30 1 12,.l 31 30,.s 5 6 26,.m 7 27,.m 8 29,.m 9 31] [0,106,1,2,3,4,5,207,208,209]) .ret) .skip) (.seq (drg [.f 32 0 11,.d 33 5 32,.m 34 10,.n 35 34,.f 36 2 35,.l 37 36,.s 5 6 33,.m 7 37,.o 8 (.af (zK 0)),.o 9 (.af (zK 0))] [0,1,106,2,3,4,5,207,208,209]) .ret))))
def Jj:List aw:=[.bj 5 6,.tmp 7,.tmp 8,.tmp 9]
theorem Tf:az prog 59 3 Tryz.f59 c59 Jj:=.auto func59
def Jk(l:List bG):List (List C):=l.map fun s=>[C.str s]
def Jl(t:List Tok)(i:Int)(v:Nat)(vs:List bG)(e p:Int):ad:=.cells [.c (po t),I i,.aF v (Jk vs),I e,I p]
def yf(vs:List bG):ad:=.spare 9 1 vs.length
attribute [local go_sem] Jl yf nk tJ tK tL tM tI aa.v aa.aM aY a7 aV aL aT
theorem Cc(w0:World)(n:Int)(σ:H):DC prog w0 126 [I n] σ (Same (aa.var n).v σ):=by
 refine IF.go rfl (fun hok hsz=>?_);(refine W.a ?_;simp only[go_sem,Ca]);(refine W.fg (hok) (d:=(aa.var n).v) (by simp only[Cb,go_sem,aa.v,aa.var,aY,a7,aV,aL];rfl) (by simp only[ak,go_sem,aa.v,aa.var,aY,a7,aV,aL];exact au) ?_ (hl:=by(first|exact .c _|(simp only[go_sem,aa.v,aa.var,aY,a7,aV,aL];done))));exact⟨rfl,rfl⟩
end Go.Proofs.YtdlkenpilhakfaaGreatDoor
namespace Go.Proofs.YtdlkenpilhakfaaGreatDoor
open Go.RowKit Go.Lamb
attribute [local go_sem] Jl yf nk tJ tK tL tM tI aa.v aa.aM aY a7 aV aL aT
theorem Cd(w0:World)(to u:aa)(σ:H):DC prog w0 68 [to.v,.c (.sl [[.int .i64 u.k,.str u.name,.int .i64 u.n,.sl (u.l.map aa.cs)]])] σ (Same (aa.arr u to).v σ):=by
 have h:=yg w0 to [u] (by simp) σ;unfold aT at h;rw[List.map_cons,List.map_nil,aa.aM]at h;exact h
end Go.Proofs.YtdlkenpilhakfaaGreatDoor
namespace Go.Proofs.YtdlkenpilhakfaaGreatDoor
open Go.RowKit Go.Lamb
def Jm:AC:=rsq [.o 0 (.af (.k (.ab [])))] (rsq [.o 1 (.bn 1 [(.k (.c (.str [107,105,110,100]))),(.k (.c (.str [116,121,112,101]))),(.k (.c (.str [105,110,102,105,120]))),(.k (.c (.str [105,110,102,105,120,108]))),(.k (.c (.str [105,110,102,105,120,114])))]),.m 0 1] .ret)
def Jn:List aw:=[.tmp 0]
theorem Tg:az prog 153 0 Tryz.f153 Jm Jn:=.auto func153
def Jo:AC:=rsq [.o 2 (.box (.k (.agg [.c (.int .i64 0),.c (.str []),.c (.int .i64 0),.c (.int .i64 0)])))] (.seq (drg [.m 3 0,.n 4 3,.f 5 0 4,.l 6 5,.m 7 0,.n 8 7,.f 9 1 8,.l 10 9,.m 11 0,.n 12 11,.f 13 0 12,.l 14 13,.o 15 (.aO 14),.o 16 (.bin .sub 15 (zK 1)),.o 17 (.mn 10 16),.o 18 (.aI 4 6 17),.d 19 4 18,.s 4 2 19] [0,1,2,3,4,5,6,7,8,9,10,11,12,13,14,15,16,117]) .ret)
def Jp:List aw:=[.bj 4 2]
theorem Th:az prog 60 1 Tryz.f60 Jo Jp:=.auto func60
def Jq:AC:=rsq [.o 6 (.af zF)] (rsq [.m 9 0,.k 10 60 [9],.o 7 (.box (.k (.agg [.c (.int .i64 0),.c (.str []),.c (.int .i64 0),.c (.int .i64 0)]))),.s 4 7 10] (rsq [.f 11 0 7,.l 12 11,.m 13 1,.o 14 (.bin .eql 12 13),.m 15 14,.y 16 (.aX 1 7) 15,.y 17 (.aU 16) 15,.y 18 (.af 2) 15,.y 19 (.bin .eql 17 18) 15,.o 20 (.pick 15 19 zF),.m 8 20] (.seq (rif [.m 21 8] 21 (.aG [.m 22 0,.n 23 22,.f 24 1 23,.l 25 24,.o 26 (.bin .add 25 (zK 1)),.n 27 22,.f 28 1 27,.s 1 28 26]) .skip) (rsq [.m 29 8,.m 6 29] .ret))))
def Jr:List aw:=[.tmp 6]
theorem Ti:az prog 207 3 Tryz.f207 Jq Jr:=.auto func207
def c210:AC:=rsq [.o 6 (.box (.k (.agg [.c (.int .i64 0),.c (.str []),.c (.int .i64 0),.c (.int .i64 0)])))] (rsq [.m 8 0,.k 9 60 [8],.o 7 (.box (.k (.agg [.c (.int .i64 0),.c (.str []),.c (.int .i64 0),.c (.int .i64 0)]))),.s 4 7 9] (.seq (rif [.m 10 2,.f 11 0 7,.l 12 11,.k 13 248 [10,12],.o 14 (.un .not 13)] 14 (.aG [.m 15 0,.m 16 1,.f 17 3 7,.l 18 17,.k 19 208 [15,16,18]]) .skip) (rsq [.m 20 0,.n 21 20,.f 22 1 21,.l 23 22,.o 24 (.bin .add 23 (zK 1)),.n 25 20,.f 26 1 25,.s 1 26 24] (rsq [.d 27 4 7,.s 4 6 27] .ret))))
def Js:List aw:=[.bj 4 6]
theorem Tj:az prog 210 3 Tryz.f210 c210 Js:=.auto func210
def c206:AC:=rsq [.o 4 (.af (.k (.ab [])))] (rsq [.m 6 0,.m 7 1,.k 8 210 [6,(zK 100),7],.o 9 (.bn 4 [8]),.m 5 9] (.seq (.block 0 (.loop (.seq (rif [.m 10 0,.n 11 10,.f 12 3 11,.l 13 12,.o 14 (.bin .eql 13 (zK 0)),.m 15 14,.y 16 (.af 0) 15,.y 17 (.call (.k (.fn 207 [])) [16,(zK 4),(.k (.c (.str [44])))]) 15,.o 18 (.pick 15 17 zF)] 18 .skip (.exit 0)) (.block 1 (.aG [.m 19 5,.m 20 0,.m 21 1,.k 22 210 [20,(zK 100),21],.o 23 (.bn 4 [22]),.o 24 (.app 123 4 40 19 23),.m 5 24]))))) (rsq [.m 25 5,.m 4 25] .ret)))
def Jt:List aw:=[.tmp 4]
theorem Tk:az prog 206 2 Tryz.f206 c206 Jt:=.auto func206
def Ju:AC:=rsq [.o 2 (.af (.k (.ab [])))] (rsq [.o 3 (.af (.k (.ab [])))] (.seq (rsq [.m 6 0,.o 7 (.aO 6),.o 8 (.af (zK 0))] (.block 0 (.loop (rsq [.o 9 (.bin .lss 8 7)] (.seq (.cond 9 .skip (.exit 0)) (.seq (.block 1 (rsq [.o 10 (.aI 4 6 8),.d 11 4 10,.o 5 (.box (.k (.agg [.c (.int .i64 0),.c (.str []),.c (.int .i64 0),.c (.int .i64 0)]))),.s 4 5 11] (.aG [.m 12 3,.f 13 1 5,.l 14 13,.o 15 (.bn 1 [14]),.o 16 (.app 9 1 16 12 15),.m 3 16]))) (.aG [.o 17 (.bin .add 8 (zK 1)),.m 8 17]))))))) (rsq [.m 18 3,.m 2 18] .ret)))
def Jv:List aw:=[.tmp 2]
theorem Tl:az prog 205 1 Tryz.f205 Ju Jv:=.auto func205
def Jw:AC:=rsq [.o 2 (.box (.k (.agg [.c (.int .i64 0),.ab [],.c (.int .i64 0),.c (.int .i64 0),.c (.str []),.c (.int .i64 0),.ab [],.c (.str []),.c (.int .i64 0),.c (.int .i64 0),.c (.int .i64 0),.c (.str []),.c (.int .i64 0),.ab [],.c (.int .i64 0),.c (.int .i64 0)])))] (rsq [.m 8 0,.o 9 (.bn 1 [(zK 1),(zK 4)]),.k 10 206 [8,9],.k 11 205 [10],.o 12 (.build [.c (.int .i64 0),.ab [],.c (.int .i64 0),.c (.int .i64 0),.c (.str []),.c (.int .i64 0),.ab [],.c (.str []),.c (.int .i64 0),.c (.int .i64 0),.c (.int .i64 0),.c (.str []),.c (.int .i64 0),.ab [],.c (.int .i64 0),.c (.int .i64 0)] [(0,1,(zK 1)),(1,1,11)]),.o 3 (.box (.k (.agg [.c (.int .i64 0),.ab [],.c (.int .i64 0),.c (.int .i64 0),.c (.str []),.c (.int .i64 0),.ab [],.c (.str []),.c (.int .i64 0),.c (.int .i64 0),.c (.int .i64 0),.c (.str []),.c (.int .i64 0),.ab [],.c (.int .i64 0),.c (.int .i64 0)]))),.s 16 3 12] (.seq (rif [.m 13 0,.n 14 13,.f 15 3 14,.l 16 15,.o 17 (.bin .neq 16 (zK 0))] 17 (rsq [.d 18 16 3,.s 16 2 18] .ret) .skip) (.seq (drg [.m 20 0,.n 21 20,.f 22 0 21,.l 23 22,.m 24 0,.n 25 24,.f 26 1 25,.l 27 26,.k 28 209 [23,27],.m 19 28,.x 29 19 0,.x 30 19 1,.x 31 19 2,.x 32 19 3,.o 4 (.box (.k (.agg zS4))),.s 4 4 29,.m 5 30,.m 6 31,.m 7 32] [114,0,1,2,3,4,5,6,7,8,9,10,315,11,12,13,416,417,418]) (.seq (rif [.m 33 6,.o 34 (.bin .neq 33 (zK 0))] 34 (.aG [.m 35 0,.m 36 6,.m 37 7,.k 38 208 [35,36,37]]) .skip) (rsq [.m 39 0,.d 40 4 4,.m 41 5,.f 42 3 3,.s 4 42 40,.n 43 39,.f 44 1 43,.s 1 44 41] (rsq [.d 45 16 3,.s 16 2 45] .ret))))))
def Jy:List aw:=[.bj 16 2]
theorem Tm:az prog 155 1 Tryz.f155 Jw Jy:=.auto func155
def Jz:AC:=rif [.m 2 0,.n 3 2,.f 4 3 3,.l 5 4,.o 6 (.bin .eql 5 (zK 0))] 6 (.aG [.m 7 0,.o 8 (.bn 1 [(zK 7)]),.k 9 210 [7,(zK 101),8]]) .skip
def JA:List aw:=[]
theorem Tn:az prog 158 1 Tryz.f158 Jz JA:=.auto func158
def c107:AC:=rsq [.o 2 (.box (.k (.agg [.c (.int .i64 0),.ab [],.c (.int .i64 0),.c (.int .i64 0),.c (.str []),.c (.int .i64 0),.ab [],.c (.str []),.c (.int .i64 0),.c (.int .i64 0),.c (.int .i64 0),.c (.str []),.c (.int .i64 0),.ab [],.c (.int .i64 0),.c (.int .i64 0)])))] (rsq [.m 6 0,.k 7 60 [6],.o 3 (.box (.k (.agg [.c (.int .i64 0),.c (.str []),.c (.int .i64 0),.c (.int .i64 0)]))),.s 4 3 7] (rsq [.o 4 (.af (.k (.c (.str []))))] (.seq (.seq (drg [.f 8 0 3,.l 9 8,.o 10 (.bin .eql 9 (zK 1)),.m 11 10,.y 12 (.call (.k (.fn 153 [])) []) 11,.y 13 (.aX 1 3) 11,.y 14 (.aU 13) 11,.y 15 (.call (.k (.fn 152 [])) [12,14]) 11,.o 16 (.pick 11 15 zF)] [0,1,2,3,104,5,6,307,408]) (.cond 16 (rsq [.f 17 1 3,.l 18 17,.m 4 18] (.aG [.m 19 0,.n 20 19,.f 21 1 20,.l 22 21,.o 23 (.bin .add 22 (zK 1)),.n 24 19,.f 25 1 24,.s 1 25 23])) .skip)) (rsq [.o 5 (.box (.k (.agg [.c (.int .i64 0),.ab [],.c (.int .i64 0),.c (.int .i64 0),.c (.str []),.c (.int .i64 0),.ab [],.c (.str []),.c (.int .i64 0),.c (.int .i64 0),.c (.int .i64 0),.c (.str []),.c (.int .i64 0),.ab [],.c (.int .i64 0),.c (.int .i64 0)])))] (.seq (rsq [.m 26 4] (.block 0 (rif [.o 30 (.bin .eql 26 (.k (.c (.str [107,105,110,100])))),.m 29 30] 29 (.aG [.m 31 0,.k 32 154 [31],.s 16 5 32]) (rif [.o 34 (.bin .eql 26 (.k (.c (.str [116,121,112,101])))),.m 33 34] 33 (.aG [.m 35 0,.k 36 155 [35],.s 16 5 36]) (rif [.o 38 (.bin .eql 26 (.k (.c (.str [105,110,102,105,120])))),.m 37 38] 37 (.aG [.m 39 0,.k 40 156 [39,(zK 0)],.s 16 5 40]) (rif [.o 42 (.bin .eql 26 (.k (.c (.str [105,110,102,105,120,108])))),.m 41 42] 41 (.aG [.m 43 0,.k 44 156 [43,(zK 1)],.s 16 5 44]) (rif [.o 46 (.bin .eql 26 (.k (.c (.str [105,110,102,105,120,114])))),.m 45 46] 45 (.aG [.m 47 0,.k 48 156 [47,(zK 2)],.s 16 5 48]) (.aG [.m 27 0,.k 28 157 [27],.s 16 5 28])))))))) (.seq (rif [.f 49 0 5,.l 50 49,.o 51 (.bin .neq 50 (zK 2))] 51 (.aG [.m 52 0,.k 53 158 [52]]) .skip) (rsq [.f 54 3 3,.l 55 54,.f 56 15 5,.s 1 56 55] (rsq [.d 57 16 5,.s 16 2 57] .ret))))))))
def JB:List aw:=[.bj 16 2]
theorem To:az prog 107 1 Tryz.f107 c107 JB:=.auto func107
def JC:AC:=rsq [.o 2 (.af (.k (.ab []))),.o 3 (.af (.k (.ab []))),.o 4 (.af (zK 0)),.o 5 (.af (zK 0))] (rsq [.m 12 0,.k 13 58 [12],.m 11 13,.x 14 11 0,.x 15 11 1,.x 16 11 2,.m 6 14,.m 7 15,.m 8 16] (.seq (rif [.m 17 7,.o 18 (.bin .neq 17 (zK 0))] 18 (rsq [.m 19 7,.m 20 8,.o 2 (.af (.k (.ab []))),.o 3 (.af (.k (.ab []))),.m 4 19,.m 5 20] .ret) .skip) (rsq [.m 21 6,.k 22 106 [],.o 23 (.build [.ab [],.c (.int .i64 0),.ab [],.c (.int .i64 0),.c (.int .i64 0)] [(0,1,21),(2,1,22)]),.o 24 (.box 23),.m 9 24] (rsq [.o 10 (.af (.k (.ab [])))] (.seq (.block 0 (.loop (.seq (rif [.m 25 9,.n 26 25,.f 27 3 26,.l 28 27,.o 29 (.bin .eql 28 (zK 0)),.m 30 29,.y 31 (.af 9) 30,.y 32 (.call (.k (.fn 60 [])) [31]) 30,.y 33 (.jr 0 32) 30,.y 34 (.bin .neq 33 (zK 0)) 30,.o 35 (.pick 30 34 zF)] 35 .skip (.exit 0)) (.block 1 (.aG [.m 36 10,.m 37 9,.k 38 107 [37],.o 39 (.bn 16 [38]),.o 40 (.app 62 16 200 36 39),.m 10 40]))))) (.seq (rif [.m 41 9,.n 42 41,.f 43 3 42,.l 44 43,.o 45 (.bin .neq 44 (zK 0))] 45 (.seq (drg [.m 46 9,.n 47 46,.f 48 3 47,.l 49 48,.m 50 9,.n 51 50,.f 52 4 51,.l 53 52,.o 2 (.af (.k (.ab []))),.o 3 (.af (.k (.ab []))),.m 4 49,.m 5 53] [0,1,2,3,4,5,6,7,8,9,10,11]) .ret) .skip) (.seq (drg [.m 54 10,.m 55 9,.n 56 55,.f 57 2 56,.l 58 57,.m 2 54,.m 3 58,.o 4 (.af (zK 0)),.o 5 (.af (zK 0))] [0,1,2,3,4,5,6,7,8]) .ret)))))))
def JD:List aw:=[.tmp 2,.tmp 3,.tmp 4,.tmp 5]
theorem Tp:az prog 56 1 Tryz.f56 JC JD:=.auto func56
def c20:AC:=rsq [.o 4 (.box (.k (.agg [.c (.int .i64 0),.c (.str []),.c (.int .i64 0),.ab [],.c (.int .i64 0)]))),.o 5 (.af (zK 0)),.o 6 (.af (zK 0))] (rsq [.m 16 1,.k 17 58 [16],.m 15 17,.x 18 15 0,.x 19 15 1,.x 20 15 2,.m 7 18,.m 8 19,.m 9 20] (.seq (rif [.m 21 8,.o 22 (.bin .neq 21 (zK 0))] 22 (rsq [.o 23 (.build [.c (.int .i64 0),.c (.str []),.c (.int .i64 0),.ab [],.c (.int .i64 0)] []),.m 24 8,.m 25 9,.s 5 4 23,.m 5 24,.m 6 25] .ret) .skip) (rsq [.m 27 0,.m 28 7,.k 29 59 [27,28,(zK 0)],.m 26 29,.x 30 26 0,.x 31 26 1,.x 32 26 2,.x 33 26 3,.o 10 (.box (.k (.agg [.c (.int .i64 0),.c (.str []),.c (.int .i64 0),.ab [],.c (.int .i64 0)]))),.s 5 10 30,.m 11 31,.m 8 32,.m 12 33] (.seq (rif [.m 34 8,.o 35 (.bin .neq 34 (zK 0))] 35 (rsq [.o 36 (.build [.c (.int .i64 0),.c (.str []),.c (.int .i64 0),.ab [],.c (.int .i64 0)] []),.m 37 8,.m 38 12,.s 5 4 36,.m 5 37,.m 6 38] .ret) .skip) (rsq [.m 39 7,.m 40 11,.o 41 (.build [.ab [],.c (.int .i64 0),.ab [],.c (.int .i64 0),.c (.int .i64 0)] [(0,1,39),(1,1,40)]),.o 42 (.box 41),.m 13 42] (.seq (rif [.m 43 13,.k 44 60 [43],.o 45 (.jr 0 44),.o 46 (.bin .eql 45 (zK 7))] 46 (.aG [.m 47 13,.n 48 47,.f 49 1 48,.l 50 49,.o 51 (.bin .add 50 (zK 1)),.n 52 47,.f 53 1 52,.s 1 53 51]) .skip) (.seq (rsq [.m 54 13,.k 55 60 [54],.o 14 (.box (.k (.agg [.c (.int .i64 0),.c (.str []),.c (.int .i64 0),.c (.int .i64 0)]))),.s 4 14 55] (rif [.f 56 0 14,.l 57 56,.o 58 (.bin .neq 57 (zK 0))] 58 (.seq (drg [.o 59 (.build [.c (.int .i64 0),.c (.str []),.c (.int .i64 0),.ab [],.c (.int .i64 0)] []),.f 60 3 14,.l 61 60,.s 5 4 59,.o 5 (.af (zK 101)),.m 6 61] [0,103,1,2,204,205]) .ret) .skip)) (rsq [.d 62 5 10,.s 5 4 62,.o 5 (.af (zK 0)),.o 6 (.af (zK 0))] .ret))))))))
def JE:List aw:=[.bj 5 4,.tmp 5,.tmp 6]
theorem Tq:az prog 20 2 Tryz.f20 c20 JE:=.auto func20
def c152:AC:=rsq [.o 4 (.af zF)] (rsq [.m 5 0,.m 6 1,.k 7 204 [5,6],.o 8 (.bin .geq 7 (zK 0)),.m 4 8] .ret)
def JF:List aw:=[.tmp 4]
theorem Tr:az prog 152 2 Tryz.f152 c152 JF:=.auto func152
def JG:AC:=rsq [.o 4 (.af zF)] (rsq [.m 5 0,.m 6 1,.k 7 272 [5,6],.o 8 (.bin .geq 7 (zK 0)),.m 4 8] .ret)
def JH:List aw:=[.tmp 4]
theorem Ts:az prog 248 2 Tryz.f248 JG JH:=.auto func248
def JI:AC:=rsq [.o 4 (.af (zK 0))] (.seq (rsq [.m 6 0,.o 7 (.aO 6),.o 8 (.af (zK 0))] (.block 0 (.loop (rsq [.o 9 (.bin .lss 8 7)] (.seq (.cond 9 .skip (.exit 0)) (.seq (.block 1 (rsq [.m 10 8,.m 5 10] (rif [.m 11 1,.m 12 0,.m 13 5,.o 14 (.aI 1 12 13),.l 15 14,.o 16 (.bin .eql 11 15)] 16 (rsq [.m 17 5,.m 4 17] .ret) .skip))) (.aG [.o 18 (.bin .add 8 (zK 1)),.m 8 18]))))))) (rsq [.o 4 (.af (.k (.c (.int .i64 (-1)))))] .ret))
def JJ:List aw:=[.tmp 4]
theorem Tt:az prog 272 2 Tryz.f272 JI JJ:=.auto func272
def Ce:AC:=rsq [.o 2 (.af (.k (.ab [])))] (.seq (rif [.m 3 0,.o 4 (.iw false 3)] 4 (rsq [.o 2 (.af (.k (.ab [])))] .ret) .skip) (rsq [.o 5 (.bn 3 []),.m 6 0,.o 7 (.app 60 3 32 5 6),.m 2 7] .ret))
def Tu:List aw:=[.tmp 2]
theorem JK:az prog 98 1 Tryz.f98 Ce Tu:=.auto func98
theorem DC.JL{w0:World}{f:FuncId}{s:List UInt8}{b:Bool}{σ:H}(hen:Enters prog f)(h:∀w,s.length<=maxLen->Calls prog f #[.string (bs s)] w (eL (.bool b) w)):DC prog w0 f [S s] σ (Same (B b) σ):=by
 refine DC.Gw hen fun κ w vs hrep hfit=>?_;obtain⟨v,ys,rfl,hv,hfit⟩:=hfit.cons_inv;have:=hfit.kS;subst this;cases hv with
 |c hv=>
  cases hv with
  |str _ hl=>
   refine⟨.bool b,.c (.bool b),(h w hl).mono ?_⟩;rintro e w' ⟨rfl,rfl⟩;exact⟨rfl,Below.refl _ _⟩
theorem uh(w0:World)(s:List UInt8)(σ:H):DC prog w0 62 [S s] σ (Same (B (iD s)) σ):=
 DC.JL (lO func62 (by kernel_rfl) rfl) fun w hs=>Tv (bs s) w hs
theorem Cf(w0:World)(s:List UInt8)(σ:H):DC prog w0 103 [S s] σ (Same (B (ll s)) σ):=
 DC.JL (lO func103 (by kernel_rfl) rfl) fun w hs=>Tw (bs s) w hs
attribute [local go_sem] aa.v aa.aM aY a7 aV aL aT
theorem JM{α:Type}{f:α->List C}{l:List α}{x:V}{args:List V}(h:∀y∈args,V.Sz y)(hx:x∈args)(e:x= .c (.sl (l.map f))):l.length<=9223372036854775807:=by
 subst e;exact pq (h _ hx)
theorem Tx(w0:World)(l:List aa)(f:FuncId)(caps:List V)(p:aa->Bool)(σ:H)(hp:∀o∈l,DC prog w0 f (o.v::caps) σ (Same (B (p o)) σ)):DC prog w0 117 [.c (.sl (l.map aa.cs)),.fn f caps] σ (Same (I (ki p l)) σ):=by
 refine ye.go rfl (fun hok hsz=>?_);have hlen:=JM hsz (bp ..) rfl;(refine W.a ?_;simp only[go_sem,c117]);refine W.bA (fun i=>i<=l.length/\mg p l i) (fun i=>⟨((((base.put (some 0) (.c (.sl (l.map aa.cs)))).put (some 1) (.fn f caps)).put (some 7) (I l.length)).put (some 8) (I i)),σ⟩) (fun i=>l.length-i) 0 ⟨bx _,xi⟩ ?_ (fun i hi=>?_)
 ·(refine aq.env ?_;exact aE)
 ·obtain⟨hi,hinv⟩:=hi;by_cases hlt:i<l.length
  ·have h1:((i:Int)<(l.length:Int)):=by omega
   have hx:l[i]?=some l[i]:=aR hlt;(refine W.a ?_;simp only[go_sem,h1]);refine W.yes rfl (W.a ?_);simp only[go_sem,h1,bP,hx];(refine W.c1 (hp l[i] (bw hlt)) ?_;simp only[go_sem]);refine W.test rfl (fun h=>?_) (fun h=>?_)
   ·(refine W.a ?_;simp only[go_sem]);(refine W.ret (Fin.same hok (by simp only[br,pV,go_sem];rfl) ?_ (by first|exact .c _|(simp only[go_sem];done)) (by first|exact⟨[],(cq _).symm⟩|exact⟨_,rfl⟩));simp only[ak]);rw[GB hinv hlt h]
   ·have hw:=ed hlt hlen;(refine W.a ?_;simp only[go_sem,hw]);refine .inv ⟨i+1,⟨hlt,xg hinv hlt h⟩,by omega,?_⟩;(refine aq.env ?_;exact aE)
  ·have h1:¬((i:Int)<(l.length:Int)):=by omega
   (refine W.a ?_;simp only[go_sem,h1]);refine W.no rfl (W.a ?_);simp only[go_sem];(refine W.ret (Fin.same hok (by simp only[br,pV,go_sem];rfl) ?_ (by first|exact .c _|(simp only[go_sem];done)) (by first|exact⟨[],(cq _).symm⟩|exact⟨_,rfl⟩));simp only[ak]);rw[GC (fun j hj=>hinv j hj (by omega))]
theorem JN{α:Type}(p:α->Bool)(l:List α):decide (ki p l>=0)=l.any p:=by
 rcases QS p l with⟨h,h'⟩|⟨i,hi,h,h'⟩
 ·rw[h];rw[QT]at h;have:l.any p=false:=by simpa using h
  rw[this];decide
 ·rw[h];have:l.any p=true:=by
   rw[List.any_eq_true];rw[List.find?_eq_some_iff_getElem]at h';exact⟨l[i],bw hi,h'.1⟩
  rw[this];simp
theorem ui(w0:World)(l:List aa)(f:FuncId)(caps:List V)(p:aa->Bool)(σ:H)(hp:∀o∈l,DC prog w0 f (o.v::caps) σ (Same (B (p o)) σ)):DC prog w0 64 [.c (.sl (l.map aa.cs)),.fn f caps] σ (Same (B (l.any p)) σ):=by
 refine yd.go rfl (fun hok hsz=>?_);(refine W.a ?_;simp only[go_sem,rE]);(refine W.c1 (Tx w0 l f caps p σ hp) ?_;simp only[go_sem]);(refine W.fs (hok) (by simp only[rF,go_sem];rfl) ?_;simp only[ak];(first|exact V.wk.rfl _|(refine og ?_;clear hsz hok;rw[JN]<;>((try simp only[beq_iff_eq,beq_eq_false_iff_ne,ne_eq,decide_eq_true_eq,decide_eq_false_iff_not]at*);first|(exfalso;omega)|(simp[*];done)|(simp[*];omega)|(simp[*])))))
theorem mu{α:Type}(l:List α)(p:α->Bool):(l.any fun q=>!p q)=!l.all p:=by
 induction l with
 |nil=>rfl
 |cons x l ih=>simp only[List.any_cons,jl,ih];cases p x<;>simp
theorem uj{n:Nat}(k:Nat):((n:Int)==(k:Int))=(n==k):=by
 rw[oX];simp;omega
theorem pW(w0:World)(p:aa)(σ:H):DC prog w0 63 [p.v] σ (Same (B (dA p)) σ):=by
 refine Ip.go rfl (fun hok hsz=>?_);have l2:=uj (n:=p.l.length) 2;simp only[A6]at l2;unfold dA;((refine W.a ?_;(try simp only[bne,go_sem,nA,l2, *]));(repeat' (first|(refine W.yes rfl ?_;(refine W.a ?_;simp only[bne,go_sem,nA,l2, *]))|(refine W.no rfl ?_;(refine W.a ?_;simp only[bne,go_sem,nA,l2, *]))|(refine W.kg rfl (fun hT=>?_) (fun hT=>?_)<;>(refine W.a ?_;simp only[bne,go_sem,nA,l2, *]))|(refine W.test rfl (fun hT=>?_) (fun hT=>?_)<;>(refine W.a ?_;simp only[bne,go_sem,nA,l2, *]))|(refine ld _ _ _ _ (fun hT=>?_) (fun hT=>?_)<;>simp only[bne,go_sem,nA,l2, *])|(refine la _ _ _ _ (fun hT=>?_) (fun hT=>?_)<;>simp only[bne,go_sem,nA,l2, *]))))
 all_goals (refine W.fs (hok) (by simp only[B7,go_sem];rfl) ?_;simp only[ak];(first|exact V.wk.rfl _|(refine og ?_;clear hsz hok;((try simp only[beq_iff_eq,beq_eq_false_iff_ne,ne_eq,decide_eq_true_eq,decide_eq_false_iff_not]at*);first|(exfalso;omega)|(simp[*];done)|(simp[*];omega)|(simp[*])))))
theorem Cg(p:aa):lf p=if p.k=0 then iD p.name&&p.n==0 else if p.k=1 then p.name==[]&&decide (0<=p.n)&&decide (p.n<=4611686018427387904)&&p.l.length==0 else if p.k=2 then p.name==[]&&p.n==0&&dA p else false:=by
 unfold lf dA;by_cases h2:p.k=2
 ·simp[h2]
 ·simp[h2]
theorem Ty(w0:World)(p:aa)(b:Bool)(σ:H)(hp:∀τ,DC prog w0 24 [p.v] τ (Same (B b) τ)):DC prog w0 65 [p.v] σ (Same (B (!b)) σ):=by
 refine SM.go rfl (fun hok hsz=>?_);(refine W.a ?_;simp only[go_sem,Is]);(refine W.c1 (hp _) ?_;simp only[go_sem]);(refine W.fs (hok) (by simp only[Iu,go_sem];rfl) ?_;simp only[ak];try exact V.wk.rfl _)
theorem nB(w0:World)(p:aa):∀(σ:H),DC prog w0 24 [p.v] σ (Same (B (cJ p)) σ):=by
 refine aa.ind (P:=fun p=>∀(σ:H),DC prog w0 24 [p.v] σ (Same (B (cJ p)) σ)) (fun p ih σ=>?_) p;refine SL.go rfl (fun hok hsz=>?_);have hC:=fun σ=>ui w0 p.l 65 [] (fun q=>!cJ q) σ (fun q hq=>Ty w0 q _ _ (fun τ=>ih q hq τ));have l0:=uj (n:=p.l.length) 0;have l2:=uj (n:=p.l.length) 2;simp only[rh,A6]at l0 l2;((refine W.a ?_;(try simp only[bne,go_sem,c24,l0,l2, *]));(repeat' (first|(refine W.yes rfl ?_;(refine W.a ?_;simp only[bne,go_sem,c24,l0,l2, *]))|(refine W.no rfl ?_;(refine W.a ?_;simp only[bne,go_sem,c24,l0,l2, *]))|(refine W.c1 (uh w0 p.name _) ?_;simp only[bne,go_sem,c24,l0,l2, *])|(refine W.c1 (pW w0 p _) ?_;simp only[bne,go_sem,c24,l0,l2, *])|(refine W.c1 (hC _) ?_;simp only[bne,go_sem,c24,l0,l2, *])|(refine W.kg rfl (fun hT=>?_) (fun hT=>?_)<;>(refine W.a ?_;simp only[bne,go_sem,c24,l0,l2, *]))|(refine W.test rfl (fun hT=>?_) (fun hT=>?_)<;>(refine W.a ?_;simp only[bne,go_sem,c24,l0,l2, *]))|(refine ld _ _ _ _ (fun hT=>?_) (fun hT=>?_)<;>simp only[bne,go_sem,c24,l0,l2, *])|(refine la _ _ _ _ (fun hT=>?_) (fun hT=>?_)<;>simp only[bne,go_sem,c24,l0,l2, *]))))
 all_goals (refine W.fs (hok) (by simp only[Ir,go_sem];rfl) ?_;simp only[ak];(first|exact V.wk.rfl _|(refine og ?_;clear hsz hok;rw[jF]<;>((try simp only[beq_iff_eq,beq_eq_false_iff_ne,ne_eq,decide_eq_true_eq,decide_eq_false_iff_not]at*);first|(exfalso;omega)|(simp[Cg,mu, *];done)|(simp[Cg,mu, *];omega)|(simp[Cg,mu, *])))))
theorem JO(w0:World)(p:aa)(hb:dB p<=1000000)(σ:H):DC prog w0 80 [p.v] σ (Same (.av [.c (aT (ga p).1),(ga p).2.v]) σ):=by
 refine Iq.go rfl (fun hok hsz=>?_);(refine W.a ?_;simp only[go_sem,c80]);refine W.own 4 34 4 rfl ?_;(refine W.a ?_;simp only[go_sem]);refine W.bA (α:=List aa×aa) (fun x=>(x.1++(ga x.2).1,(ga x.2).2)=ga p/\x.1.length+dB x.2<=dB p) (fun x=>⟨(((base.put (some 1) (.ptr σ.length 0)).put (some 3) (.ptr (σ.length+1) 0)).put (some 4) (.aF (σ.length+2) (x.1.map aa.cs))),σ++[.cells x.2.v.ah,.cells [I 0,S [],I 0,.ab []],.spare 34 4 x.1.length]⟩) (fun x=>dB x.2) ([],p) ⟨rfl,by simp⟩ ?_ (fun x hx=>?_)
 ·(refine aq.env ?_;exact aE)
 ·obtain⟨acc,q⟩:=x;obtain⟨hp,hd⟩:=hx;simp only at hp hd;(refine W.a ?_;simp only[go_sem]);cases hA:dA q
  ·(refine W.c1 (pW w0 q _) ?_;simp only[go_sem,hA]);refine W.no rfl (W.a ?_);simp only[go_sem];rw[Bb hA,cq]at hp;(apply W.aQ (aS _ _);case hc=>((apply ae.al;simp only[go_sem]);exact ae.nil));(refine W.a ?_;simp only[go_sem]);rw[<-hp];(refine W.fs (hok) (by simp only[B8,go_sem];rfl) ?_;simp only[ak];try exact V.wk.rfl _);(all_goals exact au)
  ·obtain⟨a,b,hl⟩:=GS hA;rw[GV hA hl]at hp;have hda:dB b<dB q:=A9 (by rw[hl];simp);have hb1:(acc.length+1)*56<=140737488355328:=by omega
   have hb2:acc.length+1<=140737488355328:=by omega
   (refine W.c1 (pW w0 q _) ?_;simp only[go_sem,hA]);refine W.yes rfl (W.a ?_);simp only[go_sem];(apply W.aQ (aS _ _);case hc=>((apply ae.al;simp only[go_sem,hl,hb1,hb2]);exact ae.nil));(refine W.a ?_;simp only[go_sem]);refine .inv ⟨(acc++[a],b),⟨by rw[<-hp];simp,by simp;omega⟩,by simp only;omega,?_⟩;simp only[go_sem,dX];(refine aq.env ?_;exact aE)
end Go.Proofs.YtdlkenpilhakfaaGreatDoor
namespace Go.Proofs.YtdlkenpilhakfaaGreatDoor
open Go.RowKit Go.Lamb
def c49:AC:=rsq [.o 2 (.box 0),.o 3 (.box 1),.o 4 (.af zF)] (.seq (rif [.f 7 0 2,.l 8 7,.f 9 0 3,.l 10 9,.o 11 (.bin .neq 8 10),.m 12 11,.z 13 (.aX 1 2) 12,.z 14 (.aU 13) 12,.z 15 (.aX 1 3) 12,.z 16 (.aU 15) 12,.z 17 (.bin .neq 14 16) 12,.o 18 (.pick 12 zT 17),.m 19 18,.z 20 (.aX 2 2) 19,.z 21 (.aU 20) 19,.z 22 (.aX 2 3) 19,.z 23 (.aU 22) 19,.z 24 (.bin .neq 21 23) 19,.o 25 (.pick 19 zT 24),.m 26 25,.z 27 (.aX 3 2) 26,.z 28 (.aU 27) 26,.z 29 (.aO 28) 26,.z 30 (.aX 3 3) 26,.z 31 (.aU 30) 26,.z 32 (.aO 31) 26,.z 33 (.bin .neq 29 32) 26,.o 34 (.pick 26 zT 33)] 34 (rsq [.o 4 (.af zF)] .ret) .skip) (.seq (rsq [.o 5 (.af (zK 0))] (forL 0 1 [.m 35 5,.f 36 3 2,.l 37 36,.o 38 (.aO 37),.o 39 (.bin .lss 35 38)] 39 (.seq (drg [.f 42 3 2,.l 43 42,.m 44 5,.o 45 (.aI 4 43 44),.d 46 4 45,.f 47 3 3,.l 48 47,.m 49 5,.o 50 (.aI 4 48 49),.d 51 4 50,.k 52 49 [46,51],.m 6 52] [0,1,2,3,4,5,6,7,8,9,110,211]) (rif [.m 53 6,.o 54 (.un .not 53)] 54 (rsq [.o 4 (.af zF)] .ret) .skip)) [.m 40 5,.o 41 (.bin .add 40 (zK 1)),.m 5 41])) (rsq [.o 4 (.af zT)] .ret)))
def yi:List aw:=[.tmp 4]
theorem Tz:az prog 49 2 Tryz.f49 c49 yi:=.auto func49
def JP:AC:=rsq [.o 2 (.box 0),.o 4 (.af (zK 0))] (rsq [.m 7 1,.o 8 (.bin .sub 7 (zK 1)),.m 5 8] (.seq (rsq [.o 6 (.af (zK 0))] (forL 0 1 [.m 9 6,.f 10 3 2,.l 11 10,.o 12 (.aO 11),.o 13 (.bin .lss 9 12),.m 14 13,.y 15 (.af 5) 14,.y 16 (.bin .geq 15 (zK 0)) 14,.o 17 (.pick 14 16 zF)] 17 (.aG [.f 20 3 2,.l 21 20,.m 22 6,.o 23 (.aI 4 21 22),.d 24 4 23,.m 25 5,.k 26 22 [24,25],.m 5 26]) [.m 18 6,.o 19 (.bin .add 18 (zK 1)),.m 6 19])) (rsq [.m 27 5,.m 4 27] .ret)))
def Ch:List aw:=[.tmp 4]
theorem TA:az prog 22 2 Tryz.f22 JP Ch:=.auto func22
def c8:AC:=rsq [.o 2 (.box 0),.o 4 (.af zF)] (rsq [.d 6 4 2,.m 7 1,.k 8 22 [6,7],.m 5 8] (rsq [.m 9 5,.o 10 (.bin .lss 9 (zK 0)),.m 4 10] .ret))
def r8:List aw:=[.tmp 4]
theorem k8:az prog 8 2 Tryz.f8 c8 r8:=.auto func8
def JQ(t:List Tok)(i:Int)(v:Nat)(vs:List bG)(e p:Int):ad:=.cells [.c (po t),I i,I e,I p,.aF v (Jk vs)]
attribute [local go_sem] JQ yf nk tJ tK tL tM tI aa.v aa.aM aY a7 aV aL aT
end Go.Proofs.YtdlkenpilhakfaaGreatDoor
namespace Go.Proofs.YtdlkenpilhakfaaGreatDoor
open Go.RowKit Go.Lamb
attribute [local go_sem] JQ yf nk tJ tK tL tM tI aa.v aa.aM aY a7 aV aL aT
theorem uk{p:aa}{args:List V}(h:∀y∈args,V.Sz y)(hx:p.v∈args):p.l.length<=9223372036854775807:=by
 have:=h _ hx;rw[aa.v,Gz]at this;exact pq (this (.c (.sl (p.l.map aa.cs))) (by simp))
theorem JR(w0:World)(p:aa):∀(q:aa) (σ:H),DC prog w0 49 [p.v,q.v] σ (Same (B (kj p q)) σ):=by
 refine aa.ind (P:=fun p=>∀(q:aa) (σ:H),DC prog w0 49 [p.v,q.v] σ (Same (B (kj p q)) σ)) (fun p ih q σ=>?_) p;refine Tz.go rfl (fun hok hsz=>?_);have hlen:=uk hsz (bp ..);have hlq:((p.l.length:Int)==(q.l.length:Int))=(p.l.length==q.l.length):=by rw[oX];simp;omega
 have hnl:p.l.length≠q.l.length->gV kj p.l q.l=false:=GH;((refine W.a ?_;(try simp only[bne,go_sem,c49,hlq, *]));(repeat' (first|(refine W.yes rfl ?_;(refine W.a ?_;simp only[bne,go_sem,c49,hlq, *]))|(refine W.no rfl ?_;(refine W.a ?_;simp only[bne,go_sem,c49,hlq, *]))|(refine W.kg rfl (fun hT=>?_) (fun hT=>?_)<;>(refine W.a ?_;simp only[bne,go_sem,c49,hlq, *]))|(refine W.test rfl (fun hT=>?_) (fun hT=>?_)<;>(refine W.a ?_;simp only[bne,go_sem,c49,hlq, *]))|(refine ld _ _ _ _ (fun hT=>?_) (fun hT=>?_)<;>simp only[bne,go_sem,c49,hlq, *])|(refine la _ _ _ _ (fun hT=>?_) (fun hT=>?_)<;>simp only[bne,go_sem,c49,hlq, *]))))
 all_goals (try (refine W.fs (hok) (by simp only[yi,go_sem];rfl) ?_;simp only[ak];(first|exact V.wk.rfl _|(refine og ?_;clear hsz hok;rw[A8]<;>((try simp only[beq_iff_eq,beq_eq_false_iff_ne,ne_eq,decide_eq_true_eq,decide_eq_false_iff_not]at*);first|(exfalso;omega)|(simp[hnl, *];done)|(simp[hnl, *];omega)|(simp[hnl, *]))))))
 simp only[beq_iff_eq,beq_eq_false_iff_ne,Bool.not_eq_true',Bool.not_eq_false']at*
 have hl:p.l.length=q.l.length:=by assumption
 have hs0:kj p q=gV kj p.l q.l:=by rw[A8];simp[*]
 refine W.bA (fun i=>i<=p.l.length/\∀j (hj:j<p.l.length) (hj':j<q.l.length),j<i->kj p.l[j] q.l[j]=true) (fun i=>⟨((((base.put (some 2) (.ptr σ.length 0)).put (some 3) (.ptr (σ.length+1) 0)).put (some 4) (B false)).put (some 5) (I (i:Nat))),σ++[.cells p.v.ah,.cells q.v.ah]⟩) (fun i=>p.l.length-i) 0 ⟨bx _,fun _ _ _ h=>absurd h (by omega)⟩ ?_ (fun i hi=>?_)
 ·(refine aq.env ?_;exact aE)
 ·obtain⟨hi,hinv⟩:=hi;by_cases hlt:i<p.l.length
  ·have h1:((i:Int)<(p.l.length:Int)):=by omega
   have h2:((i:Int)<(q.l.length:Int)):=by omega
   have hltr:i<q.l.length:=by omega
   have hx:p.l[i]?=some p.l[i]:=aR hlt;have hy:q.l[i]?=some q.l[i]:=aR hltr;have hw:aW.wrap ((i:Int)+1)=((i+1:Nat):Int):=ed hlt hlen;(refine W.a ?_;simp only[go_sem,h1]);refine W.yes rfl (W.a ?_);simp only[go_sem];apply W.aQ (aS _ _)
   case hc=>
    (apply ae.al;simp only[go_sem,h1,h2,bP,hx,hy]);(apply ae.call (ih p.l[i] (bw hlt) q.l[i] _);(case hg=>rfl);(case hf=>rfl);(case ha=>first|rfl|simp));(apply ae.al;simp only[go_sem]);exact ae.nil
   (refine W.a ?_;simp only[go_sem]);refine W.kg rfl (fun h=>?_) (fun h=>?_)
   ·(refine W.a ?_;simp only[go_sem,hw]);refine .inv ⟨i+1,⟨hlt,fun j hj hj' hji=>?_⟩,by omega,?_⟩
    ·rcases Nat.lt_succ_iff_lt_or_eq.1 hji with h'|h'
     ·exact hinv j hj hj' h'
     ·subst h';exact h
    ·(refine aq.env ?_;exact aE)
   ·(refine W.a ?_;simp only[go_sem]);(refine W.fs (hok) (by simp only[yi,go_sem];rfl) ?_;simp only[ak];try exact V.wk.rfl _);rw[hs0,GI hlt hltr h];exact .rfl _
  ·have h1:¬((i:Int)<(p.l.length:Int)):=by omega
   (refine W.a ?_;simp only[go_sem,h1]);refine W.no rfl (W.a ?_);simp only[go_sem];(refine W.fs (hok) (by simp only[yi,go_sem];rfl) ?_;simp only[ak];try exact V.wk.rfl _);rw[hs0,A7 hl (fun j hj hj'=>hinv j hj hj' (by omega))];exact .rfl _
theorem TB(w0:World)(p:aa):∀(n:Int),0<=n->n<=1000000->∀(σ:H),DC prog w0 22 [p.v,I n] σ (Same (I (dv p n)) σ):=by
 refine aa.ind (P:=fun p=>∀(n:Int),0<=n->n<=1000000->∀(σ:H),DC prog w0 22 [p.v,I n] σ (Same (I (dv p n)) σ)) (fun p ih n hn hn' σ=>?_) p;refine TA.go rfl (fun hok hsz=>?_);have hlen:=uk hsz (bp ..);have hw0:aW.wrap (n-1)=n-1:=by rw[bD]<;>omega
 (refine W.a ?_;simp only[go_sem,JP,hw0]);refine W.bA (α:=Nat×Int) (fun x=>x.1<=p.l.length/\-1<=x.2/\x.2<=1000000/\fM (p.l.drop x.1) x.2=dv p n) (fun x=>⟨((((base.put (some 2) (.ptr σ.length 0)).put (some 4) (I 0)).put (some 5) (I x.2)).put (some 6) (I (x.1:Nat))),σ++[.cells p.v.ah]⟩) (fun x=>p.l.length-x.1) (0,n-1) ⟨bx _,by simp only;omega,by simp only;omega,by rw[QY];rfl⟩ ?_ (fun x hi=>?_)
 ·(refine aq.env ?_;exact aE)
 ·obtain⟨i,m⟩:=x;obtain⟨hi,hm,hm',hinv⟩:=hi;simp only at hi hm hm' hinv;by_cases hlt:i<p.l.length
  ·have h1:((i:Int)<(p.l.length:Int)):=by omega
   have hx:p.l[i]?=some p.l[i]:=aR hlt;have hw:aW.wrap ((i:Int)+1)=((i+1:Nat):Int):=ed hlt hlen;by_cases h0:0<=m
   ·have h0':m>=0:=h0;(refine W.a ?_;simp only[go_sem,h1,h0']);refine W.yes rfl (W.a ?_);simp only[go_sem,h1,bP,hx];(refine W.c1 (ih p.l[i] (bw hlt) m h0 hm' _) ?_;simp only[go_sem,hw]);have:=GP p.l[i] m h0;refine .inv ⟨(i+1,dv p.l[i] m),⟨hlt,this.1,by simp only;omega,by rw[<-hinv,QZ hlt h0]⟩,by simp only;omega,?_⟩;(refine aq.env ?_;exact aE)
   ·have h0':¬m>=0:=h0;(refine W.a ?_;simp only[go_sem,h1,h0']);refine W.no rfl (W.a ?_);simp only[go_sem];(refine W.fs (hok) (by simp only[Ch,go_sem];rfl) ?_;simp only[ak];try exact V.wk.rfl _);rw[<-hinv,GO h0];exact .rfl _
  ·have h1:¬((i:Int)<(p.l.length:Int)):=by omega
   (refine W.a ?_;simp only[go_sem,h1]);refine W.no rfl (W.a ?_);simp only[go_sem];(refine W.fs (hok) (by simp only[Ch,go_sem];rfl) ?_;simp only[ak];try exact V.wk.rfl _);rw[<-hinv,Q0 (by omega)];exact .rfl _
theorem Ci(w0:World)(p:aa)(n:Int)(hn:0<=n)(hn':n<=1000000)(σ:H):DC prog w0 8 [p.v,I n] σ (Same (B (decide (dv p n<0))) σ):=by
 refine k8.go rfl (fun hok hsz=>?_);(refine W.a ?_;simp only[go_sem,c8]);(refine W.c1 (TB w0 p n hn hn' _) ?_;simp only[go_sem]);(refine W.fs (hok) (by simp only[r8,go_sem];rfl) ?_;simp only[ak];try exact V.wk.rfl _)
end Go.Proofs.YtdlkenpilhakfaaGreatDoor
namespace Go.Proofs.YtdlkenpilhakfaaGreatDoor
open Go.RowKit Go.Lamb
attribute [local go_sem] aa.v aa.aM aY a7 aV aL aT jG Bn tN Bo Bp xv
theorem Cj{x:aa}:∀{l:List aa},x∈l->gW x<=jb l
 |[],h=>by simp at h
 |y::l,h=>by
  rw[jb];rcases cD.1 h with rfl|h
  ·omega
  ·have:=Cj h;omega
def gH(n:Int):ad:=.cells [I n]
attribute [local go_sem] gH
theorem TC(w0:World)(n v:Int)(σ:H)(b:Nat)(D:b<σ.length):DC prog w0 128 [I v,.ptr b 0] (rz σ b (gH n)) (Same aa.none.v (rz σ b (gH (nh n v)))):=by
 refine SO.go rfl (fun hok hsz=>?_);have hokv:H.ok (rz σ b (gH (nh n v))):=He D hok (fun cs tg hc x hx=>by
  unfold gH at hc;injection hc with hc _;subst hc;simp only[cD,jm,or_false]at hx;subst hx;exact .c _)
 have e:aa.none.v= .agg [I 0,S [],I 0,.c (.sl [])]:=rfl;rw[e];unfold nh at hokv⊢;(refine W.a ?_;simp only[go_sem,Ix,dV D]);(refine W.fg (hokv) (d:=.agg [I 0,S [],I 0,.c (.sl [])]) (by simp only[Iy,go_sem];rfl) (by simp only[ak,go_sem];exact au) ?_);exact⟨rfl,rfl⟩
theorem um{σ:H}{b:Nat}(D:b<σ.length){X:ad}(h:H.ok (rz σ b X))(n:Int):H.ok (rz σ b (gH n)):=He D h (fun cs tg hc x hx=>by
 unfold gH at hc;injection hc with hc _;subst hc;simp only[cD,jm,or_false]at hx;subst hx;exact .c _)
theorem TD(p:aa):1<=gW p:=by rw[Bd];split<;>omega
theorem JS:∀l:List aa,l.length<=jb l
 |[]=>by simp
 |x::l=>by rw[jb,bo];have:=JS l;have:=TD x;omega
theorem TE(w0:World)(p:aa):gW p<=1000000->∀(n:Int) (σ:H) (b:Nat) (D:b<σ.length),DC prog w0 124 [p.v,.fn 128 [.ptr b 0]] (rz σ b (gH n)) (Same (lg p).v (rz σ b (gH (cx n p)))):=by
 refine aa.ind (P:=fun p=>gW p<=1000000->∀(n:Int) (σ:H) (b:Nat) (D:b<σ.length),DC prog w0 124 [p.v,.fn 128 [.ptr b 0]] (rz σ b (gH n)) (Same (lg p).v (rz σ b (gH (cx n p))))) (fun p ih hb n σ b D=>?_) p;refine B9.go rfl (fun hok hsz=>?_);have hlen:=uk hsz (bp ..);rw[Q6,Be];by_cases hk:p.k=1
 ·have n1:(p.k==1)=true:=by simpa using hk
  rw[if_pos hk,if_pos hk];(refine W.a ?_;simp only[go_sem,c124,n1,dV D]);refine W.yes rfl (W.a ?_);simp only[go_sem,dV D];(refine W.c1 (DC.Bq D (fun D'=>TC w0 n p.n _ b D')) ?_;simp only[go_sem,dV D,aa.none]);(refine W.fg (um D hok (nh n p.n)) (d:=aa.none.v) (by simp only[oz,go_sem,aa.none];rfl) (by simp only[ak,go_sem,aa.none];exact au) ?_ (hl:=by(first|exact .c _|(simp only[go_sem,aa.none];done))));exact⟨rfl,rfl⟩
 ·have n1:(p.k==1)=false:=by simpa using hk
  rw[if_neg hk,if_neg hk];(refine W.a ?_;simp only[go_sem,c124,n1,dV D]);refine W.no rfl (W.a ?_);simp only[go_sem,dV D];have hls:=JS p.l;have hbs:jb p.l<=1000000:=by rw[Bd,if_neg hk]at hb;omega
  cases hA:dA p
  ·(refine W.c1 (pW w0 p _) ?_;simp only[go_sem,hA,dV D]);refine W.no rfl (W.a ?_);simp only[go_sem,dV D];refine W.rn (σ.length+2) 3 34 4 (cs:=[I 0,S p.name,I 0,.ab []]) (tg:=none) ?_ rfl ?_
   ·simp only[tN,we,qw,I,S]
   ·(refine W.a ?_;simp only[go_sem,dV D]);refine W.bA (fun i=>i<=p.l.length) (fun i=>⟨((((((base.put (some 1) (.fn 128 [.ptr b 0])).put (some 4) (.ptr (σ.length+1) 0)).put (some 5) (.ptr (σ.length+2) 0)).put (some 22) (.c (aT p.l))).put (some 23) (I p.l.length)).put (some 24) (I i)),rz σ b (gH (cO n (p.l.take i)))++[.cells p.v.ah,.cells [I 0,S [],I 0,.ab []],.cells [I 0,S p.name,I 0,.aF (σ.length+3) (((p.l.take i).map lg).map aa.cs)],.spare 34 4 i]⟩) (fun i=>p.l.length-i) 0 (bx _) ?_ (fun i hi=>?_)
    ·simp only[go_sem,dj,cO];(refine aq.env ?_;exact aE)
    ·by_cases hlt:i<p.l.length
     ·have h1:((i:Int)<(p.l.length:Int)):=by omega
      have hx:p.l[i]?=some p.l[i]:=aR hlt;have hw:=ed hlt hlen;have htk:p.l.take (i+1)=p.l.take i++[p.l[i]]:=jZ hlt;have hvt:cO n (p.l.take (i+1))=cx (cO n (p.l.take i)) p.l[i]:=by rw[htk,Bf,cO,cO]
      have hb1:(i+1)*56<=140737488355328:=by omega
      have hb2:i+1<=140737488355328:=by omega
      have hlk:(p.l.take i).length=i:=by rw[eu];omega
      have hsz':gW p.l[i]<=1000000:=bB (Cj (bw hlt)) (by omega);(refine W.a ?_;simp only[go_sem,h1,dV D]);refine W.yes rfl (W.a ?_);simp only[go_sem,h1,bP,hx,dV D];apply W.aQ (aS _ _)
      case hc=>
       (apply ae.al;simp only[go_sem,dV D]);(apply ae.call (DC.Bq D (fun D'=>ih p.l[i] (bw hlt) hsz' (cO n (p.l.take i)) _ b D'));(case hg=>rfl);(case hf=>rfl);(case ha=>first|rfl|simp));(apply ae.al;simp only[go_sem,dV D,hb1,hb2,hlk]);exact ae.nil
      (refine W.a ?_;simp only[go_sem,hw,dV D]);refine .inv ⟨i+1,hlt,by omega,?_⟩;rw[hvt,htk];simp only[go_sem,dX];(refine aq.eS (um D hok (cx (cO n (p.l.take i)) p.l[i])) ?_ (by simp) (by simp) ?_ ?_ ?_;exact aE;((try simp only[okB,bu,go_sem,jG])<;>omega);(simp only[bo,cM,dL,ey,dj,bu,and_true];(repeat' (refine fb ?_ ?_))<;>(first|exact ad.wk.rfl _|exact ad.wk.gone _|(refine ad.eT ?_ rfl;(exact au))));(repeat' (first|exact aZ.base _|(refine aZ.put ?_ (by first|exact .c _|((try simp only[okB,bu,go_sem,jG])<;>omega))))))
     ·have h1:¬((i:Int)<(p.l.length:Int)):=by omega
      have:p.l.take i=p.l:=fj (by omega);(refine W.a ?_;simp only[go_sem,h1,dV D]);refine W.no rfl ?_;rw[this];(refine W.a ?_;simp only[go_sem,dV D]);(refine W.fg (um D hok (cO n p.l)) (d:=.agg [I 0,S p.name,I 0,.c (.sl ((p.l.map lg).map aa.cs))]) (by simp only[oz,go_sem];rfl) (by simp only[ak,go_sem];exact au) ?_);exact⟨rfl,rfl⟩
  ·(refine W.c1 (pW w0 p _) ?_;simp only[go_sem,hA,dV D]);refine W.yes rfl (W.a ?_);simp only[go_sem,dV D];refine W.rn (σ.length+2) 3 34 4 (cs:=[I 2,S [],I 0,.ab []]) (tg:=none) ?_ rfl ?_
   ·simp only[tN,we,qw,I,S]
   ·(refine W.a ?_;simp only[go_sem,dV D]);refine W.bA (fun i=>i<=p.l.length) (fun i=>⟨((((((base.put (some 1) (.fn 128 [.ptr b 0])).put (some 4) (.ptr (σ.length+1) 0)).put (some 5) (.ptr (σ.length+2) 0)).put (some 22) (.c (aT p.l))).put (some 23) (I p.l.length)).put (some 24) (I i)),rz σ b (gH (cO n (p.l.take i)))++[.cells p.v.ah,.cells [I 0,S [],I 0,.ab []],.cells [I 2,S [],I 0,.aF (σ.length+3) (((p.l.take i).map lg).map aa.cs)],.spare 34 4 i]⟩) (fun i=>p.l.length-i) 0 (bx _) ?_ (fun i hi=>?_)
    ·simp only[go_sem,dj,cO];(refine aq.env ?_;exact aE)
    ·by_cases hlt:i<p.l.length
     ·have h1:((i:Int)<(p.l.length:Int)):=by omega
      have hx:p.l[i]?=some p.l[i]:=aR hlt;have hw:=ed hlt hlen;have htk:p.l.take (i+1)=p.l.take i++[p.l[i]]:=jZ hlt;have hvt:cO n (p.l.take (i+1))=cx (cO n (p.l.take i)) p.l[i]:=by rw[htk,Bf,cO,cO]
      have hb1:(i+1)*56<=140737488355328:=by omega
      have hb2:i+1<=140737488355328:=by omega
      have hlk:(p.l.take i).length=i:=by rw[eu];omega
      have hsz':gW p.l[i]<=1000000:=bB (Cj (bw hlt)) (by omega);(refine W.a ?_;simp only[go_sem,h1,dV D]);refine W.yes rfl (W.a ?_);simp only[go_sem,h1,bP,hx,dV D];apply W.aQ (aS _ _)
      case hc=>
       (apply ae.al;simp only[go_sem,dV D]);(apply ae.call (DC.Bq D (fun D'=>ih p.l[i] (bw hlt) hsz' (cO n (p.l.take i)) _ b D'));(case hg=>rfl);(case hf=>rfl);(case ha=>first|rfl|simp));(apply ae.al;simp only[go_sem,dV D,hb1,hb2,hlk]);exact ae.nil
      (refine W.a ?_;simp only[go_sem,hw,dV D]);refine .inv ⟨i+1,hlt,by omega,?_⟩;rw[hvt,htk];simp only[go_sem,dX];(refine aq.eS (um D hok (cx (cO n (p.l.take i)) p.l[i])) ?_ (by simp) (by simp) ?_ ?_ ?_;exact aE;((try simp only[okB,bu,go_sem,jG])<;>omega);(simp only[bo,cM,dL,ey,dj,bu,and_true];(repeat' (refine fb ?_ ?_))<;>(first|exact ad.wk.rfl _|exact ad.wk.gone _|(refine ad.eT ?_ rfl;(exact au))));(repeat' (first|exact aZ.base _|(refine aZ.put ?_ (by first|exact .c _|((try simp only[okB,bu,go_sem,jG])<;>omega))))))
     ·have h1:¬((i:Int)<(p.l.length:Int)):=by omega
      have:p.l.take i=p.l:=fj (by omega);(refine W.a ?_;simp only[go_sem,h1,dV D]);refine W.no rfl ?_;rw[this];(refine W.a ?_;simp only[go_sem,dV D]);(refine W.fg (um D hok (cO n p.l)) (d:=.agg [I 2,S [],I 0,.c (.sl ((p.l.map lg).map aa.cs))]) (by simp only[oz,go_sem];rfl) (by simp only[ak,go_sem];exact au) ?_);exact⟨rfl,rfl⟩
theorem uo(w0:World)(p:aa)(hb:gW p<=1000000)(σ:H):DC prog w0 74 [p.v] σ (Same (I (cx 0 p)) σ):=by
 refine SN.go rfl (fun hok hsz=>?_);have hr:∀m:Int,rz (σ++[.cells p.v.ah,gH 0]) (σ.length+1) (gH m)=σ++[.cells p.v.ah,gH m]:=fun m=>by
  unfold rz;rw[List.set_append_right _ _ (by omega)];simp[Nat.add_sub_cancel_left]
 have hc:=TE w0 p hb 0 (σ++[.cells p.v.ah,gH 0]) (σ.length+1) (by simp);rw[hr,hr]at hc;(refine W.a ?_;simp only[go_sem,Iv]);(refine W.c1 (hc) ?_;simp only[go_sem]);(refine W.fs (hok) (by simp only[Iw,go_sem];rfl) ?_;simp only[ak];try exact V.wk.rfl _)
end Go.Proofs.YtdlkenpilhakfaaGreatDoor
namespace Go.Proofs.YtdlkenpilhakfaaGreatDoor
open Go.RowKit Go.Lamb
structure pX {α:Type} (w0:World) (g:α->Int->aa×α) (F:V) (τ:α->H) (N:Nat):Prop where
 len:∀s,(τ s).length=N
 ok:∀s s' L,H.ok (τ s++L)->H.ok (τ s'++L)
 low:V.low N F
 call:∃f caps,F= .fn f caps/\∀L s v,DC prog w0 f (I v::caps) (τ s++L) (Same (g s v).1.v (τ (g s v).2++L))
theorem pX.more{α:Type}{w0:World}{g:α->Int->aa×α}{F:V}{τ:α->H}{N:Nat}(h:pX w0 g F τ N)(M:H):pX w0 g F (fun s=>τ s++M) (N+M.length):=by
 obtain⟨f,caps,hF,hc⟩:=h.call;refine⟨fun s=>by simp[h.len],fun s s' L hk=>?_,V.wA (oY _ _) h.low,f,caps,hF,fun L s v=>?_⟩
 ·simp only[dc]at hk⊢;exact h.ok s s' _ hk
 ·simp only[dc];exact hc (M++L) s v
section
variable {τ:Nat->H}
theorem jL{σ:H}{N:Nat}(h:σ.length=N)(x:ad)(L:H):(σ++x::L)[N]?=some x:=by subst h;exact eB σ (x::L)
theorem iI{σ:H}{N:Nat}(h:σ.length=N)(k:Nat)(L:H):(σ++L)[N+k]?=L[k]?:=by subst h;exact bY σ L k
theorem mv{σ:H}{N:Nat}(h:σ.length=N)(x:ad)(L:H):(σ++L).set N x=σ++L.set 0 x:=by subst h;exact qW σ L x
theorem mw{σ:H}{N:Nat}(h:σ.length=N)(k:Nat)(x:ad)(L:H):(σ++L).set (N+k) x=σ++L.set k x:=by subst h;exact de σ L k x
end
attribute [local go_sem] aa.v aa.aM aY a7 aV aL aT
theorem JT{α:Type}(w0:World)(g:α->Int->aa×α)(F:V)(p:aa):aC p<=1000000->∀(τ:α->H) (N:Nat),pX w0 g F τ N->∀s,DC prog w0 124 [p.v,F] (τ s) (Same (cI g s p).1.v (τ (cI g s p).2)):=by
 refine aa.ind (P:=fun p=>aC p<=1000000->∀(τ:α->H) (N:Nat),pX w0 g F τ N->∀s,DC prog w0 124 [p.v,F] (τ s) (Same (cI g s p).1.v (τ (cI g s p).2))) (fun p ih hb τ N hR s=>?_) p;refine B9.go rfl (fun hok hsz=>?_);have hlen:=uk hsz (bp ..);have hl0:=hR.len;have tg0:∀s x L,(τ s++x::L)[N]?=some x:=fun s=>jL (hl0 s);have tg:∀s k L,(τ s++L)[N+k]?=L[k]?:=fun s=>iI (hl0 s);have ts0:∀s x L,(τ s++L).set N x=τ s++L.set 0 x:=fun s=>mv (hl0 s);have ts:∀s k x L,(τ s++L).set (N+k) x=τ s++L.set k x:=fun s=>mw (hl0 s)
 have hok1:∀s',H.ok (τ s'):=fun s'=>by
  have:=hR.ok s s' [] (by rw[cq];exact hok);rwa [cq]at this
 have hlowF:∀k,V.low (N+k) F:=fun k=>V.wA (oY _ _) hR.low;rw[pA,hl0 s];by_cases hk:p.k=1
 ·have n1:(p.k==1)=true:=by simpa using hk
  rw[if_pos hk];obtain⟨f,caps,hF,hc⟩:=hR.call;(refine W.a ?_;simp only[go_sem,c124,n1,hl0,tg0,tg,ts0,ts]);refine W.yes rfl (W.a ?_);simp only[go_sem,hl0,tg0,tg,ts0,ts];refine W.c1 (hc _ s p.n) ?_ (hf:=hF);simp only[go_sem,hl0,tg0,tg,ts0,ts];(refine W.fg (hok1 _) (d:=(g s p.n).1.v) (by simp only[oz,go_sem,tg0,tg];rfl) (by simp only[ak,go_sem,tg0,tg];exact au) ?_ (hl:=by(first|exact .c _|(simp only[go_sem,tg0,tg];done))) (hn:=hl0 _));exact⟨rfl,rfl⟩
 ·have n1:(p.k==1)=false:=by simpa using hk
  rw[if_neg hk];(refine W.a ?_;simp only[go_sem,c124,n1,hl0,tg0,tg,ts0,ts]);refine W.no rfl (W.a ?_);simp only[go_sem,hl0,tg0,tg,ts0,ts];have hls:=G1 p.l;have hbs:=cW p;cases hA:dA p
  ·(refine W.c1 (pW w0 p _) ?_;simp only[go_sem,hA,hl0,tg0,tg,ts0,ts]);refine W.no rfl (W.a ?_);simp only[go_sem,hl0,tg0,tg,ts0,ts];refine W.rn (N+2) 3 34 4 (cs:=[I 0,S p.name,I 0,.ab []]) (tg:=none) ?_ rfl ?_
   ·simp only[tg,we,qw,I,S]
   ·(refine W.a ?_;simp only[go_sem,hl0,tg0,tg,ts0,ts]);refine W.bA (fun i=>i<=p.l.length) (fun i=>⟨((((((base.put (some 1) (F)).put (some 4) (.ptr (N+1) 0)).put (some 5) (.ptr (N+2) 0)).put (some 22) (.c (aT p.l))).put (some 23) (I p.l.length)).put (some 24) (I i)),τ (bZ g s (p.l.take i)).2++[.cells p.v.ah,.cells [I 0,S [],I 0,.ab []],.cells [I 0,S p.name,I 0,.aF (N+3) ((bZ g s (p.l.take i)).1.map aa.cs)],.spare 34 4 i]⟩) (fun i=>p.l.length-i) 0 (bx _) ?_ (fun i hi=>?_)
    ·simp only[go_sem,dj,bZ];(refine aq.env ?_;exact aE)
    ·by_cases hlt:i<p.l.length
     ·have h1:((i:Int)<(p.l.length:Int)):=by omega
      have hx:p.l[i]?=some p.l[i]:=aR hlt;have hw:=ed hlt hlen;have htk:=Hg g s hlt;have hb1:(i+1)*56<=140737488355328:=by omega
      have hb2:i+1<=140737488355328:=by omega
      have hlk:(bZ g s (p.l.take i)).1.length=i:=by rw[tO,eu];omega
      have hsz':aC p.l[i]<=1000000:=by have:=G0 (bw hlt);omega
      have hc:=ih p.l[i] (bw hlt) hsz';generalize bZ g s (p.l.take i)=acc at htk hlk;obtain⟨ac,st⟩:=acc;simp only at htk hlk;generalize p.l[i]=x at*
      (refine W.a ?_;simp only[go_sem,h1,hl0,tg0,tg,ts0,ts]);refine W.yes rfl (W.a ?_);simp only[go_sem,h1,bP,hx,hl0,tg0,tg,ts0,ts];apply W.aQ (aS _ _)
      case hc=>
       (apply ae.al;simp only[go_sem,hl0,tg0,tg,ts0,ts]);(apply ae.call (hc (fun s=>τ s++_) _ (hR.more _) st);(case hg=>rfl);(case hf=>rfl);(case ha=>first|rfl|simp));(apply ae.al;simp only[go_sem,hl0,tg0,tg,ts0,ts,hb1,hb2,hlk]);exact ae.nil
      (refine W.a ?_;simp only[go_sem,hw,hl0,tg0,tg,ts0,ts]);refine .inv ⟨i+1,hlt,by omega,?_⟩;rw[htk];simp only[go_sem,dX];(refine aq.eS (hok1 _) ?_ (by rw[hl0];simp) (by simp) ?_ ?_ ?_;exact aE;((try simp only[okB,bu,go_sem,hl0,hlowF])<;>omega);(simp only[bo,cM,dL,ey,dj,bu,and_true];(repeat' (refine fb ?_ ?_))<;>(first|exact ad.wk.rfl _|exact ad.wk.gone _|(refine ad.eT ?_ rfl;(exact au))));(repeat' (first|exact aZ.base _|(refine aZ.put ?_ (by first|exact .c _|((try simp only[okB,bu,go_sem,hl0,hlowF])<;>omega))))))
     ·have h1:¬((i:Int)<(p.l.length:Int)):=by omega
      have:p.l.take i=p.l:=fj (by omega);(refine W.a ?_;simp only[go_sem,h1,hl0,tg0,tg,ts0,ts]);refine W.no rfl ?_;rw[this];(refine W.a ?_;simp only[go_sem,hl0,tg0,tg,ts0,ts]);(refine W.fg (hok1 _) (d:=.agg [I 0,S p.name,I 0,.c (.sl ((bZ g s p.l).1.map aa.cs))]) (by simp only[oz,go_sem,tg0,tg];rfl) (by simp only[ak,go_sem,tg0,tg];exact au) ?_ (hl:=by(first|exact .c _|(simp only[go_sem,tg0,tg];done))) (hn:=hl0 _));exact⟨rfl,rfl⟩
  ·(refine W.c1 (pW w0 p _) ?_;simp only[go_sem,hA,hl0,tg0,tg,ts0,ts]);refine W.yes rfl (W.a ?_);simp only[go_sem,hl0,tg0,tg,ts0,ts];refine W.rn (N+2) 3 34 4 (cs:=[I 2,S [],I 0,.ab []]) (tg:=none) ?_ rfl ?_
   ·simp only[tg,we,qw,I,S]
   ·(refine W.a ?_;simp only[go_sem,hl0,tg0,tg,ts0,ts]);refine W.bA (fun i=>i<=p.l.length) (fun i=>⟨((((((base.put (some 1) (F)).put (some 4) (.ptr (N+1) 0)).put (some 5) (.ptr (N+2) 0)).put (some 22) (.c (aT p.l))).put (some 23) (I p.l.length)).put (some 24) (I i)),τ (bZ g s (p.l.take i)).2++[.cells p.v.ah,.cells [I 0,S [],I 0,.ab []],.cells [I 2,S [],I 0,.aF (N+3) ((bZ g s (p.l.take i)).1.map aa.cs)],.spare 34 4 i]⟩) (fun i=>p.l.length-i) 0 (bx _) ?_ (fun i hi=>?_)
    ·simp only[go_sem,dj,bZ];(refine aq.env ?_;exact aE)
    ·by_cases hlt:i<p.l.length
     ·have h1:((i:Int)<(p.l.length:Int)):=by omega
      have hx:p.l[i]?=some p.l[i]:=aR hlt;have hw:=ed hlt hlen;have htk:=Hg g s hlt;have hb1:(i+1)*56<=140737488355328:=by omega
      have hb2:i+1<=140737488355328:=by omega
      have hlk:(bZ g s (p.l.take i)).1.length=i:=by rw[tO,eu];omega
      have hsz':aC p.l[i]<=1000000:=by have:=G0 (bw hlt);omega
      have hc:=ih p.l[i] (bw hlt) hsz';generalize bZ g s (p.l.take i)=acc at htk hlk;obtain⟨ac,st⟩:=acc;simp only at htk hlk;generalize p.l[i]=x at*
      (refine W.a ?_;simp only[go_sem,h1,hl0,tg0,tg,ts0,ts]);refine W.yes rfl (W.a ?_);simp only[go_sem,h1,bP,hx,hl0,tg0,tg,ts0,ts];apply W.aQ (aS _ _)
      case hc=>
       (apply ae.al;simp only[go_sem,hl0,tg0,tg,ts0,ts]);(apply ae.call (hc (fun s=>τ s++_) _ (hR.more _) st);(case hg=>rfl);(case hf=>rfl);(case ha=>first|rfl|simp));(apply ae.al;simp only[go_sem,hl0,tg0,tg,ts0,ts,hb1,hb2,hlk]);exact ae.nil
      (refine W.a ?_;simp only[go_sem,hw,hl0,tg0,tg,ts0,ts]);refine .inv ⟨i+1,hlt,by omega,?_⟩;rw[htk];simp only[go_sem,dX];(refine aq.eS (hok1 _) ?_ (by rw[hl0];simp) (by simp) ?_ ?_ ?_;exact aE;((try simp only[okB,bu,go_sem,hl0,hlowF])<;>omega);(simp only[bo,cM,dL,ey,dj,bu,and_true];(repeat' (refine fb ?_ ?_))<;>(first|exact ad.wk.rfl _|exact ad.wk.gone _|(refine ad.eT ?_ rfl;(exact au))));(repeat' (first|exact aZ.base _|(refine aZ.put ?_ (by first|exact .c _|((try simp only[okB,bu,go_sem,hl0,hlowF])<;>omega))))))
     ·have h1:¬((i:Int)<(p.l.length:Int)):=by omega
      have:p.l.take i=p.l:=fj (by omega);(refine W.a ?_;simp only[go_sem,h1,hl0,tg0,tg,ts0,ts]);refine W.no rfl ?_;rw[this];(refine W.a ?_;simp only[go_sem,hl0,tg0,tg,ts0,ts]);(refine W.fg (hok1 _) (d:=.agg [I 2,S [],I 0,.c (.sl ((bZ g s p.l).1.map aa.cs))]) (by simp only[oz,go_sem,tg0,tg];rfl) (by simp only[ak,go_sem,tg0,tg];exact au) ?_ (hl:=by(first|exact .c _|(simp only[go_sem,tg0,tg];done))) (hn:=hl0 _));exact⟨rfl,rfl⟩
end Go.Proofs.YtdlkenpilhakfaaGreatDoor
namespace Go.Proofs.YtdlkenpilhakfaaGreatDoor
open Go.RowKit Go.Lamb
def c72:AC:=rsq [.o 1 (.box 0),.o 2 (.box (.k (.agg zS4)))] (rsq [.o 4 (.kT),.o 3 (.box (.k (.cy))),.s 1 3 4] (rsq [.d 5 4 1,.o 6 (.gB 125 [3]),.k 7 124 [5,6],.s 4 2 7] .ret))
def Ck:List aw:=[.bj 4 2]
theorem JU:az prog 72 1 Tryz.f72 c72 Ck:=.auto func72
def yj:AC:=rsq [.o 3 (.box (.k (.agg zS4)))] (rsq [.l 7 1,.m 8 0,.o 9 (.look true (.i .i64) (.int .i64 0) 7 8),.m 6 9,.x 10 6 0,.x 11 6 1,.m 4 10,.m 5 11] (.seq (rif [.m 12 5,.o 13 (.un .not 12)] 13 (rsq [.l 14 1,.o 15 (.o5 14),.m 4 15] (.aG [.l 16 1,.m 17 0,.m 18 4,⟨none,.j0 (.i .i64) 16 17 18,none⟩])) .skip) (rsq [.m 19 4,.k 20 126 [19],.s 4 3 20] .ret)))
def yk:List aw:=[.bj 4 3]
theorem JV:az prog 125 2 Tryz.f125 yj yk:=.auto func125
def Cl:AC:=rsq [.o 2 (.box 0),.o 3 (.box 1),.o 4 (.box (.k (.agg zS4)))] (rsq [.d 5 4 2,.o 6 (.gB 127 [3]),.k 7 124 [5,6],.s 4 4 7] .ret)
def Cm:List aw:=[.bj 4 4]
theorem JW:az prog 73 2 Tryz.f73 Cl Cm:=.auto func73
def c127:AC:=rsq [.o 3 (.box (.k (.agg zS4)))] (rsq [.m 4 0,.l 5 1,.o 6 (.bin .add 4 5),.k 7 126 [6],.s 4 3 7] .ret)
def Cn:List aw:=[.bj 4 3]
theorem JX:az prog 127 2 Tryz.f127 c127 Cn:=.auto func127
end Go.Proofs.YtdlkenpilhakfaaGreatDoor
namespace Go.Lamb
open Go Go.RowKit
def eM(n:Nat):List Int->List (C×C)
 |[]=>[]
 |x::l=>(.int .i64 x,.int .i64 n)::eM (n+1) l
theorem JY:∀(l:List Int) (n:Nat),(eM n l).length=l.length
 |[],n=>rfl
 |x::l,n=>by rw[eM,bo,bo,JY l]
theorem JZ:∀(l:List Int) (n:Nat),((eM n l).all fun p=>(KD.i .i64).ok p.1)=true
 |[],n=>rfl
 |x::l,n=>by rw[eM,jl,JZ l];rfl
theorem J0{v:Int}:∀(l:List Int) (n:Nat),(∀j (hj:j<l.length),(l[j]==v)=false)->iu (.int .i64 v) (eM n l)=none/\∀y,iv (.int .i64 v) y (eM n l)=eM n l++[(.int .i64 v,y)]
 |[],n,_=>⟨rfl,fun y=>rfl⟩
 |x::l,n,h=>by
  have h0:=h 0 (by simp);simp only[dq]at h0;have he:iU (.int .i64 v) (.int .i64 x)=false:=by
   show(v==x)=false;simp only[beq_eq_false_iff_ne]at h0⊢;exact fun e=>h0 e.symm
  obtain⟨h1,h2⟩:=J0 l (n+1) (fun j hj=>by have:=h (j+1) (zR hj);rwa [nP]at this);exact⟨by rw[eM,iu,he];exact h1,fun y=>by rw[eM,iv,he];show _::iv _ y _=_;rw[h2];rfl⟩
theorem J1{v:Int}:∀(l:List Int) (n k:Nat) (hk:k<l.length),l[k]=v->(∀j (hj:j<l.length),j<k->(l[j]==v)=false)->iu (.int .i64 v) (eM n l)=some (.int .i64 ((n+k:Nat):Int))
 |[],n,k,hk,_,_=>by simp at hk
 |x::l,n,0,hk,h,_=>by
  simp only[dq]at h;subst h;have he:iU (.int .i64 x) (.int .i64 x)=true:=by show(x==x)=true;simp
  rw[eM,iu,he];rfl
 |x::l,n,k+1,hk,h,h'=>by
  have h0:=h' 0 (by simp) (by omega);simp only[dq]at h0;have he:iU (.int .i64 v) (.int .i64 x)=false:=by
   show(v==x)=false;simp only[beq_eq_false_iff_ne]at h0⊢;exact fun e=>h0 e.symm
  have:=J1 l (n+1) k (by simpa using hk) (by simpa using h) (fun j hj hjk=>by have:=h' (j+1) (zR hj) (by omega);rwa [nP]at this);rw[eM,iu,he];simp only[Bool.false_eq_true,if_false];rw[this];congr 3;omega
theorem J2(x:Int):∀(l:List Int) (n:Nat),eM n (l++[x])=eM n l++[(.int .i64 x,.int .i64 ((n+l.length:Nat):Int))]
 |[],n=>rfl
 |y::l,n=>by
  rw[iR,eM,eM,J2 x l,iR,bo];congr 5;omega
theorem TF{σ:H}(h:H.ok σ)(m:Nat)(kvs:List (C×C)):H.ok (σ.set m (.mp kvs)):=by
 intro b hb cs tg hc x hx;rw[List.length_set];rcases List.mem_or_eq_of_mem_set hb with hb|hb
 ·exact h b hb cs tg hc x hx
 ·rw[hb]at hc;cases hc
end Go.Lamb
namespace Go.Proofs.YtdlkenpilhakfaaGreatDoor
open Go.RowKit Go.Lamb
attribute [local go_sem] aa.v aa.aM aY a7 aV aL aT
theorem TG(w0:World)(v n:Int)(σ:H)(b:Nat)(hb:σ[b]?=some (.cells [I n])):DC prog w0 127 [I v,.ptr b 0] σ (Same (aa.var (aW.wrap (v+n))).v σ):=by
 refine JX.go rfl (fun hok hsz=>?_);(refine W.a ?_;simp only[go_sem,c127,hG hb]);(refine W.c1 (Cc w0 (aW.wrap (v+n)) _) ?_;simp only[go_sem,aa.var]);(refine W.fg (hok) (d:=(aa.var (aW.wrap (v+n))).v) (by simp only[Cn,go_sem,aa.var];rfl) (by simp only[ak,go_sem,aa.var];exact au) ?_ (hl:=by(first|exact .c _|(simp only[go_sem,aa.var];done))));exact⟨rfl,rfl⟩
theorem TH(w0:World)(vs:List Int)(v:Int)(σ:H)(b m:Nat)(hb:σ[b]?=some (.cells [.mp m]))(hm:σ[m]?=some (.mp (eM 0 vs))):DC prog w0 125 [I v,.ptr b 0] σ (Same (aa.var (nl vs v)).v (σ.set m (.mp (eM 0 (aI vs v))))):=by
 refine JV.go rfl (fun hok hsz=>?_);have hko:(KD.i aW).ok (C.int aW v)=true:=rfl;have hka:=JZ vs 0;rcases Hi vs v with⟨h1,h2,h3⟩|⟨hk,h2,h3,h4⟩
 ·obtain⟨f1,f2⟩:=J0 vs 0 h3;have f2':=f2 (.int .i64 ((vs.length:Nat):Int));have f3:=J2 v vs 0;rw[eF]at f3;have hl:=JY vs 0;rw[h2,f3,h1];have hs:∀X,(σ.set m X)[m]?=some X:=fun X=>Gy X (List.getElem?_eq_some_iff.1 hm).1;(refine W.a ?_;simp only[go_sem,yj,hG hb,hG hm,hko,hka,f1,nU,Option.getD_none,Option.isSome_none]);refine W.yes rfl (W.a ?_);simp only[go_sem,hG hb,hG hm,hko,hka,hl,f2',hS hm];(refine W.c1 (Cc w0 (vs.length:Int) _) ?_;simp only[go_sem,aa.var]);(refine W.fg (TF hok m _) (d:=(aa.var (vs.length:Int)).v) (by simp only[yk,go_sem,aa.var];rfl) (by simp only[ak,go_sem,aa.var];exact au) ?_ (hl:=by(first|exact .c _|(simp only[go_sem,aa.var];done))))
  exact⟨rfl,rfl⟩
 ·have f1:=J1 vs 0 _ hk h3 h4;rw[eF]at f1;rw[h2,pj hm];generalize nl vs v=k at*
  (refine W.a ?_;simp only[go_sem,yj,hG hb,hG hm,hko,hka,f1,nU,Option.getD_some,Option.isSome_some]);refine W.no rfl (W.a ?_);simp only[go_sem];(refine W.c1 (Cc w0 (k:Int) _) ?_;simp only[go_sem,aa.var]);(refine W.fg (hok) (d:=(aa.var (k:Int)).v) (by simp only[yk,go_sem,aa.var];rfl) (by simp only[ak,go_sem,aa.var];exact au) ?_ (hl:=by(first|exact .c _|(simp only[go_sem,aa.var];done))));exact⟨rfl,rfl⟩
theorem J4(w0:World)(p:aa)(n:Int)(hp:aC p<=1000000)(σ:H):DC prog w0 73 [p.v,I n] σ (Same (cI (ml n) () p).1.v σ):=by
 refine JW.go rfl (fun hok hsz=>?_);have hR:pX w0 (ml n) (.fn 127 [.ptr (σ.length+1) 0]) (fun _:Unit=>σ++[.cells p.v.ah,.cells [I n],.cells [I 0,S [],I 0,.ab []]]) (σ.length+3):=
  ⟨fun _=>by simp,fun _ _ _ h=>h,(w8 _ _ _).2 (fun x hx=>by simp only[lM]at hx;subst hx;exact .ptr (by omega)),_,_,rfl,fun L _ v=>TG w0 v n _ _ (by rw[dc,bY];rfl)⟩
 have hc:=JT w0 (ml n) _ p hp _ _ hR ();generalize (cI (ml n) () p).1=u at hc;(refine W.a ?_;simp only[go_sem,Cl]);(refine W.c1 (hc) ?_;simp only[go_sem]);(refine W.fg (hok) (d:=u.v) (by simp only[Cm,go_sem];rfl) (by simp only[ak,go_sem];exact au) ?_);exact⟨rfl,rfl⟩
theorem TI{A B:H}{k k':List (C×C)}(h:H.ok (A++ad.mp k::B)):H.ok (A++ad.mp k'::B):=by
 intro b hb cs tg hc x hx;have hl:(A++ad.mp k'::B).length=(A++ad.mp k::B).length:=by simp
 rw[hl];rcases List.mem_append.1 hb with hb|hb
 ·exact h b (List.mem_append_left _ hb) cs tg hc x hx
 ·rcases cD.1 hb with hb|hb
  ·rw[hb]at hc;cases hc
  ·exact h b (List.mem_append_right _ (List.mem_cons_of_mem _ hb)) cs tg hc x hx
theorem yl(w0:World)(p:aa)(hp:aC p<=1000000)(σ:H):DC prog w0 72 [p.v] σ (Same (cK p).v σ):=by
 refine JU.go rfl (fun hok hsz=>?_);have hR:pX w0 dp (.fn 125 [.ptr (σ.length+3) 0]) (fun vs:List Int=>σ++[.cells p.v.ah,.cells [I 0,S [],I 0,.ab []],.mp (eM 0 vs),.cells [.mp (σ.length+2)]]) (σ.length+4):=by
  refine⟨fun _=>by simp,fun s s' L h=>?_,(w8 _ _ _).2 (fun x hx=>by simp only[lM]at hx;subst hx;exact .ptr (by omega)),_,_,rfl,fun L vs v=>?_⟩
  ·have e:∀s,σ++[.cells p.v.ah,.cells [I 0,S [],I 0,.ab []],.mp (eM 0 s),.cells [.mp (σ.length+2)]]++L=(σ++[.cells p.v.ah,.cells [I 0,S [],I 0,.ab []]])++ad.mp (eM 0 s)::(.cells [.mp (σ.length+2)]::L):=fun s=>by simp
   rw[e]at h⊢;exact TI h
  ·have h1:=TH w0 vs v (σ++[.cells p.v.ah,.cells [I 0,S [],I 0,.ab []],.mp (eM 0 vs),.cells [.mp (σ.length+2)]]++L) (σ.length+3) (σ.length+2) (by rw[dc,bY];rfl) (by rw[dc,bY];rfl);rw[dc,de]at h1;rw[dc,dc];exact h1
 have hc:=JT w0 dp _ p hp _ _ hR [];unfold cK;generalize cI dp [] p=u at hc⊢;(refine W.a ?_;simp only[go_sem,c72]);(refine W.c1 (hc) ?_;simp only[go_sem]);(refine W.fg (hok) (d:=u.1.v) (by simp only[Ck,go_sem];rfl) (by simp only[ak,go_sem];exact au) ?_);exact⟨rfl,rfl⟩
end Go.Proofs.YtdlkenpilhakfaaGreatDoor
