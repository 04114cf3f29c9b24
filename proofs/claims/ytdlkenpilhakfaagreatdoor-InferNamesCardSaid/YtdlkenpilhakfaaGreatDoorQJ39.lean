/- . -/
import Derived.Test.YtdlkenpilhakfaaGreatDoorChecked
import Derived.Test.YtdlkenpilhakfaaGreatDoorQJ17
import Derived.Test.YtdlkenpilhakfaaGreatDoorQJ38
import Derived.Test.YtdlkenpilhakfaaGreatDoorQJ16
import Derived.Test.YtdlkenpilhakfaaGreatDoorQJ37
set_option linter.unusedSimpArgs false
set_option linter.unusedVariables false
set_option maxHeartbeats 8000000
set_option maxRecDepth 20000
open Go.IntKind renaming i64->aN
open Int renaming eq_ofNat_of_zero_le->sD,toNat_natCast->jk
open List renaming append_assoc->dt,append_nil->cw,cons_ne_nil->aT,drop->fW,ext_getElem->zA,flatten_cons->dW,flatten_nil->lH,getD_eq_getElem?_getD->cf,getElem?_eq_getElem->aO,getElem?_eq_some_iff->aL,getElem_map->dN,getElem_set->EU,length_append->bD,length_cons->bk,length_map->bW,length_set->bF,map->ik,map_nil->du,map_set->ET,mem_append->cM,mem_append_left->jS,mem_append_right->zL,mem_cons_of_mem->bS,mem_cons_self->bu,nil_append->eH,replicate->vV,take->de,take_of_length_le->eT
open Nat renaming add_mul->fo,add_sub_cancel_left->ft,le_refl->aA,lt_irrefl->oU,mul_one->gM,not_lt_zero->mL,zero_le->bC
open Option renaming getD_some->mI
open Go.Proofs.Tryz
namespace Go.Proofs.YtdlkenpilhakfaaGreatDoor
open Go.RowKit Go.Lamb
def yk:AC:=rsq [.o 3 (.box 0),.o 4 (.box 1),.o 6 (.box (.k (.agg zS4))),.o 7 (.af (zK 0)),.o 8 (.af (zK 0))] (.seq (rif [.d 11 4 3,.k 12 183 [11],.o 13 (.un .not 12)] 13 (rsq [.o 14 (.build zS4 []),.s 4 6 14,.o 7 (.af (zK 0)),.o 8 (.af (zK 1))] .ret) .skip) (rsq [.m 16 2,.d 17 4 3,.o 18 (.call 16 [17,4]),.m 15 18,.x 19 15 0,.x 20 15 1,.o 9 (.box (.k (.agg zS4))),.s 4 9 19,.m 10 20] (.seq (rif [.m 21 10,.o 22 (.bin .neq 21 (zK 0))] 22 (rsq [.o 23 (.build zS4 []),.m 24 10,.s 4 6 23,.o 7 (.af (zK 0)),.m 8 24] .ret) .skip) (.seq (drg [.d 25 4 9,.l 26 4,.s 4 6 25,.m 7 26,.o 8 (.af (zK 0))] [0,102,1,203,204]) .ret))))
def uu:List aw:=[.br 4 6,.tmp 7,.tmp 8]
theorem Cy:aB prog 129 3 Tryz.f129 yk uu:=.auto func129
def c130:AC:=rsq [.o 2 (.box 0),.o 4 (.box (.k (.agg zS4))),.o 5 (.af (zK 0))] (rsq [.d 13 4 2,.m 14 1,.k 15 184 [13,14],.m 12 15,.x 16 12 0,.x 17 12 1,.s 4 2 16,.m 6 17] (.seq (rif [.m 18 6,.o 19 (.bin .neq 18 (zK 0))] 19 (rsq [.o 20 (.build zS4 []),.m 21 6,.s 4 4 20,.m 5 21] .ret) .skip) (.seq (rif [.f 22 0 2,.l 23 22,.o 24 (.bin .eql 23 (zK 5))] 24 (rsq [.f 26 3 2,.l 27 26,.o 28 (.aI 4 27 (zK 0)),.d 29 4 28,.m 30 1,.k 31 130 [29,30],.m 25 31,.x 32 25 0,.x 33 25 1,.o 7 (.box (.k (.agg zS4))),.s 4 7 32,.m 8 33] (.seq (rif [.m 34 8,.o 35 (.bin .neq 34 (zK 0))] 35 (rsq [.o 36 (.build zS4 []),.m 37 8,.s 4 4 36,.m 5 37] .ret) .skip) (rsq [.d 38 4 7,.k 39 118 [(zK 1),38],.s 4 4 39,.o 5 (.af (zK 0))] .ret))) .skip) (rsq [.f 40 3 2,.l 41 40,.k 42 185 [41],.m 9 42] (.seq (rsq [.m 43 9,.o 44 (.aR 43),.o 45 (.af (zK 0))] (.block 0 (.loop (rsq [.o 46 (.bin .lss 45 44)] (.seq (.cond 46 .skip (.exit 0)) (.seq (.block 1 (rsq [.m 47 45,.o 48 (.aI 4 43 45),.d 49 4 48,.o 11 (.box (.k (.agg zS4))),.m 10 47,.s 4 11 49] (rsq [.m 51 9,.m 52 10,.d 53 4 11,.m 54 1,.k 55 130 [53,54],.m 50 55,.x 56 50 0,.x 57 50 1,.o 58 (.aI 4 51 52),.s 4 58 56,.m 6 57] (rif [.m 59 6,.o 60 (.bin .neq 59 (zK 0))] 60 (rsq [.o 61 (.build zS4 []),.m 62 6,.s 4 4 61,.m 5 62] .ret) .skip)))) (.aH [.o 63 (.bin .add 45 (zK 1)),.m 45 63]))))))) (rsq [.m 64 9,.f 65 3 2,.s 1 65 64] (rsq [.d 66 4 2,.s 4 4 66,.o 5 (.af (zK 0))] .ret)))))))
def oA:List aw:=[.br 4 4,.tmp 5]
theorem KF:aB prog 130 2 Tryz.f130 c130 oA:=.auto func130
def c131:AC:=rsq [.o 1 (.box 0),.o 2 (.box (.k (.agg zS4))),.o 3 (.af zF)] (rsq [.f 6 3 1,.l 7 6,.o 8 (.aR 7),.o 9 (.bin .sub 8 (zK 1)),.m 4 9] (.seq (rif [.f 10 0 1,.l 11 10,.o 12 (.bin .neq 11 (zK 6)),.m 13 12,.z 14 (.aV 3 1) 13,.z 15 (.aU 14) 13,.z 16 (.af 4) 13,.z 17 (.aI 4 15 16) 13,.z 18 (.aV 0 17) 13,.z 19 (.aU 18) 13,.z 20 (.bin .neq 19 (zK 3)) 13,.o 21 (.pick 13 zT 20),.m 22 21,.z 23 (.aV 3 1) 22,.z 24 (.aU 23) 22,.z 25 (.af 4) 22,.z 26 (.aI 4 24 25) 22,.z 27 (.aV 2 26) 22,.z 28 (.aU 27) 22,.z 29 (.bin .neq 28 (zK 0)) 22,.o 30 (.pick 22 zT 29)] 30 (rsq [.o 31 (.build zS4 []),.s 4 2 31,.o 3 (.af zF)] .ret) .skip) (.seq (drg [.f 32 3 1,.l 33 32,.o 34 (.aI 4 33 (zK 0)),.d 35 4 34,.f 36 3 1,.l 37 36,.m 38 4,.o 39 (.jn 4 37 (some (zK 1)) (some 38) none),.k 40 69 [35,39],.o 5 (.box (.k (.agg zS4))),.s 4 5 40] [109,0,1,2,3,4,5,6,7,8,310]) (.seq (rif [.d 41 4 5,.k 42 186 [41,(zK 0)]] 42 (rsq [.o 43 (.build zS4 []),.s 4 2 43,.o 3 (.af zF)] .ret) .skip) (rsq [.d 44 4 5,.k 45 187 [44,(zK 0),(.k (.c (.int .i64 (-1))))],.s 4 2 45,.o 3 (.af zT)] .ret)))))
def pT:List aw:=[.br 4 2,.tmp 3]
theorem KG:aB prog 131 1 Tryz.f131 c131 pT:=.auto func131
def yl:AC:=rsq [.o 4 (.af zF)] (.seq (rif [.m 7 0,.m 8 0,.k 9 188 [7,8],.o 10 (.un .not 9),.m 11 10,.z 12 (.af 0) 11,.z 13 (.af 1) 11,.z 14 (.call (.k (.fn 188 [])) [12,13]) 11,.z 15 (.un .not 14) 11,.o 16 (.pick 11 zT 15)] 16 (rsq [.o 4 (.af zF)] .ret) .skip) (rsq [.m 17 0,.o 18 (.aR 17),.o 19 (.kK 3 8 (.int .i64 0) 18),.m 5 19] (.seq (rsq [.m 20 0,.o 21 (.aR 20),.o 22 (.af (zK 0))] (.block 0 (.loop (rsq [.o 23 (.bin .lss 22 21)] (.seq (.cond 23 .skip (.exit 0)) (.seq (.block 1 (rsq [.m 24 22,.m 6 24] (rif [.m 25 0,.m 26 6,.k 27 190 [26],.m 28 5,.k 29 189 [25,27,28],.o 30 (.un .not 29)] 30 (rsq [.o 4 (.af zF)] .ret) .skip))) (.aH [.o 31 (.bin .add 22 (zK 1)),.m 22 31]))))))) (rsq [.o 4 (.af zT)] .ret))))
def yo:List aw:=[.tmp 4]
theorem Cz:aB prog 132 2 Tryz.f132 yl yo:=.auto func132
def yp:AC:=rsq [.o 3 (.box 1),.o 4 (.box (.k (.agg zS4)))] (rsq [.m 8 0,.d 9 4 3,.k 10 191 [8,9],.s 4 3 10] (.seq (rif [.f 11 0 3,.l 12 11,.o 13 (.bin .eql 12 (zK 1))] 13 (rsq [.d 14 4 3,.s 4 4 14] .ret) .skip) (rsq [.f 15 0 3,.l 16 15,.f 17 1 3,.l 18 17,.o 19 (.build zS4 [(0,1,16),(1,1,18)]),.o 5 (.box (.k (.agg zS4))),.s 4 5 19] (.seq (rsq [.f 20 3 3,.l 21 20,.o 22 (.aR 21),.o 23 (.af (zK 0))] (.block 0 (.loop (rsq [.o 24 (.bin .lss 23 22)] (.seq (.cond 24 .skip (.exit 0)) (.seq (.block 1 (rsq [.o 25 (.aI 4 21 23),.d 26 4 25,.o 7 (.box (.k (.agg zS4))),.s 4 7 26] (drg [.f 27 3 5,.l 28 27,.m 29 0,.d 30 4 7,.k 31 133 [29,30],.o 32 (.bo 4 [31]),.o 33 (.app 34 4 56 28 32),.f 34 3 5,.s 1 34 33] [2,3,104,0,1,205,306,407,508]))) (.aH [.o 35 (.bin .add 23 (zK 1)),.m 23 35]))))))) (rsq [.d 36 4 5,.s 4 4 36] .ret)))))
def uv:List aw:=[.br 4 4]
theorem CA:aB prog 133 2 Tryz.f133 yp uv:=.auto func133
def yq:AC:=rsq [.m 4 0,.o 5 (.aR 4),.o 6 (.bin .sub 5 (zK 1)),.o 2 (.af (zK 0)),.m 3 6] (forL 0 1 [.m 7 2,.m 8 3,.o 9 (.bin .lss 7 8)] 9 (drg [.m 14 0,.m 15 2,.m 16 0,.m 17 3,.m 18 0,.m 19 3,.o 20 (.aI 8 18 19),.d 21 8 20,.m 22 0,.m 23 2,.o 24 (.aI 8 22 23),.d 25 8 24,.o 26 (.aI 8 14 15),.s 8 26 21,.o 27 (.aI 8 16 17),.s 8 27 25] [0,1,4,5,6,7,8,9,10,11,12,113,2,3,214,315]) [.m 10 2,.o 11 (.bin .add 10 (zK 1)),.m 12 3,.o 13 (.bin .sub 12 (zK 1)),.m 2 11,.m 3 13])
def KH:List aw:=[]
theorem CB:aB prog 180 1 Tryz.f180 yq KH:=.auto func180
def c182:AC:=rsq [.o 4 (.af (zK 0))] (.seq (rsq [.o 5 (.af (zK 4096))] (forL 0 1 [.m 9 1,.o 10 (.aR 9),.o 11 (.bin .gtr 10 (zK 0))] 11 (.seq (rif [.m 14 5,.o 15 (.bin .eql 14 (zK 0))] 15 (rsq [.o 4 (.af (zK 62))] .ret) .skip) (rsq [.m 16 1,.m 17 1,.o 18 (.aR 17),.o 19 (.bin .sub 18 (zK 1)),.o 20 (.aI 8 16 19),.d 21 8 20,.o 6 (.box (.k (.agg [.c (.int .i64 0),.c (.str []),.c (.int .i64 0),.ab [],.c (.int .i64 0),.c (.str []),.c (.int .i64 0),.ab []]))),.s 8 6 21] (rsq [.m 22 1,.m 23 1,.o 24 (.aR 23),.o 25 (.bin .sub 24 (zK 1)),.o 26 (.jn 8 22 none (some 25) none),.m 1 26] (rsq [.m 28 0,.f 29 0 6,.d 30 4 29,.f 31 4 6,.d 32 4 31,.k 33 227 [28,30,32],.m 27 33,.x 34 27 0,.x 35 27 1,.m 7 34,.m 8 35] (.seq (rif [.m 36 8,.o 37 (.bin .neq 36 (zK 0))] 37 (rsq [.m 38 8,.m 4 38] .ret) .skip) (rsq [.m 39 7,.k 40 180 [39]] (.aH [.m 41 1,.m 42 7,.o 43 (.app 235 8 112 41 42),.m 1 43]))))))) [.m 12 5,.o 13 (.bin .sub 12 (zK 1)),.m 5 13])) (rsq [.o 4 (.af (zK 0))] .ret))
def oB:List aw:=[.tmp 4]
theorem CC:aB prog 182 2 Tryz.f182 c182 oB:=.auto func182
def CD:AC:=rsq [.o 2 (.box 0),.o 4 (.box (.k (.agg zS4))),.o 5 (.af (zK 0))] (.seq (.block 0 (.loop (.seq (rif [.d 10 4 2,.k 11 230 [10]] 11 .skip (.exit 0)) (.block 1 (.seq (rif [.m 12 1,.n 13 12,.l 14 13,.o 15 (.bin .leq 14 (zK 0))] 15 (rsq [.o 16 (.build zS4 []),.s 4 4 16,.o 5 (.af (zK 80))] .ret) .skip) (.seq (drg [.f 18 3 2,.l 19 18,.o 20 (.aI 4 19 (zK 0)),.f 21 3 20,.l 22 21,.o 23 (.aI 4 22 (zK 0)),.d 24 4 23,.f 25 3 2,.l 26 25,.o 27 (.aI 4 26 (zK 1)),.d 28 4 27,.k 29 231 [24,28],.m 17 29,.x 30 17 0,.x 31 17 1,.o 6 (.box (.k (.agg zS4))),.s 4 6 30,.m 7 31] [115,0,1,2,3,4,5,6,7,8,9,10,11,12,13,316,14,417]) (.seq (rif [.m 32 7,.o 33 (.bin .neq 32 (zK 0))] 33 (rsq [.o 34 (.build zS4 []),.m 35 7,.s 4 4 34,.m 5 35] .ret) .skip) (rsq [.m 36 1,.n 37 36,.l 38 37,.o 39 (.bin .sub 38 (zK 1)),.n 40 36,.s 1 40 39] (drg [.d 41 4 6,.f 42 3 2,.l 43 42,.o 44 (.jn 4 43 (some (zK 2)) none none),.k 45 69 [41,44],.s 4 2 45] [0,1,2,3,104,305]))))))))) (.seq (rif [.f 46 0 2,.l 47 46,.o 48 (.bin .neq 47 (zK 5))] 48 (rsq [.d 49 4 2,.s 4 4 49,.o 5 (.af (zK 0))] .ret) .skip) (rsq [.f 51 3 2,.l 52 51,.o 53 (.aI 4 52 (zK 0)),.d 54 4 53,.m 55 1,.k 56 184 [54,55],.m 50 56,.x 57 50 0,.x 58 50 1,.o 8 (.box (.k (.agg zS4))),.s 4 8 57,.m 9 58] (.seq (rif [.m 59 9,.o 60 (.bin .neq 59 (zK 0))] 60 (rsq [.o 61 (.build zS4 []),.m 62 9,.s 4 4 61,.m 5 62] .ret) .skip) (rsq [.d 63 4 8,.k 64 118 [(zK 1),63],.s 4 4 64,.o 5 (.af (zK 0))] .ret)))))
def pU:List aw:=[.br 4 4,.tmp 5]
theorem KI:aB prog 184 2 Tryz.f184 CD pU:=.auto func184
def rG:AC:=rsq [.o 2 (.box 0),.o 4 (.af zF)] (rsq [.m 5 1,.o 6 (.gA 236 [2]),.k 7 64 [5,6],.o 8 (.un .not 7),.m 4 8] .ret)
def rH:List aw:=[.tmp 4]
theorem uw:aB prog 188 2 Tryz.f188 rG rH:=.auto func188
def rI:AC:=rsq [.o 3 (.box 0),.o 4 (.box 1),.o 5 (.box 2),.o 6 (.af zF)] (.seq (rif [.f 8 0 4,.l 9 8,.o 10 (.bin .neq 9 (zK 1))] 10 (rsq [.f 11 3 4,.l 12 11,.o 13 (.gA 237 [3,5]),.k 14 64 [12,13],.o 15 (.un .not 14),.m 6 15] .ret) .skip) (.seq (.block 0 (rif [.l 17 5,.f 18 2 4,.l 19 18,.o 20 (.aI 1 17 19),.l 21 20,.o 22 (.bin .eql 21 (zK 1)),.m 16 22] 16 (rsq [.o 6 (.af zF)] .ret) (rif [.l 24 5,.f 25 2 4,.l 26 25,.o 27 (.aI 1 24 26),.l 28 27,.o 29 (.bin .eql 28 (zK 2)),.m 30 29,.z 31 (.aU 3) 30,.z 32 (.eK 4 4) 30,.z 33 (.call (.k (.fn 238 [])) [31,32]) 30,.z 34 (.un .not 33) 30,.o 35 (.pick 30 zT 34),.m 23 35] 23 (rsq [.o 6 (.af zT)] .ret) .skip))) (rsq [.l 36 5,.f 37 2 4,.l 38 37,.o 39 (.aI 1 36 38),⟨none,.store 1 39 (zK 1),none⟩] (.seq (drg [.l 40 3,.l 41 3,.f 42 2 4,.l 43 42,.o 44 (.aI 4 41 43),.d 45 4 44,.l 46 5,.k 47 189 [40,45,46],.m 7 47] [0,1,2,3,4,5,6,107,208]) (rsq [.l 48 5,.f 49 2 4,.l 50 49,.o 51 (.aI 1 48 50),⟨none,.store 1 51 (zK 2),none⟩] (rsq [.m 52 7,.m 6 52] .ret))))))
def rJ:List aw:=[.tmp 6]
theorem yr:aB prog 189 3 Tryz.f189 rI rJ:=.auto func189
def CF:AC:=rsq [.o 2 (.box (.k (.agg zS4)))] (rsq [.m 3 0,.o 4 (.build zS4 [(0,1,(zK 1)),(2,1,3)]),.s 4 2 4] .ret)
def CG:List aw:=[.br 4 2]
theorem KJ:aB prog 190 1 Tryz.f190 CF CG:=.auto func190
def yt:AC:=rsq [.o 3 (.box 1),.o 4 (.box (.k (.agg zS4)))] (.seq (.block 0 (.loop (.seq (rif [.m 5 0,.d 6 4 3,.k 7 238 [5,6]] 7 .skip (.exit 0)) (.block 1 (.aH [.m 8 0,.f 9 2 3,.l 10 9,.o 11 (.aI 4 8 10),.d 12 4 11,.s 4 3 12]))))) (rsq [.d 13 4 3,.s 4 4 13] .ret))
def yu:List aw:=[.br 4 4]
theorem CH:aB prog 191 2 Tryz.f191 yt yu:=.auto func191
def c227:AC:=rsq [.o 4 (.box 1),.o 5 (.box 2),.o 6 (.af (.k (.ab []))),.o 7 (.af (zK 0))] (.seq (drg [.m 10 0,.d 11 4 4,.k 12 191 [10,11],.m 13 0,.d 14 4 5,.k 15 191 [13,14],.s 4 4 12,.s 4 5 15] [0,1,102,3,4,305,506,707]) (.seq (.block 0 (rif [.f 17 0 4,.l 18 17,.o 19 (.bin .eql 18 (zK 1)),.m 20 19,.y 21 (.aV 0 5) 20,.y 22 (.aU 21) 20,.y 23 (.bin .eql 22 (zK 1)) 20,.o 24 (.pick 20 23 zF),.m 25 24,.y 26 (.aV 2 4) 25,.y 27 (.aU 26) 25,.y 28 (.aV 2 5) 25,.y 29 (.aU 28) 25,.y 30 (.bin .eql 27 29) 25,.o 31 (.pick 25 30 zF),.m 16 31] 16 (rsq [.o 6 (.af (.k (.ab []))),.o 7 (.af (zK 0))] .ret) (rif [.f 33 0 4,.l 34 33,.o 35 (.bin .eql 34 (zK 1)),.m 36 35,.y 37 (.aV 0 5) 36,.y 38 (.aU 37) 36,.y 39 (.bin .eql 38 (zK 1)) 36,.o 40 (.pick 36 39 zF),.m 32 40] 32 (.seq (drg [.m 41 0,.f 42 2 4,.l 43 42,.f 44 2 5,.l 45 44,.o 46 (.mx 43 45),.f 47 2 4,.l 48 47,.f 49 2 5,.l 50 49,.o 51 (.mn 48 50),.k 52 190 [51],.k 53 259 [41,46,52],.o 6 (.af (.k (.ab []))),.m 7 53] [6,7,8,9,10,111,0,1,2,3,4,5,312,413,414]) .ret) (rif [.f 55 0 4,.l 56 55,.o 57 (.bin .eql 56 (zK 1)),.m 54 57] 54 (rsq [.m 58 0,.f 59 2 4,.l 60 59,.d 61 4 5,.k 62 259 [58,60,61],.o 6 (.af (.k (.ab []))),.m 7 62] .ret) (rif [.f 64 0 5,.l 65 64,.o 66 (.bin .eql 65 (zK 1)),.m 63 66] 63 (rsq [.m 67 0,.f 68 2 5,.l 69 68,.d 70 4 4,.k 71 259 [67,69,70],.o 6 (.af (.k (.ab []))),.m 7 71] .ret) (rif [.f 73 0 4,.l 74 73,.f 75 0 5,.l 76 75,.o 77 (.bin .neq 74 76),.m 78 77,.z 79 (.aV 1 4) 78,.z 80 (.aU 79) 78,.z 81 (.aV 1 5) 78,.z 82 (.aU 81) 78,.z 83 (.bin .neq 80 82) 78,.o 84 (.pick 78 zT 83),.m 85 84,.z 86 (.aV 3 4) 85,.z 87 (.aU 86) 85,.z 88 (.aR 87) 85,.z 89 (.aV 3 5) 85,.z 90 (.aU 89) 85,.z 91 (.aR 90) 85,.z 92 (.bin .neq 88 91) 85,.o 93 (.pick 85 zT 92),.m 72 93] 72 (rsq [.o 6 (.af (.k (.ab []))),.o 7 (.af (zK 60))] .ret) .skip)))))) (rsq [.o 8 (.af (.k (.ab [])))] (.seq (rsq [.f 94 3 4,.l 95 94,.o 96 (.aR 95),.o 97 (.af (zK 0))] (.block 1 (.loop (rsq [.o 98 (.bin .lss 97 96)] (.seq (.cond 98 .skip (.exit 1)) (.seq (.block 2 (rsq [.m 99 97,.m 9 99] (drg [.m 100 8,.f 101 3 4,.l 102 101,.m 103 9,.o 104 (.aI 4 102 103),.d 105 4 104,.f 106 3 5,.l 107 106,.m 108 9,.o 109 (.aI 4 107 108),.d 110 4 109,.o 111 (.build [.c (.int .i64 0),.c (.str []),.c (.int .i64 0),.ab [],.c (.int .i64 0),.c (.str []),.c (.int .i64 0),.ab []] [(0,4,105),(4,4,110)]),.o 112 (.bo 8 [111]),.o 113 (.app 235 8 112 100 112),.m 8 113] [0,1,2,3,4,5,6,7,8,9,10,11,12,113,214]))) (.aH [.o 114 (.bin .add 97 (zK 1)),.m 97 114]))))))) (rsq [.m 115 8,.m 6 115,.o 7 (.af (zK 0))] .ret)))))
def gZ:List aw:=[.tmp 6,.tmp 7]
theorem ld:aB prog 227 3 Tryz.f227 c227 gZ:=.auto func227
def yv:AC:=rsq [.o 1 (.box 0),.o 2 (.af zF)] (rsq [.f 3 0 1,.l 4 3,.o 5 (.bin .eql 4 (zK 6)),.m 6 5,.y 7 (.aV 3 1) 6,.y 8 (.aU 7) 6,.y 9 (.aI 4 8 (zK 0)) 6,.y 10 (.aV 0 9) 6,.y 11 (.aU 10) 6,.y 12 (.bin .eql 11 (zK 5)) 6,.o 13 (.pick 6 12 zF),.m 2 13] .ret)
def yw:List aw:=[.tmp 2]
theorem KK:aB prog 230 1 Tryz.f230 yv yw:=.auto func230
def c236:AC:=rsq [.o 2 (.box 0),.o 3 (.af zF)] (.seq (drg [.d 4 4 2,.k 5 24 [4],.o 6 (.un .not 5),.m 7 6,.z 8 (.eK 4 2) 7,.z 9 (.call (.k (.fn 74 [])) [8]) 7,.z 10 (.aU 1) 7,.z 11 (.aR 10) 7,.z 12 (.bin .gtr 9 11) 7,.o 13 (.pick 7 zT 12),.m 3 13] [0,101,202,203,204,305,206,207,408,409,410]) .ret)
def yx:List aw:=[.tmp 3]
theorem CI:aB prog 236 2 Tryz.f236 c236 yx:=.auto func236
def CJ:AC:=rsq [.o 3 (.box 0),.o 4 (.af zF)] (rsq [.l 5 1,.d 6 4 3,.l 7 2,.k 8 189 [5,6,7],.o 9 (.un .not 8),.m 4 9] .ret)
def CK:List aw:=[.tmp 4]
theorem KL:aB prog 237 3 Tryz.f237 CJ CK:=.auto func237
def pV:AC:=rsq [.o 3 (.box 1),.o 4 (.af zF)] (.seq (drg [.f 5 0 3,.l 6 5,.o 7 (.bin .eql 6 (zK 1)),.m 8 7,.y 9 (.af 0) 8,.y 10 (.aV 2 3) 8,.y 11 (.aU 10) 8,.y 12 (.aI 4 9 11) 8,.y 13 (.aV 0 12) 8,.y 14 (.aU 13) 8,.y 15 (.bin .neq 14 (zK 1)) 8,.y 16 (.af 15) 8,.z 17 (.af 0) 16,.z 18 (.aV 2 3) 16,.z 19 (.aU 18) 16,.z 20 (.aI 4 17 19) 16,.z 21 (.aV 2 20) 16,.z 22 (.aU 21) 16,.z 23 (.aV 2 3) 16,.z 24 (.aU 23) 16,.z 25 (.bin .neq 22 24) 16,.y 26 (.pick 16 zT 25) 8,.o 27 (.pick 8 26 zF),.m 4 27] [0,1,2,3,4,5,6,7,8,9,10,11,12,13,14,15,16,17,18,19,20,21,22,23]) .ret)
def pW:List aw:=[.tmp 4]
theorem CL:aB prog 238 2 Tryz.f238 pV pW:=.auto func238
def yy:AC:=rsq [.o 5 (.box 2),.o 6 (.af (zK 0))] (.seq (rif [.m 7 0,.m 8 1,.d 9 4 5,.o 10 (.kJ),.k 11 279 [7,8,9,10]] 11 (rsq [.o 6 (.af (zK 61))] .ret) .skip) (rsq [.m 12 0,.m 13 1,.d 14 4 5,.o 15 (.aI 4 12 13),.s 4 15 14] (rsq [.o 6 (.af (zK 0))] .ret)))
def yz:List aw:=[.tmp 6]
theorem CM:aB prog 259 3 Tryz.f259 yy yz:=.auto func259
def rK:AC:=rsq [.o 4 (.box 0),.o 5 (.box 1),.o 6 (.box 2),.o 7 (.box 3),.o 8 (.af zF)] (.seq (rif [.l 9 4,.d 10 4 6,.k 11 238 [9,10]] 11 (.seq (rif [.l 12 7,.f 13 2 6,.l 14 13,.o 15 (.look false (.i .i64) (.bool false) 12 14)] 15 (rsq [.o 8 (.af zF)] .ret) .skip) (rsq [.l 16 7,.f 17 2 6,.l 18 17,⟨none,.jT (.i .i64) 16 18 zT,none⟩] (.seq (drg [.l 19 4,.l 20 5,.l 21 4,.f 22 2 6,.l 23 22,.o 24 (.aI 4 21 23),.d 25 4 24,.l 26 7,.k 27 279 [19,20,25,26],.m 8 27] [0,1,2,3,4,5,6,7,108,209]) .ret))) .skip) (.seq (rif [.f 28 0 6,.l 29 28,.o 30 (.bin .eql 29 (zK 1))] 30 (rsq [.f 31 2 6,.l 32 31,.l 33 5,.o 34 (.bin .eql 32 33),.m 8 34] .ret) .skip) (rsq [.f 35 3 6,.l 36 35,.o 37 (.gA 288 [4,5,7]),.k 38 64 [36,37],.m 8 38] .ret)))
def rL:List aw:=[.tmp 8]
theorem ux:aB prog 279 4 Tryz.f279 rK rL:=.auto func279
def CN:AC:=rsq [.o 4 (.box 0),.o 5 (.af zF)] (rsq [.l 6 1,.l 7 2,.d 8 4 4,.l 9 3,.k 10 279 [6,7,8,9],.m 5 10] .ret)
def CO:List aw:=[.tmp 5]
theorem KM:aB prog 288 4 Tryz.f288 CN CO:=.auto func288
end Go.Proofs.YtdlkenpilhakfaaGreatDoor
namespace Go.Proofs.YtdlkenpilhakfaaGreatDoor
open Go Go.RowKit Go.Lamb
structure uy where
 vars:Int
 head:aa
 body:aa
 deriving Inhabited
def uy.cs(c:uy):List C:=[.int .i64 c.vars,.int .i64 c.head.k,.str c.head.name,.int .i64 c.head.n,.sl (c.head.l.map aa.cs),.int .i64 c.body.k,.str c.body.name,.int .i64 c.body.n,.sl (c.body.l.map aa.cs)]
def uy.v(c:uy):V:=.agg [I c.vars,I c.head.k,S c.head.name,I c.head.n,.c (.sl (c.head.l.map aa.cs)),I c.body.k,S c.body.name,I c.body.n,.c (.sl (c.body.l.map aa.cs))]
def KN(t:aa):aa×List aa:=if t.k=6 then(t.l.headD .none,t.l.tail)else(t,[])
def hd(t:aa):aa:=(KN t).1
def ar(t:aa)(i:Nat):aa:=(KN t).2.getD i .none
def bJ(t:aa):aa:=.mk 5 [] 0 [t]
end Go.Proofs.YtdlkenpilhakfaaGreatDoor
namespace Go.Proofs.YtdlkenpilhakfaaGreatDoor
open Go.RowKit Go.Lamb
def gj(seen:List Int):List (C×C):=seen.map fun n=>(C.int .i64 n,C.bool true)
theorem Uo(seen:List Int):((gj seen).all fun p=>(KD.i aN).ok p.1)=true:=by
 unfold gj;rw[List.all_map,List.all_eq_true];intro x _;rfl
theorem KO(n:Int):∀(seen:List Int),iq (.int .i64 n) (gj seen)=if seen.contains n=true then some (.bool true)else none
 |[]=>by rw[if_neg (by simp)];rfl
 |x::l=>by
  show(if iP (C.int .i64 n) (C.int .i64 x)=true then _ else iq (.int .i64 n) (gj l))=_;rw[KO n l,List.contains_cons];have e:iP (C.int .i64 n) (C.int .i64 x)=(n==x):=rfl;rw[e];cases hx:(n==x)<;>simp
theorem KP(n:Int):∀(seen:List Int),seen.contains n=false->ir (.int .i64 n) (.bool true) (gj seen)=gj (seen++[n])
 |[],_=>rfl
 |x::l,h=>by
  rw[List.contains_cons,Bool.or_eq_false_iff]at h;show(if iP (C.int .i64 n) (C.int .i64 x)=true then _ else(C.int .i64 x,C.bool true)::ir (.int .i64 n) (.bool true) (gj l))=_;have e:iP (C.int .i64 n) (C.int .i64 x)=(n==x):=rfl;rw[e,h.1,KP n l h.2];rfl
attribute [local go_sem] aa.v aa.aM a7 bh aW aQ aX
end Go.Proofs.YtdlkenpilhakfaaGreatDoor
namespace Go.Lamb
open Go Go.RowKit
def aK(s:List aa):List C:=(s.map aa.cs).flatten
theorem lf(s:List aa):(aK s).length=s.length*4:=by unfold aK;rw[Um (ki s),bW]
theorem KQ{s:List aa}{i:Nat}(hi:i<s.length):de 4 (fW (i*4) (aK s))=[.int .i64 s[i].k,.str s[i].name,.int .i64 s[i].n,.sl (s[i].l.map aa.cs)]:=by
 have h:=Ul (ki s) (i:=i) (by rw[bW];exact hi);rw[dN,aa.aM]at h;exact h
theorem pX{s:List aa}{i:Nat}(hi:i<s.length):de 4 (fW (i*4) (ik V.c (aK s)))=[.c (.int .i64 s[i].k),.c (.str s[i].name),.c (.int .i64 s[i].n),.c (.sl (s[i].l.map aa.cs))]:=by
 rw[<-List.map_drop,<-List.map_take,KQ hi];rfl
theorem CP{s:List aa}{i:Nat}(hi:i<s.length):(aK s)[i*4]?=some (.int .i64 s[i].k)/\(aK s)[i*4+2]?=some (.int .i64 s[i].n):=by
 have h:=KQ hi;have h0:=congrArg (fun l=>l[0]?) h;have h2:=congrArg (fun l=>l[2]?) h;simpa[List.getElem?_take,List.getElem?_drop]using And.intro h0 h2
theorem CQ{s:List aa}{i:Nat}(hi:i<s.length)(t:aa):de (i*4) (aK s)++ .int .i64 t.k:: .str t.name:: .int .i64 t.n:: .sl (t.l.map aa.cs)::fW (i*4+4) (aK s)=aK (s.set i t):=by
 have h:=Un (ki s) (i:=i) (by rw[bW];exact hi) t.cs (by rw[aa.aM];rfl);rw[aa.aM,dt]at h;unfold aK;rw[ET,aa.aM];exact h
theorem rM{s:List aa}{i:Nat}(hi:i<s.length):cc s (i:Int)=s[i]:=by
 unfold cc;rw[jk,cf,aO hi,mI]
end Go.Lamb
namespace Go.Proofs.YtdlkenpilhakfaaGreatDoor
open Go.RowKit Go.Lamb
attribute [local go_sem] aa.v aa.aM a7 bh aW aQ aX
theorem KR(w0:World)(n:Int)(σ:H):DC prog w0 190 [I n] σ (Same (aJ n).v σ):=by
 refine KJ.go rfl (fun hok hsz=>?_);(refine W.a ?_;simp only[go_sem,CF]);(refine W.fs (hok) (by simp only[CG,go_sem];rfl) ?_;simp only[al];try exact V.wk.rfl _)
 all_goals (all_goals exact au)
theorem uz(w0:World)(s:List aa)(t:aa)(ht:aE s.length t)(b:Nat)(σ:H)(hb:σ[b]?=some (.vec 34 4 (aK s))):DC prog w0 238 [.vec b s.length,t.v] σ (Same (B (bI s t)) σ):=by
 refine CL.go rfl (fun hok hsz=>?_);by_cases hk:t.k=1
 ·obtain⟨h0,hlt,hnm,hl⟩:=ht.var hk;obtain⟨k,nm,n,l⟩:=t;simp only[a7,bh,aW,aQ]at hk h0 hlt hnm hl;subst hk hnm hl;obtain⟨i,rfl⟩:=sD h0;have hi:i<s.length:=by omega
  have e:bI s (.mk 1 [] (i:Int) [])=!(s[i].k==1&&s[i].n==(i:Int)):=by
   unfold bI;simp only[a7,aW,rM hi];rfl
  rw[e];have hb2:=fun L=>hG hb L;obtain⟨x0,x2⟩:=CP hi;generalize s[i]=u at*;generalize aK s=F at*;clear e ht;cases k1:(u.k==1)
  ·(refine W.a ?_;simp only[go_sem,pV]);(apply W.aS (aT _ _);case hc=>((apply ae.aq;simp only[go_sem,hb2,h0,hlt,x0,x2,bne,k1]);exact ae.nil));(refine W.a ?_;simp only[go_sem]);(refine W.fs (hok) (by simp only[pW,go_sem];rfl) ?_;simp only[al];try exact V.wk.rfl _)
  ·cases kn:(u.n==(i:Int))
   ·(refine W.a ?_;simp only[go_sem,pV]);(apply W.aS (aT _ _);case hc=>((apply ae.aq;simp only[go_sem,hb2,h0,hlt,x0,x2,bne,k1,kn]);exact ae.nil));(refine W.a ?_;simp only[go_sem]);(refine W.fs (hok) (by simp only[pW,go_sem];rfl) ?_;simp only[al];try exact V.wk.rfl _)
   ·(refine W.a ?_;simp only[go_sem,pV]);(apply W.aS (aT _ _);case hc=>((apply ae.aq;simp only[go_sem,hb2,h0,hlt,x0,x2,bne,k1,kn]);exact ae.nil));(refine W.a ?_;simp only[go_sem]);(refine W.fs (hok) (by simp only[pW,go_sem];rfl) ?_;simp only[al];try exact V.wk.rfl _)
 ·have k1:(t.k==1)=false:=by simp[hk]
  have e:bI s t=false:=by unfold bI;rw[k1];rfl
  rw[e];clear ht hb e hk;(refine W.a ?_;simp only[go_sem,pV]);(apply W.aS (aT _ _);case hc=>((apply ae.aq;simp only[go_sem,k1]);exact ae.nil));(refine W.a ?_;simp only[go_sem]);(refine W.fs (hok) (by simp only[pW,go_sem];rfl) ?_;simp only[al];try exact V.wk.rfl _)
theorem yA(w0:World)(s:List aa)(hs:∀t∈s,aE s.length t)(t u:aa)(m:Nat)(hr:gd s t u m)(ht:aE s.length t)(b:Nat)(σ:H)(hb:σ[b]?=some (.vec 34 4 (aK s))):DC prog w0 191 [.vec b s.length,t.v] σ (Same u.v σ):=by
 refine CH.go rfl (fun hok hsz=>?_);have hb2:=fun L=>hG hb L;have hS:=fun(t:aa) (ht:aE s.length t) (σ:H) (hb:σ[b]?=some (.vec 34 4 (aK s)))=>uz w0 s t ht b σ hb;(refine W.a ?_;simp only[go_sem,yt]);refine W.bB (α:=aa×Nat) (fun x=>gd s x.1 u x.2/\aE s.length x.1) (fun x=>⟨(((base.put (some 0) (.vec b s.length)).put (some 3) (.ptr σ.length 0)).put (some 4) (.ptr (σ.length+1) 0)),σ++[.cells x.1.v.ai,.cells [I 0,S [],I 0,.ab []]]⟩) (fun x=>x.2) (t,m) ⟨hr,ht⟩ ?_ (fun x hx=>?_)
 ·(refine ao.env ?_;exact aF)
 obtain⟨x,n⟩:=x;obtain⟨hr,hx⟩:=hx;simp only at hr hx;have hSx:=hS x hx;cases hr with
 |stop hst=>
  rw[hst]at hSx;(refine W.a ?_;simp only[go_sem]);(refine W.c1 (hSx _ (hG hb _)) ?_;simp only[go_sem]);refine W.no rfl (W.a ?_);simp only[go_sem];(refine W.fs (hok) (by simp only[yu,go_sem];rfl) ?_;simp only[al];try exact V.wk.rfl _)
  all_goals (all_goals exact au)
 |go hst r=>
  rw[hst]at hSx;have hk:=gb hst;obtain⟨h0,hlt,_⟩:=hx.var hk;obtain⟨i,hi⟩:=sD h0;rw[hi]at r h0 hlt;have hil:i<s.length:=by omega
  have hu:aE s.length (cc s (i:Int)):=hs _ (iA h0 hlt);rw[rM hil]at r hu;have hrow:=pX hil;have hle:i*4+4<=s.length*4:=by omega
  have hFl:=lf s;generalize s[i]=y at*;generalize aK s=F at*
  (refine W.a ?_;simp only[go_sem]);(refine W.c1 (hSx _ (hG hb _)) ?_;simp only[go_sem]);refine W.yes rfl (W.a ?_);simp only[go_sem,hi,h0,hlt,hb2,hrow,hle,hFl];refine .inv ⟨(y,_),⟨r,hu⟩,by simp only;omega,?_⟩;(refine ao.env ?_;exact aF)
theorem KS{n:Nat}(hn:n<=1000000)(t:aa):aE n t->∀m:Int,0<=m->cB m t<=max m n/\m<=cB m t:=by
 refine aa.ind (P:=fun t=>aE n t->∀m:Int,0<=m->cB m t<=max m n/\m<=cB m t) (fun t ih ht m hm=>?_) t;rw[A6];by_cases hk:t.k=1
 ·obtain⟨h0,hlt,_⟩:=ht.var hk;rw[if_pos hk];unfold mZ;have e:(if-1>t.n then-1 else t.n)=t.n:=if_neg (by omega);have hw:aN.wrap (t.n+1)=t.n+1:=by rw[bn]<;>omega
  rw[e,hw];split<;>omega
 ·rw[if_neg hk];have key:∀(l:List aa),(∀u∈l,u∈t.l)->∀m:Int,0<=m->cO m l<=max m n/\m<=cO m l:=by
   intro l;induction l with
   |nil=>intro _ m hm;rw[cO];omega
   |cons x l ihl=>
    intro hs m hm;rw[cO];have hx:=hs x (bu ..);obtain⟨a1,a2⟩:=ih x hx (ht.dO hk hx) m hm;obtain⟨b1,b2⟩:=ihl (fun u hu=>hs u (bS _ hu)) (cB m x) (by omega);omega
  exact key t.l (fun _ h=>h) m hm
theorem KT(t:aa):gV t<=aD t:=by
 refine aa.ind (P:=fun t=>gV t<=aD t) (fun t ih=>?_) t;rw[A5,da];split
 ·omega
 ·have key:∀(l:List aa),(∀u∈l,u∈t.l)->iV l<=bR l:=by
   intro l;induction l with
   |nil=>intro _;rw[iV,bR];omega
   |cons x l ihl=>
    intro hs;rw[iV,bR];have:=ih x (hs x (bu ..));have:=ihl (fun u hu=>hs u (bS _ hu));omega
  have:=key t.l (fun _ h=>h);omega
theorem KU(w0:World){n:Nat}(b:Nat)(hn:n<=1000000)(t:aa)(ht:aE n t)(hz:aD t<=1000000)(p:Nat)(σ:H)(hp:σ[p]?=some (.cells [.vec b n])):DC prog w0 236 [t.v,.ptr p 0] σ (Same (B false) σ):=by
 refine CI.go rfl (fun hok hsz=>?_);have hp2:=fun L=>hG hp L;have hV:=fun σ=>pO w0 t σ;rw[ht.valid]at hV;have hN:=fun σ=>ub w0 t (by have:=KT t;omega) σ;have hv:=(KS hn t ht 0 (by omega)).1;have hg:¬cB 0 t>(n:Int):=by omega
 generalize cB 0 t=z at*
 clear ht hv;(refine W.a ?_;simp only[go_sem,c236]);apply W.aS (aT _ _)
 case hc=>
  (apply ae.aq;simp only[go_sem]);(apply ae.call (hV _);(case hg=>rfl);(case hf=>rfl);(case ha=>first|rfl|simp));(apply ae.aq;simp only[go_sem]);(apply ae.call (hN _);(case hg=>rfl);(case hf=>rfl);(case ha=>first|rfl|simp));(apply ae.aq;simp only[go_sem,hp2,hg,mY]);exact ae.nil
 (refine W.a ?_;simp only[go_sem]);(refine W.fs (hok) (by simp only[yx,go_sem];rfl) ?_;simp only[al];try exact V.wk.rfl _)
theorem Up(w0:World)(hn:0<=1000000)(t:aa)(ht:aE 0 t)(hz:aD t<=1000000)(p:Nat)(σ:H)(hp:σ[p]?=some (.cells [.ab []])):DC prog w0 236 [t.v,.ptr p 0] σ (Same (B false) σ):=by
 refine CI.go rfl (fun hok hsz=>?_);have hp2:=fun L=>hG hp L;have hV:=fun σ=>pO w0 t σ;rw[ht.valid]at hV;have hN:=fun σ=>ub w0 t (by have:=KT t;omega) σ;have hv:=(KS hn t ht 0 (by omega)).1;have hg:¬cB 0 t>0:=by omega
 generalize cB 0 t=z at*
 clear ht hv;(refine W.a ?_;simp only[go_sem,c236]);apply W.aS (aT _ _)
 case hc=>
  (apply ae.aq;simp only[go_sem]);(apply ae.call (hV _);(case hg=>rfl);(case hf=>rfl);(case ha=>first|rfl|simp));(apply ae.aq;simp only[go_sem]);(apply ae.call (hN _);(case hg=>rfl);(case hf=>rfl);(case ha=>first|rfl|simp));(apply ae.aq;simp only[go_sem,hp2,hg,mY]);exact ae.nil
 (refine W.a ?_;simp only[go_sem]);(refine W.fs (hok) (by simp only[yx,go_sem];rfl) ?_;simp only[al];try exact V.wk.rfl _)
end Go.Proofs.YtdlkenpilhakfaaGreatDoor
namespace Go.Proofs.YtdlkenpilhakfaaGreatDoor
open Go.RowKit Go.Lamb
attribute [local go_sem] aa.v aa.aM a7 bh aW aQ aX
theorem Uq(w0:World)(s:List aa)(f:FuncId)(caps:List V)(b:Nat)(σ:H)(hs:s.length<=1000000)(hb:σ[b]?=some (.vec 34 4 (aK s)))(hp:∀o∈s,DC prog w0 f (o.v::caps) σ (Same (B false) σ)):DC prog w0 117 [.vec b s.length,.fn f caps] σ (Same (I (-1)) σ):=by
 refine xZ.go rfl (fun hok hsz=>?_);(refine W.a ?_;simp only[go_sem,c117]);refine W.bB (fun i=>i<=s.length) (fun i=>⟨((((base.put (some 0) (.vec b s.length)).put (some 1) (.fn f caps)).put (some 7) (I s.length)).put (some 8) (I i)),σ⟩) (fun i=>s.length-i) 0 (bC _) ?_ (fun i hi=>?_)
 ·(refine ao.env ?_;exact aF)
 by_cases hlt:i<s.length
 ·have h1:((i:Int)<(s.length:Int)):=by omega
  have h0:(0:Int)<=(i:Int):=by omega
  have hw:aN.wrap ((i:Int)+1)=((i+1:Nat):Int):=by rw[bn]<;>omega
  have hpi:=hp s[i] (List.getElem_mem hlt);have hrow:=pX hlt;have hle:i*4+4<=s.length*4:=by omega
  have hFl:=lf s;generalize s[i]=y at*;generalize aK s=F at*
  (refine W.a ?_;simp only[go_sem,h1]);refine W.yes rfl (W.a ?_);simp only[go_sem,h1,h0,hb,hrow,hle,hFl];(refine W.c1 (hpi) ?_;simp only[go_sem]);(refine W.a ?_;simp only[go_sem]);refine W.no rfl (W.a ?_);simp only[go_sem,hw];refine .inv ⟨i+1,hlt,by omega,?_⟩;(refine ao.env ?_;exact aF)
 have h1:¬((i:Int)<(s.length:Int)):=by omega
 (refine W.a ?_;simp only[go_sem,h1]);refine W.no rfl (W.a ?_);simp only[go_sem];(refine W.fs (hok) (by simp only[pM,go_sem];rfl) ?_;simp only[al];try exact V.wk.rfl _)
theorem Ur(w0:World)(s:List aa)(f:FuncId)(caps:List V)(b:Nat)(σ:H)(hs:s.length<=1000000)(hb:σ[b]?=some (.vec 34 4 (aK s)))(hp:∀o∈s,DC prog w0 f (o.v::caps) σ (Same (B false) σ)):DC prog w0 64 [.vec b s.length,.fn f caps] σ (Same (B false) σ):=by
 refine xY.go rfl (fun hok hsz=>?_);have hI:=Uq w0 s f caps b σ hs hb hp;(refine W.a ?_;simp only[go_sem,rp]);(refine W.c1 (hI) ?_;simp only[go_sem]);(refine W.a ?_;simp only[go_sem]);(refine W.fs (hok) (by simp only[rq,go_sem];rfl) ?_;simp only[al];try exact V.wk.rfl _)
theorem Us(w0:World){α:Type}(U:α->H)(m:Nat)(hU:∀a,(U a).length=m)(hok0:∀a c,H.ok (U a)->H.ok (U c))(l:List aa)(hl:l.length<=1000000)(f:FuncId)(caps:List V)(st:Nat->α)(k:Nat)(hk:k<=l.length)
  (hno:∀i (hi:i<l.length),i<k->DC prog w0 f (l[i].v::caps) (U (st i)) (Same (B false) (U (st (i+1))))) (hyes:∀hi:k<l.length,DC prog w0 f (l[k].v::caps) (U (st k)) (Same (B true) (U (st (k+1))))):
  DC prog w0 117 [.c (.sl (l.map aa.cs)),.fn f caps] (U (st 0)) (Same (I (if k<l.length then(k:Int)else-1)) (U (st (if k<l.length then k+1 else k)))):=by
 refine xZ.go rfl (fun hok hsz=>?_);have hok1:=fun a=>hok0 _ a hok;(refine W.a ?_;simp only[go_sem,c117,hU]);refine W.bB (fun i=>i<=k) (fun i=>⟨((((base.put (some 0) (.c (.sl (l.map aa.cs)))).put (some 1) (.fn f caps)).put (some 7) (I l.length)).put (some 8) (I i)),U (st i)⟩) (fun i=>k-i) 0 (bC _) ?_ (fun i hi=>?_)
 ·(refine ao.env ?_;exact aF)
 by_cases hlt:i<l.length
 ·have h1:((i:Int)<(l.length:Int)):=by omega
  have h0:(0:Int)<=(i:Int):=by omega
  have hx:l[i]?=some l[i]:=aO hlt;have hw:aN.wrap ((i:Int)+1)=((i+1:Nat):Int):=by rw[bn]<;>omega
  by_cases hik:i<k
  ·have hp:=hno i hlt hik;generalize l[i]=u at*
   (refine W.a ?_;simp only[go_sem,h1]);refine W.yes rfl (W.a ?_);simp only[go_sem,h1,h0,hx];(refine W.c1 (hp) ?_;simp only[go_sem]);(refine W.a ?_;simp only[go_sem]);refine W.no rfl (W.a ?_);simp only[go_sem,hw];refine .inv ⟨i+1,hik,by omega,?_⟩;(refine ao.env ?_;exact aF)
  ·obtain rfl:i=k:=by omega
   have hp:=hyes hlt;rw[if_pos hlt,if_pos hlt];generalize l[i]=u at*
   (refine W.a ?_;simp only[go_sem,h1]);refine W.yes rfl (W.a ?_);simp only[go_sem,h1,h0,hx];(refine W.c1 (hp) ?_;simp only[go_sem]);(refine W.a ?_;simp only[go_sem]);refine W.yes rfl (W.a ?_);simp only[go_sem];(refine W.fg (hok1 _) (d:=I (i:Int)) (by simp only[pM,go_sem];rfl) (by simp only[al,go_sem];exact au) ?_ (hn:=(hU _)));exact⟨rfl,rfl⟩
 obtain rfl:i=k:=by omega
 have h1:¬((i:Int)<(l.length:Int)):=by omega
 rw[if_neg hlt,if_neg hlt];(refine W.a ?_;simp only[go_sem,h1]);refine W.no rfl (W.a ?_);simp only[go_sem];(refine W.fg (hok1 _) (d:=I (-1)) (by simp only[pM,go_sem];rfl) (by simp only[al,go_sem];exact au) ?_ (hn:=(hU _)));exact⟨rfl,rfl⟩
theorem KV(w0:World){α:Type}(U:α->H)(m:Nat)(hU:∀a,(U a).length=m)(hok0:∀a c,H.ok (U a)->H.ok (U c))(l:List aa)(hl:l.length<=1000000)(f:FuncId)(caps:List V)(st:Nat->α)(k:Nat)(hk:k<=l.length)
  (hno:∀i (hi:i<l.length),i<k->DC prog w0 f (l[i].v::caps) (U (st i)) (Same (B false) (U (st (i+1))))) (hyes:∀hi:k<l.length,DC prog w0 f (l[k].v::caps) (U (st k)) (Same (B true) (U (st (k+1))))):
  DC prog w0 64 [.c (.sl (l.map aa.cs)),.fn f caps] (U (st 0)) (Same (B (decide (k<l.length))) (U (st (if k<l.length then k+1 else k)))):=by
 have hI:=Us w0 U m hU hok0 l hl f caps st k hk hno hyes;refine xY.go rfl (fun hok hsz=>?_);have hok1:=fun a=>hok0 _ a hok;by_cases hlt:k<l.length
 ·rw[if_pos hlt,if_pos hlt]at hI;rw[if_pos hlt,decide_eq_true hlt];have hge:(k:Int)>=0:=by omega
  clear hno hyes;(refine W.a ?_;simp only[go_sem,rp,hU]);(refine W.c1 (hI) ?_;simp only[go_sem]);(refine W.a ?_;simp only[go_sem,hge]);(refine W.fg (hok1 _) (d:=B true) (by simp only[rq,go_sem];rfl) (by simp only[al,go_sem];exact au) ?_ (hn:=(hU _)));exact⟨rfl,rfl⟩
 ·rw[if_neg hlt,if_neg hlt]at hI;rw[if_neg hlt,decide_eq_false hlt];clear hno hyes;(refine W.a ?_;simp only[go_sem,rp,hU]);(refine W.c1 (hI) ?_;simp only[go_sem]);(refine W.a ?_;simp only[go_sem]);(refine W.fg (hok1 _) (d:=B false) (by simp only[rq,go_sem];rfl) (by simp only[al,go_sem];exact au) ?_ (hn:=(hU _)));exact⟨rfl,rfl⟩
theorem Ut(w0:World)(s:List aa)(hn:s.length<=1000000)(hl:∀t∈s,aE s.length t/\aD t<=1000000)(σ:H)(b:Nat)(hb:σ[b]?=some (.vec 34 4 (aK s))):DC prog w0 188 [.vec b s.length,.vec b s.length] σ (Same (B true) σ):=by
 refine uw.go rfl (fun hok hsz=>?_);have hC:=Ur w0 s 236 [.ptr σ.length 0] b (σ++[.cells [.vec b s.length]]) hn (hG hb _) (fun o ho=>KU w0 b hn o (hl o ho).1 (hl o ho).2 σ.length _ (by simp));(refine W.a ?_;simp only[go_sem,rG]);(refine W.c1 (hC) ?_;simp only[go_sem]);(refine W.a ?_;simp only[go_sem]);(refine W.fs (hok) (by simp only[rH,go_sem];rfl) ?_;simp only[al];try exact V.wk.rfl _)
theorem Uu(w0:World)(s:List aa)(hn:s.length<=1000000)(l:List aa)(hl:∀t∈l,aE s.length t/\aD t<=1000000)(σ:H)(b:Nat)(hb:σ[b]?=some (.vec 34 4 (aK s))):DC prog w0 188 [.vec b s.length,.c (.sl (l.map aa.cs))] σ (Same (B true) σ):=by
 refine uw.go rfl (fun hok hsz=>?_);have hC:=ya w0 l 236 [.ptr σ.length 0] (fun _=>false) (σ++[.cells [.vec b s.length]]) (fun o ho=>KU w0 b hn o (hl o ho).1 (hl o ho).2 σ.length _ (by simp));rw[show l.any (fun _=>false)=false by simp]at hC;(refine W.a ?_;simp only[go_sem,rG]);(refine W.c1 (hC) ?_;simp only[go_sem]);(refine W.a ?_;simp only[go_sem]);(refine W.fs (hok) (by simp only[rH,go_sem];rfl) ?_;simp only[al];try exact V.wk.rfl _)
theorem Uv(w0:World)(σ:H):DC prog w0 188 [.ab [],.ab []] σ (Same (B true) σ):=by
 refine uw.go rfl (fun hok hsz=>?_);have hC:=ya w0 [] 236 [.ptr σ.length 0] (fun _=>false) (σ++[.cells [.ab []]]) (fun o ho=>by cases ho);simp only[du,List.any_nil]at hC;(refine W.a ?_;simp only[go_sem,rG]);(refine W.kT (hC) ?_;simp only[go_sem]);(refine W.a ?_;simp only[go_sem]);(refine W.fs (hok) (by simp only[rH,go_sem];rfl) ?_;simp only[al];try exact V.wk.rfl _)
theorem Uw(w0:World)(l:List aa)(hl:∀t∈l,aE 0 t/\aD t<=1000000)(σ:H):DC prog w0 188 [.ab [],.c (.sl (l.map aa.cs))] σ (Same (B true) σ):=by
 refine uw.go rfl (fun hok hsz=>?_);have hC:=ya w0 l 236 [.ptr σ.length 0] (fun _=>false) (σ++[.cells [.ab []]]) (fun o ho=>Up w0 (by decide) o (hl o ho).1 (hl o ho).2 σ.length _ (by simp));rw[show l.any (fun _=>false)=false by simp]at hC;(refine W.a ?_;simp only[go_sem,rG]);(refine W.c1 (hC) ?_;simp only[go_sem]);(refine W.a ?_;simp only[go_sem]);(refine W.fs (hok) (by simp only[rH,go_sem];rfl) ?_;simp only[al];try exact V.wk.rfl _)
def eZ(st:List Int):List C:=st.map (C.int .i64)
theorem Ux{st:List Int}{i:Nat}(hi:i<st.length):(eZ st)[i]?=some (.int .i64 (dF st (i:Int))):=by
 unfold eZ dF;rw[List.getElem?_map,aO hi,jk,cf,aO hi];rfl
theorem KW{st:List Int}{i:Nat}(hi:i<st.length)(x:Int):de i (eZ st)++C.int .i64 x::fW (i+1) (eZ st)=eZ (st.set i x):=by
 unfold eZ;rw[ET,List.set_eq_take_append_cons_drop,if_pos (by rw[bW];exact hi)]
structure mj (s:List aa) (b bs m:Nat) (U:List Int->H):Prop where
 len:∀a,(U a).length=m
 ok:∀a c X,H.ok (U a++X)->H.ok (U c++X)
 sub:∀a,(U a)[b]?=some (.vec 34 4 (aK s))
 st:∀a,(U a)[bs]?=some (.vec 3 1 (eZ a))
 set:∀a c,(U a).set bs (.vec 3 1 (eZ c))=U c
theorem mj.ext{s:List aa}{b bs m:Nat}{U:List Int->H}(h:mj s b bs m U)(L:H):mj s b bs (m+L.length) (fun a=>U a++L) where
 len:=fun a=>by rw[bD,h.len]
 ok:=fun a c X hx=>by rw[dt]at hx⊢;exact h.ok a c _ hx
 sub:=fun a=>hG (h.sub a) L
 st:=fun a=>hG (h.st a) L
 set:=fun a c=>by rw[hS (h.st a),h.set]
theorem Uy(w0:World){s:List aa}{b bs m:Nat}{U:List Int->H}(F:mj s b bs m U)(st st':List Int)(t:aa)(hk:t.k≠1)
  (hC:DC prog w0 64 [.c (.sl (t.l.map aa.cs)),.fn 237 [.ptr m 0,.ptr (m+2) 0]] (U st++[.cells [.vec b s.length],.cells t.v.ai,.cells [.vec bs s.length]]) (Same (B false) (U st'++[.cells [.vec b s.length],.cells t.v.ai,.cells [.vec bs s.length]]))):
  DC prog w0 189 [.vec b s.length,t.v,.vec bs s.length] (U st) (Same (B true) (U st')):=by
 refine yr.go rfl (fun hok hsz=>?_);have hlen0:=F.len;have hok1:=fun c=>by have:=F.ok st c [];simp only[cw]at this;exact this hok
 have hsub:=fun a L=>hG (F.sub a) L;have hst:=fun a L=>hG (F.st a) L;have dk:=fun a c L=>by have:=hS (F.st a) (.vec 3 1 (eZ c)) L;rw[F.set]at this;exact this
 have tg0:∀a x L,(U a++x::L)[m]?=some x:=fun a=>jH (hlen0 a);have tg:∀a k L,(U a++L)[m+k]?=L[k]?:=fun a=>iE (hlen0 a);have ts0:∀a x L,(U a++L).set m x=U a++L.set 0 x:=fun a=>mh (hlen0 a);have ts:∀a k x L,(U a++L).set (m+k) x=U a++L.set k x:=fun a=>mi (hlen0 a);have k1:(t.k==1)=false:=by simp[hk]
 simp only[aa.v,V.ai,aX]at hC;clear hk;(refine W.a ?_;simp only[go_sem,rI,bne,k1,hlen0,tg0,tg,ts0,ts,hsub,hst]);refine W.yes rfl (W.a ?_);simp only[go_sem,hlen0,tg0,tg,ts0,ts,hsub,hst];(refine W.c1 (hC) ?_;simp only[go_sem]);(refine W.a ?_;simp only[go_sem,hlen0,tg0,tg,ts0,ts,hsub,hst]);(refine W.fg (hok1 _) (d:=B true) (by simp only[rJ,go_sem];rfl) (by simp only[al,go_sem];exact au) ?_ (hn:=(hlen0 _)));exact⟨rfl,rfl⟩
theorem KX(w0:World){s:List aa}{b bs m:Nat}{U:List Int->H}(F:mj s b bs m U)(st:List Int)(t:aa)(ht:aE s.length t)(hst':st.length=s.length)(hk:t.k=1)(h1:dF st t.n≠1):
  ((dF st t.n=2\/bI s t=false)->DC prog w0 189 [.vec b s.length,t.v,.vec bs s.length] (U st) (Same (B true) (U st)))/\
  (bI s t=true->dF st t.n≠2->∀st',st'.length=s.length->(∀L,DC prog w0 189 [.vec b s.length,(cc s t.n).v,.vec bs s.length] (U (st.set t.n.toNat 1)++L) (Same (B true) (U st'++L)))->DC prog w0 189 [.vec b s.length,t.v,.vec bs s.length] (U st) (Same (B true) (U (st'.set t.n.toNat 2)))):=by
 obtain⟨h0,hlt,hnm,hl⟩:=ht.var hk;have hSt:=fun(σ:H) hb=>uz w0 s t ht b σ hb;obtain⟨k,nm,n,l⟩:=t;simp only[a7,bh,aW,aQ]at hk h0 hlt hnm hl h1⊢;subst hk hnm hl;obtain⟨i,rfl⟩:=sD h0;have hi:i<s.length:=by omega
 have hx:=Ux (st:=st) (i:=i) (by omega);have x1:(dF st (i:Int)==1)=false:=by simp[h1]
 constructor
 ·intro h2;refine yr.go rfl (fun hok hsz=>?_);have hlen0:=F.len;have hok1:=fun c=>by have:=F.ok st c [];simp only[cw]at this;exact this hok
  have hsub:=fun a L=>hG (F.sub a) L;have hst:=fun a L=>hG (F.st a) L;have dk:=fun a c L=>by have:=hS (F.st a) (.vec 3 1 (eZ c)) L;rw[F.set]at this;exact this
  have tg0:∀a x L,(U a++x::L)[m]?=some x:=fun a=>jH (hlen0 a);have tg:∀a k L,(U a++L)[m+k]?=L[k]?:=fun a=>iE (hlen0 a);have ts0:∀a x L,(U a++L).set m x=U a++L.set 0 x:=fun a=>mh (hlen0 a);have ts:∀a k x L,(U a++L).set (m+k) x=U a++L.set k x:=fun a=>mi (hlen0 a);by_cases e2:dF st (i:Int)=2
  ·have x2:(dF st (i:Int)==2)=true:=by simp[e2]
   generalize dF st (i:Int)=q at*;clear h2 e2 h1;(refine W.a ?_;simp only[go_sem,rI,bne,hlen0,tg0,tg,ts0,ts,hsub,hst]);refine W.no rfl (W.a ?_);simp only[go_sem,hlen0,tg0,tg,ts0,ts,hsub,hst,h0,hlt,hx,x1,gM];refine W.no rfl (W.a ?_);simp only[go_sem,hlen0,tg0,tg,ts0,ts,hsub,hst,h0,hlt,hx,x2,gM];refine W.yes rfl (W.a ?_);simp only[go_sem,hlen0,tg0,tg,ts0,ts,hsub,hst];(refine W.fg (hok1 _) (d:=B true) (by simp only[rJ,go_sem];rfl) (by simp only[al,go_sem];exact au) ?_ (hn:=(hlen0 _)));exact⟨rfl,rfl⟩
  ·have x2:(dF st (i:Int)==2)=false:=by simp[e2]
   have h3:=h2.resolve_left e2;rw[h3]at hSt;generalize dF st (i:Int)=q at*;clear h2 e2 h1;(refine W.a ?_;simp only[go_sem,rI,bne,hlen0,tg0,tg,ts0,ts,hsub,hst]);refine W.no rfl (W.a ?_);simp only[go_sem,hlen0,tg0,tg,ts0,ts,hsub,hst,h0,hlt,hx,x1,gM];refine W.no rfl (W.a ?_);simp only[go_sem,hlen0,tg0,tg,ts0,ts,hsub,hst,h0,hlt,hx,x2,gM];(refine W.c1 (hSt _ (hsub _ _)) ?_;simp only[go_sem,hlen0,tg0,tg,ts0,ts,hsub,hst]);(refine W.a ?_;simp only[go_sem,hlen0,tg0,tg,ts0,ts,hsub,hst]);refine W.yes rfl (W.a ?_);simp only[go_sem,hlen0,tg0,tg,ts0,ts,hsub,hst]
   (refine W.fg (hok1 _) (d:=B true) (by simp only[rJ,go_sem];rfl) (by simp only[al,go_sem];exact au) ?_ (hn:=(hlen0 _)));exact⟨rfl,rfl⟩
 ·intro h3 e2 st' hl' hE;refine yr.go rfl (fun hok hsz=>?_);have hlen0:=F.len;have hok1:=fun c=>by have:=F.ok st c [];simp only[cw]at this;exact this hok
  have hsub:=fun a L=>hG (F.sub a) L;have hst:=fun a L=>hG (F.st a) L;have dk:=fun a c L=>by have:=hS (F.st a) (.vec 3 1 (eZ c)) L;rw[F.set]at this;exact this
  have tg0:∀a x L,(U a++x::L)[m]?=some x:=fun a=>jH (hlen0 a);have tg:∀a k L,(U a++L)[m+k]?=L[k]?:=fun a=>iE (hlen0 a);have ts0:∀a x L,(U a++L).set m x=U a++L.set 0 x:=fun a=>mh (hlen0 a);have ts:∀a k x L,(U a++L).set (m+k) x=U a++L.set k x:=fun a=>mi (hlen0 a);have x2:(dF st (i:Int)==2)=false:=by simp[e2]
  rw[h3]at hSt;rw[jk]at hE⊢;have s1:=KW (st:=st) (i:=i) (by omega) 1;have s2:=KW (st:=st') (i:=i) (by omega) 2;have b1:i+1<=(eZ st).length:=by unfold eZ;rw[bW];omega
  have b2:i+1<=(eZ st').length:=by unfold eZ;rw[bW];omega
  rw[rM hi]at hE;have hrow:=pX hi;have hle:i*4+4<=s.length*4:=by omega
  have hFl:=lf s;generalize s[i]=y at*;generalize dF st (i:Int)=q at*;generalize st.set i 1=st1 at*;generalize st'.set i 2=st2 at*;generalize aK s=F' at*;clear e2 h1;(refine W.a ?_;simp only[go_sem,rI,bne,hlen0,tg0,tg,ts0,ts,hsub,hst]);refine W.no rfl (W.a ?_);simp only[go_sem,hlen0,tg0,tg,ts0,ts,hsub,hst,h0,hlt,hx,x1,gM];refine W.no rfl (W.a ?_);simp only[go_sem,hlen0,tg0,tg,ts0,ts,hsub,hst,h0,hlt,hx,x2,gM];(refine W.c1 (hSt _ (hsub _ _)) ?_;simp only[go_sem,hlen0,tg0,tg,ts0,ts,hsub,hst]);(refine W.a ?_;simp only[go_sem,hlen0,tg0,tg,ts0,ts,hsub,hst])
  refine W.no rfl (W.a ?_);simp only[go_sem,hlen0,tg0,tg,ts0,ts,hsub,hst,h0,hlt,gM,b1,s1,dk];apply W.aS (aT _ _)
  case hc=>
   (apply ae.aq;simp only[go_sem,hlen0,tg0,tg,ts0,ts,hsub,hst,h0,hlt,hrow,hle,hFl]);(apply ae.call (hE _);(case hg=>rfl);(case hf=>rfl);(case ha=>first|rfl|simp));(apply ae.aq;simp only[go_sem,hlen0,tg0,tg,ts0,ts,hsub,hst]);exact ae.nil
  (refine W.a ?_;simp only[go_sem,hlen0,tg0,tg,ts0,ts,hsub,hst,h0,hlt,gM,b2,s2,dk]);(refine W.fg (hok1 _) (d:=B true) (by simp only[rJ,go_sem];rfl) (by simp only[al,go_sem];exact au) ?_ (hn:=(hlen0 _)));exact⟨rfl,rfl⟩
theorem Uz(w0:World){s:List aa}{b bs m:Nat}{U:List Int->H}(F:mj s b bs m U)(st st':List Int)(t:aa)(p q:Nat)(h:∀L,DC prog w0 189 [.vec b s.length,t.v,.vec bs s.length] (U st++L) (Same (B true) (U st'++L)))
  (hp:∀a,(U a)[p]?=some (.cells [.vec b s.length])) (hq:∀a,(U a)[q]?=some (.cells [.vec bs s.length])):DC prog w0 237 [t.v,.ptr p 0,.ptr q 0] (U st) (Same (B false) (U st')):=by
 refine KL.go rfl (fun hok hsz=>?_);have hlen0:=F.len;have hok1:=fun c=>by have:=F.ok st c [];simp only[cw]at this;exact this hok
 have hsub:=fun a L=>hG (F.sub a) L;have hst:=fun a L=>hG (F.st a) L;have dk:=fun a c L=>by have:=hS (F.st a) (.vec 3 1 (eZ c)) L;rw[F.set]at this;exact this
 have tg0:∀a x L,(U a++x::L)[m]?=some x:=fun a=>jH (hlen0 a);have tg:∀a k L,(U a++L)[m+k]?=L[k]?:=fun a=>iE (hlen0 a);have ts0:∀a x L,(U a++L).set m x=U a++L.set 0 x:=fun a=>mh (hlen0 a);have ts:∀a k x L,(U a++L).set (m+k) x=U a++L.set k x:=fun a=>mi (hlen0 a);have hp2:=fun a L=>hG (hp a) L;have hq2:=fun a L=>hG (hq a) L;(refine W.a ?_;simp only[go_sem,CJ,hlen0,tg0,tg,ts0,ts,hsub,hst,hp2,hq2]);(refine W.c1 (h _) ?_;simp only[go_sem]);(refine W.a ?_;simp only[go_sem,hlen0,tg0,tg,ts0,ts,hsub,hst])
 (refine W.fg (hok1 _) (d:=B false) (by simp only[CK,go_sem];rfl) (by simp only[al,go_sem];exact au) ?_ (hn:=(hlen0 _)));exact⟨rfl,rfl⟩
mutual
theorem CR{s:List aa}:∀{st st':List Int} {t:aa},nc s st t st'->st.length=s.length->st'.length=s.length
 |_,_,_,.gW hk r,h=>KY r h
 |_,_,_,.stop hk h1 h2,h=>h
 |_,_,_,.go hs' h1 h2 r,h=>by rw[bF];exact CR r (by rw[bF];exact h)
theorem KY{s:List aa}:∀{st st':List Int} {l:List aa},pn s st l st'->st.length=s.length->st'.length=s.length
 |_,_,_,.nil,h=>h
 |_,_,_,.cons r rs,h=>KY rs (CR r h)
end
theorem oC:∀(l:List aa),l.length<=bR l
 |[]=>by rw[bR];exact aA _
 |x::l=>by
  rw[bR,bk];have:=Gy x;have:=oC l;omega
mutual
theorem CS(w0:World){s:List aa}(hs:∀t∈s,aE s.length t){b bs:Nat}:∀{st st':List Int} {t:aa},nc s st t st'->aE s.length t->st.length=s.length->(∀x∈s,aD x<=1000000)->aD t<=1000000->∀{m:Nat} {U:List Int->H},mj s b bs m U->st'.length=s.length/\DC prog w0 189 [.vec b s.length,t.v,.vec bs s.length] (U st) (Same (B true) (U st'))
 |st,st',t,.gW hk r,ht,hl,hN,hn,m,U,F=>by
  obtain⟨sts,e0,e1,e2,hE⟩:=KZ w0 hs r (fun u hu=>ht.dO hk hu) hl hN (fun u hu=>by have:=ka hu;rw[da]at hn;omega) (b:=b) (bs:=bs);have hkl:t.l.length<=1000000:=by rw[da]at hn;have:=oC t.l;omega
  have F2:=F.ext [.cells [.vec b s.length],.cells t.v.ai,.cells [.vec bs s.length]];have hC:=KV w0 (fun a=>U a++[.cells [.vec b s.length],.cells t.v.ai,.cells [.vec bs s.length]]) _ F2.len (fun a c h=>by have:=F2.ok a c [];simp only[cw]at this;exact this h) t.l hkl 237 [.ptr m 0,.ptr (m+2) 0] sts t.l.length (aA _) (fun i hi _=>Uz w0 F2 _ _ _ _ _ (fun L=>hE i hi (F2.ext L)) (fun a=>jH (F.len a) _ _) (fun a=>iE (F.len a) 2 _)) (fun hi=>absurd hi (oU _));rw[if_neg (oU _),decide_eq_false (oU _),e0,e1]at hC;exact⟨e2,Uy w0 F st st' t hk hC⟩
 |st,_,t,.stop hk h1 h2,ht,hl,hN,hn,m,U,F=>⟨hl,(KX w0 F st t ht hl hk h1).1 h2⟩
 |st,_,t,.go hs' h1 h2 r,ht,hl,hN,hn,m,U,F=>by
  have hk:=gb hs';obtain⟨h0,hlt,_⟩:=ht.var hk;have hm:=iA h0 hlt;have hE:=fun L=>CS w0 hs r (hs _ hm) (by rw[bF];exact hl) hN (hN _ hm) (b:=b) (bs:=bs) (F.ext L);have hl':=(hE []).1;exact⟨by rw[bF];exact hl',(KX w0 F st t ht hl hk h1).2 hs' h2 _ hl' (fun L=>(hE L).2)⟩
theorem KZ(w0:World){s:List aa}(hs:∀t∈s,aE s.length t){b bs:Nat}:∀{st st':List Int} {l:List aa},pn s st l st'->(∀u∈l,aE s.length u)->st.length=s.length->(∀x∈s,aD x<=1000000)->(∀u∈l,aD u<=1000000)->∃sts:Nat->List Int,sts 0=st/\sts l.length=st'/\st'.length=s.length/\∀i (hi:i<l.length),∀{m:Nat} {U:List Int->H},mj s b bs m U->DC prog w0 189 [.vec b s.length,l[i].v,.vec bs s.length] (U (sts i)) (Same (B true) (U (sts (i+1))))
 |st,_,_,.nil,_,hl,_,_=>⟨fun _=>st,rfl,rfl,hl,fun i hi=>absurd hi (mL _)⟩
 |st,st',_,.cons (t:=t) (l:=l) (st1:=st1) r rs,ht,hl,hN,hn=>by
  have hx:=fun(m:Nat) (U:List Int->H) (F:mj s b bs m U)=>CS w0 hs r (ht t (bu ..)) hl hN (hn t (bu ..)) F;have hl1:st1.length=s.length:=CR r hl;obtain⟨sts,e0,e1,e2,hE⟩:=KZ w0 hs rs (fun u hu=>ht u (bS _ hu)) hl1 hN (fun u hu=>hn u (bS _ hu)) (b:=b) (bs:=bs);refine⟨fun i=>match i with|0=>st|i+1=>sts i,rfl,e1,e2,fun i hi m U F=>?_⟩;cases i with
  |zero=>simp only[e0];exact(hx _ _ F).2
  |succ i=>exact hE i (by simpa using hi) F
end
theorem uA(w0:World){N:Nat}{s:List aa}(hR:ck N s)(hN:N<=1000000)(hn:s.length<=1000000)(l:List aa)(hl:∀t∈l,aE s.length t/\aD t<=1000000)(σ:H)(b:Nat)(hb:σ[b]?=some (.vec 34 4 (aK s))):DC prog w0 132 [.vec b s.length,.c (.sl (l.map aa.cs))] σ (Same (B true) σ):=by
 refine Cz.go rfl (fun hok hsz=>?_);have hs2:∀t∈s,aE s.length t/\aD t<=1000000:=fun t ht=>⟨hR.right.holds t ht,by have:=hR.size t ht;omega⟩;have h1:=fun(σ:H) hb=>Ut w0 s hn hs2 σ b hb;have h2:=fun(σ:H) hb=>Uu w0 s hn l hl σ b hb;have hF:=fun n σ=>KR w0 n σ;obtain⟨rk,hL⟩:=hR.right.less;have c0:(0:Int)<=(s.length:Int):=by omega
 have c1:8*(s.length:Int)<=140737488355328:=by omega
 have c2:(s.length:Int)<=140737488355328:=by omega
 have hbl:=(aL.1 hb).1;have F:mj s b σ.length (σ.length+1) (fun a=>σ++[.vec 3 1 (eZ a)]):={
  len:=fun a=>by simp
  ok:=fun a c X h=>by
   intro B hB cs tg hc x hx;have hll:(σ++[ad.vec 3 1 (eZ a)]++X).length=(σ++[ad.vec 3 1 (eZ c)]++X).length:=by simp
   rw[<-hll];rcases cM.1 hB with hB|hB
   ·rcases cM.1 hB with hB|hB
    ·exact h B (jS _ (jS _ hB)) cs tg hc x hx
    ·simp at hB;subst hB;cases hc
   ·exact h B (zL _ hB) cs tg hc x hx
  sub:=fun a=>hG hb _
  st:=fun a=>by simp
  set:=fun a c=>by simp}
 have hrep:vV s.length (C.int .i64 0)=eZ (vV s.length 0):=by unfold eZ;rw[List.map_replicate]
 (refine W.a ?_;simp only[go_sem,yl]);(refine W.c1 (h1 _ hb) ?_;simp only[go_sem]);(refine W.a ?_;simp only[go_sem]);(refine W.c1 (h2 _ hb) ?_;simp only[go_sem]);(refine W.a ?_;simp only[go_sem]);refine W.no rfl (W.a ?_);simp only[go_sem,c0,c1,c2,hrep];refine W.bB (α:=Nat×List Int) (fun x=>x.1<=s.length/\x.2.length=s.length/\∀u:Int,0<=u->u<s.length->dF x.2 u≠1) (fun x=>⟨((((base.put (some 0) (.vec b s.length)).put (some 5) (.vec σ.length s.length)).put (some 21) (I s.length)).put (some 22) (I (x.1:Nat))),σ++[.vec 3 1 (eZ x.2)]⟩) (fun x=>s.length-x.1) (0,vV s.length 0) ⟨bC _,by simp,fun u h0 h1=>?_⟩ ?_ (fun x hx=>?_)
 ·unfold dF;rw[cf,List.getElem?_replicate,if_pos (by omega)];decide
 ·(refine ao.env ?_;exact aF)
 obtain⟨i,st⟩:=x;obtain⟨hi,hsl,hst⟩:=hx;simp only at hi hsl hst;by_cases hlt:i<s.length
 ·have g1:((i:Int)<(s.length:Int)):=by omega
  have hw:aN.wrap ((i:Int)+1)=((i+1:Nat):Int):=by rw[bn]<;>omega
  have hT:aE s.length (aJ (i:Int)):=iB (by omega) g1 hn;obtain⟨m,hm⟩:=tw rk hT;obtain⟨st',r,p1,p2⟩:=QR hL m (aJ (i:Int)) st hsl hT hm (fun u h0 h1 hu=>absurd hu (hst u h0 (by omega)));have hE:=(CS w0 hR.right.holds r hT hsl (fun x hx=>by have:=hR.size x hx;omega) (by rw[da];simp[aJ,aa.l,bR]) F).2;(refine W.a ?_;simp only[go_sem,g1]);refine W.yes rfl (W.a ?_);simp only[go_sem];(refine W.c1 (hF _ _) ?_;simp only[go_sem]);(refine W.a ?_;simp only[go_sem]);(refine W.c1 (hE) ?_;simp only[go_sem]);(refine W.a ?_;simp only[go_sem])
  refine W.no rfl (W.a ?_);simp only[go_sem,hw];refine .inv ⟨(i+1,st'),⟨hlt,p1.trans hsl,fun u h0 h1 e=>hst u h0 h1 ((p2 u h0 (by omega)).1 e)⟩,by simp only;omega,?_⟩;(refine ao.env ?_;exact aF)
 obtain rfl:i=s.length:=by omega
 have g1:¬(((s.length:Nat):Int)<((s.length:Nat):Int)):=by omega
 (refine W.a ?_;simp only[go_sem,g1]);refine W.no rfl (W.a ?_);simp only[go_sem];(refine W.fs (hok) (by simp only[yo,go_sem];rfl) ?_;simp only[al];try exact V.wk.rfl _)
theorem K0(w0:World)(l:List aa)(hl:∀t∈l,aE 0 t/\aD t<=1000000)(σ:H):DC prog w0 132 [.ab [],.c (.sl (l.map aa.cs))] σ (Same (B true) σ):=by
 refine Cz.go rfl (fun hok hsz=>?_);have h1:=fun(σ:H)=>Uv w0 σ;have h2:=fun(σ:H)=>Uw w0 l hl σ;(refine W.a ?_;simp only[go_sem,yl]);(refine W.c1 (h1 _) ?_;simp only[go_sem]);(refine W.a ?_;simp only[go_sem]);(refine W.c1 (h2 _) ?_;simp only[go_sem]);(refine W.a ?_;simp only[go_sem]);refine W.no rfl (W.a ?_);simp only[go_sem,mY];refine W.bB (α:=Unit) (fun _=>True) (fun _=>⟨(((base.put (some 0) (.ab [])).put (some 21) (I 0)).put (some 22) (I 0)),σ⟩) (fun _=>0) () trivial ?_ (fun _ _=>?_)
 ·(refine ao.drop ?_ (aA _) (hok) ?_;exact aF;(repeat' (first|exact aZ.base _|(refine aZ.put ?_ (by first|exact .c _|(simp only[go_sem];done)|exact V.gT _ _)))))
 (refine W.a ?_;simp only[go_sem]);refine W.no rfl (W.a ?_);simp only[go_sem];(refine W.fs (hok) (by simp only[yo,go_sem];rfl) ?_;simp only[al];try exact V.wk.rfl _)
end Go.Proofs.YtdlkenpilhakfaaGreatDoor
namespace Go.Proofs.YtdlkenpilhakfaaGreatDoor
open Go.RowKit Go.Lamb
attribute [local go_sem] aa.v aa.aM a7 bh aW aQ aX
theorem uB{σ:H}(h:H.ok σ)(m e n:Nat)(cs:List C):H.ok (σ.set m (.vec e n cs)):=by
 intro b hb cs' tg hc x hx;rw[bF];rcases List.mem_or_eq_of_mem_set hb with hb|hb
 ·exact h b hb cs' tg hc x hx
 ·rw[hb]at hc;cases hc
end Go.Proofs.YtdlkenpilhakfaaGreatDoor
namespace Go.Proofs.YtdlkenpilhakfaaGreatDoor
open Go.RowKit Go.Lamb
attribute [local go_sem] aa.v aa.aM a7 bh aW aQ aX
structure jJ (s:List aa) (b bm m:Nat) (U:List Int->H):Prop where
 len:∀a,(U a).length=m
 ok:∀a c X,H.ok (U a++X)->H.ok (U c++X)
 sub:∀a,(U a)[b]?=some (.vec 34 4 (aK s))
 mp:∀a,(U a)[bm]?=some (.mp (gj a))
 set:∀a c,(U a).set bm (.mp (gj c))=U c
theorem jJ.ext{s:List aa}{b bm m:Nat}{U:List Int->H}(h:jJ s b bm m U)(L:H):jJ s b bm (m+L.length) (fun a=>U a++L) where
 len:=fun a=>by rw[bD,h.len]
 ok:=fun a c X hx=>by rw[dt]at hx⊢;exact h.ok a c _ hx
 sub:=fun a=>hG (h.sub a) L
 mp:=fun a=>hG (h.mp a) L
 set:=fun a c=>by rw[hS (h.mp a),h.set]
theorem UA(w0:World){s:List aa}{b bm m:Nat}{U:List Int->H}(F:jJ s b bm m U)(v:Int)(met met':List Int)(t:aa)(ht:aE s.length t)(hk:t.k≠1)(r:Bool)
  (hC:DC prog w0 64 [.c (.sl (t.l.map aa.cs)),.fn 288 [.ptr m 0,.ptr (m+1) 0,.ptr (m+3) 0]] (U met++[.cells [.vec b s.length],.cells [I v],.cells t.v.ai,.cells [.mp bm]]) (Same (B r) (U met'++[.cells [.vec b s.length],.cells [I v],.cells t.v.ai,.cells [.mp bm]]))):
  DC prog w0 279 [.vec b s.length,I v,t.v,.mp bm] (U met) (Same (B r) (U met')):=by
 have hSt:=fun(σ:H) hb=>uz w0 s t ht b σ hb;rw[show bI s t=false by unfold bI;simp[hk]]at hSt;refine ux.go rfl (fun hok hsz=>?_);have hlen0:=F.len;have hok1:=fun c=>by have:=F.ok met c [];simp only[cw]at this;exact this hok
 have hsub:=fun a L=>hG (F.sub a) L;have hmp:=fun a L=>hG (F.mp a) L;have dk:=fun a c L=>by have:=hS (F.mp a) (.mp (gj c)) L;rw[F.set]at this;exact this
 have tg0:∀a x L,(U a++x::L)[m]?=some x:=fun a=>jH (hlen0 a);have tg:∀a k L,(U a++L)[m+k]?=L[k]?:=fun a=>iE (hlen0 a);have ts0:∀a x L,(U a++L).set m x=U a++L.set 0 x:=fun a=>mh (hlen0 a);have ts:∀a k x L,(U a++L).set (m+k) x=U a++L.set k x:=fun a=>mi (hlen0 a);have k1:(t.k==1)=false:=by simp[hk]
 simp only[aa.v,V.ai,aX]at hC;clear hk;(refine W.a ?_;simp only[go_sem,rK,bne,hlen0,tg0,tg,ts0,ts,hsub,hmp]);(refine W.c1 (hSt _ (hsub _ _)) ?_;simp only[go_sem,hlen0,tg0,tg,ts0,ts,hsub,hmp]);(refine W.a ?_;simp only[go_sem,hlen0,tg0,tg,ts0,ts,hsub,hmp]);refine W.no rfl (W.a ?_);simp only[go_sem,hlen0,tg0,tg,ts0,ts,hsub,hmp,k1];refine W.no rfl (W.a ?_);simp only[go_sem,hlen0,tg0,tg,ts0,ts,hsub,hmp];(refine W.c1 (hC) ?_;simp only[go_sem]);(refine W.a ?_;simp only[go_sem,hlen0,tg0,tg,ts0,ts,hsub,hmp])
 (refine W.fg (hok1 _) (d:=B r) (by simp only[rL,go_sem];rfl) (by simp only[al,go_sem];exact au) ?_ (hn:=(hlen0 _)));exact⟨rfl,rfl⟩
theorem UB(w0:World){s:List aa}{b bm m:Nat}{U:List Int->H}(F:jJ s b bm m U)(v:Int)(met:List Int)(t:aa)(ht:aE s.length t)(hk:t.k=1)(hs:bI s t=false):
  DC prog w0 279 [.vec b s.length,I v,t.v,.mp bm] (U met) (Same (B (t.n==v)) (U met)):=by
 have hSt:=fun(σ:H) hb=>uz w0 s t ht b σ hb;rw[hs]at hSt;refine ux.go rfl (fun hok hsz=>?_);have hlen0:=F.len;have hok1:=fun c=>by have:=F.ok met c [];simp only[cw]at this;exact this hok
 have hsub:=fun a L=>hG (F.sub a) L;have hmp:=fun a L=>hG (F.mp a) L;have dk:=fun a c L=>by have:=hS (F.mp a) (.mp (gj c)) L;rw[F.set]at this;exact this
 have tg0:∀a x L,(U a++x::L)[m]?=some x:=fun a=>jH (hlen0 a);have tg:∀a k L,(U a++L)[m+k]?=L[k]?:=fun a=>iE (hlen0 a);have ts0:∀a x L,(U a++L).set m x=U a++L.set 0 x:=fun a=>mh (hlen0 a);have ts:∀a k x L,(U a++L).set (m+k) x=U a++L.set k x:=fun a=>mi (hlen0 a);have k1:(t.k==1)=true:=by simp[hk]
 clear hk hs;(refine W.a ?_;simp only[go_sem,rK,bne,hlen0,tg0,tg,ts0,ts,hsub,hmp]);(refine W.c1 (hSt _ (hsub _ _)) ?_;simp only[go_sem,hlen0,tg0,tg,ts0,ts,hsub,hmp]);(refine W.a ?_;simp only[go_sem,hlen0,tg0,tg,ts0,ts,hsub,hmp]);refine W.no rfl (W.a ?_);simp only[go_sem,hlen0,tg0,tg,ts0,ts,hsub,hmp,k1];refine W.yes rfl (W.a ?_);simp only[go_sem,hlen0,tg0,tg,ts0,ts,hsub,hmp];(refine W.fg (hok1 _) (d:=B (t.n==v)) (by simp only[rL,go_sem];rfl) (by simp only[al,go_sem];exact au) ?_ (hn:=(hlen0 _)));exact⟨rfl,rfl⟩
theorem K1(w0:World){s:List aa}{b bm m:Nat}{U:List Int->H}(F:jJ s b bm m U)(v:Int)(met:List Int)(t:aa)(ht:aE s.length t)(hs:bI s t=true):
  (met.contains t.n=true->DC prog w0 279 [.vec b s.length,I v,t.v,.mp bm] (U met) (Same (B false) (U met)))/\
  (met.contains t.n=false->∀met' r,(∀L,DC prog w0 279 [.vec b s.length,I v,(cc s t.n).v,.mp bm] (U (met++[t.n])++L) (Same (B r) (U met'++L)))->DC prog w0 279 [.vec b s.length,I v,t.v,.mp bm] (U met) (Same (B r) (U met'))):=by
 have hSt:=fun(σ:H) hb=>uz w0 s t ht b σ hb;rw[hs]at hSt;have hf:=KO t.n met;have ha:=Uo met;have hko:(KD.i aN).ok (C.int aN t.n)=true:=rfl;constructor
 ·intro hc;rw[if_pos hc]at hf;refine ux.go rfl (fun hok hsz=>?_);have hlen0:=F.len;have hok1:=fun c=>by have:=F.ok met c [];simp only[cw]at this;exact this hok
  have hsub:=fun a L=>hG (F.sub a) L;have hmp:=fun a L=>hG (F.mp a) L;have dk:=fun a c L=>by have:=hS (F.mp a) (.mp (gj c)) L;rw[F.set]at this;exact this
  have tg0:∀a x L,(U a++x::L)[m]?=some x:=fun a=>jH (hlen0 a);have tg:∀a k L,(U a++L)[m+k]?=L[k]?:=fun a=>iE (hlen0 a);have ts0:∀a x L,(U a++L).set m x=U a++L.set 0 x:=fun a=>mh (hlen0 a);have ts:∀a k x L,(U a++L).set (m+k) x=U a++L.set k x:=fun a=>mi (hlen0 a);clear hs ht hc;(refine W.a ?_;simp only[go_sem,rK,bne,hlen0,tg0,tg,ts0,ts,hsub,hmp]);(refine W.c1 (hSt _ (hsub _ _)) ?_;simp only[go_sem,hlen0,tg0,tg,ts0,ts,hsub,hmp]);(refine W.a ?_;simp only[go_sem,hlen0,tg0,tg,ts0,ts,hsub,hmp]);refine W.yes rfl (W.a ?_);simp only[go_sem,hlen0,tg0,tg,ts0,ts,hsub,hmp,ha,hko,hf,nR,mI];refine W.yes rfl (W.a ?_);simp only[go_sem,hlen0,tg0,tg,ts0,ts,hsub,hmp]
  (refine W.fg (hok1 _) (d:=B false) (by simp only[rL,go_sem];rfl) (by simp only[al,go_sem];exact au) ?_ (hn:=(hlen0 _)));exact⟨rfl,rfl⟩
 ·intro hc met' r hE;rw[hc,if_neg (by simp)]at hf;have hu:=KP t.n met hc;obtain⟨h0,hlt,_⟩:=ht.var (gb hs);obtain⟨i,hi⟩:=sD h0;have hil:i<s.length:=by omega
  rw[hi,rM hil]at hE;rw[hi]at hu hf hko h0 hlt;have hrow:=pX hil;have hle:i*4+4<=s.length*4:=by omega
  have hFl:=lf s;refine ux.go rfl (fun hok hsz=>?_);have hlen0:=F.len;have hok1:=fun c=>by have:=F.ok met c [];simp only[cw]at this;exact this hok
  have hsub:=fun a L=>hG (F.sub a) L;have hmp:=fun a L=>hG (F.mp a) L;have dk:=fun a c L=>by have:=hS (F.mp a) (.mp (gj c)) L;rw[F.set]at this;exact this
  have tg0:∀a x L,(U a++x::L)[m]?=some x:=fun a=>jH (hlen0 a);have tg:∀a k L,(U a++L)[m+k]?=L[k]?:=fun a=>iE (hlen0 a);have ts0:∀a x L,(U a++L).set m x=U a++L.set 0 x:=fun a=>mh (hlen0 a);have ts:∀a k x L,(U a++L).set (m+k) x=U a++L.set k x:=fun a=>mi (hlen0 a);generalize s[i]=y at*;generalize aK s=F' at*;generalize met++[(i:Int)]=met1 at*;clear hs ht hc;(refine W.a ?_;simp only[go_sem,rK,bne,hlen0,tg0,tg,ts0,ts,hsub,hmp]);(refine W.c1 (hSt _ (hsub _ _)) ?_;simp only[go_sem,hlen0,tg0,tg,ts0,ts,hsub,hmp])
  (refine W.a ?_;simp only[go_sem,hlen0,tg0,tg,ts0,ts,hsub,hmp]);refine W.yes rfl (W.a ?_);simp only[go_sem,hlen0,tg0,tg,ts0,ts,hsub,hmp,hi,ha,hko,hf,nR,Option.getD_none];refine W.no rfl (W.a ?_);simp only[go_sem,hlen0,tg0,tg,ts0,ts,hsub,hmp,hi,ha,hko,hu,dk];apply W.aS (aT _ _)
  case hc=>
   (apply ae.aq;simp only[go_sem,hlen0,tg0,tg,ts0,ts,hsub,hmp,hi,h0,hlt,hrow,hle,hFl]);(apply ae.call (hE _);(case hg=>rfl);(case hf=>rfl);(case ha=>first|rfl|simp));(apply ae.aq;simp only[go_sem,hlen0,tg0,tg,ts0,ts,hsub,hmp]);exact ae.nil
  (refine W.a ?_;simp only[go_sem,hlen0,tg0,tg,ts0,ts,hsub,hmp]);(refine W.fg (hok1 _) (d:=B r) (by simp only[rL,go_sem];rfl) (by simp only[al,go_sem];exact au) ?_ (hn:=(hlen0 _)));exact⟨rfl,rfl⟩
theorem K2(w0:World){s:List aa}{b bm m:Nat}{U:List Int->H}(F:jJ s b bm m U)(v:Int)(met met':List Int)(t:aa)(r:Bool)(p q o:Nat)(h:∀L,DC prog w0 279 [.vec b s.length,I v,t.v,.mp bm] (U met++L) (Same (B r) (U met'++L)))
  (hp:∀a,(U a)[p]?=some (.cells [.vec b s.length])) (hq:∀a,(U a)[q]?=some (.cells [I v])) (ho:∀a,(U a)[o]?=some (.cells [.mp bm])):DC prog w0 288 [t.v,.ptr p 0,.ptr q 0,.ptr o 0] (U met) (Same (B r) (U met')):=by
 refine KM.go rfl (fun hok hsz=>?_);have hlen0:=F.len;have hok1:=fun c=>by have:=F.ok met c [];simp only[cw]at this;exact this hok
 have hsub:=fun a L=>hG (F.sub a) L;have hmp:=fun a L=>hG (F.mp a) L;have dk:=fun a c L=>by have:=hS (F.mp a) (.mp (gj c)) L;rw[F.set]at this;exact this
 have tg0:∀a x L,(U a++x::L)[m]?=some x:=fun a=>jH (hlen0 a);have tg:∀a k L,(U a++L)[m+k]?=L[k]?:=fun a=>iE (hlen0 a);have ts0:∀a x L,(U a++L).set m x=U a++L.set 0 x:=fun a=>mh (hlen0 a);have ts:∀a k x L,(U a++L).set (m+k) x=U a++L.set k x:=fun a=>mi (hlen0 a);have hp2:=fun a L=>hG (hp a) L;have hq2:=fun a L=>hG (hq a) L;have ho2:=fun a L=>hG (ho a) L;(refine W.a ?_;simp only[go_sem,CN,hlen0,tg0,tg,ts0,ts,hsub,hmp,hp2,hq2,ho2]);(refine W.c1 (h _) ?_;simp only[go_sem]);(refine W.a ?_;simp only[go_sem,hlen0,tg0,tg,ts0,ts,hsub,hmp])
 (refine W.fg (hok1 _) (d:=B r) (by simp only[CO,go_sem];rfl) (by simp only[al,go_sem];exact au) ?_ (hn:=(hlen0 _)));exact⟨rfl,rfl⟩
mutual
theorem yB(w0:World){s:List aa}(hs:∀t∈s,aE s.length t)(hN:∀x∈s,aD x<=1000000){b bm:Nat}{v:Int}:∀{met met':List Int} {t:aa} {r:Bool},gX s v met t r met'->aE s.length t->aD t<=1000000->∀{m:Nat} {U:List Int->H},jJ s b bm m U->DC prog w0 279 [.vec b s.length,I v,t.v,.mp bm] (U met) (Same (B r) (U met'))
 |met,_,t,_,.seen h h1,ht,hn,m,U,F=>(K1 w0 F v met t ht h).1 h1
 |met,met',t,b',.go h h1 r,ht,hn,m,U,F=>by
  have hk:=gb h;obtain⟨h0,hlt,_⟩:=ht.var hk;have hm:=iA h0 hlt;exact(K1 w0 F v met t ht h).2 h1 met' b' (fun L=>yB w0 hs hN r (hs _ hm) (hN _ hm) (b:=b) (bm:=bm) (F.ext L))
 |met,_,t,_,.var h hk,ht,hn,m,U,F=>UB w0 F v met t ht hk h
 |met,met',t,b',.gW hk r,ht,hn,m,U,F=>by
  obtain⟨sts,k,hkl,e0,e1,e2,hno,hyes⟩:=K3 w0 hs hN r (fun u hu=>ht.dO hk hu) (fun u hu=>by have:=ka hu;rw[da]at hn;omega) (b:=b) (bm:=bm);have hl:t.l.length<=1000000:=by rw[da]at hn;have:=oC t.l;omega
  have F2:=F.ext [.cells [.vec b s.length],.cells [I v],.cells t.v.ai,.cells [.mp bm]];have hC:=KV w0 (fun a=>U a++[.cells [.vec b s.length],.cells [I v],.cells t.v.ai,.cells [.mp bm]]) _ F2.len (fun a c h=>by have:=F2.ok a c [];simp only[cw]at this;exact this h) t.l hl 288 [.ptr m 0,.ptr (m+1) 0,.ptr (m+3) 0] sts k hkl
   (fun i hi hik=>K2 w0 F2 v _ _ _ _ _ _ _ (fun L=>hno i hi hik (F2.ext L)) (fun a=>jH (F.len a) _ _) (fun a=>iE (F.len a) 1 _) (fun a=>iE (F.len a) 3 _))
   (fun hi=>K2 w0 F2 v _ _ _ _ _ _ _ (fun L=>hyes hi (F2.ext L)) (fun a=>jH (F.len a) _ _) (fun a=>iE (F.len a) 1 _) (fun a=>iE (F.len a) 3 _))
  rw[e0,<-e1,<-e2]at hC;exact UA w0 F v met met' t ht hk b' hC
theorem K3(w0:World){s:List aa}(hs:∀t∈s,aE s.length t)(hN:∀x∈s,aD x<=1000000){b bm:Nat}{v:Int}:∀{met met':List Int} {l:List aa} {r:Bool},om s v met l r met'->(∀u∈l,aE s.length u)->(∀u∈l,aD u<=1000000)->∃(sts:Nat->List Int) (k:Nat),k<=l.length/\sts 0=met/\r=decide (k<l.length)/\met'=sts (if k<l.length then k+1 else k)/\
  (∀i (hi:i<l.length),i<k->∀{m:Nat} {U:List Int->H},jJ s b bm m U->DC prog w0 279 [.vec b s.length,I v,l[i].v,.mp bm] (U (sts i)) (Same (B false) (U (sts (i+1)))))/\
  (∀(hi:k<l.length),∀{m:Nat} {U:List Int->H},jJ s b bm m U->DC prog w0 279 [.vec b s.length,I v,l[k].v,.mp bm] (U (sts k)) (Same (B true) (U (sts (k+1)))))
 |met,_,_,_,.nil,_,_=>⟨fun _=>met,0,aA _,rfl,rfl,rfl,fun i hi=>absurd hi (mL _),fun hi=>absurd hi (mL _)⟩
 |met,met',_,_,.yes (t:=t) (l:=l) r,ht,hn=>by
  have hx:=fun(m:Nat) (U:List Int->H) (F:jJ s b bm m U)=>yB w0 hs hN r (ht t (bu ..)) (hn t (bu ..)) F;exact⟨fun i=>match i with|0=>met|_+1=>met',0,bC _,rfl,by simp,by simp,fun i _ hi=>absurd hi (mL _),fun hi m U F=>hx _ _ F⟩
 |met,met',_,_,.no (m1:=m1) (t:=t) (l:=l) r rs,ht,hn=>by
  have hx:=fun(m:Nat) (U:List Int->H) (F:jJ s b bm m U)=>yB w0 hs hN r (ht t (bu ..)) (hn t (bu ..)) F;obtain⟨sts,k,hkl,e0,e1,e2,hno,hyes⟩:=K3 w0 hs hN rs (fun u hu=>ht u (bS _ hu)) (fun u hu=>hn u (bS _ hu)) (b:=b) (bm:=bm);refine⟨fun i=>match i with|0=>met|i+1=>sts i,k+1,by rw[bk];omega,rfl,by rw[e1,bk];simp,?_,fun i hi hik m U F=>?_,fun hi m U F=>?_⟩
  ·rw[e2,bk];by_cases h:k<l.length
   ·rw[if_pos h,if_pos (by omega)]
   ·rw[if_neg h,if_neg (by omega)]
  ·cases i with
   |zero=>simp only[e0];exact hx _ _ F
   |succ i=>exact hno i (by simpa using hi) (by omega) F
  ·exact hyes (by simpa using hi) F
end
theorem UC(s:List aa)(b:Nat)(σ:H)(hb:σ[b]?=some (.vec 34 4 (aK s)))(X:ad):jJ s b (σ.length+1) (σ.length+2) (fun a=>σ++[X,.mp (gj a)]) where
 len:=fun a=>by simp
 ok:=fun a c L h=>by
  intro B hB cs tg hc x hx;have hll:(σ++[X,.mp (gj a)]++L).length=(σ++[X,.mp (gj c)]++L).length:=by simp
  rw[<-hll];rcases cM.1 hB with hB|hB
  ·rcases cM.1 hB with hB|hB
   ·exact h B (jS _ (jS _ hB)) cs tg hc x hx
   ·simp only[List.mem_cons,List.not_mem_nil,or_false]at hB;rcases hB with rfl|rfl
    ·exact h B (jS _ (zL _ (bu ..))) cs tg hc x hx
    ·cases hc
  ·exact h B (zL _ hB) cs tg hc x hx
 sub:=fun a=>hG hb _
 mp:=fun a=>by
  rw[List.getElem?_append_right (by omega),ft];rfl
 set:=fun a c=>by
  rw[List.set_append_right _ _ (by omega),ft];rfl
theorem UD(w0:World){N:Nat}{s:List aa}(hR:ck N s)(hN:N<=1000000)(v:Int)(t:aa)(ht:aE s.length t)(hn:aD t<=N)(h0:0<=v)(hlt:v<s.length)(e:Int)(s':List aa)(hB:nd s v t e s')(b:Nat)(σ:H)(hb:σ[b]?=some (.vec 34 4 (aK s))):
  DC prog w0 259 [.vec b s.length,I v,t.v] σ (Same (I e) (σ.set b (.vec 34 4 (aK s')))):=by
 have hO:=fun r met (h:gX s v [] t r met)=>yB w0 hR.right.holds (fun x hx=>by have:=hR.size x hx;omega) h ht (by omega) (UC s b σ hb (.cells t.v.ai));have e0:gj []=[]:=rfl;cases hB with
 |yes h=>
  have hC:=hO _ _ h;simp only[e0,aa.v,V.ai,aX]at hC;rw[pg hb];refine CM.go rfl (fun hok hsz=>?_);(refine W.a ?_;simp only[go_sem,yy]);(refine W.c1 (hC) ?_;simp only[go_sem]);refine W.yes rfl (W.a ?_);simp only[go_sem];(refine W.fs (hok) (by simp only[yz,go_sem];rfl) ?_;simp only[al];try exact V.wk.rfl _)
 |no h=>
  have hC:=hO _ _ h;simp only[e0,aa.v,V.ai,aX]at hC;obtain⟨i,rfl⟩:=sD h0;have hil:i<s.length:=by omega
  have dk:=CQ hil t;have hle:i*4+4<=s.length*4:=by omega
  have hFl:=lf s;have hlen:=(aL.1 hb).1;rw[jk];generalize aK (s.set i t)=F2 at*;generalize aK s=F' at*
  have hb2:=fun L=>hG hb L;have hs2:=fun L=>hS hb (.vec 34 4 F2) L;refine CM.go rfl (fun hok hsz=>?_);have hok2:H.ok (σ.set b (.vec 34 4 F2)):=uB hok b _ _ _;(refine W.a ?_;simp only[go_sem,yy]);(refine W.c1 (hC) ?_;simp only[go_sem]);refine W.no rfl (W.a ?_);simp only[go_sem,h0,hlt,hb2,hle,hFl,dk,hs2];(refine W.fs (hok2) (by simp only[yz,go_sem];rfl) ?_;simp only[al];try exact V.wk.rfl _)
end Go.Proofs.YtdlkenpilhakfaaGreatDoor
namespace Go.Lamb
open Go Go.RowKit
def bV(p:aa×aa):List C:=[.int .i64 p.1.k,.str p.1.name,.int .i64 p.1.n,.sl (p.1.l.map aa.cs),.int .i64 p.2.k,.str p.2.name,.int .i64 p.2.n,.sl (p.2.l.map aa.cs)]
def aP(l:List (aa×aa)):List C:=(l.map bV).flatten
theorem rN(l:List (aa×aa)):∀r∈l.map bV,r.length=8:=fun r hr=>by
 obtain⟨u,_,rfl⟩:=List.mem_map.1 hr;rfl
theorem K4{n:Nat}{rows:List (List C)}(h:∀r∈rows,r.length=n):rows.flatten.length=rows.length*n:=by
 induction rows with
 |nil=>simp
 |cons r l ih=>
  rw[dW,bD,ih (fun q hq=>h q (bS _ hq)),h r (bu ..),bk,fo];omega
theorem K5{n:Nat}{rows:List (List C)}(h:∀r∈rows,r.length=n){i:Nat}(hi:i<rows.length):(rows.flatten.drop (i*n)).take n=rows[i]:=by
 have h1:=ti n rows.length rows.flatten i (by rw[wY];exact hi);rw[<-h1];have h2:=pf h;simp only[h2]
theorem K6{n:Nat}{rows:List (List C)}:(∀r∈rows,r.length=n)->∀{i:Nat} (hi:i<rows.length) (y:List C),y.length=n->rows.flatten.take (i*n)++y++rows.flatten.drop (i*n+n)=(rows.set i y).flatten:=by
 induction rows with
 |nil=>intro _ i hi;simp at hi
 |cons r l ih=>
  intro h i hi y hy;have hr:=h r (bu ..);cases i with
  |zero=>
   rw[List.set_cons_zero,dW,dW,Nat.zero_mul,List.take_zero,eH,Nat.zero_add]
   conv=>lhs;rw[<-hr,List.drop_left]
  |succ i=>
   have e1:(i+1)*n=r.length+i*n:=by rw[hr,fo];omega
   rw[List.set_cons_succ,dW,dW,<-ih (fun q hq=>h q (bS _ hq)) (by simpa using hi) y hy];rw[e1,List.take_append,eT (by omega),ft,Nat.add_assoc,List.drop_append,List.drop_of_length_le (by omega),ft,eH];simp only[dt]
theorem ia(l:List (aa×aa)):(aP l).length=l.length*8:=by unfold aP;rw[K4 (rN l),bW]
theorem uC(a b:List (aa×aa)):aP (a++b)=aP a++aP b:=by unfold aP;rw[List.map_append,List.flatten_append]
theorem UE{l:List (aa×aa)}{i:Nat}(hi:i<l.length):de 8 (fW (i*8) (aP l))=bV l[i]:=by
 have h:=K5 (rN l) (i:=i) (by rw[bW];exact hi);rw[dN]at h;exact h
theorem K7{l:List (aa×aa)}{i:Nat}(hi:i<l.length):de 8 (fW (i*8) (ik V.c (aP l)))=(bV l[i]).map V.c:=by
 rw[<-List.map_drop,<-List.map_take,UE hi]
theorem uD:∀(a b:List aa),a.length=b.length->(dm a b).length=a.length
 |[],[],_=>rfl
 |x::a,y::b,h=>by rw[dm,bk,uD a b (by simpa using h),bk]
 |[],_::_,h=>by cases h
 |_::_,[],h=>by cases h
theorem CU:∀(a b:List aa) (i:Nat) (h:i<(dm a b).length) (ha:i<a.length) (hb:i<b.length),(dm a b)[i]=(a[i],b[i])
 |x::a,y::b,0,_,_,_=>rfl
 |x::a,y::b,i+1,h,ha,hb=>by
  simp only[dm,List.getElem_cons_succ];exact CU a b i (by simpa[dm]using h) (by simpa using ha) (by simpa using hb)
end Go.Lamb
namespace Go.Proofs.YtdlkenpilhakfaaGreatDoor
open Go.RowKit Go.Lamb
attribute [local go_sem] aa.v aa.aM a7 bh aW aQ aX
def gH(m:Nat)(l:List (aa×aa)):V:=if l=[]then .ab []else .vec m l.length
def gI(σ:H)(l:List (aa×aa)):H:=if l=[]then σ else σ++[.vec 235 8 (aP l)]
theorem UF(w0:World){s:List aa}{a b x y:aa}(bs:Nat)(σ:H)(hb:σ[bs]?=some (.vec 34 4 (aK s)))
  (hx:∀σ,σ[bs]?=some (.vec 34 4 (aK s))->DC prog w0 191 [.vec bs s.length,a.v] σ (Same x.v σ)) (hy:∀σ,σ[bs]?=some (.vec 34 4 (aK s))->DC prog w0 191 [.vec bs s.length,b.v] σ (Same y.v σ)) (kx:(x.k==1)=true) (ky:(y.k==1)=true) (hn:(x.n==y.n)=true):DC prog w0 227 [.vec bs s.length,a.v,b.v] σ (Same (.ay [.ab [],I 0]) σ):=by
 refine ld.go rfl (fun hok hsz=>?_);(refine W.a ?_;simp only[go_sem,c227]);apply W.aS (aT _ _)
 case hc=>
  (apply ae.aq;simp only[go_sem]);(apply ae.call (hx _ (hG hb _));(case hg=>rfl);(case hf=>rfl);(case ha=>first|rfl|simp));(apply ae.aq;simp only[go_sem]);(apply ae.call (hy _ (hG hb _));(case hg=>rfl);(case hf=>rfl);(case ha=>first|rfl|simp));(apply ae.aq;simp only[go_sem]);exact ae.nil
 (refine W.a ?_;simp only[go_sem,kx,ky,hn]);refine W.yes rfl (W.a ?_);simp only[go_sem];(refine W.fs (hok) (by simp only[gZ,go_sem];rfl) ?_;simp only[al];try exact V.wk.rfl _)
theorem UG(w0:World){s:List aa}{a b x y:aa}(bs:Nat)(σ:H)(hb:σ[bs]?=some (.vec 34 4 (aK s)))
  (hx:∀σ,σ[bs]?=some (.vec 34 4 (aK s))->DC prog w0 191 [.vec bs s.length,a.v] σ (Same x.v σ)) (hy:∀σ,σ[bs]?=some (.vec 34 4 (aK s))->DC prog w0 191 [.vec bs s.length,b.v] σ (Same y.v σ)) (kx:(x.k==1)=true) (ky:(y.k==1)=true) (hn:(x.n==y.n)=false) (e:Int) (s':List aa)
  (hB:∀L,DC prog w0 259 [.vec bs s.length,I (max x.n y.n),(aJ (min x.n y.n)).v] (σ++L) (Same (I e) (σ.set bs (.vec 34 4 (aK s'))++L))):DC prog w0 227 [.vec bs s.length,a.v,b.v] σ (Same (.ay [.ab [],I e]) (σ.set bs (.vec 34 4 (aK s')))):=by
 refine ld.go rfl (fun hok hsz=>?_);have hok2:H.ok (σ.set bs (.vec 34 4 (aK s'))):=uB hok bs _ _ _;have hmx:(if y.n>x.n then y.n else x.n)=max x.n y.n:=by split<;>omega
 have hmn:(if y.n<x.n then y.n else x.n)=min x.n y.n:=by split<;>omega
 have hF:=fun σ=>KR w0 (min x.n y.n) σ;generalize max x.n y.n=q at*
 generalize aJ (min x.n y.n)=z at*
 generalize min x.n y.n=r at*
 (refine W.a ?_;simp only[go_sem,c227]);apply W.aS (aT _ _)
 case hc=>
  (apply ae.aq;simp only[go_sem]);(apply ae.call (hx _ (hG hb _));(case hg=>rfl);(case hf=>rfl);(case ha=>first|rfl|simp));(apply ae.aq;simp only[go_sem]);(apply ae.call (hy _ (hG hb _));(case hg=>rfl);(case hf=>rfl);(case ha=>first|rfl|simp));(apply ae.aq;simp only[go_sem]);exact ae.nil
 (refine W.a ?_;simp only[go_sem,kx,ky,hn]);refine W.no rfl (W.a ?_);simp only[go_sem,kx,ky,hn];refine W.yes rfl (W.a ?_);simp only[go_sem];apply W.aS (aT _ _)
 case hc=>
  (apply ae.aq;simp only[go_sem,hmx,hmn]);(apply ae.call (hF _);(case hg=>rfl);(case hf=>rfl);(case ha=>first|rfl|simp));(apply ae.aq;simp only[go_sem,hmx,hmn]);(apply ae.call (hB _);(case hg=>rfl);(case hf=>rfl);(case ha=>first|rfl|simp));(apply ae.aq;simp only[go_sem]);exact ae.nil
 (refine W.a ?_;simp only[go_sem]);(refine W.fs (hok2) (by simp only[gZ,go_sem];rfl) ?_;simp only[al];try exact V.wk.rfl _)
theorem UH(w0:World){s:List aa}{a b x y:aa}(bs:Nat)(σ:H)(hb:σ[bs]?=some (.vec 34 4 (aK s)))
  (hx:∀σ,σ[bs]?=some (.vec 34 4 (aK s))->DC prog w0 191 [.vec bs s.length,a.v] σ (Same x.v σ)) (hy:∀σ,σ[bs]?=some (.vec 34 4 (aK s))->DC prog w0 191 [.vec bs s.length,b.v] σ (Same y.v σ)) (kx:(x.k==1)=true) (ky:(y.k==1)=false) (e:Int) (s':List aa)
  (hB:∀L,DC prog w0 259 [.vec bs s.length,I x.n,y.v] (σ++L) (Same (I e) (σ.set bs (.vec 34 4 (aK s'))++L))):DC prog w0 227 [.vec bs s.length,a.v,b.v] σ (Same (.ay [.ab [],I e]) (σ.set bs (.vec 34 4 (aK s')))):=by
 refine ld.go rfl (fun hok hsz=>?_);have hok2:H.ok (σ.set bs (.vec 34 4 (aK s'))):=uB hok bs _ _ _;(refine W.a ?_;simp only[go_sem,c227]);apply W.aS (aT _ _)
 case hc=>
  (apply ae.aq;simp only[go_sem]);(apply ae.call (hx _ (hG hb _));(case hg=>rfl);(case hf=>rfl);(case ha=>first|rfl|simp));(apply ae.aq;simp only[go_sem]);(apply ae.call (hy _ (hG hb _));(case hg=>rfl);(case hf=>rfl);(case ha=>first|rfl|simp));(apply ae.aq;simp only[go_sem]);exact ae.nil
 (refine W.a ?_;simp only[go_sem,kx,ky]);refine W.no rfl (W.a ?_);simp only[go_sem,kx,ky];refine W.no rfl (W.a ?_);simp only[go_sem,kx,ky];refine W.yes rfl (W.a ?_);simp only[go_sem];(refine W.c1 (hB _) ?_;simp only[go_sem]);(refine W.a ?_;simp only[go_sem]);(refine W.fs (hok2) (by simp only[gZ,go_sem];rfl) ?_;simp only[al];try exact V.wk.rfl _)
theorem UI(w0:World){s:List aa}{a b x y:aa}(bs:Nat)(σ:H)(hb:σ[bs]?=some (.vec 34 4 (aK s)))
  (hx:∀σ,σ[bs]?=some (.vec 34 4 (aK s))->DC prog w0 191 [.vec bs s.length,a.v] σ (Same x.v σ)) (hy:∀σ,σ[bs]?=some (.vec 34 4 (aK s))->DC prog w0 191 [.vec bs s.length,b.v] σ (Same y.v σ)) (kx:(x.k==1)=false) (ky:(y.k==1)=true) (e:Int) (s':List aa)
  (hB:∀L,DC prog w0 259 [.vec bs s.length,I y.n,x.v] (σ++L) (Same (I e) (σ.set bs (.vec 34 4 (aK s'))++L))):DC prog w0 227 [.vec bs s.length,a.v,b.v] σ (Same (.ay [.ab [],I e]) (σ.set bs (.vec 34 4 (aK s')))):=by
 refine ld.go rfl (fun hok hsz=>?_);have hok2:H.ok (σ.set bs (.vec 34 4 (aK s'))):=uB hok bs _ _ _;(refine W.a ?_;simp only[go_sem,c227]);apply W.aS (aT _ _)
 case hc=>
  (apply ae.aq;simp only[go_sem]);(apply ae.call (hx _ (hG hb _));(case hg=>rfl);(case hf=>rfl);(case ha=>first|rfl|simp));(apply ae.aq;simp only[go_sem]);(apply ae.call (hy _ (hG hb _));(case hg=>rfl);(case hf=>rfl);(case ha=>first|rfl|simp));(apply ae.aq;simp only[go_sem]);exact ae.nil
 (refine W.a ?_;simp only[go_sem,kx,ky]);refine W.no rfl (W.a ?_);simp only[go_sem,kx,ky];refine W.no rfl (W.a ?_);simp only[go_sem,kx,ky];refine W.no rfl (W.a ?_);simp only[go_sem,kx,ky];refine W.yes rfl (W.a ?_);simp only[go_sem];(refine W.c1 (hB _) ?_;simp only[go_sem]);(refine W.a ?_;simp only[go_sem]);(refine W.fs (hok2) (by simp only[gZ,go_sem];rfl) ?_;simp only[al];try exact V.wk.rfl _)
theorem UJ(w0:World){s:List aa}{a b x y:aa}(bs:Nat)(σ:H)(hb:σ[bs]?=some (.vec 34 4 (aK s)))
  (hx:∀σ,σ[bs]?=some (.vec 34 4 (aK s))->DC prog w0 191 [.vec bs s.length,a.v] σ (Same x.v σ)) (hy:∀σ,σ[bs]?=some (.vec 34 4 (aK s))->DC prog w0 191 [.vec bs s.length,b.v] σ (Same y.v σ)) (kx:(x.k==1)=false) (ky:(y.k==1)=false) (hc:¬(x.k=y.k/\x.name=y.name/\x.l.length=y.l.length)):DC prog w0 227 [.vec bs s.length,a.v,b.v] σ (Same (.ay [.ab [],I 60]) σ):=by
 refine ld.go rfl (fun hok hsz=>?_);by_cases h1:x.k=y.k
 ·have c1:(x.k==y.k)=true:=by simp[h1]
  by_cases h2:x.name=y.name
  ·have c2:(x.name==y.name)=true:=by simp[h2]
   have h3:¬x.l.length=y.l.length:=fun h=>hc ⟨h1,h2,h⟩;have c3:((x.l.length:Int)==(y.l.length:Int))=false:=by simp;omega
   clear hc h1 h2 h3;(refine W.a ?_;simp only[go_sem,c227]);apply W.aS (aT _ _)
   case hc=>
    (apply ae.aq;simp only[go_sem]);(apply ae.call (hx _ (hG hb _));(case hg=>rfl);(case hf=>rfl);(case ha=>first|rfl|simp));(apply ae.aq;simp only[go_sem]);(apply ae.call (hy _ (hG hb _));(case hg=>rfl);(case hf=>rfl);(case ha=>first|rfl|simp));(apply ae.aq;simp only[go_sem]);exact ae.nil
   (refine W.a ?_;simp only[go_sem,kx,ky]);refine W.no rfl (W.a ?_);simp only[go_sem,kx,ky];refine W.no rfl (W.a ?_);simp only[go_sem,kx,ky];refine W.no rfl (W.a ?_);simp only[go_sem,kx,ky];refine W.no rfl (W.a ?_);simp only[go_sem,bne,c1,c2,c3];refine W.yes rfl (W.a ?_);simp only[go_sem];(refine W.fs (hok) (by simp only[gZ,go_sem];rfl) ?_;simp only[al];try exact V.wk.rfl _)
  ·have c2:(x.name==y.name)=false:=by simp[h2]
   clear hc h1 h2;(refine W.a ?_;simp only[go_sem,c227]);apply W.aS (aT _ _)
   case hc=>
    (apply ae.aq;simp only[go_sem]);(apply ae.call (hx _ (hG hb _));(case hg=>rfl);(case hf=>rfl);(case ha=>first|rfl|simp));(apply ae.aq;simp only[go_sem]);(apply ae.call (hy _ (hG hb _));(case hg=>rfl);(case hf=>rfl);(case ha=>first|rfl|simp));(apply ae.aq;simp only[go_sem]);exact ae.nil
   (refine W.a ?_;simp only[go_sem,kx,ky]);refine W.no rfl (W.a ?_);simp only[go_sem,kx,ky];refine W.no rfl (W.a ?_);simp only[go_sem,kx,ky];refine W.no rfl (W.a ?_);simp only[go_sem,kx,ky];refine W.no rfl (W.a ?_);simp only[go_sem,bne,c1,c2];refine W.yes rfl (W.a ?_);simp only[go_sem];(refine W.fs (hok) (by simp only[gZ,go_sem];rfl) ?_;simp only[al];try exact V.wk.rfl _)
 ·have c1:(x.k==y.k)=false:=by simp[h1]
  clear hc h1;(refine W.a ?_;simp only[go_sem,c227]);apply W.aS (aT _ _)
  case hc=>
   (apply ae.aq;simp only[go_sem]);(apply ae.call (hx _ (hG hb _));(case hg=>rfl);(case hf=>rfl);(case ha=>first|rfl|simp));(apply ae.aq;simp only[go_sem]);(apply ae.call (hy _ (hG hb _));(case hg=>rfl);(case hf=>rfl);(case ha=>first|rfl|simp));(apply ae.aq;simp only[go_sem]);exact ae.nil
  (refine W.a ?_;simp only[go_sem,kx,ky]);refine W.no rfl (W.a ?_);simp only[go_sem,kx,ky];refine W.no rfl (W.a ?_);simp only[go_sem,kx,ky];refine W.no rfl (W.a ?_);simp only[go_sem,kx,ky];refine W.no rfl (W.a ?_);simp only[go_sem,bne,c1];refine W.yes rfl (W.a ?_);simp only[go_sem];(refine W.fs (hok) (by simp only[gZ,go_sem];rfl) ?_;simp only[al];try exact V.wk.rfl _)
theorem UK(w0:World){s:List aa}{a b x y:aa}(bs:Nat)(σ:H)(hb:σ[bs]?=some (.vec 34 4 (aK s)))
  (hx:∀σ,σ[bs]?=some (.vec 34 4 (aK s))->DC prog w0 191 [.vec bs s.length,a.v] σ (Same x.v σ)) (hy:∀σ,σ[bs]?=some (.vec 34 4 (aK s))->DC prog w0 191 [.vec bs s.length,b.v] σ (Same y.v σ)) (kx:(x.k==1)=false) (ky:(y.k==1)=false) (h1:x.k=y.k) (h2:x.name=y.name) (h3:x.l.length=y.l.length) (hn:x.l.length<=1000000):DC prog w0 227 [.vec bs s.length,a.v,b.v] σ (Same (.ay [gH σ.length (dm x.l y.l),I 0]) (gI σ (dm x.l y.l))):=by
 have c1:(x.k==y.k)=true:=by simp[h1]
 have c2:(x.name==y.name)=true:=by simp[h2]
 have c3:((x.l.length:Int)==(y.l.length:Int))=true:=by simp[h3]
 have hzl:=uD x.l y.l h3;by_cases h0:x.l=[]
 ·have hz:dm x.l y.l=[]:=List.eq_nil_of_length_eq_zero (by rw[hzl,h0];rfl);have hl0:x.l.length=0:=by rw[h0];rfl
  unfold gH gI;rw[if_pos hz,if_pos hz];refine ld.go rfl (fun hok hsz=>?_);have z1:¬((0:Int)<(x.l.length:Int)):=by omega
  clear h1 h2 h3 h0 hz hzl;(refine W.a ?_;simp only[go_sem,c227]);apply W.aS (aT _ _)
  case hc=>
   (apply ae.aq;simp only[go_sem]);(apply ae.call (hx _ (hG hb _));(case hg=>rfl);(case hf=>rfl);(case ha=>first|rfl|simp));(apply ae.aq;simp only[go_sem]);(apply ae.call (hy _ (hG hb _));(case hg=>rfl);(case hf=>rfl);(case ha=>first|rfl|simp));(apply ae.aq;simp only[go_sem]);exact ae.nil
  (refine W.a ?_;simp only[go_sem,kx,ky]);refine W.no rfl (W.a ?_);simp only[go_sem,kx,ky];refine W.no rfl (W.a ?_);simp only[go_sem,kx,ky];refine W.no rfl (W.a ?_);simp only[go_sem,kx,ky];refine W.no rfl (W.a ?_);simp only[go_sem,bne,c1,c2,c3];refine W.no rfl (W.a ?_);simp only[go_sem];refine W.bB (α:=Unit) (fun _=>True) (fun _=>⟨(((base.put (some 8) (.ab [])).put (some 96) (I (x.l.length:Int))).put (some 97) (I 0)),σ⟩) (fun _=>0) () trivial ?_ (fun _ _=>?_)
  ·(refine ao.drop ?_ (aA _) (hok) ?_;exact aF;(repeat' (first|exact aZ.base _|(refine aZ.put ?_ (by first|exact .c _|(simp only[go_sem];done)|exact V.gT _ _)))))
  (refine W.a ?_;simp only[go_sem,z1]);refine W.no rfl (W.a ?_);simp only[go_sem];(refine W.fs (hok) (by simp only[gZ,go_sem];rfl) ?_;simp only[al];try exact V.wk.rfl _)
 ·have hpos:0<x.l.length:=List.length_pos_iff.2 h0;have hz:dm x.l y.l≠[]:=fun e=>by rw[e]at hzl;simp at hzl;omega
  unfold gH gI;rw[if_neg hz,if_neg hz];refine DC.Hy ?_;refine ld.dL rfl (fun hok hsz=>?_);have hrow:∀i (hi:i<x.l.length) (hi':i<y.l.length),aP ((dm x.l y.l).take (i+1))=aP ((dm x.l y.l).take i)++bV (x.l[i],y.l[i]):=fun i hi hi'=>by
   have hz':i<(dm x.l y.l).length:=by omega
   rw[List.take_succ_eq_append_getElem hz',uC,CU _ _ _ hz' hi hi'];simp[aP]
  have hlen:∀i,i<=x.l.length->(aP ((dm x.l y.l).take i)).length=i*8:=fun i hi=>by rw[ia,List.length_take];omega
  have hend:(dm x.l y.l).take x.l.length=dm x.l y.l:=by rw[<-hzl,List.take_length]
  generalize dm x.l y.l=Z at*
  (refine W.a ?_;simp only[go_sem,c227]);apply W.aS (aT _ _)
  case hc=>
   (apply ae.aq;simp only[go_sem]);(apply ae.call (hx _ (hG hb _));(case hg=>rfl);(case hf=>rfl);(case ha=>first|rfl|simp));(apply ae.aq;simp only[go_sem]);(apply ae.call (hy _ (hG hb _));(case hg=>rfl);(case hf=>rfl);(case ha=>first|rfl|simp));(apply ae.aq;simp only[go_sem]);exact ae.nil
  (refine W.a ?_;simp only[go_sem,kx,ky]);refine W.no rfl (W.a ?_);simp only[go_sem,kx,ky];refine W.no rfl (W.a ?_);simp only[go_sem,kx,ky];refine W.no rfl (W.a ?_);simp only[go_sem,kx,ky];refine W.no rfl (W.a ?_);simp only[go_sem,bne,c1,c2,c3];refine W.no rfl (W.a ?_);simp only[go_sem];refine W.bB (α:=Option (Nat×H)) (fun o=>match o with|none=>True|some (i,_)=>1<=i/\i<=x.l.length) (fun o=>match o with
   |none=>⟨(((((base.put (some 4) (.ptr σ.length 0)).put (some 5) (.ptr (σ.length+1) 0)).put (some 8) (.ab [])).put (some 96) (I (x.l.length:Int))).put (some 97) (I 0)),σ++[.cells x.v.ai,.cells y.v.ai]⟩
   |some (i,J)=>⟨(((((base.put (some 4) (.ptr σ.length 0)).put (some 5) (.ptr (σ.length+1) 0)).put (some 8) (.vec (σ.length+(J.length+2)) i)).put (some 96) (I (x.l.length:Int))).put (some 97) (I (i:Int))),σ++ .cells x.v.ai:: .cells y.v.ai::(J++[.vec 235 8 (aP (Z.take i))])⟩) (fun o=>match o with|none=>x.l.length+1|some (i,_)=>x.l.length-i) none trivial ?_ (fun o ho=>?_)
  ·dsimp only
   (refine ao.env ?_;exact aF)
  cases o with
  |none=>
   dsimp only
   have z1:((0:Int)<(x.l.length:Int)):=by omega
   have z2:((0:Int)<(y.l.length:Int)):=by omega
   have hx0:x.l[0]?=some x.l[0]:=aO hpos;have hy0:y.l[0]?=some y.l[0]:=aO (by omega);have hr:=hrow 0 hpos (by omega);rw[show aP (Z.take 0)=[]from rfl,eH]at hr;have hw:aN.wrap (0+1)=((1:Nat):Int):=by decide
   generalize x.l[0]=u at*;generalize y.l[0]=v at*
   (refine W.a ?_;simp only[go_sem,z1]);refine W.yes rfl (W.a ?_);simp only[go_sem];apply W.aS (aT _ _)
   case hc=>
    iterate 13 (apply ae.quiet (dJ.step rfl (by(simp only[go_sem,z1,z2,hx0,hy0,bQ]);rfl));case hp=>(intro τ hτ;simp at hτ))
    apply ae.bL
    case h=>exact fh.vec (x:=.t 100) (y:=.t 112) (e:=235) (size:=8) (bytes:=112) (olds:=[]) (news:=[bV (u,v)]) rfl rfl rfl rfl ⟨by simp,(fun r hr=>by cases hr),(fun r hr=>by simp at hr;subst hr;rfl),by simp,by simp⟩
    (apply ae.aq;simp only[go_sem,bD,dW,lH,bV]);exact ae.nil
   (refine W.a ?_;simp only[go_sem,hw]);refine .inv ⟨some (1,[]),⟨aA _,hpos⟩,by dsimp only;omega,?_⟩;dsimp only
   rw[hr];(refine ao.env ?_;exact aF)
  |some q=>
   obtain⟨i,J⟩:=q;obtain⟨hi1,hi⟩:=ho;dsimp only
   have e1:∀w:ad,(J++[w])[J.length]?=some w:=fun w=>by simp
   have e2:∀w z:ad,(J++[w]).set J.length z=J++[z]:=fun w z=>by simp
   have hFl:=hlen i hi;by_cases hlt:i<x.l.length
   ·have z1:((i:Int)<(x.l.length:Int)):=by omega
    have z2:((i:Int)<(y.l.length:Int)):=by omega
    have z0:(0:Int)<=(i:Int):=by omega
    have hx0:x.l[i]?=some x.l[i]:=aO hlt;have hy0:y.l[i]?=some y.l[i]:=aO (by omega);have hr:=hrow i hlt (by omega);have hw:aN.wrap ((i:Int)+1)=((i+1:Nat):Int):=by rw[bn]<;>omega
    have b1:(i+1)*112<=140737488355328:=by omega
    have b2:i+1<=140737488355328:=by omega
    have b3:i<=140737488355327:=by omega
    have htk:de (i*8) (aP (Z.take i))=aP (Z.take i):=eT (by omega);have hle:i*8<=i*8:=aA _;have hne:∀r:List C,([r]=[])=False:=fun r=>by simp
    simp only[bV]at hr;generalize x.l[i]=u at*;generalize y.l[i]=v at*;generalize aP (Z.take i)=F at*
    (refine W.a ?_;simp only[go_sem,z1]);refine W.yes rfl (W.a ?_);simp only[go_sem];apply W.aS (aT _ _)
    case hc=>
     (apply ae.aq;simp only[go_sem,z0,z1,z2,hx0,hy0,e1,e2,hFl,htk,b1,b2,b3,hle,hne,ne_eq,not_false_eq_true,dW,lH]);exact ae.nil
    (refine W.a ?_;simp only[go_sem,hw]);refine .inv ⟨some (i+1,J++[.gone]),⟨by omega,hlt⟩,by dsimp only;omega,?_⟩;dsimp only
    rw[hr];simp only[go_sem,bD];(refine ao.env ?_;exact aF)
   obtain rfl:i=x.l.length:=by omega
   have z1:¬((x.l.length:Nat):Int)<((x.l.length:Nat):Int):=by omega
   (refine W.a ?_;simp only[go_sem,z1]);refine W.no rfl (W.a ?_);simp only[go_sem];refine W.ret ⟨_,_,(by simp only[bA,gZ,go_sem];rfl),.rfl _,?_⟩;rw[hend];exact⟨.cells x.v.ai:: .cells y.v.ai::J,[],by rw[hzl];rfl,by simp[aa.v,V.ai,aX]⟩
end Go.Proofs.YtdlkenpilhakfaaGreatDoor
namespace Go.Lamb
open Go Go.RowKit
theorem uE{s:List aa}(hs:∀t∈s,aE s.length t){t u:aa}{n:Nat}(r:gd s t u n):aE s.length t->aE s.length u/\bI s u=false:=by
 induction r with
 |stop h=>exact fun ht=>⟨ht,h⟩
 |go h r ih=>
  intro ht;obtain⟨h0,h1,_⟩:=ht.var (gb h);exact ih (hs _ (iA h0 h1))
theorem CV{α:Type}{l:List α}{i:Nat}{x:α}(h:l[i]?=some x):l.set i x=l:=by
 apply List.ext_getElem?;intro j;rw[List.getElem?_set];split
 ·rename_i e;subst e;split
  ·exact h.symm
  ·rename_i hh;rw[List.getElem?_eq_none (by omega)]at h;cases h
 ·rfl
end Go.Lamb
namespace Go.Proofs.YtdlkenpilhakfaaGreatDoor
open Go.RowKit Go.Lamb
theorem UL(w0:World){N:Nat}{s:List aa}(hR:ck N s)(hN1:1<=N)(hN:N<=1000000)(hs:s.length<=1000000){a b:aa}(hp:ef s.length N (a,b)){l:List (aa×aa)}{e:Int}{s':List aa}(h:kY s a b l e s')
  (bs:Nat) (σ:H) (hb:σ[bs]?=some (.vec 34 4 (aK s))):
  DC prog w0 227 [.vec bs s.length,a.v,b.v] σ (Same (.ay [gH σ.length l,I e]) (gI (σ.set bs (.vec 34 4 (aK s'))) l)):=by
 obtain⟨ha,hb',na,nb⟩:=hp;have hlt:=(aL.1 hb).1;have hmem:∀x,aE s.length x->bI s x=true->cc s x.n∈s/\aE s.length (cc s x.n):=fun x hx hs=>by
  obtain⟨h0,h1,_⟩:=hx.var (gb hs);exact⟨iA h0 h1,hR.right.holds _ (iA h0 h1)⟩
 cases h with
 |@mk x y n m l e s' r1 r2 h=>
  obtain⟨hx,sx⟩:=uE hR.right.holds r1 ha;obtain⟨hy,sy⟩:=uE hR.right.holds r2 hb';have nx:=pq hR.size r1 hmem ha na;have ny:=pq hR.size r2 hmem hb' nb;have dx:=fun σ hb=>yA w0 s hR.right.holds a x n r1 ha bs σ hb;have dy:=fun σ hb=>yA w0 s hR.right.holds b y m r2 hb' bs σ hb;have key:∀(v:Int) (t:aa) (ht:aE s.length t) (hn:aD t<=N) (h0:0<=v) (hv:v<s.length) (e:Int) (s':List aa) (hB:nd s v t e s') (L:H),DC prog w0 259 [.vec bs s.length,I v,t.v] (σ++L) (Same (I e) (σ.set bs (.vec 34 4 (aK s'))++L)):=fun v t ht hn h0 hv e s' hB L=>by
   have:=UD w0 hR hN v t ht hn h0 hv e s' hB bs (σ++L) (hG hb L);rwa [List.set_append_left _ _ hlt]at this
  have stV:gH σ.length []= .ab []:=rfl;have stH:∀τ:H,gI τ []=τ:=fun τ=>rfl;rcases h with⟨kx,ky,he,rfl,rfl,rfl⟩|⟨kx,ky,he,rfl,hB⟩|⟨kx,ky,rfl,hB⟩|⟨kx,ky,rfl,hB⟩|⟨kx,ky,hc,rfl,rfl,rfl⟩|⟨kx,ky,⟨c1,c2,c3⟩,rfl,rfl,rfl⟩
  ·rw[stV,stH,CV hb];exact UF w0 bs σ hb dx dy (by simp[kx]) (by simp[ky]) (by simp[he])
  ·obtain⟨x0,x1,_⟩:=hx.var kx;obtain⟨y0,y1,_⟩:=hy.var ky;rw[stV,stH];exact UG w0 bs σ hb dx dy (by simp[kx]) (by simp[ky]) (by simp[he]) e s' (key _ _ (iB (v:=min x.n y.n) (by omega) (by omega) hs) (by rw[da];simp[aJ,aa.l,bR];exact hN1) (by omega) (by omega) e s' hB)
  ·obtain⟨x0,x1,_⟩:=hx.var kx;rw[stV,stH];exact UH w0 bs σ hb dx dy (by simp[kx]) (by simp[ky]) e s' (key _ _ hy ny x0 x1 e s' hB)
  ·obtain⟨y0,y1,_⟩:=hy.var ky;rw[stV,stH];exact UI w0 bs σ hb dx dy (by simp[kx]) (by simp[ky]) e s' (key _ _ hx nx y0 y1 e s' hB)
  ·rw[stV,stH,CV hb];exact UJ w0 bs σ hb dx dy (by simp[kx]) (by simp[ky]) hc
  ·rw[CV hb];exact UK w0 bs σ hb dx dy (by simp[kx]) (by simp[ky]) c1 c2 c3 (by have:=oC x.l;rw[da]at nx;omega)
end Go.Proofs.YtdlkenpilhakfaaGreatDoor
namespace Go.Lamb
open Go Go.RowKit
def eg{α:Type}(l:List α)(i:Nat):List α:=List.ofFn (n:=l.length) fun j=>if j.1<i\/l.length-i<=j.1 then l[l.length-1-j.1]'(by omega)else l[j.1]
theorem lg{α:Type}(l:List α)(i:Nat):(eg l i).length=l.length:=by unfold eg;simp
theorem rO{α:Type}(l:List α)(i j:Nat)(hj:j<(eg l i).length)(hj':j<l.length):(eg l i)[j]=if j<i\/l.length-i<=j then l[l.length-1-j]'(by omega)else l[j]:=by
 simp only[eg,List.getElem_ofFn]
theorem UM{α:Type}(l:List α):eg l 0=l:=by
 apply zA (lg l 0);intro j h1 h2;rw[rO l 0 j h1 h2,if_neg (by omega)]
theorem UN{α:Type}(l:List α)(i:Nat)(h:l.length<=2*i+1):eg l i=l.reverse:=by
 apply zA (by rw[lg,List.length_reverse]);intro j h1 h2;have h3:j<l.length:=by rw[lg]at h1;exact h1
 rw[rO l i j h1 h3,List.getElem_reverse];split
 ·rfl
 ·congr 1;omega
theorem UO{α:Type}(l:List α)(i:Nat)(h:2*i+1<l.length):eg l (i+1)=((eg l i).set i (l[l.length-1-i]'(by omega))).set (l.length-1-i) (l[i]'(by omega)):=by
 apply zA (by rw[bF,bF,lg,lg]);intro j h1 h2;have h3:j<l.length:=by rw[lg]at h1;exact h1
 rw[rO l (i+1) j h1 h3,EU,EU];by_cases e1:l.length-1-i=j
 ·rw[if_pos e1,if_pos (by omega)];congr 1;omega
 ·rw[if_neg e1];by_cases e2:i=j
  ·subst e2;rw[if_pos rfl,if_pos (by omega)]
  ·rw[if_neg e2,rO l i j (by rw[lg];exact h3) h3];by_cases e3:j<i\/l.length-i<=j
   ·rw[if_pos e3,if_pos (by omega)]
   ·rw[if_neg e3,if_neg (by omega)]
theorem K8{l:List (aa×aa)}{i:Nat}(hi:i<l.length)(p:aa×aa):de (i*8) (aP l)++ .int .i64 p.1.k:: .str p.1.name:: .int .i64 p.1.n:: .sl (p.1.l.map aa.cs):: .int .i64 p.2.k:: .str p.2.name:: .int .i64 p.2.n:: .sl (p.2.l.map aa.cs)::fW (i*8+8) (aP l)=aP (l.set i p):=by
 have h:=K6 (rN l) (i:=i) (by rw[bW];exact hi) (bV p) rfl;rw[dt]at h;unfold aP;rw[ET];exact h
end Go.Lamb
namespace Go.Proofs.YtdlkenpilhakfaaGreatDoor
open Go.RowKit Go.Lamb
attribute [local go_sem] aa.v aa.aM a7 bh aW aQ aX
theorem uF(w0:World)(l:List (aa×aa))(hl:l.length<=1000000)(b:Nat)(σ:H)(hb:σ[b]?=some (.vec 235 8 (aP l))):
  DC prog w0 180 [.vec b l.length] σ (Same (.ay []) (σ.set b (.vec 235 8 (aP l.reverse)))):=by
 refine CB.go rfl (fun hok hsz=>?_);(refine W.a ?_;simp only[go_sem,yq]);have hlt:=(aL.1 hb).1;refine W.bB (α:=Nat) (fun i=>i=0\/2*i<=l.length) (fun i=>⟨(((base.put (some 0) (.vec b l.length)).put (some 2) (I (i:Int))).put (some 3) (I ((l.length:Int)-1-i))),σ.set b (.vec 235 8 (aP (eg l i)))⟩) (fun i=>l.length-i) 0 (.inl rfl) ?_ (fun i hi=>?_)
 ·rw[UM,pg hb];have e1:aN.wrap ((l.length:Int)-1)=(l.length:Int)-1-((0:Nat):Int):=by rw[bn]<;>omega
  try rw[e1]
  (refine ao.env ?_;exact aF)
 by_cases hc:2*i+1<l.length
 ·have z1:(i:Int)<(l.length:Int)-1-i:=by omega
  have hs:=UO l i hc;have hi1:i<(eg l i).length:=by rw[lg];omega
  have hj1:l.length-1-i<(eg l i).length:=by rw[lg];omega
  have g1:=rO l i i hi1 (by omega);have g2:=rO l i (l.length-1-i) hj1 (by omega);rw[if_neg (by omega)]at g1 g2;rw[<-g1,<-g2]at hs;have r1:=K7 hi1;have r2:=K7 hj1;obtain⟨j,hj⟩:∃j:Nat,j=l.length-1-i:=⟨_,rfl⟩;have ej:(l.length:Int)-1-i=(j:Int):=by omega
  have w1:aN.wrap ((i:Int)+1)=((i+1:Nat):Int):=by rw[bn]<;>omega
  have w2:aN.wrap ((j:Int)-1)=(l.length:Int)-1-((i+1:Nat):Int):=by rw[bn]<;>omega
  have hF:=ia (eg l i);rw[lg]at hF;simp only[<-hj]at hs hj1 g2 r2;have s1:=K8 hi1 (eg l i)[j];have hj2:j<((eg l i).set i (eg l i)[j]).length:=by rw[bF];exact hj1
  have s2:=K8 hj2 (eg l i)[i];rw[<-hs]at s2;have hF2:=ia ((eg l i).set i (eg l i)[j]);rw[bF,lg]at hF2;rw[ej];have z2:(i:Int)<(j:Int):=by omega
  clear z1;have hlt2:(i:Int)<(l.length:Int):=by omega
  have hlt3:(j:Int)<(l.length:Int):=by omega
  have p1:(0:Int)<=(i:Int):=by omega
  have p2:(0:Int)<=(j:Int):=by omega
  have b1:i*8+8<=l.length*8:=by omega
  have b2:j*8+8<=l.length*8:=by omega
  simp only[bV,List.map_cons,du]at r1 r2;generalize aP ((eg l i).set i (eg l i)[j])=F2 at*;generalize (eg l i)[i]=u at*;generalize (eg l i)[j]=v at*;obtain⟨F3,hF3⟩:∃F3,F3=aP (eg l (i+1)):=⟨_,rfl⟩;rw[<-hF3]at s2;generalize aP (eg l i)=F1 at*
  have hg:=fun x=>Gb (σ:=σ) (r:=b) x hlt;(refine W.a ?_;simp only[go_sem,z2]);refine W.yes rfl (W.a ?_);simp only[go_sem];apply W.aS (aT _ _)
  case hc=>
   (apply ae.aq;simp only[go_sem,hg,z2,hlt2,hlt3,p1,p2,r1,r2,hF,b1,b2,s1,s2,hF2]);exact ae.nil
  (refine W.a ?_;simp only[go_sem,w1,w2]);refine .inv ⟨i+1,.inr (by omega),by omega,?_⟩;rw[<-hF3];(refine ao.env ?_;exact aF)
 have z1:¬(i:Int)<(l.length:Int)-1-i:=by omega
 (refine W.a ?_;simp only[go_sem,z1]);refine W.no rfl ?_;have hok2:H.ok (σ.set b (.vec 235 8 (aP l.reverse))):=uB hok b _ _ _;rw[UN l i (by omega)];(refine W.a ?_;simp only[go_sem]);exact .done (Fin.lQ (vs:=[]) hok2 (bF ..) rfl (.rfl _) (by simp[al,AE]) (cw _).symm)
end Go.Proofs.YtdlkenpilhakfaaGreatDoor
