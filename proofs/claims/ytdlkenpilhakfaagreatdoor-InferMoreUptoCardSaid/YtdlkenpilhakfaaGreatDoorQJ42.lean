/- . -/
import Derived.Test.YtdlkenpilhakfaaGreatDoorQJ38
import Derived.Test.YtdlkenpilhakfaaGreatDoorQTm3
import Derived.Test.YtdlkenpilhakfaaGreatDoorQJ39
import Derived.Test.YtdlkenpilhakfaaGreatDoorChecked
import Derived.Test.YtdlkenpilhakfaaGreatDoorQJ17
import Derived.Test.YtdlkenpilhakfaaGreatDoorQJ16
set_option linter.unusedSimpArgs false
set_option linter.unusedVariables false
set_option maxHeartbeats 8000000
set_option maxRecDepth 20000
open Go.IntKind renaming i64->aW
open Int renaming eq_ofNat_of_zero_le->sM,toNat_natCast->jX
open List renaming append_assoc->dc,append_nil->cq,cons_ne_nil->aS,drop->fV,drop_of_length_le->sI,ext_getElem->wb,flatten_cons->dU,flatten_nil->lN,getD_eq_getElem?_getD->cc,getElem?_eq_getElem->aR,getElem?_eq_some_iff->aK,getElem_map->dE,getElem_set->Fk,length_append->bt,length_cons->bo,length_map->cd,length_set->bC,map->il,map_nil->dT,map_set->Fj,mem_append->cH,mem_append_left->jY,mem_append_right->zX,mem_cons_of_mem->bW,mem_cons_self->bp,mem_map->dK,nil_append->er,replicate->v7,take->dM,take_of_length_le->fj,take_zero->dj
open Nat renaming add_assoc->jk,add_mul->fi,add_sub_cancel_left->fm,le_refl->aA,lt_irrefl->oW,mul_one->gN,not_lt_zero->mU,zero_add->eF,zero_le->bx
open Option renaming getD_some->ir
open Go.Proofs.Tryz
namespace Go.Lamb
open Go Go.RowKit
theorem Uv{rows:List (List C)}(h:∀r∈rows,r.length=4){i:Nat}(hi:i<rows.length):(rows.flatten.drop (i*4)).take 4=rows[i]:=by
 have h1:=tx 4 rows.length rows.flatten i (by rw[w9];exact hi);rw[<-h1];have h2:=ph h;simp only[h2]
theorem Uw{rows:List (List C)}:(∀r∈rows,r.length=4)->rows.flatten.length=rows.length*4:=by
 induction rows with
 |nil=>intro _;rfl
 |cons r l ih=>
  intro h;rw[dU,bt,ih (fun q hq=>h q (bW _ hq)),h r (bp ..),bo];omega
theorem Ux{rows:List (List C)}:(∀r∈rows,r.length=4)->∀{i:Nat} (hi:i<rows.length) (y:List C),y.length=4->rows.flatten.take (i*4)++y++rows.flatten.drop (i*4+4)=(rows.set i y).flatten:=by
 induction rows with
 |nil=>intro _ i hi;simp at hi
 |cons r l ih=>
  intro h i hi y hy;have hr:=h r (bp ..);cases i with
  |zero=>
   rw[List.set_cons_zero,dU,dU,Nat.zero_mul,dj,er,eF,<-hr,List.drop_left]
  |succ i=>
   rw[List.set_cons_succ,dU,dU,<-ih (fun q hq=>h q (bW _ hq)) (by simpa using hi) y hy];have e1:(i+1)*4=r.length+i*4:=by rw[hr];omega
   rw[e1,List.take_append,fj (by omega),fm,jk,List.drop_append,sI (by omega),fm,er];simp only[dc]
theorem kz(l:List aa):∀r∈l.map aa.cs,r.length=4:=fun r hr=>by
 obtain⟨u,_,rfl⟩:=dK.1 hr;rw[aa.aM];rfl
end Go.Lamb
namespace Go.Proofs.YtdlkenpilhakfaaGreatDoor
open Go.RowKit Go.Lamb
def yz:AC:=rsq [.o 3 (.box 0),.o 4 (.box 1),.o 6 (.box (.k (.agg zS4))),.o 7 (.af (zK 0)),.o 8 (.af (zK 0))] (.seq (rif [.d 11 4 3,.k 12 183 [11],.o 13 (.un .not 12)] 13 (rsq [.o 14 (.build zS4 []),.s 4 6 14,.o 7 (.af (zK 0)),.o 8 (.af (zK 1))] .ret) .skip) (rsq [.m 16 2,.d 17 4 3,.o 18 (.call 16 [17,4]),.m 15 18,.x 19 15 0,.x 20 15 1,.o 9 (.box (.k (.agg zS4))),.s 4 9 19,.m 10 20] (.seq (rif [.m 21 10,.o 22 (.bin .neq 21 (zK 0))] 22 (rsq [.o 23 (.build zS4 []),.m 24 10,.s 4 6 23,.o 7 (.af (zK 0)),.m 8 24] .ret) .skip) (.seq (drg [.d 25 4 9,.l 26 4,.s 4 6 25,.m 7 26,.o 8 (.af (zK 0))] [0,102,1,203,204]) .ret))))
def uE:List aw:=[.bj 4 6,.tmp 7,.tmp 8]
theorem CQ:az prog 129 3 Tryz.f129 yz uE:=.auto func129
def c130:AC:=rsq [.o 2 (.box 0),.o 4 (.box (.k (.agg zS4))),.o 5 (.af (zK 0))] (rsq [.d 13 4 2,.m 14 1,.k 15 184 [13,14],.m 12 15,.x 16 12 0,.x 17 12 1,.s 4 2 16,.m 6 17] (.seq (rif [.m 18 6,.o 19 (.bin .neq 18 (zK 0))] 19 (rsq [.o 20 (.build zS4 []),.m 21 6,.s 4 4 20,.m 5 21] .ret) .skip) (.seq (rif [.f 22 0 2,.l 23 22,.o 24 (.bin .eql 23 (zK 5))] 24 (rsq [.f 26 3 2,.l 27 26,.o 28 (.aI 4 27 (zK 0)),.d 29 4 28,.m 30 1,.k 31 130 [29,30],.m 25 31,.x 32 25 0,.x 33 25 1,.o 7 (.box (.k (.agg zS4))),.s 4 7 32,.m 8 33] (.seq (rif [.m 34 8,.o 35 (.bin .neq 34 (zK 0))] 35 (rsq [.o 36 (.build zS4 []),.m 37 8,.s 4 4 36,.m 5 37] .ret) .skip) (rsq [.d 38 4 7,.k 39 118 [(zK 1),38],.s 4 4 39,.o 5 (.af (zK 0))] .ret))) .skip) (rsq [.f 40 3 2,.l 41 40,.k 42 185 [41],.m 9 42] (.seq (rsq [.m 43 9,.o 44 (.aO 43),.o 45 (.af (zK 0))] (.block 0 (.loop (rsq [.o 46 (.bin .lss 45 44)] (.seq (.cond 46 .skip (.exit 0)) (.seq (.block 1 (rsq [.m 47 45,.o 48 (.aI 4 43 45),.d 49 4 48,.o 11 (.box (.k (.agg zS4))),.m 10 47,.s 4 11 49] (rsq [.m 51 9,.m 52 10,.d 53 4 11,.m 54 1,.k 55 130 [53,54],.m 50 55,.x 56 50 0,.x 57 50 1,.o 58 (.aI 4 51 52),.s 4 58 56,.m 6 57] (rif [.m 59 6,.o 60 (.bin .neq 59 (zK 0))] 60 (rsq [.o 61 (.build zS4 []),.m 62 6,.s 4 4 61,.m 5 62] .ret) .skip)))) (.aG [.o 63 (.bin .add 45 (zK 1)),.m 45 63]))))))) (rsq [.m 64 9,.f 65 3 2,.s 1 65 64] (rsq [.d 66 4 2,.s 4 4 66,.o 5 (.af (zK 0))] .ret)))))))
def oC:List aw:=[.bj 4 4,.tmp 5]
theorem K3:az prog 130 2 Tryz.f130 c130 oC:=.auto func130
def c131:AC:=rsq [.o 1 (.box 0),.o 2 (.box (.k (.agg zS4))),.o 3 (.af zF)] (rsq [.f 6 3 1,.l 7 6,.o 8 (.aO 7),.o 9 (.bin .sub 8 (zK 1)),.m 4 9] (.seq (rif [.f 10 0 1,.l 11 10,.o 12 (.bin .neq 11 (zK 6)),.m 13 12,.z 14 (.aX 3 1) 13,.z 15 (.aU 14) 13,.z 16 (.af 4) 13,.z 17 (.aI 4 15 16) 13,.z 18 (.aX 0 17) 13,.z 19 (.aU 18) 13,.z 20 (.bin .neq 19 (zK 3)) 13,.o 21 (.pick 13 zT 20),.m 22 21,.z 23 (.aX 3 1) 22,.z 24 (.aU 23) 22,.z 25 (.af 4) 22,.z 26 (.aI 4 24 25) 22,.z 27 (.aX 2 26) 22,.z 28 (.aU 27) 22,.z 29 (.bin .neq 28 (zK 0)) 22,.o 30 (.pick 22 zT 29)] 30 (rsq [.o 31 (.build zS4 []),.s 4 2 31,.o 3 (.af zF)] .ret) .skip) (.seq (drg [.f 32 3 1,.l 33 32,.o 34 (.aI 4 33 (zK 0)),.d 35 4 34,.f 36 3 1,.l 37 36,.m 38 4,.o 39 (.jq 4 37 (some (zK 1)) (some 38) none),.k 40 69 [35,39],.o 5 (.box (.k (.agg zS4))),.s 4 5 40] [109,0,1,2,3,4,5,6,7,8,310]) (.seq (rif [.d 41 4 5,.k 42 186 [41,(zK 0)]] 42 (rsq [.o 43 (.build zS4 []),.s 4 2 43,.o 3 (.af zF)] .ret) .skip) (rsq [.d 44 4 5,.k 45 187 [44,(zK 0),(.k (.c (.int .i64 (-1))))],.s 4 2 45,.o 3 (.af zT)] .ret)))))
def p6:List aw:=[.bj 4 2,.tmp 3]
theorem K4:az prog 131 1 Tryz.f131 c131 p6:=.auto func131
def yA:AC:=rsq [.o 4 (.af zF)] (.seq (rif [.m 7 0,.m 8 0,.k 9 188 [7,8],.o 10 (.un .not 9),.m 11 10,.z 12 (.af 0) 11,.z 13 (.af 1) 11,.z 14 (.call (.k (.fn 188 [])) [12,13]) 11,.z 15 (.un .not 14) 11,.o 16 (.pick 11 zT 15)] 16 (rsq [.o 4 (.af zF)] .ret) .skip) (rsq [.m 17 0,.o 18 (.aO 17),.o 19 (.kU 3 8 (.int .i64 0) 18),.m 5 19] (.seq (rsq [.m 20 0,.o 21 (.aO 20),.o 22 (.af (zK 0))] (.block 0 (.loop (rsq [.o 23 (.bin .lss 22 21)] (.seq (.cond 23 .skip (.exit 0)) (.seq (.block 1 (rsq [.m 24 22,.m 6 24] (rif [.m 25 0,.m 26 6,.k 27 190 [26],.m 28 5,.k 29 189 [25,27,28],.o 30 (.un .not 29)] 30 (rsq [.o 4 (.af zF)] .ret) .skip))) (.aG [.o 31 (.bin .add 22 (zK 1)),.m 22 31]))))))) (rsq [.o 4 (.af zT)] .ret))))
def yB:List aw:=[.tmp 4]
theorem CR:az prog 132 2 Tryz.f132 yA yB:=.auto func132
def yC:AC:=rsq [.o 3 (.box 1),.o 4 (.box (.k (.agg zS4)))] (rsq [.m 8 0,.d 9 4 3,.k 10 191 [8,9],.s 4 3 10] (.seq (rif [.f 11 0 3,.l 12 11,.o 13 (.bin .eql 12 (zK 1))] 13 (rsq [.d 14 4 3,.s 4 4 14] .ret) .skip) (rsq [.f 15 0 3,.l 16 15,.f 17 1 3,.l 18 17,.o 19 (.build zS4 [(0,1,16),(1,1,18)]),.o 5 (.box (.k (.agg zS4))),.s 4 5 19] (.seq (rsq [.f 20 3 3,.l 21 20,.o 22 (.aO 21),.o 23 (.af (zK 0))] (.block 0 (.loop (rsq [.o 24 (.bin .lss 23 22)] (.seq (.cond 24 .skip (.exit 0)) (.seq (.block 1 (rsq [.o 25 (.aI 4 21 23),.d 26 4 25,.o 7 (.box (.k (.agg zS4))),.s 4 7 26] (drg [.f 27 3 5,.l 28 27,.m 29 0,.d 30 4 7,.k 31 133 [29,30],.o 32 (.bn 4 [31]),.o 33 (.app 34 4 56 28 32),.f 34 3 5,.s 1 34 33] [2,3,104,0,1,205,306,407,508]))) (.aG [.o 35 (.bin .add 23 (zK 1)),.m 23 35]))))))) (rsq [.d 36 4 5,.s 4 4 36] .ret)))))
def uF:List aw:=[.bj 4 4]
theorem CS:az prog 133 2 Tryz.f133 yC uF:=.auto func133
def yD:AC:=rsq [.m 4 0,.o 5 (.aO 4),.o 6 (.bin .sub 5 (zK 1)),.o 2 (.af (zK 0)),.m 3 6] (forL 0 1 [.m 7 2,.m 8 3,.o 9 (.bin .lss 7 8)] 9 (drg [.m 14 0,.m 15 2,.m 16 0,.m 17 3,.m 18 0,.m 19 3,.o 20 (.aI 8 18 19),.d 21 8 20,.m 22 0,.m 23 2,.o 24 (.aI 8 22 23),.d 25 8 24,.o 26 (.aI 8 14 15),.s 8 26 21,.o 27 (.aI 8 16 17),.s 8 27 25] [0,1,4,5,6,7,8,9,10,11,12,113,2,3,214,315]) [.m 10 2,.o 11 (.bin .add 10 (zK 1)),.m 12 3,.o 13 (.bin .sub 12 (zK 1)),.m 2 11,.m 3 13])
def K5:List aw:=[]
theorem CU:az prog 180 1 Tryz.f180 yD K5:=.auto func180
def c182:AC:=rsq [.o 4 (.af (zK 0))] (.seq (rsq [.o 5 (.af (zK 4096))] (forL 0 1 [.m 9 1,.o 10 (.aO 9),.o 11 (.bin .gtr 10 (zK 0))] 11 (.seq (rif [.m 14 5,.o 15 (.bin .eql 14 (zK 0))] 15 (rsq [.o 4 (.af (zK 62))] .ret) .skip) (rsq [.m 16 1,.m 17 1,.o 18 (.aO 17),.o 19 (.bin .sub 18 (zK 1)),.o 20 (.aI 8 16 19),.d 21 8 20,.o 6 (.box (.k (.agg [.c (.int .i64 0),.c (.str []),.c (.int .i64 0),.ab [],.c (.int .i64 0),.c (.str []),.c (.int .i64 0),.ab []]))),.s 8 6 21] (rsq [.m 22 1,.m 23 1,.o 24 (.aO 23),.o 25 (.bin .sub 24 (zK 1)),.o 26 (.jq 8 22 none (some 25) none),.m 1 26] (rsq [.m 28 0,.f 29 0 6,.d 30 4 29,.f 31 4 6,.d 32 4 31,.k 33 227 [28,30,32],.m 27 33,.x 34 27 0,.x 35 27 1,.m 7 34,.m 8 35] (.seq (rif [.m 36 8,.o 37 (.bin .neq 36 (zK 0))] 37 (rsq [.m 38 8,.m 4 38] .ret) .skip) (rsq [.m 39 7,.k 40 180 [39]] (.aG [.m 41 1,.m 42 7,.o 43 (.app 235 8 112 41 42),.m 1 43]))))))) [.m 12 5,.o 13 (.bin .sub 12 (zK 1)),.m 5 13])) (rsq [.o 4 (.af (zK 0))] .ret))
def oD:List aw:=[.tmp 4]
theorem CV:az prog 182 2 Tryz.f182 c182 oD:=.auto func182
def CW:AC:=rsq [.o 2 (.box 0),.o 4 (.box (.k (.agg zS4))),.o 5 (.af (zK 0))] (.seq (.block 0 (.loop (.seq (rif [.d 10 4 2,.k 11 230 [10]] 11 .skip (.exit 0)) (.block 1 (.seq (rif [.m 12 1,.n 13 12,.l 14 13,.o 15 (.bin .leq 14 (zK 0))] 15 (rsq [.o 16 (.build zS4 []),.s 4 4 16,.o 5 (.af (zK 80))] .ret) .skip) (.seq (drg [.f 18 3 2,.l 19 18,.o 20 (.aI 4 19 (zK 0)),.f 21 3 20,.l 22 21,.o 23 (.aI 4 22 (zK 0)),.d 24 4 23,.f 25 3 2,.l 26 25,.o 27 (.aI 4 26 (zK 1)),.d 28 4 27,.k 29 231 [24,28],.m 17 29,.x 30 17 0,.x 31 17 1,.o 6 (.box (.k (.agg zS4))),.s 4 6 30,.m 7 31] [115,0,1,2,3,4,5,6,7,8,9,10,11,12,13,316,14,417]) (.seq (rif [.m 32 7,.o 33 (.bin .neq 32 (zK 0))] 33 (rsq [.o 34 (.build zS4 []),.m 35 7,.s 4 4 34,.m 5 35] .ret) .skip) (rsq [.m 36 1,.n 37 36,.l 38 37,.o 39 (.bin .sub 38 (zK 1)),.n 40 36,.s 1 40 39] (drg [.d 41 4 6,.f 42 3 2,.l 43 42,.o 44 (.jq 4 43 (some (zK 2)) none none),.k 45 69 [41,44],.s 4 2 45] [0,1,2,3,104,305]))))))))) (.seq (rif [.f 46 0 2,.l 47 46,.o 48 (.bin .neq 47 (zK 5))] 48 (rsq [.d 49 4 2,.s 4 4 49,.o 5 (.af (zK 0))] .ret) .skip) (rsq [.f 51 3 2,.l 52 51,.o 53 (.aI 4 52 (zK 0)),.d 54 4 53,.m 55 1,.k 56 184 [54,55],.m 50 56,.x 57 50 0,.x 58 50 1,.o 8 (.box (.k (.agg zS4))),.s 4 8 57,.m 9 58] (.seq (rif [.m 59 9,.o 60 (.bin .neq 59 (zK 0))] 60 (rsq [.o 61 (.build zS4 []),.m 62 9,.s 4 4 61,.m 5 62] .ret) .skip) (rsq [.d 63 4 8,.k 64 118 [(zK 1),63],.s 4 4 64,.o 5 (.af (zK 0))] .ret)))))
def p7:List aw:=[.bj 4 4,.tmp 5]
theorem K6:az prog 184 2 Tryz.f184 CW p7:=.auto func184
def rQ:AC:=rsq [.o 2 (.box 0),.o 4 (.af zF)] (rsq [.m 5 1,.o 6 (.gB 236 [2]),.k 7 64 [5,6],.o 8 (.un .not 7),.m 4 8] .ret)
def rR:List aw:=[.tmp 4]
theorem uG:az prog 188 2 Tryz.f188 rQ rR:=.auto func188
def rS:AC:=rsq [.o 3 (.box 0),.o 4 (.box 1),.o 5 (.box 2),.o 6 (.af zF)] (.seq (rif [.f 8 0 4,.l 9 8,.o 10 (.bin .neq 9 (zK 1))] 10 (rsq [.f 11 3 4,.l 12 11,.o 13 (.gB 237 [3,5]),.k 14 64 [12,13],.o 15 (.un .not 14),.m 6 15] .ret) .skip) (.seq (.block 0 (rif [.l 17 5,.f 18 2 4,.l 19 18,.o 20 (.aI 1 17 19),.l 21 20,.o 22 (.bin .eql 21 (zK 1)),.m 16 22] 16 (rsq [.o 6 (.af zF)] .ret) (rif [.l 24 5,.f 25 2 4,.l 26 25,.o 27 (.aI 1 24 26),.l 28 27,.o 29 (.bin .eql 28 (zK 2)),.m 30 29,.z 31 (.aU 3) 30,.z 32 (.eJ 4 4) 30,.z 33 (.call (.k (.fn 238 [])) [31,32]) 30,.z 34 (.un .not 33) 30,.o 35 (.pick 30 zT 34),.m 23 35] 23 (rsq [.o 6 (.af zT)] .ret) .skip))) (rsq [.l 36 5,.f 37 2 4,.l 38 37,.o 39 (.aI 1 36 38),⟨none,.store 1 39 (zK 1),none⟩] (.seq (drg [.l 40 3,.l 41 3,.f 42 2 4,.l 43 42,.o 44 (.aI 4 41 43),.d 45 4 44,.l 46 5,.k 47 189 [40,45,46],.m 7 47] [0,1,2,3,4,5,6,107,208]) (rsq [.l 48 5,.f 49 2 4,.l 50 49,.o 51 (.aI 1 48 50),⟨none,.store 1 51 (zK 2),none⟩] (rsq [.m 52 7,.m 6 52] .ret))))))
def rT:List aw:=[.tmp 6]
theorem yE:az prog 189 3 Tryz.f189 rS rT:=.auto func189
def CX:AC:=rsq [.o 2 (.box (.k (.agg zS4)))] (rsq [.m 3 0,.o 4 (.build zS4 [(0,1,(zK 1)),(2,1,3)]),.s 4 2 4] .ret)
def CY:List aw:=[.bj 4 2]
theorem K7:az prog 190 1 Tryz.f190 CX CY:=.auto func190
def yF:AC:=rsq [.o 3 (.box 1),.o 4 (.box (.k (.agg zS4)))] (.seq (.block 0 (.loop (.seq (rif [.m 5 0,.d 6 4 3,.k 7 238 [5,6]] 7 .skip (.exit 0)) (.block 1 (.aG [.m 8 0,.f 9 2 3,.l 10 9,.o 11 (.aI 4 8 10),.d 12 4 11,.s 4 3 12]))))) (rsq [.d 13 4 3,.s 4 4 13] .ret))
def yG:List aw:=[.bj 4 4]
theorem CZ:az prog 191 2 Tryz.f191 yF yG:=.auto func191
def c227:AC:=rsq [.o 4 (.box 1),.o 5 (.box 2),.o 6 (.af (.k (.ab []))),.o 7 (.af (zK 0))] (.seq (drg [.m 10 0,.d 11 4 4,.k 12 191 [10,11],.m 13 0,.d 14 4 5,.k 15 191 [13,14],.s 4 4 12,.s 4 5 15] [0,1,102,3,4,305,506,707]) (.seq (.block 0 (rif [.f 17 0 4,.l 18 17,.o 19 (.bin .eql 18 (zK 1)),.m 20 19,.y 21 (.aX 0 5) 20,.y 22 (.aU 21) 20,.y 23 (.bin .eql 22 (zK 1)) 20,.o 24 (.pick 20 23 zF),.m 25 24,.y 26 (.aX 2 4) 25,.y 27 (.aU 26) 25,.y 28 (.aX 2 5) 25,.y 29 (.aU 28) 25,.y 30 (.bin .eql 27 29) 25,.o 31 (.pick 25 30 zF),.m 16 31] 16 (rsq [.o 6 (.af (.k (.ab []))),.o 7 (.af (zK 0))] .ret) (rif [.f 33 0 4,.l 34 33,.o 35 (.bin .eql 34 (zK 1)),.m 36 35,.y 37 (.aX 0 5) 36,.y 38 (.aU 37) 36,.y 39 (.bin .eql 38 (zK 1)) 36,.o 40 (.pick 36 39 zF),.m 32 40] 32 (.seq (drg [.m 41 0,.f 42 2 4,.l 43 42,.f 44 2 5,.l 45 44,.o 46 (.mx 43 45),.f 47 2 4,.l 48 47,.f 49 2 5,.l 50 49,.o 51 (.mn 48 50),.k 52 190 [51],.k 53 259 [41,46,52],.o 6 (.af (.k (.ab []))),.m 7 53] [6,7,8,9,10,111,0,1,2,3,4,5,312,413,414]) .ret) (rif [.f 55 0 4,.l 56 55,.o 57 (.bin .eql 56 (zK 1)),.m 54 57] 54 (rsq [.m 58 0,.f 59 2 4,.l 60 59,.d 61 4 5,.k 62 259 [58,60,61],.o 6 (.af (.k (.ab []))),.m 7 62] .ret) (rif [.f 64 0 5,.l 65 64,.o 66 (.bin .eql 65 (zK 1)),.m 63 66] 63 (rsq [.m 67 0,.f 68 2 5,.l 69 68,.d 70 4 4,.k 71 259 [67,69,70],.o 6 (.af (.k (.ab []))),.m 7 71] .ret) (rif [.f 73 0 4,.l 74 73,.f 75 0 5,.l 76 75,.o 77 (.bin .neq 74 76),.m 78 77,.z 79 (.aX 1 4) 78,.z 80 (.aU 79) 78,.z 81 (.aX 1 5) 78,.z 82 (.aU 81) 78,.z 83 (.bin .neq 80 82) 78,.o 84 (.pick 78 zT 83),.m 85 84,.z 86 (.aX 3 4) 85,.z 87 (.aU 86) 85,.z 88 (.aO 87) 85,.z 89 (.aX 3 5) 85,.z 90 (.aU 89) 85,.z 91 (.aO 90) 85,.z 92 (.bin .neq 88 91) 85,.o 93 (.pick 85 zT 92),.m 72 93] 72 (rsq [.o 6 (.af (.k (.ab []))),.o 7 (.af (zK 60))] .ret) .skip)))))) (rsq [.o 8 (.af (.k (.ab [])))] (.seq (rsq [.f 94 3 4,.l 95 94,.o 96 (.aO 95),.o 97 (.af (zK 0))] (.block 1 (.loop (rsq [.o 98 (.bin .lss 97 96)] (.seq (.cond 98 .skip (.exit 1)) (.seq (.block 2 (rsq [.m 99 97,.m 9 99] (drg [.m 100 8,.f 101 3 4,.l 102 101,.m 103 9,.o 104 (.aI 4 102 103),.d 105 4 104,.f 106 3 5,.l 107 106,.m 108 9,.o 109 (.aI 4 107 108),.d 110 4 109,.o 111 (.build [.c (.int .i64 0),.c (.str []),.c (.int .i64 0),.ab [],.c (.int .i64 0),.c (.str []),.c (.int .i64 0),.ab []] [(0,4,105),(4,4,110)]),.o 112 (.bn 8 [111]),.o 113 (.app 235 8 112 100 112),.m 8 113] [0,1,2,3,4,5,6,7,8,9,10,11,12,113,214]))) (.aG [.o 114 (.bin .add 97 (zK 1)),.m 97 114]))))))) (rsq [.m 115 8,.m 6 115,.o 7 (.af (zK 0))] .ret)))))
def ia:List aw:=[.tmp 6,.tmp 7]
theorem lp:az prog 227 3 Tryz.f227 c227 ia:=.auto func227
def yH:AC:=rsq [.o 1 (.box 0),.o 2 (.af zF)] (rsq [.f 3 0 1,.l 4 3,.o 5 (.bin .eql 4 (zK 6)),.m 6 5,.y 7 (.aX 3 1) 6,.y 8 (.aU 7) 6,.y 9 (.aI 4 8 (zK 0)) 6,.y 10 (.aX 0 9) 6,.y 11 (.aU 10) 6,.y 12 (.bin .eql 11 (zK 5)) 6,.o 13 (.pick 6 12 zF),.m 2 13] .ret)
def yI:List aw:=[.tmp 2]
theorem K8:az prog 230 1 Tryz.f230 yH yI:=.auto func230
def c236:AC:=rsq [.o 2 (.box 0),.o 3 (.af zF)] (.seq (drg [.d 4 4 2,.k 5 24 [4],.o 6 (.un .not 5),.m 7 6,.z 8 (.eJ 4 2) 7,.z 9 (.call (.k (.fn 74 [])) [8]) 7,.z 10 (.aU 1) 7,.z 11 (.aO 10) 7,.z 12 (.bin .gtr 9 11) 7,.o 13 (.pick 7 zT 12),.m 3 13] [0,101,202,203,204,305,206,207,408,409,410]) .ret)
def yJ:List aw:=[.tmp 3]
theorem C0:az prog 236 2 Tryz.f236 c236 yJ:=.auto func236
def C1:AC:=rsq [.o 3 (.box 0),.o 4 (.af zF)] (rsq [.l 5 1,.d 6 4 3,.l 7 2,.k 8 189 [5,6,7],.o 9 (.un .not 8),.m 4 9] .ret)
def C2:List aw:=[.tmp 4]
theorem K9:az prog 237 3 Tryz.f237 C1 C2:=.auto func237
def p8:AC:=rsq [.o 3 (.box 1),.o 4 (.af zF)] (.seq (drg [.f 5 0 3,.l 6 5,.o 7 (.bin .eql 6 (zK 1)),.m 8 7,.y 9 (.af 0) 8,.y 10 (.aX 2 3) 8,.y 11 (.aU 10) 8,.y 12 (.aI 4 9 11) 8,.y 13 (.aX 0 12) 8,.y 14 (.aU 13) 8,.y 15 (.bin .neq 14 (zK 1)) 8,.y 16 (.af 15) 8,.z 17 (.af 0) 16,.z 18 (.aX 2 3) 16,.z 19 (.aU 18) 16,.z 20 (.aI 4 17 19) 16,.z 21 (.aX 2 20) 16,.z 22 (.aU 21) 16,.z 23 (.aX 2 3) 16,.z 24 (.aU 23) 16,.z 25 (.bin .neq 22 24) 16,.y 26 (.pick 16 zT 25) 8,.o 27 (.pick 8 26 zF),.m 4 27] [0,1,2,3,4,5,6,7,8,9,10,11,12,13,14,15,16,17,18,19,20,21,22,23]) .ret)
def p9:List aw:=[.tmp 4]
theorem C3:az prog 238 2 Tryz.f238 p8 p9:=.auto func238
def yK:AC:=rsq [.o 5 (.box 2),.o 6 (.af (zK 0))] (.seq (rif [.m 7 0,.m 8 1,.d 9 4 5,.o 10 (.kT),.k 11 279 [7,8,9,10]] 11 (rsq [.o 6 (.af (zK 61))] .ret) .skip) (rsq [.m 12 0,.m 13 1,.d 14 4 5,.o 15 (.aI 4 12 13),.s 4 15 14] (rsq [.o 6 (.af (zK 0))] .ret)))
def yL:List aw:=[.tmp 6]
theorem C4:az prog 259 3 Tryz.f259 yK yL:=.auto func259
def rU:AC:=rsq [.o 4 (.box 0),.o 5 (.box 1),.o 6 (.box 2),.o 7 (.box 3),.o 8 (.af zF)] (.seq (rif [.l 9 4,.d 10 4 6,.k 11 238 [9,10]] 11 (.seq (rif [.l 12 7,.f 13 2 6,.l 14 13,.o 15 (.look false (.i .i64) (.bool false) 12 14)] 15 (rsq [.o 8 (.af zF)] .ret) .skip) (rsq [.l 16 7,.f 17 2 6,.l 18 17,⟨none,.j0 (.i .i64) 16 18 zT,none⟩] (.seq (drg [.l 19 4,.l 20 5,.l 21 4,.f 22 2 6,.l 23 22,.o 24 (.aI 4 21 23),.d 25 4 24,.l 26 7,.k 27 279 [19,20,25,26],.m 8 27] [0,1,2,3,4,5,6,7,108,209]) .ret))) .skip) (.seq (rif [.f 28 0 6,.l 29 28,.o 30 (.bin .eql 29 (zK 1))] 30 (rsq [.f 31 2 6,.l 32 31,.l 33 5,.o 34 (.bin .eql 32 33),.m 8 34] .ret) .skip) (rsq [.f 35 3 6,.l 36 35,.o 37 (.gB 288 [4,5,7]),.k 38 64 [36,37],.m 8 38] .ret)))
def rV:List aw:=[.tmp 8]
theorem uH:az prog 279 4 Tryz.f279 rU rV:=.auto func279
def C5:AC:=rsq [.o 4 (.box 0),.o 5 (.af zF)] (rsq [.l 6 1,.l 7 2,.d 8 4 4,.l 9 3,.k 10 279 [6,7,8,9],.m 5 10] .ret)
def C6:List aw:=[.tmp 5]
theorem La:az prog 288 4 Tryz.f288 C5 C6:=.auto func288
end Go.Proofs.YtdlkenpilhakfaaGreatDoor
namespace Go.Proofs.YtdlkenpilhakfaaGreatDoor
open Go Go.RowKit Go.Lamb
structure uI where
 vars:Int
 head:aa
 body:aa
 deriving Inhabited
def uI.cs(c:uI):List C:=[.int .i64 c.vars,.int .i64 c.head.k,.str c.head.name,.int .i64 c.head.n,.sl (c.head.l.map aa.cs),.int .i64 c.body.k,.str c.body.name,.int .i64 c.body.n,.sl (c.body.l.map aa.cs)]
def uI.v(c:uI):V:=.agg [I c.vars,I c.head.k,S c.head.name,I c.head.n,.c (.sl (c.head.l.map aa.cs)),I c.body.k,S c.body.name,I c.body.n,.c (.sl (c.body.l.map aa.cs))]
def Lb(t:aa):aa×List aa:=if t.k=6 then(t.l.headD .none,t.l.tail)else(t,[])
def hd(t:aa):aa:=(Lb t).1
def ar(t:aa)(i:Nat):aa:=(Lb t).2.getD i .none
def bI(t:aa):aa:=.mk 5 [] 0 [t]
end Go.Proofs.YtdlkenpilhakfaaGreatDoor
namespace Go.Proofs.YtdlkenpilhakfaaGreatDoor
open Go.RowKit Go.Lamb
def gj(seen:List Int):List (C×C):=seen.map fun n=>(C.int .i64 n,C.bool true)
theorem Uy(seen:List Int):((gj seen).all fun p=>(KD.i aW).ok p.1)=true:=by
 unfold gj;rw[List.all_map,List.all_eq_true];intro x _;rfl
theorem Lc(n:Int):∀(seen:List Int),iu (.int .i64 n) (gj seen)=if seen.contains n=true then some (.bool true)else none
 |[]=>by rw[if_neg (by simp)];rfl
 |x::l=>by
  show(if iU (C.int .i64 n) (C.int .i64 x)=true then _ else iu (.int .i64 n) (gj l))=_;rw[Lc n l,List.contains_cons];have e:iU (C.int .i64 n) (C.int .i64 x)=(n==x):=rfl;rw[e];cases hx:(n==x)<;>simp
theorem Ld(n:Int):∀(seen:List Int),seen.contains n=false->iv (.int .i64 n) (.bool true) (gj seen)=gj (seen++[n])
 |[],_=>rfl
 |x::l,h=>by
  rw[List.contains_cons,Bool.or_eq_false_iff]at h;show(if iU (C.int .i64 n) (C.int .i64 x)=true then _ else(C.int .i64 x,C.bool true)::iv (.int .i64 n) (.bool true) (gj l))=_;have e:iU (C.int .i64 n) (C.int .i64 x)=(n==x):=rfl;rw[e,h.1,Ld n l h.2];rfl
attribute [local go_sem] aa.v aa.aM aY a7 aV aL aT
end Go.Proofs.YtdlkenpilhakfaaGreatDoor
namespace Go.Lamb
open Go Go.RowKit
def aJ(s:List aa):List C:=(s.map aa.cs).flatten
theorem lq(s:List aa):(aJ s).length=s.length*4:=by unfold aJ;rw[Uw (kz s),cd]
theorem Le{s:List aa}{i:Nat}(hi:i<s.length):dM 4 (fV (i*4) (aJ s))=[.int .i64 s[i].k,.str s[i].name,.int .i64 s[i].n,.sl (s[i].l.map aa.cs)]:=by
 have h:=Uv (kz s) (i:=i) (by rw[cd];exact hi);rw[dE,aa.aM]at h;exact h
theorem qa{s:List aa}{i:Nat}(hi:i<s.length):dM 4 (fV (i*4) (il V.c (aJ s)))=[.c (.int .i64 s[i].k),.c (.str s[i].name),.c (.int .i64 s[i].n),.c (.sl (s[i].l.map aa.cs))]:=by
 rw[<-List.map_drop,<-List.map_take,Le hi];rfl
theorem C7{s:List aa}{i:Nat}(hi:i<s.length):(aJ s)[i*4]?=some (.int .i64 s[i].k)/\(aJ s)[i*4+2]?=some (.int .i64 s[i].n):=by
 have h:=Le hi;have h0:=congrArg (fun l=>l[0]?) h;have h2:=congrArg (fun l=>l[2]?) h;simpa[List.getElem?_take,List.getElem?_drop]using And.intro h0 h2
theorem C8{s:List aa}{i:Nat}(hi:i<s.length)(t:aa):dM (i*4) (aJ s)++ .int .i64 t.k:: .str t.name:: .int .i64 t.n:: .sl (t.l.map aa.cs)::fV (i*4+4) (aJ s)=aJ (s.set i t):=by
 have h:=Ux (kz s) (i:=i) (by rw[cd];exact hi) t.cs (by rw[aa.aM];rfl);rw[aa.aM,dc]at h;unfold aJ;rw[Fj,aa.aM];exact h
theorem rW{s:List aa}{i:Nat}(hi:i<s.length):cf s (i:Int)=s[i]:=by
 unfold cf;rw[jX,cc,aR hi,ir]
end Go.Lamb
namespace Go.Proofs.YtdlkenpilhakfaaGreatDoor
open Go.RowKit Go.Lamb
attribute [local go_sem] aa.v aa.aM aY a7 aV aL aT
theorem Lf(w0:World)(n:Int)(σ:H):DC prog w0 190 [I n] σ (Same (aN n).v σ):=by
 refine K7.go rfl (fun hok hsz=>?_);(refine W.a ?_;simp only[go_sem,CX]);(refine W.fs (hok) (by simp only[CY,go_sem];rfl) ?_;simp only[ak];try exact V.wk.rfl _)
 all_goals (all_goals exact au)
theorem uJ(w0:World)(s:List aa)(t:aa)(ht:aD s.length t)(b:Nat)(σ:H)(hb:σ[b]?=some (.vec 34 4 (aJ s))):DC prog w0 238 [.vec b s.length,t.v] σ (Same (B (bH s t)) σ):=by
 refine C3.go rfl (fun hok hsz=>?_);by_cases hk:t.k=1
 ·obtain⟨h0,hlt,hnm,hl⟩:=ht.var hk;obtain⟨k,nm,n,l⟩:=t;simp only[aY,a7,aV,aL]at hk h0 hlt hnm hl;subst hk hnm hl;obtain⟨i,rfl⟩:=sM h0;have hi:i<s.length:=by omega
  have e:bH s (.mk 1 [] (i:Int) [])=!(s[i].k==1&&s[i].n==(i:Int)):=by
   unfold bH;simp only[aY,aV,rW hi];rfl
  rw[e];have hb2:=fun L=>hG hb L;obtain⟨x0,x2⟩:=C7 hi;generalize s[i]=u at*;generalize aJ s=F at*;clear e ht;cases k1:(u.k==1)
  ·(refine W.a ?_;simp only[go_sem,p8]);(apply W.aQ (aS _ _);case hc=>((apply ae.al;simp only[go_sem,hb2,h0,hlt,x0,x2,bne,k1]);exact ae.nil));(refine W.a ?_;simp only[go_sem]);(refine W.fs (hok) (by simp only[p9,go_sem];rfl) ?_;simp only[ak];try exact V.wk.rfl _)
  ·cases kn:(u.n==(i:Int))
   ·(refine W.a ?_;simp only[go_sem,p8]);(apply W.aQ (aS _ _);case hc=>((apply ae.al;simp only[go_sem,hb2,h0,hlt,x0,x2,bne,k1,kn]);exact ae.nil));(refine W.a ?_;simp only[go_sem]);(refine W.fs (hok) (by simp only[p9,go_sem];rfl) ?_;simp only[ak];try exact V.wk.rfl _)
   ·(refine W.a ?_;simp only[go_sem,p8]);(apply W.aQ (aS _ _);case hc=>((apply ae.al;simp only[go_sem,hb2,h0,hlt,x0,x2,bne,k1,kn]);exact ae.nil));(refine W.a ?_;simp only[go_sem]);(refine W.fs (hok) (by simp only[p9,go_sem];rfl) ?_;simp only[ak];try exact V.wk.rfl _)
 ·have k1:(t.k==1)=false:=by simp[hk]
  have e:bH s t=false:=by unfold bH;rw[k1];rfl
  rw[e];clear ht hb e hk;(refine W.a ?_;simp only[go_sem,p8]);(apply W.aQ (aS _ _);case hc=>((apply ae.al;simp only[go_sem,k1]);exact ae.nil));(refine W.a ?_;simp only[go_sem]);(refine W.fs (hok) (by simp only[p9,go_sem];rfl) ?_;simp only[ak];try exact V.wk.rfl _)
theorem yM(w0:World)(s:List aa)(hs:∀t∈s,aD s.length t)(t u:aa)(m:Nat)(hr:gd s t u m)(ht:aD s.length t)(b:Nat)(σ:H)(hb:σ[b]?=some (.vec 34 4 (aJ s))):DC prog w0 191 [.vec b s.length,t.v] σ (Same u.v σ):=by
 refine CZ.go rfl (fun hok hsz=>?_);have hb2:=fun L=>hG hb L;have hS:=fun(t:aa) (ht:aD s.length t) (σ:H) (hb:σ[b]?=some (.vec 34 4 (aJ s)))=>uJ w0 s t ht b σ hb;(refine W.a ?_;simp only[go_sem,yF]);refine W.bA (α:=aa×Nat) (fun x=>gd s x.1 u x.2/\aD s.length x.1) (fun x=>⟨(((base.put (some 0) (.vec b s.length)).put (some 3) (.ptr σ.length 0)).put (some 4) (.ptr (σ.length+1) 0)),σ++[.cells x.1.v.ah,.cells [I 0,S [],I 0,.ab []]]⟩) (fun x=>x.2) (t,m) ⟨hr,ht⟩ ?_ (fun x hx=>?_)
 ·(refine aq.env ?_;exact aE)
 obtain⟨x,n⟩:=x;obtain⟨hr,hx⟩:=hx;simp only at hr hx;have hSx:=hS x hx;cases hr with
 |stop hst=>
  rw[hst]at hSx;(refine W.a ?_;simp only[go_sem]);(refine W.c1 (hSx _ (hG hb _)) ?_;simp only[go_sem]);refine W.no rfl (W.a ?_);simp only[go_sem];(refine W.fs (hok) (by simp only[yG,go_sem];rfl) ?_;simp only[ak];try exact V.wk.rfl _)
  all_goals (all_goals exact au)
 |go hst r=>
  rw[hst]at hSx;have hk:=gb hst;obtain⟨h0,hlt,_⟩:=hx.var hk;obtain⟨i,hi⟩:=sM h0;rw[hi]at r h0 hlt;have hil:i<s.length:=by omega
  have hu:aD s.length (cf s (i:Int)):=hs _ (iE h0 hlt);rw[rW hil]at r hu;have hrow:=qa hil;have hle:i*4+4<=s.length*4:=by omega
  have hFl:=lq s;generalize s[i]=y at*;generalize aJ s=F at*
  (refine W.a ?_;simp only[go_sem]);(refine W.c1 (hSx _ (hG hb _)) ?_;simp only[go_sem]);refine W.yes rfl (W.a ?_);simp only[go_sem,hi,h0,hlt,hb2,hrow,hle,hFl];refine .inv ⟨(y,_),⟨r,hu⟩,by simp only;omega,?_⟩;(refine aq.env ?_;exact aE)
theorem Lg{n:Nat}(hn:n<=1000000)(t:aa):aD n t->∀m:Int,0<=m->cx m t<=max m n/\m<=cx m t:=by
 refine aa.ind (P:=fun t=>aD n t->∀m:Int,0<=m->cx m t<=max m n/\m<=cx m t) (fun t ih ht m hm=>?_) t;rw[Be];by_cases hk:t.k=1
 ·obtain⟨h0,hlt,_⟩:=ht.var hk;rw[if_pos hk];unfold nh;have e:(if-1>t.n then-1 else t.n)=t.n:=if_neg (by omega);have hw:aW.wrap (t.n+1)=t.n+1:=by rw[bD]<;>omega
  rw[e,hw];split<;>omega
 ·rw[if_neg hk];have key:∀(l:List aa),(∀u∈l,u∈t.l)->∀m:Int,0<=m->cO m l<=max m n/\m<=cO m l:=by
   intro l;induction l with
   |nil=>intro _ m hm;rw[cO];omega
   |cons x l ihl=>
    intro hs m hm;rw[cO];have hx:=hs x (bp ..);obtain⟨a1,a2⟩:=ih x hx (ht.dO hk hx) m hm;obtain⟨b1,b2⟩:=ihl (fun u hu=>hs u (bW _ hu)) (cx m x) (by omega);omega
  exact key t.l (fun _ h=>h) m hm
theorem Lh(t:aa):gW t<=aC t:=by
 refine aa.ind (P:=fun t=>gW t<=aC t) (fun t ih=>?_) t;rw[Bd,cW];split
 ·omega
 ·have key:∀(l:List aa),(∀u∈l,u∈t.l)->jb l<=bS l:=by
   intro l;induction l with
   |nil=>intro _;rw[jb,bS];omega
   |cons x l ihl=>
    intro hs;rw[jb,bS];have:=ih x (hs x (bp ..));have:=ihl (fun u hu=>hs u (bW _ hu));omega
  have:=key t.l (fun _ h=>h);omega
theorem Li(w0:World){n:Nat}(b:Nat)(hn:n<=1000000)(t:aa)(ht:aD n t)(hz:aC t<=1000000)(p:Nat)(σ:H)(hp:σ[p]?=some (.cells [.vec b n])):DC prog w0 236 [t.v,.ptr p 0] σ (Same (B false) σ):=by
 refine C0.go rfl (fun hok hsz=>?_);have hp2:=fun L=>hG hp L;have hV:=fun σ=>nB w0 t σ;rw[ht.valid]at hV;have hN:=fun σ=>uo w0 t (by have:=Lh t;omega) σ;have hv:=(Lg hn t ht 0 (by omega)).1;have hg:¬cx 0 t>(n:Int):=by omega
 generalize cx 0 t=z at*
 clear ht hv;(refine W.a ?_;simp only[go_sem,c236]);apply W.aQ (aS _ _)
 case hc=>
  (apply ae.al;simp only[go_sem]);(apply ae.call (hV _);(case hg=>rfl);(case hf=>rfl);(case ha=>first|rfl|simp));(apply ae.al;simp only[go_sem]);(apply ae.call (hN _);(case hg=>rfl);(case hf=>rfl);(case ha=>first|rfl|simp));(apply ae.al;simp only[go_sem,hp2,hg,rh]);exact ae.nil
 (refine W.a ?_;simp only[go_sem]);(refine W.fs (hok) (by simp only[yJ,go_sem];rfl) ?_;simp only[ak];try exact V.wk.rfl _)
theorem Uz(w0:World)(hn:0<=1000000)(t:aa)(ht:aD 0 t)(hz:aC t<=1000000)(p:Nat)(σ:H)(hp:σ[p]?=some (.cells [.ab []])):DC prog w0 236 [t.v,.ptr p 0] σ (Same (B false) σ):=by
 refine C0.go rfl (fun hok hsz=>?_);have hp2:=fun L=>hG hp L;have hV:=fun σ=>nB w0 t σ;rw[ht.valid]at hV;have hN:=fun σ=>uo w0 t (by have:=Lh t;omega) σ;have hv:=(Lg hn t ht 0 (by omega)).1;have hg:¬cx 0 t>0:=by omega
 generalize cx 0 t=z at*
 clear ht hv;(refine W.a ?_;simp only[go_sem,c236]);apply W.aQ (aS _ _)
 case hc=>
  (apply ae.al;simp only[go_sem]);(apply ae.call (hV _);(case hg=>rfl);(case hf=>rfl);(case ha=>first|rfl|simp));(apply ae.al;simp only[go_sem]);(apply ae.call (hN _);(case hg=>rfl);(case hf=>rfl);(case ha=>first|rfl|simp));(apply ae.al;simp only[go_sem,hp2,hg,rh]);exact ae.nil
 (refine W.a ?_;simp only[go_sem]);(refine W.fs (hok) (by simp only[yJ,go_sem];rfl) ?_;simp only[ak];try exact V.wk.rfl _)
end Go.Proofs.YtdlkenpilhakfaaGreatDoor
namespace Go.Proofs.YtdlkenpilhakfaaGreatDoor
open Go.RowKit Go.Lamb
attribute [local go_sem] aa.v aa.aM aY a7 aV aL aT
theorem UA(w0:World)(s:List aa)(f:FuncId)(caps:List V)(b:Nat)(σ:H)(hs:s.length<=1000000)(hb:σ[b]?=some (.vec 34 4 (aJ s)))(hp:∀o∈s,DC prog w0 f (o.v::caps) σ (Same (B false) σ)):DC prog w0 117 [.vec b s.length,.fn f caps] σ (Same (I (-1)) σ):=by
 refine ye.go rfl (fun hok hsz=>?_);(refine W.a ?_;simp only[go_sem,c117]);refine W.bA (fun i=>i<=s.length) (fun i=>⟨((((base.put (some 0) (.vec b s.length)).put (some 1) (.fn f caps)).put (some 7) (I s.length)).put (some 8) (I i)),σ⟩) (fun i=>s.length-i) 0 (bx _) ?_ (fun i hi=>?_)
 ·(refine aq.env ?_;exact aE)
 by_cases hlt:i<s.length
 ·have h1:((i:Int)<(s.length:Int)):=by omega
  have h0:(0:Int)<=(i:Int):=by omega
  have hw:aW.wrap ((i:Int)+1)=((i+1:Nat):Int):=by rw[bD]<;>omega
  have hpi:=hp s[i] (List.getElem_mem hlt);have hrow:=qa hlt;have hle:i*4+4<=s.length*4:=by omega
  have hFl:=lq s;generalize s[i]=y at*;generalize aJ s=F at*
  (refine W.a ?_;simp only[go_sem,h1]);refine W.yes rfl (W.a ?_);simp only[go_sem,h1,h0,hb,hrow,hle,hFl];(refine W.c1 (hpi) ?_;simp only[go_sem]);(refine W.a ?_;simp only[go_sem]);refine W.no rfl (W.a ?_);simp only[go_sem,hw];refine .inv ⟨i+1,hlt,by omega,?_⟩;(refine aq.env ?_;exact aE)
 have h1:¬((i:Int)<(s.length:Int)):=by omega
 (refine W.a ?_;simp only[go_sem,h1]);refine W.no rfl (W.a ?_);simp only[go_sem];(refine W.fs (hok) (by simp only[pV,go_sem];rfl) ?_;simp only[ak];try exact V.wk.rfl _)
theorem UB(w0:World)(s:List aa)(f:FuncId)(caps:List V)(b:Nat)(σ:H)(hs:s.length<=1000000)(hb:σ[b]?=some (.vec 34 4 (aJ s)))(hp:∀o∈s,DC prog w0 f (o.v::caps) σ (Same (B false) σ)):DC prog w0 64 [.vec b s.length,.fn f caps] σ (Same (B false) σ):=by
 refine yd.go rfl (fun hok hsz=>?_);have hI:=UA w0 s f caps b σ hs hb hp;(refine W.a ?_;simp only[go_sem,rE]);(refine W.c1 (hI) ?_;simp only[go_sem]);(refine W.a ?_;simp only[go_sem]);(refine W.fs (hok) (by simp only[rF,go_sem];rfl) ?_;simp only[ak];try exact V.wk.rfl _)
theorem UC(w0:World){α:Type}(U:α->H)(m:Nat)(hU:∀a,(U a).length=m)(hok0:∀a c,H.ok (U a)->H.ok (U c))(l:List aa)(hl:l.length<=1000000)(f:FuncId)(caps:List V)(st:Nat->α)(k:Nat)(hk:k<=l.length)
  (hno:∀i (hi:i<l.length),i<k->DC prog w0 f (l[i].v::caps) (U (st i)) (Same (B false) (U (st (i+1))))) (hyes:∀hi:k<l.length,DC prog w0 f (l[k].v::caps) (U (st k)) (Same (B true) (U (st (k+1))))):
  DC prog w0 117 [.c (.sl (l.map aa.cs)),.fn f caps] (U (st 0)) (Same (I (if k<l.length then(k:Int)else-1)) (U (st (if k<l.length then k+1 else k)))):=by
 refine ye.go rfl (fun hok hsz=>?_);have hok1:=fun a=>hok0 _ a hok;(refine W.a ?_;simp only[go_sem,c117,hU]);refine W.bA (fun i=>i<=k) (fun i=>⟨((((base.put (some 0) (.c (.sl (l.map aa.cs)))).put (some 1) (.fn f caps)).put (some 7) (I l.length)).put (some 8) (I i)),U (st i)⟩) (fun i=>k-i) 0 (bx _) ?_ (fun i hi=>?_)
 ·(refine aq.env ?_;exact aE)
 by_cases hlt:i<l.length
 ·have h1:((i:Int)<(l.length:Int)):=by omega
  have h0:(0:Int)<=(i:Int):=by omega
  have hx:l[i]?=some l[i]:=aR hlt;have hw:aW.wrap ((i:Int)+1)=((i+1:Nat):Int):=by rw[bD]<;>omega
  by_cases hik:i<k
  ·have hp:=hno i hlt hik;generalize l[i]=u at*
   (refine W.a ?_;simp only[go_sem,h1]);refine W.yes rfl (W.a ?_);simp only[go_sem,h1,h0,hx];(refine W.c1 (hp) ?_;simp only[go_sem]);(refine W.a ?_;simp only[go_sem]);refine W.no rfl (W.a ?_);simp only[go_sem,hw];refine .inv ⟨i+1,hik,by omega,?_⟩;(refine aq.env ?_;exact aE)
  ·obtain rfl:i=k:=by omega
   have hp:=hyes hlt;rw[if_pos hlt,if_pos hlt];generalize l[i]=u at*
   (refine W.a ?_;simp only[go_sem,h1]);refine W.yes rfl (W.a ?_);simp only[go_sem,h1,h0,hx];(refine W.c1 (hp) ?_;simp only[go_sem]);(refine W.a ?_;simp only[go_sem]);refine W.yes rfl (W.a ?_);simp only[go_sem];(refine W.fg (hok1 _) (d:=I (i:Int)) (by simp only[pV,go_sem];rfl) (by simp only[ak,go_sem];exact au) ?_ (hn:=(hU _)));exact⟨rfl,rfl⟩
 obtain rfl:i=k:=by omega
 have h1:¬((i:Int)<(l.length:Int)):=by omega
 rw[if_neg hlt,if_neg hlt];(refine W.a ?_;simp only[go_sem,h1]);refine W.no rfl (W.a ?_);simp only[go_sem];(refine W.fg (hok1 _) (d:=I (-1)) (by simp only[pV,go_sem];rfl) (by simp only[ak,go_sem];exact au) ?_ (hn:=(hU _)));exact⟨rfl,rfl⟩
theorem Lj(w0:World){α:Type}(U:α->H)(m:Nat)(hU:∀a,(U a).length=m)(hok0:∀a c,H.ok (U a)->H.ok (U c))(l:List aa)(hl:l.length<=1000000)(f:FuncId)(caps:List V)(st:Nat->α)(k:Nat)(hk:k<=l.length)
  (hno:∀i (hi:i<l.length),i<k->DC prog w0 f (l[i].v::caps) (U (st i)) (Same (B false) (U (st (i+1))))) (hyes:∀hi:k<l.length,DC prog w0 f (l[k].v::caps) (U (st k)) (Same (B true) (U (st (k+1))))):
  DC prog w0 64 [.c (.sl (l.map aa.cs)),.fn f caps] (U (st 0)) (Same (B (decide (k<l.length))) (U (st (if k<l.length then k+1 else k)))):=by
 have hI:=UC w0 U m hU hok0 l hl f caps st k hk hno hyes;refine yd.go rfl (fun hok hsz=>?_);have hok1:=fun a=>hok0 _ a hok;by_cases hlt:k<l.length
 ·rw[if_pos hlt,if_pos hlt]at hI;rw[if_pos hlt,decide_eq_true hlt];have hge:(k:Int)>=0:=by omega
  clear hno hyes;(refine W.a ?_;simp only[go_sem,rE,hU]);(refine W.c1 (hI) ?_;simp only[go_sem]);(refine W.a ?_;simp only[go_sem,hge]);(refine W.fg (hok1 _) (d:=B true) (by simp only[rF,go_sem];rfl) (by simp only[ak,go_sem];exact au) ?_ (hn:=(hU _)));exact⟨rfl,rfl⟩
 ·rw[if_neg hlt,if_neg hlt]at hI;rw[if_neg hlt,decide_eq_false hlt];clear hno hyes;(refine W.a ?_;simp only[go_sem,rE,hU]);(refine W.c1 (hI) ?_;simp only[go_sem]);(refine W.a ?_;simp only[go_sem]);(refine W.fg (hok1 _) (d:=B false) (by simp only[rF,go_sem];rfl) (by simp only[ak,go_sem];exact au) ?_ (hn:=(hU _)));exact⟨rfl,rfl⟩
theorem UD(w0:World)(s:List aa)(hn:s.length<=1000000)(hl:∀t∈s,aD s.length t/\aC t<=1000000)(σ:H)(b:Nat)(hb:σ[b]?=some (.vec 34 4 (aJ s))):DC prog w0 188 [.vec b s.length,.vec b s.length] σ (Same (B true) σ):=by
 refine uG.go rfl (fun hok hsz=>?_);have hC:=UB w0 s 236 [.ptr σ.length 0] b (σ++[.cells [.vec b s.length]]) hn (hG hb _) (fun o ho=>Li w0 b hn o (hl o ho).1 (hl o ho).2 σ.length _ (by simp));(refine W.a ?_;simp only[go_sem,rQ]);(refine W.c1 (hC) ?_;simp only[go_sem]);(refine W.a ?_;simp only[go_sem]);(refine W.fs (hok) (by simp only[rR,go_sem];rfl) ?_;simp only[ak];try exact V.wk.rfl _)
theorem UE(w0:World)(s:List aa)(hn:s.length<=1000000)(l:List aa)(hl:∀t∈l,aD s.length t/\aC t<=1000000)(σ:H)(b:Nat)(hb:σ[b]?=some (.vec 34 4 (aJ s))):DC prog w0 188 [.vec b s.length,.c (.sl (l.map aa.cs))] σ (Same (B true) σ):=by
 refine uG.go rfl (fun hok hsz=>?_);have hC:=ui w0 l 236 [.ptr σ.length 0] (fun _=>false) (σ++[.cells [.vec b s.length]]) (fun o ho=>Li w0 b hn o (hl o ho).1 (hl o ho).2 σ.length _ (by simp));rw[show l.any (fun _=>false)=false by simp]at hC;(refine W.a ?_;simp only[go_sem,rQ]);(refine W.c1 (hC) ?_;simp only[go_sem]);(refine W.a ?_;simp only[go_sem]);(refine W.fs (hok) (by simp only[rR,go_sem];rfl) ?_;simp only[ak];try exact V.wk.rfl _)
theorem UF(w0:World)(σ:H):DC prog w0 188 [.ab [],.ab []] σ (Same (B true) σ):=by
 refine uG.go rfl (fun hok hsz=>?_);have hC:=ui w0 [] 236 [.ptr σ.length 0] (fun _=>false) (σ++[.cells [.ab []]]) (fun o ho=>by cases ho);simp only[dT,List.any_nil]at hC;(refine W.a ?_;simp only[go_sem,rQ]);(refine W.jE (hC) ?_;simp only[go_sem]);(refine W.a ?_;simp only[go_sem]);(refine W.fs (hok) (by simp only[rR,go_sem];rfl) ?_;simp only[ak];try exact V.wk.rfl _)
theorem UG(w0:World)(l:List aa)(hl:∀t∈l,aD 0 t/\aC t<=1000000)(σ:H):DC prog w0 188 [.ab [],.c (.sl (l.map aa.cs))] σ (Same (B true) σ):=by
 refine uG.go rfl (fun hok hsz=>?_);have hC:=ui w0 l 236 [.ptr σ.length 0] (fun _=>false) (σ++[.cells [.ab []]]) (fun o ho=>Uz w0 (by decide) o (hl o ho).1 (hl o ho).2 σ.length _ (by simp));rw[show l.any (fun _=>false)=false by simp]at hC;(refine W.a ?_;simp only[go_sem,rQ]);(refine W.c1 (hC) ?_;simp only[go_sem]);(refine W.a ?_;simp only[go_sem]);(refine W.fs (hok) (by simp only[rR,go_sem];rfl) ?_;simp only[ak];try exact V.wk.rfl _)
def eW(st:List Int):List C:=st.map (C.int .i64)
theorem UH{st:List Int}{i:Nat}(hi:i<st.length):(eW st)[i]?=some (.int .i64 (dC st (i:Int))):=by
 unfold eW dC;rw[List.getElem?_map,aR hi,jX,cc,aR hi];rfl
theorem Lk{st:List Int}{i:Nat}(hi:i<st.length)(x:Int):dM i (eW st)++C.int .i64 x::fV (i+1) (eW st)=eW (st.set i x):=by
 unfold eW;rw[Fj,List.set_eq_take_append_cons_drop,if_pos (by rw[cd];exact hi)]
structure my (s:List aa) (b bs m:Nat) (U:List Int->H):Prop where
 len:∀a,(U a).length=m
 ok:∀a c X,H.ok (U a++X)->H.ok (U c++X)
 sub:∀a,(U a)[b]?=some (.vec 34 4 (aJ s))
 st:∀a,(U a)[bs]?=some (.vec 3 1 (eW a))
 set:∀a c,(U a).set bs (.vec 3 1 (eW c))=U c
theorem my.ext{s:List aa}{b bs m:Nat}{U:List Int->H}(h:my s b bs m U)(L:H):my s b bs (m+L.length) (fun a=>U a++L) where
 len:=fun a=>by rw[bt,h.len]
 ok:=fun a c X hx=>by rw[dc]at hx⊢;exact h.ok a c _ hx
 sub:=fun a=>hG (h.sub a) L
 st:=fun a=>hG (h.st a) L
 set:=fun a c=>by rw[hS (h.st a),h.set]
theorem UI(w0:World){s:List aa}{b bs m:Nat}{U:List Int->H}(F:my s b bs m U)(st st':List Int)(t:aa)(hk:t.k≠1)
  (hC:DC prog w0 64 [.c (.sl (t.l.map aa.cs)),.fn 237 [.ptr m 0,.ptr (m+2) 0]] (U st++[.cells [.vec b s.length],.cells t.v.ah,.cells [.vec bs s.length]]) (Same (B false) (U st'++[.cells [.vec b s.length],.cells t.v.ah,.cells [.vec bs s.length]]))):
  DC prog w0 189 [.vec b s.length,t.v,.vec bs s.length] (U st) (Same (B true) (U st')):=by
 refine yE.go rfl (fun hok hsz=>?_);have hlen0:=F.len;have hok1:=fun c=>by have:=F.ok st c [];simp only[cq]at this;exact this hok
 have hsub:=fun a L=>hG (F.sub a) L;have hst:=fun a L=>hG (F.st a) L;have de:=fun a c L=>by have:=hS (F.st a) (.vec 3 1 (eW c)) L;rw[F.set]at this;exact this
 have tg0:∀a x L,(U a++x::L)[m]?=some x:=fun a=>jL (hlen0 a);have tg:∀a k L,(U a++L)[m+k]?=L[k]?:=fun a=>iI (hlen0 a);have ts0:∀a x L,(U a++L).set m x=U a++L.set 0 x:=fun a=>mv (hlen0 a);have ts:∀a k x L,(U a++L).set (m+k) x=U a++L.set k x:=fun a=>mw (hlen0 a);have k1:(t.k==1)=false:=by simp[hk]
 simp only[aa.v,V.ah,aT]at hC;clear hk;(refine W.a ?_;simp only[go_sem,rS,bne,k1,hlen0,tg0,tg,ts0,ts,hsub,hst]);refine W.yes rfl (W.a ?_);simp only[go_sem,hlen0,tg0,tg,ts0,ts,hsub,hst];(refine W.c1 (hC) ?_;simp only[go_sem]);(refine W.a ?_;simp only[go_sem,hlen0,tg0,tg,ts0,ts,hsub,hst]);(refine W.fg (hok1 _) (d:=B true) (by simp only[rT,go_sem];rfl) (by simp only[ak,go_sem];exact au) ?_ (hn:=(hlen0 _)));exact⟨rfl,rfl⟩
theorem Ll(w0:World){s:List aa}{b bs m:Nat}{U:List Int->H}(F:my s b bs m U)(st:List Int)(t:aa)(ht:aD s.length t)(hst':st.length=s.length)(hk:t.k=1)(h1:dC st t.n≠1):
  ((dC st t.n=2\/bH s t=false)->DC prog w0 189 [.vec b s.length,t.v,.vec bs s.length] (U st) (Same (B true) (U st)))/\
  (bH s t=true->dC st t.n≠2->∀st',st'.length=s.length->(∀L,DC prog w0 189 [.vec b s.length,(cf s t.n).v,.vec bs s.length] (U (st.set t.n.toNat 1)++L) (Same (B true) (U st'++L)))->DC prog w0 189 [.vec b s.length,t.v,.vec bs s.length] (U st) (Same (B true) (U (st'.set t.n.toNat 2)))):=by
 obtain⟨h0,hlt,hnm,hl⟩:=ht.var hk;have hSt:=fun(σ:H) hb=>uJ w0 s t ht b σ hb;obtain⟨k,nm,n,l⟩:=t;simp only[aY,a7,aV,aL]at hk h0 hlt hnm hl h1⊢;subst hk hnm hl;obtain⟨i,rfl⟩:=sM h0;have hi:i<s.length:=by omega
 have hx:=UH (st:=st) (i:=i) (by omega);have x1:(dC st (i:Int)==1)=false:=by simp[h1]
 constructor
 ·intro h2;refine yE.go rfl (fun hok hsz=>?_);have hlen0:=F.len;have hok1:=fun c=>by have:=F.ok st c [];simp only[cq]at this;exact this hok
  have hsub:=fun a L=>hG (F.sub a) L;have hst:=fun a L=>hG (F.st a) L;have de:=fun a c L=>by have:=hS (F.st a) (.vec 3 1 (eW c)) L;rw[F.set]at this;exact this
  have tg0:∀a x L,(U a++x::L)[m]?=some x:=fun a=>jL (hlen0 a);have tg:∀a k L,(U a++L)[m+k]?=L[k]?:=fun a=>iI (hlen0 a);have ts0:∀a x L,(U a++L).set m x=U a++L.set 0 x:=fun a=>mv (hlen0 a);have ts:∀a k x L,(U a++L).set (m+k) x=U a++L.set k x:=fun a=>mw (hlen0 a);by_cases e2:dC st (i:Int)=2
  ·have x2:(dC st (i:Int)==2)=true:=by simp[e2]
   generalize dC st (i:Int)=q at*;clear h2 e2 h1;(refine W.a ?_;simp only[go_sem,rS,bne,hlen0,tg0,tg,ts0,ts,hsub,hst]);refine W.no rfl (W.a ?_);simp only[go_sem,hlen0,tg0,tg,ts0,ts,hsub,hst,h0,hlt,hx,x1,gN];refine W.no rfl (W.a ?_);simp only[go_sem,hlen0,tg0,tg,ts0,ts,hsub,hst,h0,hlt,hx,x2,gN];refine W.yes rfl (W.a ?_);simp only[go_sem,hlen0,tg0,tg,ts0,ts,hsub,hst];(refine W.fg (hok1 _) (d:=B true) (by simp only[rT,go_sem];rfl) (by simp only[ak,go_sem];exact au) ?_ (hn:=(hlen0 _)));exact⟨rfl,rfl⟩
  ·have x2:(dC st (i:Int)==2)=false:=by simp[e2]
   have h3:=h2.resolve_left e2;rw[h3]at hSt;generalize dC st (i:Int)=q at*;clear h2 e2 h1;(refine W.a ?_;simp only[go_sem,rS,bne,hlen0,tg0,tg,ts0,ts,hsub,hst]);refine W.no rfl (W.a ?_);simp only[go_sem,hlen0,tg0,tg,ts0,ts,hsub,hst,h0,hlt,hx,x1,gN];refine W.no rfl (W.a ?_);simp only[go_sem,hlen0,tg0,tg,ts0,ts,hsub,hst,h0,hlt,hx,x2,gN];(refine W.c1 (hSt _ (hsub _ _)) ?_;simp only[go_sem,hlen0,tg0,tg,ts0,ts,hsub,hst]);(refine W.a ?_;simp only[go_sem,hlen0,tg0,tg,ts0,ts,hsub,hst]);refine W.yes rfl (W.a ?_);simp only[go_sem,hlen0,tg0,tg,ts0,ts,hsub,hst]
   (refine W.fg (hok1 _) (d:=B true) (by simp only[rT,go_sem];rfl) (by simp only[ak,go_sem];exact au) ?_ (hn:=(hlen0 _)));exact⟨rfl,rfl⟩
 ·intro h3 e2 st' hl' hE;refine yE.go rfl (fun hok hsz=>?_);have hlen0:=F.len;have hok1:=fun c=>by have:=F.ok st c [];simp only[cq]at this;exact this hok
  have hsub:=fun a L=>hG (F.sub a) L;have hst:=fun a L=>hG (F.st a) L;have de:=fun a c L=>by have:=hS (F.st a) (.vec 3 1 (eW c)) L;rw[F.set]at this;exact this
  have tg0:∀a x L,(U a++x::L)[m]?=some x:=fun a=>jL (hlen0 a);have tg:∀a k L,(U a++L)[m+k]?=L[k]?:=fun a=>iI (hlen0 a);have ts0:∀a x L,(U a++L).set m x=U a++L.set 0 x:=fun a=>mv (hlen0 a);have ts:∀a k x L,(U a++L).set (m+k) x=U a++L.set k x:=fun a=>mw (hlen0 a);have x2:(dC st (i:Int)==2)=false:=by simp[e2]
  rw[h3]at hSt;rw[jX]at hE⊢;have s1:=Lk (st:=st) (i:=i) (by omega) 1;have s2:=Lk (st:=st') (i:=i) (by omega) 2;have b1:i+1<=(eW st).length:=by unfold eW;rw[cd];omega
  have b2:i+1<=(eW st').length:=by unfold eW;rw[cd];omega
  rw[rW hi]at hE;have hrow:=qa hi;have hle:i*4+4<=s.length*4:=by omega
  have hFl:=lq s;generalize s[i]=y at*;generalize dC st (i:Int)=q at*;generalize st.set i 1=st1 at*;generalize st'.set i 2=st2 at*;generalize aJ s=F' at*;clear e2 h1;(refine W.a ?_;simp only[go_sem,rS,bne,hlen0,tg0,tg,ts0,ts,hsub,hst]);refine W.no rfl (W.a ?_);simp only[go_sem,hlen0,tg0,tg,ts0,ts,hsub,hst,h0,hlt,hx,x1,gN];refine W.no rfl (W.a ?_);simp only[go_sem,hlen0,tg0,tg,ts0,ts,hsub,hst,h0,hlt,hx,x2,gN];(refine W.c1 (hSt _ (hsub _ _)) ?_;simp only[go_sem,hlen0,tg0,tg,ts0,ts,hsub,hst]);(refine W.a ?_;simp only[go_sem,hlen0,tg0,tg,ts0,ts,hsub,hst])
  refine W.no rfl (W.a ?_);simp only[go_sem,hlen0,tg0,tg,ts0,ts,hsub,hst,h0,hlt,gN,b1,s1,de];apply W.aQ (aS _ _)
  case hc=>
   (apply ae.al;simp only[go_sem,hlen0,tg0,tg,ts0,ts,hsub,hst,h0,hlt,hrow,hle,hFl]);(apply ae.call (hE _);(case hg=>rfl);(case hf=>rfl);(case ha=>first|rfl|simp));(apply ae.al;simp only[go_sem,hlen0,tg0,tg,ts0,ts,hsub,hst]);exact ae.nil
  (refine W.a ?_;simp only[go_sem,hlen0,tg0,tg,ts0,ts,hsub,hst,h0,hlt,gN,b2,s2,de]);(refine W.fg (hok1 _) (d:=B true) (by simp only[rT,go_sem];rfl) (by simp only[ak,go_sem];exact au) ?_ (hn:=(hlen0 _)));exact⟨rfl,rfl⟩
theorem UJ(w0:World){s:List aa}{b bs m:Nat}{U:List Int->H}(F:my s b bs m U)(st st':List Int)(t:aa)(p q:Nat)(h:∀L,DC prog w0 189 [.vec b s.length,t.v,.vec bs s.length] (U st++L) (Same (B true) (U st'++L)))
  (hp:∀a,(U a)[p]?=some (.cells [.vec b s.length])) (hq:∀a,(U a)[q]?=some (.cells [.vec bs s.length])):DC prog w0 237 [t.v,.ptr p 0,.ptr q 0] (U st) (Same (B false) (U st')):=by
 refine K9.go rfl (fun hok hsz=>?_);have hlen0:=F.len;have hok1:=fun c=>by have:=F.ok st c [];simp only[cq]at this;exact this hok
 have hsub:=fun a L=>hG (F.sub a) L;have hst:=fun a L=>hG (F.st a) L;have de:=fun a c L=>by have:=hS (F.st a) (.vec 3 1 (eW c)) L;rw[F.set]at this;exact this
 have tg0:∀a x L,(U a++x::L)[m]?=some x:=fun a=>jL (hlen0 a);have tg:∀a k L,(U a++L)[m+k]?=L[k]?:=fun a=>iI (hlen0 a);have ts0:∀a x L,(U a++L).set m x=U a++L.set 0 x:=fun a=>mv (hlen0 a);have ts:∀a k x L,(U a++L).set (m+k) x=U a++L.set k x:=fun a=>mw (hlen0 a);have hp2:=fun a L=>hG (hp a) L;have hq2:=fun a L=>hG (hq a) L;(refine W.a ?_;simp only[go_sem,C1,hlen0,tg0,tg,ts0,ts,hsub,hst,hp2,hq2]);(refine W.c1 (h _) ?_;simp only[go_sem]);(refine W.a ?_;simp only[go_sem,hlen0,tg0,tg,ts0,ts,hsub,hst])
 (refine W.fg (hok1 _) (d:=B false) (by simp only[C2,go_sem];rfl) (by simp only[ak,go_sem];exact au) ?_ (hn:=(hlen0 _)));exact⟨rfl,rfl⟩
mutual
theorem C9{s:List aa}:∀{st st':List Int} {t:aa},ni s st t st'->st.length=s.length->st'.length=s.length
 |_,_,_,.gX hk r,h=>Lm r h
 |_,_,_,.stop hk h1 h2,h=>h
 |_,_,_,.go hs' h1 h2 r,h=>by rw[bC];exact C9 r (by rw[bC];exact h)
theorem Lm{s:List aa}:∀{st st':List Int} {l:List aa},pw s st l st'->st.length=s.length->st'.length=s.length
 |_,_,_,.nil,h=>h
 |_,_,_,.cons r rs,h=>Lm rs (C9 r h)
end
theorem oE:∀(l:List aa),l.length<=bS l
 |[]=>by rw[bS];exact aA _
 |x::l=>by
  rw[bS,bo];have:=GZ x;have:=oE l;omega
mutual
theorem Da(w0:World){s:List aa}(hs:∀t∈s,aD s.length t){b bs:Nat}:∀{st st':List Int} {t:aa},ni s st t st'->aD s.length t->st.length=s.length->(∀x∈s,aC x<=1000000)->aC t<=1000000->∀{m:Nat} {U:List Int->H},my s b bs m U->st'.length=s.length/\DC prog w0 189 [.vec b s.length,t.v,.vec bs s.length] (U st) (Same (B true) (U st'))
 |st,st',t,.gX hk r,ht,hl,hN,hn,m,U,F=>by
  obtain⟨sts,e0,e1,e2,hE⟩:=Ln w0 hs r (fun u hu=>ht.dO hk hu) hl hN (fun u hu=>by have:=kl hu;rw[cW]at hn;omega) (b:=b) (bs:=bs);have hkl:t.l.length<=1000000:=by rw[cW]at hn;have:=oE t.l;omega
  have F2:=F.ext [.cells [.vec b s.length],.cells t.v.ah,.cells [.vec bs s.length]];have hC:=Lj w0 (fun a=>U a++[.cells [.vec b s.length],.cells t.v.ah,.cells [.vec bs s.length]]) _ F2.len (fun a c h=>by have:=F2.ok a c [];simp only[cq]at this;exact this h) t.l hkl 237 [.ptr m 0,.ptr (m+2) 0] sts t.l.length (aA _) (fun i hi _=>UJ w0 F2 _ _ _ _ _ (fun L=>hE i hi (F2.ext L)) (fun a=>jL (F.len a) _ _) (fun a=>iI (F.len a) 2 _)) (fun hi=>absurd hi (oW _));rw[if_neg (oW _),decide_eq_false (oW _),e0,e1]at hC;exact⟨e2,UI w0 F st st' t hk hC⟩
 |st,_,t,.stop hk h1 h2,ht,hl,hN,hn,m,U,F=>⟨hl,(Ll w0 F st t ht hl hk h1).1 h2⟩
 |st,_,t,.go hs' h1 h2 r,ht,hl,hN,hn,m,U,F=>by
  have hk:=gb hs';obtain⟨h0,hlt,_⟩:=ht.var hk;have hm:=iE h0 hlt;have hE:=fun L=>Da w0 hs r (hs _ hm) (by rw[bC];exact hl) hN (hN _ hm) (b:=b) (bs:=bs) (F.ext L);have hl':=(hE []).1;exact⟨by rw[bC];exact hl',(Ll w0 F st t ht hl hk h1).2 hs' h2 _ hl' (fun L=>(hE L).2)⟩
theorem Ln(w0:World){s:List aa}(hs:∀t∈s,aD s.length t){b bs:Nat}:∀{st st':List Int} {l:List aa},pw s st l st'->(∀u∈l,aD s.length u)->st.length=s.length->(∀x∈s,aC x<=1000000)->(∀u∈l,aC u<=1000000)->∃sts:Nat->List Int,sts 0=st/\sts l.length=st'/\st'.length=s.length/\∀i (hi:i<l.length),∀{m:Nat} {U:List Int->H},my s b bs m U->DC prog w0 189 [.vec b s.length,l[i].v,.vec bs s.length] (U (sts i)) (Same (B true) (U (sts (i+1))))
 |st,_,_,.nil,_,hl,_,_=>⟨fun _=>st,rfl,rfl,hl,fun i hi=>absurd hi (mU _)⟩
 |st,st',_,.cons (t:=t) (l:=l) (st1:=st1) r rs,ht,hl,hN,hn=>by
  have hx:=fun(m:Nat) (U:List Int->H) (F:my s b bs m U)=>Da w0 hs r (ht t (bp ..)) hl hN (hn t (bp ..)) F;have hl1:st1.length=s.length:=C9 r hl;obtain⟨sts,e0,e1,e2,hE⟩:=Ln w0 hs rs (fun u hu=>ht u (bW _ hu)) hl1 hN (fun u hu=>hn u (bW _ hu)) (b:=b) (bs:=bs);refine⟨fun i=>match i with|0=>st|i+1=>sts i,rfl,e1,e2,fun i hi m U F=>?_⟩;cases i with
  |zero=>simp only[e0];exact(hx _ _ F).2
  |succ i=>exact hE i (by simpa using hi) F
end
theorem uK(w0:World){N:Nat}{s:List aa}(hR:cl N s)(hN:N<=1000000)(hn:s.length<=1000000)(l:List aa)(hl:∀t∈l,aD s.length t/\aC t<=1000000)(σ:H)(b:Nat)(hb:σ[b]?=some (.vec 34 4 (aJ s))):DC prog w0 132 [.vec b s.length,.c (.sl (l.map aa.cs))] σ (Same (B true) σ):=by
 refine CR.go rfl (fun hok hsz=>?_);have hs2:∀t∈s,aD s.length t/\aC t<=1000000:=fun t ht=>⟨hR.right.holds t ht,by have:=hR.size t ht;omega⟩;have h1:=fun(σ:H) hb=>UD w0 s hn hs2 σ b hb;have h2:=fun(σ:H) hb=>UE w0 s hn l hl σ b hb;have hF:=fun n σ=>Lf w0 n σ;obtain⟨rk,hL⟩:=hR.right.less;have c0:(0:Int)<=(s.length:Int):=by omega
 have c1:8*(s.length:Int)<=140737488355328:=by omega
 have c2:(s.length:Int)<=140737488355328:=by omega
 have hbl:=(aK.1 hb).1;have F:my s b σ.length (σ.length+1) (fun a=>σ++[.vec 3 1 (eW a)]):={
  len:=fun a=>by simp
  ok:=fun a c X h=>by
   intro B hB cs tg hc x hx;have hll:(σ++[ad.vec 3 1 (eW a)]++X).length=(σ++[ad.vec 3 1 (eW c)]++X).length:=by simp
   rw[<-hll];rcases cH.1 hB with hB|hB
   ·rcases cH.1 hB with hB|hB
    ·exact h B (jY _ (jY _ hB)) cs tg hc x hx
    ·simp at hB;subst hB;cases hc
   ·exact h B (zX _ hB) cs tg hc x hx
  sub:=fun a=>hG hb _
  st:=fun a=>by simp
  set:=fun a c=>by simp}
 have hrep:v7 s.length (C.int .i64 0)=eW (v7 s.length 0):=by unfold eW;rw[List.map_replicate]
 (refine W.a ?_;simp only[go_sem,yA]);(refine W.c1 (h1 _ hb) ?_;simp only[go_sem]);(refine W.a ?_;simp only[go_sem]);(refine W.c1 (h2 _ hb) ?_;simp only[go_sem]);(refine W.a ?_;simp only[go_sem]);refine W.no rfl (W.a ?_);simp only[go_sem,c0,c1,c2,hrep];refine W.bA (α:=Nat×List Int) (fun x=>x.1<=s.length/\x.2.length=s.length/\∀u:Int,0<=u->u<s.length->dC x.2 u≠1) (fun x=>⟨((((base.put (some 0) (.vec b s.length)).put (some 5) (.vec σ.length s.length)).put (some 21) (I s.length)).put (some 22) (I (x.1:Nat))),σ++[.vec 3 1 (eW x.2)]⟩) (fun x=>s.length-x.1) (0,v7 s.length 0) ⟨bx _,by simp,fun u h0 h1=>?_⟩ ?_ (fun x hx=>?_)
 ·unfold dC;rw[cc,List.getElem?_replicate,if_pos (by omega)];decide
 ·(refine aq.env ?_;exact aE)
 obtain⟨i,st⟩:=x;obtain⟨hi,hsl,hst⟩:=hx;simp only at hi hsl hst;by_cases hlt:i<s.length
 ·have g1:((i:Int)<(s.length:Int)):=by omega
  have hw:aW.wrap ((i:Int)+1)=((i+1:Nat):Int):=by rw[bD]<;>omega
  have hT:aD s.length (aN (i:Int)):=iF (by omega) g1 hn;obtain⟨m,hm⟩:=tH rk hT;obtain⟨st',r,p1,p2⟩:=Q7 hL m (aN (i:Int)) st hsl hT hm (fun u h0 h1 hu=>absurd hu (hst u h0 (by omega)));have hE:=(Da w0 hR.right.holds r hT hsl (fun x hx=>by have:=hR.size x hx;omega) (by rw[cW];simp[aN,aa.l,bS]) F).2;(refine W.a ?_;simp only[go_sem,g1]);refine W.yes rfl (W.a ?_);simp only[go_sem];(refine W.c1 (hF _ _) ?_;simp only[go_sem]);(refine W.a ?_;simp only[go_sem]);(refine W.c1 (hE) ?_;simp only[go_sem]);(refine W.a ?_;simp only[go_sem])
  refine W.no rfl (W.a ?_);simp only[go_sem,hw];refine .inv ⟨(i+1,st'),⟨hlt,p1.trans hsl,fun u h0 h1 e=>hst u h0 h1 ((p2 u h0 (by omega)).1 e)⟩,by simp only;omega,?_⟩;(refine aq.env ?_;exact aE)
 obtain rfl:i=s.length:=by omega
 have g1:¬(((s.length:Nat):Int)<((s.length:Nat):Int)):=by omega
 (refine W.a ?_;simp only[go_sem,g1]);refine W.no rfl (W.a ?_);simp only[go_sem];(refine W.fs (hok) (by simp only[yB,go_sem];rfl) ?_;simp only[ak];try exact V.wk.rfl _)
theorem Lo(w0:World)(l:List aa)(hl:∀t∈l,aD 0 t/\aC t<=1000000)(σ:H):DC prog w0 132 [.ab [],.c (.sl (l.map aa.cs))] σ (Same (B true) σ):=by
 refine CR.go rfl (fun hok hsz=>?_);have h1:=fun(σ:H)=>UF w0 σ;have h2:=fun(σ:H)=>UG w0 l hl σ;(refine W.a ?_;simp only[go_sem,yA]);(refine W.c1 (h1 _) ?_;simp only[go_sem]);(refine W.a ?_;simp only[go_sem]);(refine W.c1 (h2 _) ?_;simp only[go_sem]);(refine W.a ?_;simp only[go_sem]);refine W.no rfl (W.a ?_);simp only[go_sem,rh];refine W.bA (α:=Unit) (fun _=>True) (fun _=>⟨(((base.put (some 0) (.ab [])).put (some 21) (I 0)).put (some 22) (I 0)),σ⟩) (fun _=>0) () trivial ?_ (fun _ _=>?_)
 ·(refine aq.drop ?_ (aA _) (hok) ?_;exact aE;(repeat' (first|exact aZ.base _|(refine aZ.put ?_ (by first|exact .c _|(simp only[go_sem];done)|exact V.gU _ _)))))
 (refine W.a ?_;simp only[go_sem]);refine W.no rfl (W.a ?_);simp only[go_sem];(refine W.fs (hok) (by simp only[yB,go_sem];rfl) ?_;simp only[ak];try exact V.wk.rfl _)
end Go.Proofs.YtdlkenpilhakfaaGreatDoor
namespace Go.Proofs.YtdlkenpilhakfaaGreatDoor
open Go.RowKit Go.Lamb
attribute [local go_sem] aa.v aa.aM aY a7 aV aL aT
theorem uL{σ:H}(h:H.ok σ)(m e n:Nat)(cs:List C):H.ok (σ.set m (.vec e n cs)):=by
 intro b hb cs' tg hc x hx;rw[bC];rcases List.mem_or_eq_of_mem_set hb with hb|hb
 ·exact h b hb cs' tg hc x hx
 ·rw[hb]at hc;cases hc
end Go.Proofs.YtdlkenpilhakfaaGreatDoor
namespace Go.Proofs.YtdlkenpilhakfaaGreatDoor
open Go.RowKit Go.Lamb
attribute [local go_sem] aa.v aa.aM aY a7 aV aL aT
structure jN (s:List aa) (b bm m:Nat) (U:List Int->H):Prop where
 len:∀a,(U a).length=m
 ok:∀a c X,H.ok (U a++X)->H.ok (U c++X)
 sub:∀a,(U a)[b]?=some (.vec 34 4 (aJ s))
 mp:∀a,(U a)[bm]?=some (.mp (gj a))
 set:∀a c,(U a).set bm (.mp (gj c))=U c
theorem jN.ext{s:List aa}{b bm m:Nat}{U:List Int->H}(h:jN s b bm m U)(L:H):jN s b bm (m+L.length) (fun a=>U a++L) where
 len:=fun a=>by rw[bt,h.len]
 ok:=fun a c X hx=>by rw[dc]at hx⊢;exact h.ok a c _ hx
 sub:=fun a=>hG (h.sub a) L
 mp:=fun a=>hG (h.mp a) L
 set:=fun a c=>by rw[hS (h.mp a),h.set]
theorem UK(w0:World){s:List aa}{b bm m:Nat}{U:List Int->H}(F:jN s b bm m U)(v:Int)(met met':List Int)(t:aa)(ht:aD s.length t)(hk:t.k≠1)(r:Bool)
  (hC:DC prog w0 64 [.c (.sl (t.l.map aa.cs)),.fn 288 [.ptr m 0,.ptr (m+1) 0,.ptr (m+3) 0]] (U met++[.cells [.vec b s.length],.cells [I v],.cells t.v.ah,.cells [.mp bm]]) (Same (B r) (U met'++[.cells [.vec b s.length],.cells [I v],.cells t.v.ah,.cells [.mp bm]]))):
  DC prog w0 279 [.vec b s.length,I v,t.v,.mp bm] (U met) (Same (B r) (U met')):=by
 have hSt:=fun(σ:H) hb=>uJ w0 s t ht b σ hb;rw[show bH s t=false by unfold bH;simp[hk]]at hSt;refine uH.go rfl (fun hok hsz=>?_);have hlen0:=F.len;have hok1:=fun c=>by have:=F.ok met c [];simp only[cq]at this;exact this hok
 have hsub:=fun a L=>hG (F.sub a) L;have hmp:=fun a L=>hG (F.mp a) L;have de:=fun a c L=>by have:=hS (F.mp a) (.mp (gj c)) L;rw[F.set]at this;exact this
 have tg0:∀a x L,(U a++x::L)[m]?=some x:=fun a=>jL (hlen0 a);have tg:∀a k L,(U a++L)[m+k]?=L[k]?:=fun a=>iI (hlen0 a);have ts0:∀a x L,(U a++L).set m x=U a++L.set 0 x:=fun a=>mv (hlen0 a);have ts:∀a k x L,(U a++L).set (m+k) x=U a++L.set k x:=fun a=>mw (hlen0 a);have k1:(t.k==1)=false:=by simp[hk]
 simp only[aa.v,V.ah,aT]at hC;clear hk;(refine W.a ?_;simp only[go_sem,rU,bne,hlen0,tg0,tg,ts0,ts,hsub,hmp]);(refine W.c1 (hSt _ (hsub _ _)) ?_;simp only[go_sem,hlen0,tg0,tg,ts0,ts,hsub,hmp]);(refine W.a ?_;simp only[go_sem,hlen0,tg0,tg,ts0,ts,hsub,hmp]);refine W.no rfl (W.a ?_);simp only[go_sem,hlen0,tg0,tg,ts0,ts,hsub,hmp,k1];refine W.no rfl (W.a ?_);simp only[go_sem,hlen0,tg0,tg,ts0,ts,hsub,hmp];(refine W.c1 (hC) ?_;simp only[go_sem]);(refine W.a ?_;simp only[go_sem,hlen0,tg0,tg,ts0,ts,hsub,hmp])
 (refine W.fg (hok1 _) (d:=B r) (by simp only[rV,go_sem];rfl) (by simp only[ak,go_sem];exact au) ?_ (hn:=(hlen0 _)));exact⟨rfl,rfl⟩
theorem UL(w0:World){s:List aa}{b bm m:Nat}{U:List Int->H}(F:jN s b bm m U)(v:Int)(met:List Int)(t:aa)(ht:aD s.length t)(hk:t.k=1)(hs:bH s t=false):
  DC prog w0 279 [.vec b s.length,I v,t.v,.mp bm] (U met) (Same (B (t.n==v)) (U met)):=by
 have hSt:=fun(σ:H) hb=>uJ w0 s t ht b σ hb;rw[hs]at hSt;refine uH.go rfl (fun hok hsz=>?_);have hlen0:=F.len;have hok1:=fun c=>by have:=F.ok met c [];simp only[cq]at this;exact this hok
 have hsub:=fun a L=>hG (F.sub a) L;have hmp:=fun a L=>hG (F.mp a) L;have de:=fun a c L=>by have:=hS (F.mp a) (.mp (gj c)) L;rw[F.set]at this;exact this
 have tg0:∀a x L,(U a++x::L)[m]?=some x:=fun a=>jL (hlen0 a);have tg:∀a k L,(U a++L)[m+k]?=L[k]?:=fun a=>iI (hlen0 a);have ts0:∀a x L,(U a++L).set m x=U a++L.set 0 x:=fun a=>mv (hlen0 a);have ts:∀a k x L,(U a++L).set (m+k) x=U a++L.set k x:=fun a=>mw (hlen0 a);have k1:(t.k==1)=true:=by simp[hk]
 clear hk hs;(refine W.a ?_;simp only[go_sem,rU,bne,hlen0,tg0,tg,ts0,ts,hsub,hmp]);(refine W.c1 (hSt _ (hsub _ _)) ?_;simp only[go_sem,hlen0,tg0,tg,ts0,ts,hsub,hmp]);(refine W.a ?_;simp only[go_sem,hlen0,tg0,tg,ts0,ts,hsub,hmp]);refine W.no rfl (W.a ?_);simp only[go_sem,hlen0,tg0,tg,ts0,ts,hsub,hmp,k1];refine W.yes rfl (W.a ?_);simp only[go_sem,hlen0,tg0,tg,ts0,ts,hsub,hmp];(refine W.fg (hok1 _) (d:=B (t.n==v)) (by simp only[rV,go_sem];rfl) (by simp only[ak,go_sem];exact au) ?_ (hn:=(hlen0 _)));exact⟨rfl,rfl⟩
theorem Lp(w0:World){s:List aa}{b bm m:Nat}{U:List Int->H}(F:jN s b bm m U)(v:Int)(met:List Int)(t:aa)(ht:aD s.length t)(hs:bH s t=true):
  (met.contains t.n=true->DC prog w0 279 [.vec b s.length,I v,t.v,.mp bm] (U met) (Same (B false) (U met)))/\
  (met.contains t.n=false->∀met' r,(∀L,DC prog w0 279 [.vec b s.length,I v,(cf s t.n).v,.mp bm] (U (met++[t.n])++L) (Same (B r) (U met'++L)))->DC prog w0 279 [.vec b s.length,I v,t.v,.mp bm] (U met) (Same (B r) (U met'))):=by
 have hSt:=fun(σ:H) hb=>uJ w0 s t ht b σ hb;rw[hs]at hSt;have hf:=Lc t.n met;have ha:=Uy met;have hko:(KD.i aW).ok (C.int aW t.n)=true:=rfl;constructor
 ·intro hc;rw[if_pos hc]at hf;refine uH.go rfl (fun hok hsz=>?_);have hlen0:=F.len;have hok1:=fun c=>by have:=F.ok met c [];simp only[cq]at this;exact this hok
  have hsub:=fun a L=>hG (F.sub a) L;have hmp:=fun a L=>hG (F.mp a) L;have de:=fun a c L=>by have:=hS (F.mp a) (.mp (gj c)) L;rw[F.set]at this;exact this
  have tg0:∀a x L,(U a++x::L)[m]?=some x:=fun a=>jL (hlen0 a);have tg:∀a k L,(U a++L)[m+k]?=L[k]?:=fun a=>iI (hlen0 a);have ts0:∀a x L,(U a++L).set m x=U a++L.set 0 x:=fun a=>mv (hlen0 a);have ts:∀a k x L,(U a++L).set (m+k) x=U a++L.set k x:=fun a=>mw (hlen0 a);clear hs ht hc;(refine W.a ?_;simp only[go_sem,rU,bne,hlen0,tg0,tg,ts0,ts,hsub,hmp]);(refine W.c1 (hSt _ (hsub _ _)) ?_;simp only[go_sem,hlen0,tg0,tg,ts0,ts,hsub,hmp]);(refine W.a ?_;simp only[go_sem,hlen0,tg0,tg,ts0,ts,hsub,hmp]);refine W.yes rfl (W.a ?_);simp only[go_sem,hlen0,tg0,tg,ts0,ts,hsub,hmp,ha,hko,hf,nU,ir];refine W.yes rfl (W.a ?_);simp only[go_sem,hlen0,tg0,tg,ts0,ts,hsub,hmp]
  (refine W.fg (hok1 _) (d:=B false) (by simp only[rV,go_sem];rfl) (by simp only[ak,go_sem];exact au) ?_ (hn:=(hlen0 _)));exact⟨rfl,rfl⟩
 ·intro hc met' r hE;rw[hc,if_neg (by simp)]at hf;have hu:=Ld t.n met hc;obtain⟨h0,hlt,_⟩:=ht.var (gb hs);obtain⟨i,hi⟩:=sM h0;have hil:i<s.length:=by omega
  rw[hi,rW hil]at hE;rw[hi]at hu hf hko h0 hlt;have hrow:=qa hil;have hle:i*4+4<=s.length*4:=by omega
  have hFl:=lq s;refine uH.go rfl (fun hok hsz=>?_);have hlen0:=F.len;have hok1:=fun c=>by have:=F.ok met c [];simp only[cq]at this;exact this hok
  have hsub:=fun a L=>hG (F.sub a) L;have hmp:=fun a L=>hG (F.mp a) L;have de:=fun a c L=>by have:=hS (F.mp a) (.mp (gj c)) L;rw[F.set]at this;exact this
  have tg0:∀a x L,(U a++x::L)[m]?=some x:=fun a=>jL (hlen0 a);have tg:∀a k L,(U a++L)[m+k]?=L[k]?:=fun a=>iI (hlen0 a);have ts0:∀a x L,(U a++L).set m x=U a++L.set 0 x:=fun a=>mv (hlen0 a);have ts:∀a k x L,(U a++L).set (m+k) x=U a++L.set k x:=fun a=>mw (hlen0 a);generalize s[i]=y at*;generalize aJ s=F' at*;generalize met++[(i:Int)]=met1 at*;clear hs ht hc;(refine W.a ?_;simp only[go_sem,rU,bne,hlen0,tg0,tg,ts0,ts,hsub,hmp]);(refine W.c1 (hSt _ (hsub _ _)) ?_;simp only[go_sem,hlen0,tg0,tg,ts0,ts,hsub,hmp])
  (refine W.a ?_;simp only[go_sem,hlen0,tg0,tg,ts0,ts,hsub,hmp]);refine W.yes rfl (W.a ?_);simp only[go_sem,hlen0,tg0,tg,ts0,ts,hsub,hmp,hi,ha,hko,hf,nU,Option.getD_none];refine W.no rfl (W.a ?_);simp only[go_sem,hlen0,tg0,tg,ts0,ts,hsub,hmp,hi,ha,hko,hu,de];apply W.aQ (aS _ _)
  case hc=>
   (apply ae.al;simp only[go_sem,hlen0,tg0,tg,ts0,ts,hsub,hmp,hi,h0,hlt,hrow,hle,hFl]);(apply ae.call (hE _);(case hg=>rfl);(case hf=>rfl);(case ha=>first|rfl|simp));(apply ae.al;simp only[go_sem,hlen0,tg0,tg,ts0,ts,hsub,hmp]);exact ae.nil
  (refine W.a ?_;simp only[go_sem,hlen0,tg0,tg,ts0,ts,hsub,hmp]);(refine W.fg (hok1 _) (d:=B r) (by simp only[rV,go_sem];rfl) (by simp only[ak,go_sem];exact au) ?_ (hn:=(hlen0 _)));exact⟨rfl,rfl⟩
theorem Lq(w0:World){s:List aa}{b bm m:Nat}{U:List Int->H}(F:jN s b bm m U)(v:Int)(met met':List Int)(t:aa)(r:Bool)(p q o:Nat)(h:∀L,DC prog w0 279 [.vec b s.length,I v,t.v,.mp bm] (U met++L) (Same (B r) (U met'++L)))
  (hp:∀a,(U a)[p]?=some (.cells [.vec b s.length])) (hq:∀a,(U a)[q]?=some (.cells [I v])) (ho:∀a,(U a)[o]?=some (.cells [.mp bm])):DC prog w0 288 [t.v,.ptr p 0,.ptr q 0,.ptr o 0] (U met) (Same (B r) (U met')):=by
 refine La.go rfl (fun hok hsz=>?_);have hlen0:=F.len;have hok1:=fun c=>by have:=F.ok met c [];simp only[cq]at this;exact this hok
 have hsub:=fun a L=>hG (F.sub a) L;have hmp:=fun a L=>hG (F.mp a) L;have de:=fun a c L=>by have:=hS (F.mp a) (.mp (gj c)) L;rw[F.set]at this;exact this
 have tg0:∀a x L,(U a++x::L)[m]?=some x:=fun a=>jL (hlen0 a);have tg:∀a k L,(U a++L)[m+k]?=L[k]?:=fun a=>iI (hlen0 a);have ts0:∀a x L,(U a++L).set m x=U a++L.set 0 x:=fun a=>mv (hlen0 a);have ts:∀a k x L,(U a++L).set (m+k) x=U a++L.set k x:=fun a=>mw (hlen0 a);have hp2:=fun a L=>hG (hp a) L;have hq2:=fun a L=>hG (hq a) L;have ho2:=fun a L=>hG (ho a) L;(refine W.a ?_;simp only[go_sem,C5,hlen0,tg0,tg,ts0,ts,hsub,hmp,hp2,hq2,ho2]);(refine W.c1 (h _) ?_;simp only[go_sem]);(refine W.a ?_;simp only[go_sem,hlen0,tg0,tg,ts0,ts,hsub,hmp])
 (refine W.fg (hok1 _) (d:=B r) (by simp only[C6,go_sem];rfl) (by simp only[ak,go_sem];exact au) ?_ (hn:=(hlen0 _)));exact⟨rfl,rfl⟩
mutual
theorem yN(w0:World){s:List aa}(hs:∀t∈s,aD s.length t)(hN:∀x∈s,aC x<=1000000){b bm:Nat}{v:Int}:∀{met met':List Int} {t:aa} {r:Bool},gY s v met t r met'->aD s.length t->aC t<=1000000->∀{m:Nat} {U:List Int->H},jN s b bm m U->DC prog w0 279 [.vec b s.length,I v,t.v,.mp bm] (U met) (Same (B r) (U met'))
 |met,_,t,_,.seen h h1,ht,hn,m,U,F=>(Lp w0 F v met t ht h).1 h1
 |met,met',t,b',.go h h1 r,ht,hn,m,U,F=>by
  have hk:=gb h;obtain⟨h0,hlt,_⟩:=ht.var hk;have hm:=iE h0 hlt;exact(Lp w0 F v met t ht h).2 h1 met' b' (fun L=>yN w0 hs hN r (hs _ hm) (hN _ hm) (b:=b) (bm:=bm) (F.ext L))
 |met,_,t,_,.var h hk,ht,hn,m,U,F=>UL w0 F v met t ht hk h
 |met,met',t,b',.gX hk r,ht,hn,m,U,F=>by
  obtain⟨sts,k,hkl,e0,e1,e2,hno,hyes⟩:=Lr w0 hs hN r (fun u hu=>ht.dO hk hu) (fun u hu=>by have:=kl hu;rw[cW]at hn;omega) (b:=b) (bm:=bm);have hl:t.l.length<=1000000:=by rw[cW]at hn;have:=oE t.l;omega
  have F2:=F.ext [.cells [.vec b s.length],.cells [I v],.cells t.v.ah,.cells [.mp bm]];have hC:=Lj w0 (fun a=>U a++[.cells [.vec b s.length],.cells [I v],.cells t.v.ah,.cells [.mp bm]]) _ F2.len (fun a c h=>by have:=F2.ok a c [];simp only[cq]at this;exact this h) t.l hl 288 [.ptr m 0,.ptr (m+1) 0,.ptr (m+3) 0] sts k hkl
   (fun i hi hik=>Lq w0 F2 v _ _ _ _ _ _ _ (fun L=>hno i hi hik (F2.ext L)) (fun a=>jL (F.len a) _ _) (fun a=>iI (F.len a) 1 _) (fun a=>iI (F.len a) 3 _))
   (fun hi=>Lq w0 F2 v _ _ _ _ _ _ _ (fun L=>hyes hi (F2.ext L)) (fun a=>jL (F.len a) _ _) (fun a=>iI (F.len a) 1 _) (fun a=>iI (F.len a) 3 _))
  rw[e0,<-e1,<-e2]at hC;exact UK w0 F v met met' t ht hk b' hC
theorem Lr(w0:World){s:List aa}(hs:∀t∈s,aD s.length t)(hN:∀x∈s,aC x<=1000000){b bm:Nat}{v:Int}:∀{met met':List Int} {l:List aa} {r:Bool},oq s v met l r met'->(∀u∈l,aD s.length u)->(∀u∈l,aC u<=1000000)->∃(sts:Nat->List Int) (k:Nat),k<=l.length/\sts 0=met/\r=decide (k<l.length)/\met'=sts (if k<l.length then k+1 else k)/\
  (∀i (hi:i<l.length),i<k->∀{m:Nat} {U:List Int->H},jN s b bm m U->DC prog w0 279 [.vec b s.length,I v,l[i].v,.mp bm] (U (sts i)) (Same (B false) (U (sts (i+1)))))/\
  (∀(hi:k<l.length),∀{m:Nat} {U:List Int->H},jN s b bm m U->DC prog w0 279 [.vec b s.length,I v,l[k].v,.mp bm] (U (sts k)) (Same (B true) (U (sts (k+1)))))
 |met,_,_,_,.nil,_,_=>⟨fun _=>met,0,aA _,rfl,rfl,rfl,fun i hi=>absurd hi (mU _),fun hi=>absurd hi (mU _)⟩
 |met,met',_,_,.yes (t:=t) (l:=l) r,ht,hn=>by
  have hx:=fun(m:Nat) (U:List Int->H) (F:jN s b bm m U)=>yN w0 hs hN r (ht t (bp ..)) (hn t (bp ..)) F;exact⟨fun i=>match i with|0=>met|_+1=>met',0,bx _,rfl,by simp,by simp,fun i _ hi=>absurd hi (mU _),fun hi m U F=>hx _ _ F⟩
 |met,met',_,_,.no (m1:=m1) (t:=t) (l:=l) r rs,ht,hn=>by
  have hx:=fun(m:Nat) (U:List Int->H) (F:jN s b bm m U)=>yN w0 hs hN r (ht t (bp ..)) (hn t (bp ..)) F;obtain⟨sts,k,hkl,e0,e1,e2,hno,hyes⟩:=Lr w0 hs hN rs (fun u hu=>ht u (bW _ hu)) (fun u hu=>hn u (bW _ hu)) (b:=b) (bm:=bm);refine⟨fun i=>match i with|0=>met|i+1=>sts i,k+1,by rw[bo];omega,rfl,by rw[e1,bo];simp,?_,fun i hi hik m U F=>?_,fun hi m U F=>?_⟩
  ·rw[e2,bo];by_cases h:k<l.length
   ·rw[if_pos h,if_pos (by omega)]
   ·rw[if_neg h,if_neg (by omega)]
  ·cases i with
   |zero=>simp only[e0];exact hx _ _ F
   |succ i=>exact hno i (by simpa using hi) (by omega) F
  ·exact hyes (by simpa using hi) F
end
theorem UM(s:List aa)(b:Nat)(σ:H)(hb:σ[b]?=some (.vec 34 4 (aJ s)))(X:ad):jN s b (σ.length+1) (σ.length+2) (fun a=>σ++[X,.mp (gj a)]) where
 len:=fun a=>by simp
 ok:=fun a c L h=>by
  intro B hB cs tg hc x hx;have hll:(σ++[X,.mp (gj a)]++L).length=(σ++[X,.mp (gj c)]++L).length:=by simp
  rw[<-hll];rcases cH.1 hB with hB|hB
  ·rcases cH.1 hB with hB|hB
   ·exact h B (jY _ (jY _ hB)) cs tg hc x hx
   ·simp only[List.mem_cons,List.not_mem_nil,or_false]at hB;rcases hB with rfl|rfl
    ·exact h B (jY _ (zX _ (bp ..))) cs tg hc x hx
    ·cases hc
  ·exact h B (zX _ hB) cs tg hc x hx
 sub:=fun a=>hG hb _
 mp:=fun a=>by
  rw[List.getElem?_append_right (by omega),fm];rfl
 set:=fun a c=>by
  rw[List.set_append_right _ _ (by omega),fm];rfl
theorem UN(w0:World){N:Nat}{s:List aa}(hR:cl N s)(hN:N<=1000000)(v:Int)(t:aa)(ht:aD s.length t)(hn:aC t<=N)(h0:0<=v)(hlt:v<s.length)(e:Int)(s':List aa)(hB:nj s v t e s')(b:Nat)(σ:H)(hb:σ[b]?=some (.vec 34 4 (aJ s))):
  DC prog w0 259 [.vec b s.length,I v,t.v] σ (Same (I e) (σ.set b (.vec 34 4 (aJ s')))):=by
 have hO:=fun r met (h:gY s v [] t r met)=>yN w0 hR.right.holds (fun x hx=>by have:=hR.size x hx;omega) h ht (by omega) (UM s b σ hb (.cells t.v.ah));have e0:gj []=[]:=rfl;cases hB with
 |yes h=>
  have hC:=hO _ _ h;simp only[e0,aa.v,V.ah,aT]at hC;rw[pj hb];refine C4.go rfl (fun hok hsz=>?_);(refine W.a ?_;simp only[go_sem,yK]);(refine W.c1 (hC) ?_;simp only[go_sem]);refine W.yes rfl (W.a ?_);simp only[go_sem];(refine W.fs (hok) (by simp only[yL,go_sem];rfl) ?_;simp only[ak];try exact V.wk.rfl _)
 |no h=>
  have hC:=hO _ _ h;simp only[e0,aa.v,V.ah,aT]at hC;obtain⟨i,rfl⟩:=sM h0;have hil:i<s.length:=by omega
  have de:=C8 hil t;have hle:i*4+4<=s.length*4:=by omega
  have hFl:=lq s;have hlen:=(aK.1 hb).1;rw[jX];generalize aJ (s.set i t)=F2 at*;generalize aJ s=F' at*
  have hb2:=fun L=>hG hb L;have hs2:=fun L=>hS hb (.vec 34 4 F2) L;refine C4.go rfl (fun hok hsz=>?_);have hok2:H.ok (σ.set b (.vec 34 4 F2)):=uL hok b _ _ _;(refine W.a ?_;simp only[go_sem,yK]);(refine W.c1 (hC) ?_;simp only[go_sem]);refine W.no rfl (W.a ?_);simp only[go_sem,h0,hlt,hb2,hle,hFl,de,hs2];(refine W.fs (hok2) (by simp only[yL,go_sem];rfl) ?_;simp only[ak];try exact V.wk.rfl _)
end Go.Proofs.YtdlkenpilhakfaaGreatDoor
namespace Go.Lamb
open Go Go.RowKit
def bV(p:aa×aa):List C:=[.int .i64 p.1.k,.str p.1.name,.int .i64 p.1.n,.sl (p.1.l.map aa.cs),.int .i64 p.2.k,.str p.2.name,.int .i64 p.2.n,.sl (p.2.l.map aa.cs)]
def aP(l:List (aa×aa)):List C:=(l.map bV).flatten
theorem rX(l:List (aa×aa)):∀r∈l.map bV,r.length=8:=fun r hr=>by
 obtain⟨u,_,rfl⟩:=dK.1 hr;rfl
theorem Ls{n:Nat}{rows:List (List C)}(h:∀r∈rows,r.length=n):rows.flatten.length=rows.length*n:=by
 induction rows with
 |nil=>simp
 |cons r l ih=>
  rw[dU,bt,ih (fun q hq=>h q (bW _ hq)),h r (bp ..),bo,fi];omega
theorem Lt{n:Nat}{rows:List (List C)}(h:∀r∈rows,r.length=n){i:Nat}(hi:i<rows.length):(rows.flatten.drop (i*n)).take n=rows[i]:=by
 have h1:=tx n rows.length rows.flatten i (by rw[w9];exact hi);rw[<-h1];have h2:=ph h;simp only[h2]
theorem Lu{n:Nat}{rows:List (List C)}:(∀r∈rows,r.length=n)->∀{i:Nat} (hi:i<rows.length) (y:List C),y.length=n->rows.flatten.take (i*n)++y++rows.flatten.drop (i*n+n)=(rows.set i y).flatten:=by
 induction rows with
 |nil=>intro _ i hi;simp at hi
 |cons r l ih=>
  intro h i hi y hy;have hr:=h r (bp ..);cases i with
  |zero=>
   rw[List.set_cons_zero,dU,dU,Nat.zero_mul,dj,er,eF]
   conv=>lhs;rw[<-hr,List.drop_left]
  |succ i=>
   have e1:(i+1)*n=r.length+i*n:=by rw[hr,fi];omega
   rw[List.set_cons_succ,dU,dU,<-ih (fun q hq=>h q (bW _ hq)) (by simpa using hi) y hy];rw[e1,List.take_append,fj (by omega),fm,jk,List.drop_append,sI (by omega),fm,er];simp only[dc]
theorem ib(l:List (aa×aa)):(aP l).length=l.length*8:=by unfold aP;rw[Ls (rX l),cd]
theorem uM(a b:List (aa×aa)):aP (a++b)=aP a++aP b:=by unfold aP;rw[List.map_append,List.flatten_append]
theorem UO{l:List (aa×aa)}{i:Nat}(hi:i<l.length):dM 8 (fV (i*8) (aP l))=bV l[i]:=by
 have h:=Lt (rX l) (i:=i) (by rw[cd];exact hi);rw[dE]at h;exact h
theorem Lv{l:List (aa×aa)}{i:Nat}(hi:i<l.length):dM 8 (fV (i*8) (il V.c (aP l)))=(bV l[i]).map V.c:=by
 rw[<-List.map_drop,<-List.map_take,UO hi]
theorem uN:∀(a b:List aa),a.length=b.length->(df a b).length=a.length
 |[],[],_=>rfl
 |x::a,y::b,h=>by rw[df,bo,uN a b (by simpa using h),bo]
 |[],_::_,h=>by cases h
 |_::_,[],h=>by cases h
theorem Db:∀(a b:List aa) (i:Nat) (h:i<(df a b).length) (ha:i<a.length) (hb:i<b.length),(df a b)[i]=(a[i],b[i])
 |x::a,y::b,0,_,_,_=>rfl
 |x::a,y::b,i+1,h,ha,hb=>by
  simp only[df,List.getElem_cons_succ];exact Db a b i (by simpa[df]using h) (by simpa using ha) (by simpa using hb)
end Go.Lamb
namespace Go.Proofs.YtdlkenpilhakfaaGreatDoor
open Go.RowKit Go.Lamb
attribute [local go_sem] aa.v aa.aM aY a7 aV aL aT
def gI(m:Nat)(l:List (aa×aa)):V:=if l=[]then .ab []else .vec m l.length
def gJ(σ:H)(l:List (aa×aa)):H:=if l=[]then σ else σ++[.vec 235 8 (aP l)]
theorem UP(w0:World){s:List aa}{a b x y:aa}(bs:Nat)(σ:H)(hb:σ[bs]?=some (.vec 34 4 (aJ s)))
  (hx:∀σ,σ[bs]?=some (.vec 34 4 (aJ s))->DC prog w0 191 [.vec bs s.length,a.v] σ (Same x.v σ)) (hy:∀σ,σ[bs]?=some (.vec 34 4 (aJ s))->DC prog w0 191 [.vec bs s.length,b.v] σ (Same y.v σ)) (kx:(x.k==1)=true) (ky:(y.k==1)=true) (hn:(x.n==y.n)=true):DC prog w0 227 [.vec bs s.length,a.v,b.v] σ (Same (.av [.ab [],I 0]) σ):=by
 refine lp.go rfl (fun hok hsz=>?_);(refine W.a ?_;simp only[go_sem,c227]);apply W.aQ (aS _ _)
 case hc=>
  (apply ae.al;simp only[go_sem]);(apply ae.call (hx _ (hG hb _));(case hg=>rfl);(case hf=>rfl);(case ha=>first|rfl|simp));(apply ae.al;simp only[go_sem]);(apply ae.call (hy _ (hG hb _));(case hg=>rfl);(case hf=>rfl);(case ha=>first|rfl|simp));(apply ae.al;simp only[go_sem]);exact ae.nil
 (refine W.a ?_;simp only[go_sem,kx,ky,hn]);refine W.yes rfl (W.a ?_);simp only[go_sem];(refine W.fs (hok) (by simp only[ia,go_sem];rfl) ?_;simp only[ak];try exact V.wk.rfl _)
theorem UQ(w0:World){s:List aa}{a b x y:aa}(bs:Nat)(σ:H)(hb:σ[bs]?=some (.vec 34 4 (aJ s)))
  (hx:∀σ,σ[bs]?=some (.vec 34 4 (aJ s))->DC prog w0 191 [.vec bs s.length,a.v] σ (Same x.v σ)) (hy:∀σ,σ[bs]?=some (.vec 34 4 (aJ s))->DC prog w0 191 [.vec bs s.length,b.v] σ (Same y.v σ)) (kx:(x.k==1)=true) (ky:(y.k==1)=true) (hn:(x.n==y.n)=false) (e:Int) (s':List aa)
  (hB:∀L,DC prog w0 259 [.vec bs s.length,I (max x.n y.n),(aN (min x.n y.n)).v] (σ++L) (Same (I e) (σ.set bs (.vec 34 4 (aJ s'))++L))):DC prog w0 227 [.vec bs s.length,a.v,b.v] σ (Same (.av [.ab [],I e]) (σ.set bs (.vec 34 4 (aJ s')))):=by
 refine lp.go rfl (fun hok hsz=>?_);have hok2:H.ok (σ.set bs (.vec 34 4 (aJ s'))):=uL hok bs _ _ _;have hmx:(if y.n>x.n then y.n else x.n)=max x.n y.n:=by split<;>omega
 have hmn:(if y.n<x.n then y.n else x.n)=min x.n y.n:=by split<;>omega
 have hF:=fun σ=>Lf w0 (min x.n y.n) σ;generalize max x.n y.n=q at*
 generalize aN (min x.n y.n)=z at*
 generalize min x.n y.n=r at*
 (refine W.a ?_;simp only[go_sem,c227]);apply W.aQ (aS _ _)
 case hc=>
  (apply ae.al;simp only[go_sem]);(apply ae.call (hx _ (hG hb _));(case hg=>rfl);(case hf=>rfl);(case ha=>first|rfl|simp));(apply ae.al;simp only[go_sem]);(apply ae.call (hy _ (hG hb _));(case hg=>rfl);(case hf=>rfl);(case ha=>first|rfl|simp));(apply ae.al;simp only[go_sem]);exact ae.nil
 (refine W.a ?_;simp only[go_sem,kx,ky,hn]);refine W.no rfl (W.a ?_);simp only[go_sem,kx,ky,hn];refine W.yes rfl (W.a ?_);simp only[go_sem];apply W.aQ (aS _ _)
 case hc=>
  (apply ae.al;simp only[go_sem,hmx,hmn]);(apply ae.call (hF _);(case hg=>rfl);(case hf=>rfl);(case ha=>first|rfl|simp));(apply ae.al;simp only[go_sem,hmx,hmn]);(apply ae.call (hB _);(case hg=>rfl);(case hf=>rfl);(case ha=>first|rfl|simp));(apply ae.al;simp only[go_sem]);exact ae.nil
 (refine W.a ?_;simp only[go_sem]);(refine W.fs (hok2) (by simp only[ia,go_sem];rfl) ?_;simp only[ak];try exact V.wk.rfl _)
theorem UR(w0:World){s:List aa}{a b x y:aa}(bs:Nat)(σ:H)(hb:σ[bs]?=some (.vec 34 4 (aJ s)))
  (hx:∀σ,σ[bs]?=some (.vec 34 4 (aJ s))->DC prog w0 191 [.vec bs s.length,a.v] σ (Same x.v σ)) (hy:∀σ,σ[bs]?=some (.vec 34 4 (aJ s))->DC prog w0 191 [.vec bs s.length,b.v] σ (Same y.v σ)) (kx:(x.k==1)=true) (ky:(y.k==1)=false) (e:Int) (s':List aa)
  (hB:∀L,DC prog w0 259 [.vec bs s.length,I x.n,y.v] (σ++L) (Same (I e) (σ.set bs (.vec 34 4 (aJ s'))++L))):DC prog w0 227 [.vec bs s.length,a.v,b.v] σ (Same (.av [.ab [],I e]) (σ.set bs (.vec 34 4 (aJ s')))):=by
 refine lp.go rfl (fun hok hsz=>?_);have hok2:H.ok (σ.set bs (.vec 34 4 (aJ s'))):=uL hok bs _ _ _;(refine W.a ?_;simp only[go_sem,c227]);apply W.aQ (aS _ _)
 case hc=>
  (apply ae.al;simp only[go_sem]);(apply ae.call (hx _ (hG hb _));(case hg=>rfl);(case hf=>rfl);(case ha=>first|rfl|simp));(apply ae.al;simp only[go_sem]);(apply ae.call (hy _ (hG hb _));(case hg=>rfl);(case hf=>rfl);(case ha=>first|rfl|simp));(apply ae.al;simp only[go_sem]);exact ae.nil
 (refine W.a ?_;simp only[go_sem,kx,ky]);refine W.no rfl (W.a ?_);simp only[go_sem,kx,ky];refine W.no rfl (W.a ?_);simp only[go_sem,kx,ky];refine W.yes rfl (W.a ?_);simp only[go_sem];(refine W.c1 (hB _) ?_;simp only[go_sem]);(refine W.a ?_;simp only[go_sem]);(refine W.fs (hok2) (by simp only[ia,go_sem];rfl) ?_;simp only[ak];try exact V.wk.rfl _)
theorem US(w0:World){s:List aa}{a b x y:aa}(bs:Nat)(σ:H)(hb:σ[bs]?=some (.vec 34 4 (aJ s)))
  (hx:∀σ,σ[bs]?=some (.vec 34 4 (aJ s))->DC prog w0 191 [.vec bs s.length,a.v] σ (Same x.v σ)) (hy:∀σ,σ[bs]?=some (.vec 34 4 (aJ s))->DC prog w0 191 [.vec bs s.length,b.v] σ (Same y.v σ)) (kx:(x.k==1)=false) (ky:(y.k==1)=true) (e:Int) (s':List aa)
  (hB:∀L,DC prog w0 259 [.vec bs s.length,I y.n,x.v] (σ++L) (Same (I e) (σ.set bs (.vec 34 4 (aJ s'))++L))):DC prog w0 227 [.vec bs s.length,a.v,b.v] σ (Same (.av [.ab [],I e]) (σ.set bs (.vec 34 4 (aJ s')))):=by
 refine lp.go rfl (fun hok hsz=>?_);have hok2:H.ok (σ.set bs (.vec 34 4 (aJ s'))):=uL hok bs _ _ _;(refine W.a ?_;simp only[go_sem,c227]);apply W.aQ (aS _ _)
 case hc=>
  (apply ae.al;simp only[go_sem]);(apply ae.call (hx _ (hG hb _));(case hg=>rfl);(case hf=>rfl);(case ha=>first|rfl|simp));(apply ae.al;simp only[go_sem]);(apply ae.call (hy _ (hG hb _));(case hg=>rfl);(case hf=>rfl);(case ha=>first|rfl|simp));(apply ae.al;simp only[go_sem]);exact ae.nil
 (refine W.a ?_;simp only[go_sem,kx,ky]);refine W.no rfl (W.a ?_);simp only[go_sem,kx,ky];refine W.no rfl (W.a ?_);simp only[go_sem,kx,ky];refine W.no rfl (W.a ?_);simp only[go_sem,kx,ky];refine W.yes rfl (W.a ?_);simp only[go_sem];(refine W.c1 (hB _) ?_;simp only[go_sem]);(refine W.a ?_;simp only[go_sem]);(refine W.fs (hok2) (by simp only[ia,go_sem];rfl) ?_;simp only[ak];try exact V.wk.rfl _)
theorem UT(w0:World){s:List aa}{a b x y:aa}(bs:Nat)(σ:H)(hb:σ[bs]?=some (.vec 34 4 (aJ s)))
  (hx:∀σ,σ[bs]?=some (.vec 34 4 (aJ s))->DC prog w0 191 [.vec bs s.length,a.v] σ (Same x.v σ)) (hy:∀σ,σ[bs]?=some (.vec 34 4 (aJ s))->DC prog w0 191 [.vec bs s.length,b.v] σ (Same y.v σ)) (kx:(x.k==1)=false) (ky:(y.k==1)=false) (hc:¬(x.k=y.k/\x.name=y.name/\x.l.length=y.l.length)):DC prog w0 227 [.vec bs s.length,a.v,b.v] σ (Same (.av [.ab [],I 60]) σ):=by
 refine lp.go rfl (fun hok hsz=>?_);by_cases h1:x.k=y.k
 ·have c1:(x.k==y.k)=true:=by simp[h1]
  by_cases h2:x.name=y.name
  ·have c2:(x.name==y.name)=true:=by simp[h2]
   have h3:¬x.l.length=y.l.length:=fun h=>hc ⟨h1,h2,h⟩;have c3:((x.l.length:Int)==(y.l.length:Int))=false:=by simp;omega
   clear hc h1 h2 h3;(refine W.a ?_;simp only[go_sem,c227]);apply W.aQ (aS _ _)
   case hc=>
    (apply ae.al;simp only[go_sem]);(apply ae.call (hx _ (hG hb _));(case hg=>rfl);(case hf=>rfl);(case ha=>first|rfl|simp));(apply ae.al;simp only[go_sem]);(apply ae.call (hy _ (hG hb _));(case hg=>rfl);(case hf=>rfl);(case ha=>first|rfl|simp));(apply ae.al;simp only[go_sem]);exact ae.nil
   (refine W.a ?_;simp only[go_sem,kx,ky]);refine W.no rfl (W.a ?_);simp only[go_sem,kx,ky];refine W.no rfl (W.a ?_);simp only[go_sem,kx,ky];refine W.no rfl (W.a ?_);simp only[go_sem,kx,ky];refine W.no rfl (W.a ?_);simp only[go_sem,bne,c1,c2,c3];refine W.yes rfl (W.a ?_);simp only[go_sem];(refine W.fs (hok) (by simp only[ia,go_sem];rfl) ?_;simp only[ak];try exact V.wk.rfl _)
  ·have c2:(x.name==y.name)=false:=by simp[h2]
   clear hc h1 h2;(refine W.a ?_;simp only[go_sem,c227]);apply W.aQ (aS _ _)
   case hc=>
    (apply ae.al;simp only[go_sem]);(apply ae.call (hx _ (hG hb _));(case hg=>rfl);(case hf=>rfl);(case ha=>first|rfl|simp));(apply ae.al;simp only[go_sem]);(apply ae.call (hy _ (hG hb _));(case hg=>rfl);(case hf=>rfl);(case ha=>first|rfl|simp));(apply ae.al;simp only[go_sem]);exact ae.nil
   (refine W.a ?_;simp only[go_sem,kx,ky]);refine W.no rfl (W.a ?_);simp only[go_sem,kx,ky];refine W.no rfl (W.a ?_);simp only[go_sem,kx,ky];refine W.no rfl (W.a ?_);simp only[go_sem,kx,ky];refine W.no rfl (W.a ?_);simp only[go_sem,bne,c1,c2];refine W.yes rfl (W.a ?_);simp only[go_sem];(refine W.fs (hok) (by simp only[ia,go_sem];rfl) ?_;simp only[ak];try exact V.wk.rfl _)
 ·have c1:(x.k==y.k)=false:=by simp[h1]
  clear hc h1;(refine W.a ?_;simp only[go_sem,c227]);apply W.aQ (aS _ _)
  case hc=>
   (apply ae.al;simp only[go_sem]);(apply ae.call (hx _ (hG hb _));(case hg=>rfl);(case hf=>rfl);(case ha=>first|rfl|simp));(apply ae.al;simp only[go_sem]);(apply ae.call (hy _ (hG hb _));(case hg=>rfl);(case hf=>rfl);(case ha=>first|rfl|simp));(apply ae.al;simp only[go_sem]);exact ae.nil
  (refine W.a ?_;simp only[go_sem,kx,ky]);refine W.no rfl (W.a ?_);simp only[go_sem,kx,ky];refine W.no rfl (W.a ?_);simp only[go_sem,kx,ky];refine W.no rfl (W.a ?_);simp only[go_sem,kx,ky];refine W.no rfl (W.a ?_);simp only[go_sem,bne,c1];refine W.yes rfl (W.a ?_);simp only[go_sem];(refine W.fs (hok) (by simp only[ia,go_sem];rfl) ?_;simp only[ak];try exact V.wk.rfl _)
theorem UU(w0:World){s:List aa}{a b x y:aa}(bs:Nat)(σ:H)(hb:σ[bs]?=some (.vec 34 4 (aJ s)))
  (hx:∀σ,σ[bs]?=some (.vec 34 4 (aJ s))->DC prog w0 191 [.vec bs s.length,a.v] σ (Same x.v σ)) (hy:∀σ,σ[bs]?=some (.vec 34 4 (aJ s))->DC prog w0 191 [.vec bs s.length,b.v] σ (Same y.v σ)) (kx:(x.k==1)=false) (ky:(y.k==1)=false) (h1:x.k=y.k) (h2:x.name=y.name) (h3:x.l.length=y.l.length) (hn:x.l.length<=1000000):DC prog w0 227 [.vec bs s.length,a.v,b.v] σ (Same (.av [gI σ.length (df x.l y.l),I 0]) (gJ σ (df x.l y.l))):=by
 have c1:(x.k==y.k)=true:=by simp[h1]
 have c2:(x.name==y.name)=true:=by simp[h2]
 have c3:((x.l.length:Int)==(y.l.length:Int))=true:=by simp[h3]
 have hzl:=uN x.l y.l h3;by_cases h0:x.l=[]
 ·have hz:df x.l y.l=[]:=List.eq_nil_of_length_eq_zero (by rw[hzl,h0];rfl);have hl0:x.l.length=0:=by rw[h0];rfl
  unfold gI gJ;rw[if_pos hz,if_pos hz];refine lp.go rfl (fun hok hsz=>?_);have z1:¬((0:Int)<(x.l.length:Int)):=by omega
  clear h1 h2 h3 h0 hz hzl;(refine W.a ?_;simp only[go_sem,c227]);apply W.aQ (aS _ _)
  case hc=>
   (apply ae.al;simp only[go_sem]);(apply ae.call (hx _ (hG hb _));(case hg=>rfl);(case hf=>rfl);(case ha=>first|rfl|simp));(apply ae.al;simp only[go_sem]);(apply ae.call (hy _ (hG hb _));(case hg=>rfl);(case hf=>rfl);(case ha=>first|rfl|simp));(apply ae.al;simp only[go_sem]);exact ae.nil
  (refine W.a ?_;simp only[go_sem,kx,ky]);refine W.no rfl (W.a ?_);simp only[go_sem,kx,ky];refine W.no rfl (W.a ?_);simp only[go_sem,kx,ky];refine W.no rfl (W.a ?_);simp only[go_sem,kx,ky];refine W.no rfl (W.a ?_);simp only[go_sem,bne,c1,c2,c3];refine W.no rfl (W.a ?_);simp only[go_sem];refine W.bA (α:=Unit) (fun _=>True) (fun _=>⟨(((base.put (some 8) (.ab [])).put (some 96) (I (x.l.length:Int))).put (some 97) (I 0)),σ⟩) (fun _=>0) () trivial ?_ (fun _ _=>?_)
  ·(refine aq.drop ?_ (aA _) (hok) ?_;exact aE;(repeat' (first|exact aZ.base _|(refine aZ.put ?_ (by first|exact .c _|(simp only[go_sem];done)|exact V.gU _ _)))))
  (refine W.a ?_;simp only[go_sem,z1]);refine W.no rfl (W.a ?_);simp only[go_sem];(refine W.fs (hok) (by simp only[ia,go_sem];rfl) ?_;simp only[ak];try exact V.wk.rfl _)
 ·have hpos:0<x.l.length:=List.length_pos_iff.2 h0;have hz:df x.l y.l≠[]:=fun e=>by rw[e]at hzl;simp at hzl;omega
  unfold gI gJ;rw[if_neg hz,if_neg hz];refine DC.Ii ?_;refine lp.dn rfl (fun hok hsz=>?_);have hrow:∀i (hi:i<x.l.length) (hi':i<y.l.length),aP ((df x.l y.l).take (i+1))=aP ((df x.l y.l).take i)++bV (x.l[i],y.l[i]):=fun i hi hi'=>by
   have hz':i<(df x.l y.l).length:=by omega
   rw[List.take_succ_eq_append_getElem hz',uM,Db _ _ _ hz' hi hi'];simp[aP]
  have hlen:∀i,i<=x.l.length->(aP ((df x.l y.l).take i)).length=i*8:=fun i hi=>by rw[ib,List.length_take];omega
  have hend:(df x.l y.l).take x.l.length=df x.l y.l:=by rw[<-hzl,List.take_length]
  generalize df x.l y.l=Z at*
  (refine W.a ?_;simp only[go_sem,c227]);apply W.aQ (aS _ _)
  case hc=>
   (apply ae.al;simp only[go_sem]);(apply ae.call (hx _ (hG hb _));(case hg=>rfl);(case hf=>rfl);(case ha=>first|rfl|simp));(apply ae.al;simp only[go_sem]);(apply ae.call (hy _ (hG hb _));(case hg=>rfl);(case hf=>rfl);(case ha=>first|rfl|simp));(apply ae.al;simp only[go_sem]);exact ae.nil
  (refine W.a ?_;simp only[go_sem,kx,ky]);refine W.no rfl (W.a ?_);simp only[go_sem,kx,ky];refine W.no rfl (W.a ?_);simp only[go_sem,kx,ky];refine W.no rfl (W.a ?_);simp only[go_sem,kx,ky];refine W.no rfl (W.a ?_);simp only[go_sem,bne,c1,c2,c3];refine W.no rfl (W.a ?_);simp only[go_sem];refine W.bA (α:=Option (Nat×H)) (fun o=>match o with|none=>True|some (i,_)=>1<=i/\i<=x.l.length) (fun o=>match o with
   |none=>⟨(((((base.put (some 4) (.ptr σ.length 0)).put (some 5) (.ptr (σ.length+1) 0)).put (some 8) (.ab [])).put (some 96) (I (x.l.length:Int))).put (some 97) (I 0)),σ++[.cells x.v.ah,.cells y.v.ah]⟩
   |some (i,J)=>⟨(((((base.put (some 4) (.ptr σ.length 0)).put (some 5) (.ptr (σ.length+1) 0)).put (some 8) (.vec (σ.length+(J.length+2)) i)).put (some 96) (I (x.l.length:Int))).put (some 97) (I (i:Int))),σ++ .cells x.v.ah:: .cells y.v.ah::(J++[.vec 235 8 (aP (Z.take i))])⟩) (fun o=>match o with|none=>x.l.length+1|some (i,_)=>x.l.length-i) none trivial ?_ (fun o ho=>?_)
  ·dsimp only
   (refine aq.env ?_;exact aE)
  cases o with
  |none=>
   dsimp only
   have z1:((0:Int)<(x.l.length:Int)):=by omega
   have z2:((0:Int)<(y.l.length:Int)):=by omega
   have hx0:x.l[0]?=some x.l[0]:=aR hpos;have hy0:y.l[0]?=some y.l[0]:=aR (by omega);have hr:=hrow 0 hpos (by omega);rw[show aP (Z.take 0)=[]from rfl,er]at hr;have hw:aW.wrap (0+1)=((1:Nat):Int):=by decide
   generalize x.l[0]=u at*;generalize y.l[0]=v at*
   (refine W.a ?_;simp only[go_sem,z1]);refine W.yes rfl (W.a ?_);simp only[go_sem];apply W.aQ (aS _ _)
   case hc=>
    iterate 13 (apply ae.quiet (dF.step rfl (by(simp only[go_sem,z1,z2,hx0,hy0,bP]);rfl));case hp=>(intro τ hτ;simp at hτ))
    apply ae.bK
    case h=>exact fc.vec (x:=.t 100) (y:=.t 112) (e:=235) (size:=8) (bytes:=112) (olds:=[]) (news:=[bV (u,v)]) rfl rfl rfl rfl ⟨by simp,(fun r hr=>by cases hr),(fun r hr=>by simp at hr;subst hr;rfl),by simp,by simp⟩
    (apply ae.al;simp only[go_sem,bt,dU,lN,bV]);exact ae.nil
   (refine W.a ?_;simp only[go_sem,hw]);refine .inv ⟨some (1,[]),⟨aA _,hpos⟩,by dsimp only;omega,?_⟩;dsimp only
   rw[hr];(refine aq.env ?_;exact aE)
  |some q=>
   obtain⟨i,J⟩:=q;obtain⟨hi1,hi⟩:=ho;dsimp only
   have e1:∀w:ad,(J++[w])[J.length]?=some w:=fun w=>by simp
   have e2:∀w z:ad,(J++[w]).set J.length z=J++[z]:=fun w z=>by simp
   have hFl:=hlen i hi;by_cases hlt:i<x.l.length
   ·have z1:((i:Int)<(x.l.length:Int)):=by omega
    have z2:((i:Int)<(y.l.length:Int)):=by omega
    have z0:(0:Int)<=(i:Int):=by omega
    have hx0:x.l[i]?=some x.l[i]:=aR hlt;have hy0:y.l[i]?=some y.l[i]:=aR (by omega);have hr:=hrow i hlt (by omega);have hw:aW.wrap ((i:Int)+1)=((i+1:Nat):Int):=by rw[bD]<;>omega
    have b1:(i+1)*112<=140737488355328:=by omega
    have b2:i+1<=140737488355328:=by omega
    have b3:i<=140737488355327:=by omega
    have htk:dM (i*8) (aP (Z.take i))=aP (Z.take i):=fj (by omega);have hle:i*8<=i*8:=aA _;have hne:∀r:List C,([r]=[])=False:=fun r=>by simp
    simp only[bV]at hr;generalize x.l[i]=u at*;generalize y.l[i]=v at*;generalize aP (Z.take i)=F at*
    (refine W.a ?_;simp only[go_sem,z1]);refine W.yes rfl (W.a ?_);simp only[go_sem];apply W.aQ (aS _ _)
    case hc=>
     (apply ae.al;simp only[go_sem,z0,z1,z2,hx0,hy0,e1,e2,hFl,htk,b1,b2,b3,hle,hne,ne_eq,not_false_eq_true,dU,lN]);exact ae.nil
    (refine W.a ?_;simp only[go_sem,hw]);refine .inv ⟨some (i+1,J++[.gone]),⟨by omega,hlt⟩,by dsimp only;omega,?_⟩;dsimp only
    rw[hr];simp only[go_sem,bt];(refine aq.env ?_;exact aE)
   obtain rfl:i=x.l.length:=by omega
   have z1:¬((x.l.length:Nat):Int)<((x.l.length:Nat):Int):=by omega
   (refine W.a ?_;simp only[go_sem,z1]);refine W.no rfl (W.a ?_);simp only[go_sem];refine W.ret ⟨_,_,(by simp only[br,ia,go_sem];rfl),.rfl _,?_⟩;rw[hend];exact⟨.cells x.v.ah:: .cells y.v.ah::J,[],by rw[hzl];rfl,by simp[aa.v,V.ah,aT]⟩
end Go.Proofs.YtdlkenpilhakfaaGreatDoor
namespace Go.Lamb
open Go Go.RowKit
theorem uO{s:List aa}(hs:∀t∈s,aD s.length t){t u:aa}{n:Nat}(r:gd s t u n):aD s.length t->aD s.length u/\bH s u=false:=by
 induction r with
 |stop h=>exact fun ht=>⟨ht,h⟩
 |go h r ih=>
  intro ht;obtain⟨h0,h1,_⟩:=ht.var (gb h);exact ih (hs _ (iE h0 h1))
theorem Dc{α:Type}{l:List α}{i:Nat}{x:α}(h:l[i]?=some x):l.set i x=l:=by
 apply List.ext_getElem?;intro j;rw[List.getElem?_set];split
 ·rename_i e;subst e;split
  ·exact h.symm
  ·rename_i hh;rw[List.getElem?_eq_none (by omega)]at h;cases h
 ·rfl
end Go.Lamb
namespace Go.Proofs.YtdlkenpilhakfaaGreatDoor
open Go.RowKit Go.Lamb
theorem UW(w0:World){N:Nat}{s:List aa}(hR:cl N s)(hN1:1<=N)(hN:N<=1000000)(hs:s.length<=1000000){a b:aa}(hp:ee s.length N (a,b)){l:List (aa×aa)}{e:Int}{s':List aa}(h:lk s a b l e s')
  (bs:Nat) (σ:H) (hb:σ[bs]?=some (.vec 34 4 (aJ s))):
  DC prog w0 227 [.vec bs s.length,a.v,b.v] σ (Same (.av [gI σ.length l,I e]) (gJ (σ.set bs (.vec 34 4 (aJ s'))) l)):=by
 obtain⟨ha,hb',na,nb⟩:=hp;have hlt:=(aK.1 hb).1;have hmem:∀x,aD s.length x->bH s x=true->cf s x.n∈s/\aD s.length (cf s x.n):=fun x hx hs=>by
  obtain⟨h0,h1,_⟩:=hx.var (gb hs);exact⟨iE h0 h1,hR.right.holds _ (iE h0 h1)⟩
 cases h with
 |@mk x y n m l e s' r1 r2 h=>
  obtain⟨hx,sx⟩:=uO hR.right.holds r1 ha;obtain⟨hy,sy⟩:=uO hR.right.holds r2 hb';have nx:=py hR.size r1 hmem ha na;have ny:=py hR.size r2 hmem hb' nb;have dx:=fun σ hb=>yM w0 s hR.right.holds a x n r1 ha bs σ hb;have dy:=fun σ hb=>yM w0 s hR.right.holds b y m r2 hb' bs σ hb;have key:∀(v:Int) (t:aa) (ht:aD s.length t) (hn:aC t<=N) (h0:0<=v) (hv:v<s.length) (e:Int) (s':List aa) (hB:nj s v t e s') (L:H),DC prog w0 259 [.vec bs s.length,I v,t.v] (σ++L) (Same (I e) (σ.set bs (.vec 34 4 (aJ s'))++L)):=fun v t ht hn h0 hv e s' hB L=>by
   have:=UN w0 hR hN v t ht hn h0 hv e s' hB bs (σ++L) (hG hb L);rwa [List.set_append_left _ _ hlt]at this
  have stV:gI σ.length []= .ab []:=rfl;have stH:∀τ:H,gJ τ []=τ:=fun τ=>rfl;rcases h with⟨kx,ky,he,rfl,rfl,rfl⟩|⟨kx,ky,he,rfl,hB⟩|⟨kx,ky,rfl,hB⟩|⟨kx,ky,rfl,hB⟩|⟨kx,ky,hc,rfl,rfl,rfl⟩|⟨kx,ky,⟨c1,c2,c3⟩,rfl,rfl,rfl⟩
  ·rw[stV,stH,Dc hb];exact UP w0 bs σ hb dx dy (by simp[kx]) (by simp[ky]) (by simp[he])
  ·obtain⟨x0,x1,_⟩:=hx.var kx;obtain⟨y0,y1,_⟩:=hy.var ky;rw[stV,stH];exact UQ w0 bs σ hb dx dy (by simp[kx]) (by simp[ky]) (by simp[he]) e s' (key _ _ (iF (v:=min x.n y.n) (by omega) (by omega) hs) (by rw[cW];simp[aN,aa.l,bS];exact hN1) (by omega) (by omega) e s' hB)
  ·obtain⟨x0,x1,_⟩:=hx.var kx;rw[stV,stH];exact UR w0 bs σ hb dx dy (by simp[kx]) (by simp[ky]) e s' (key _ _ hy ny x0 x1 e s' hB)
  ·obtain⟨y0,y1,_⟩:=hy.var ky;rw[stV,stH];exact US w0 bs σ hb dx dy (by simp[kx]) (by simp[ky]) e s' (key _ _ hx nx y0 y1 e s' hB)
  ·rw[stV,stH,Dc hb];exact UT w0 bs σ hb dx dy (by simp[kx]) (by simp[ky]) hc
  ·rw[Dc hb];exact UU w0 bs σ hb dx dy (by simp[kx]) (by simp[ky]) c1 c2 c3 (by have:=oE x.l;rw[cW]at nx;omega)
end Go.Proofs.YtdlkenpilhakfaaGreatDoor
namespace Go.Lamb
open Go Go.RowKit
def eg{α:Type}(l:List α)(i:Nat):List α:=List.ofFn (n:=l.length) fun j=>if j.1<i\/l.length-i<=j.1 then l[l.length-1-j.1]'(by omega)else l[j.1]
theorem lu{α:Type}(l:List α)(i:Nat):(eg l i).length=l.length:=by unfold eg;simp
theorem rY{α:Type}(l:List α)(i j:Nat)(hj:j<(eg l i).length)(hj':j<l.length):(eg l i)[j]=if j<i\/l.length-i<=j then l[l.length-1-j]'(by omega)else l[j]:=by
 simp only[eg,List.getElem_ofFn]
theorem UX{α:Type}(l:List α):eg l 0=l:=by
 apply wb (lu l 0);intro j h1 h2;rw[rY l 0 j h1 h2,if_neg (by omega)]
theorem UY{α:Type}(l:List α)(i:Nat)(h:l.length<=2*i+1):eg l i=l.reverse:=by
 apply wb (by rw[lu,List.length_reverse]);intro j h1 h2;have h3:j<l.length:=by rw[lu]at h1;exact h1
 rw[rY l i j h1 h3,List.getElem_reverse];split
 ·rfl
 ·congr 1;omega
theorem UZ{α:Type}(l:List α)(i:Nat)(h:2*i+1<l.length):eg l (i+1)=((eg l i).set i (l[l.length-1-i]'(by omega))).set (l.length-1-i) (l[i]'(by omega)):=by
 apply wb (by rw[bC,bC,lu,lu]);intro j h1 h2;have h3:j<l.length:=by rw[lu]at h1;exact h1
 rw[rY l (i+1) j h1 h3,Fk,Fk];by_cases e1:l.length-1-i=j
 ·rw[if_pos e1,if_pos (by omega)];congr 1;omega
 ·rw[if_neg e1];by_cases e2:i=j
  ·subst e2;rw[if_pos rfl,if_pos (by omega)]
  ·rw[if_neg e2,rY l i j (by rw[lu];exact h3) h3];by_cases e3:j<i\/l.length-i<=j
   ·rw[if_pos e3,if_pos (by omega)]
   ·rw[if_neg e3,if_neg (by omega)]
theorem Lw{l:List (aa×aa)}{i:Nat}(hi:i<l.length)(p:aa×aa):dM (i*8) (aP l)++ .int .i64 p.1.k:: .str p.1.name:: .int .i64 p.1.n:: .sl (p.1.l.map aa.cs):: .int .i64 p.2.k:: .str p.2.name:: .int .i64 p.2.n:: .sl (p.2.l.map aa.cs)::fV (i*8+8) (aP l)=aP (l.set i p):=by
 have h:=Lu (rX l) (i:=i) (by rw[cd];exact hi) (bV p) rfl;rw[dc]at h;unfold aP;rw[Fj];exact h
end Go.Lamb
namespace Go.Proofs.YtdlkenpilhakfaaGreatDoor
open Go.RowKit Go.Lamb
attribute [local go_sem] aa.v aa.aM aY a7 aV aL aT
theorem uP(w0:World)(l:List (aa×aa))(hl:l.length<=1000000)(b:Nat)(σ:H)(hb:σ[b]?=some (.vec 235 8 (aP l))):
  DC prog w0 180 [.vec b l.length] σ (Same (.av []) (σ.set b (.vec 235 8 (aP l.reverse)))):=by
 refine CU.go rfl (fun hok hsz=>?_);(refine W.a ?_;simp only[go_sem,yD]);have hlt:=(aK.1 hb).1;refine W.bA (α:=Nat) (fun i=>i=0\/2*i<=l.length) (fun i=>⟨(((base.put (some 0) (.vec b l.length)).put (some 2) (I (i:Int))).put (some 3) (I ((l.length:Int)-1-i))),σ.set b (.vec 235 8 (aP (eg l i)))⟩) (fun i=>l.length-i) 0 (.inl rfl) ?_ (fun i hi=>?_)
 ·rw[UX,pj hb];have e1:aW.wrap ((l.length:Int)-1)=(l.length:Int)-1-((0:Nat):Int):=by rw[bD]<;>omega
  try rw[e1]
  (refine aq.env ?_;exact aE)
 by_cases hc:2*i+1<l.length
 ·have z1:(i:Int)<(l.length:Int)-1-i:=by omega
  have hs:=UZ l i hc;have hi1:i<(eg l i).length:=by rw[lu];omega
  have hj1:l.length-1-i<(eg l i).length:=by rw[lu];omega
  have g1:=rY l i i hi1 (by omega);have g2:=rY l i (l.length-1-i) hj1 (by omega);rw[if_neg (by omega)]at g1 g2;rw[<-g1,<-g2]at hs;have r1:=Lv hi1;have r2:=Lv hj1;obtain⟨j,hj⟩:∃j:Nat,j=l.length-1-i:=⟨_,rfl⟩;have ej:(l.length:Int)-1-i=(j:Int):=by omega
  have w1:aW.wrap ((i:Int)+1)=((i+1:Nat):Int):=by rw[bD]<;>omega
  have w2:aW.wrap ((j:Int)-1)=(l.length:Int)-1-((i+1:Nat):Int):=by rw[bD]<;>omega
  have hF:=ib (eg l i);rw[lu]at hF;simp only[<-hj]at hs hj1 g2 r2;have s1:=Lw hi1 (eg l i)[j];have hj2:j<((eg l i).set i (eg l i)[j]).length:=by rw[bC];exact hj1
  have s2:=Lw hj2 (eg l i)[i];rw[<-hs]at s2;have hF2:=ib ((eg l i).set i (eg l i)[j]);rw[bC,lu]at hF2;rw[ej];have z2:(i:Int)<(j:Int):=by omega
  clear z1;have hlt2:(i:Int)<(l.length:Int):=by omega
  have hlt3:(j:Int)<(l.length:Int):=by omega
  have p1:(0:Int)<=(i:Int):=by omega
  have p2:(0:Int)<=(j:Int):=by omega
  have b1:i*8+8<=l.length*8:=by omega
  have b2:j*8+8<=l.length*8:=by omega
  simp only[bV,List.map_cons,dT]at r1 r2;generalize aP ((eg l i).set i (eg l i)[j])=F2 at*;generalize (eg l i)[i]=u at*;generalize (eg l i)[j]=v at*;obtain⟨F3,hF3⟩:∃F3,F3=aP (eg l (i+1)):=⟨_,rfl⟩;rw[<-hF3]at s2;generalize aP (eg l i)=F1 at*
  have hg:=fun x=>Gy (σ:=σ) (r:=b) x hlt;(refine W.a ?_;simp only[go_sem,z2]);refine W.yes rfl (W.a ?_);simp only[go_sem];apply W.aQ (aS _ _)
  case hc=>
   (apply ae.al;simp only[go_sem,hg,z2,hlt2,hlt3,p1,p2,r1,r2,hF,b1,b2,s1,s2,hF2]);exact ae.nil
  (refine W.a ?_;simp only[go_sem,w1,w2]);refine .inv ⟨i+1,.inr (by omega),by omega,?_⟩;rw[<-hF3];(refine aq.env ?_;exact aE)
 have z1:¬(i:Int)<(l.length:Int)-1-i:=by omega
 (refine W.a ?_;simp only[go_sem,z1]);refine W.no rfl ?_;have hok2:H.ok (σ.set b (.vec 235 8 (aP l.reverse))):=uL hok b _ _ _;rw[UY l i (by omega)];(refine W.a ?_;simp only[go_sem]);exact .done (Fin.lW (vs:=[]) hok2 (bC ..) rfl (.rfl _) (by simp[ak,AO]) (cq _).symm)
end Go.Proofs.YtdlkenpilhakfaaGreatDoor
