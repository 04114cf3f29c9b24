/- . -/
import Derived.Test.YtpcmcfajfnpjeaaGreatDoorChecked
import Derived.Test.YtpcmcfajfnpjeaaGreatDoorQJ11
import Derived.Test.YtpcmcfajfnpjeaaGreatDoorQJ15
import Derived.Test.YtpcmcfajfnpjeaaGreatDoorQEnc
import Derived.Test.YtpcmcfajfnpjeaaGreatDoorQTyA2
import Derived.Test.YtpcmcfajfnpjeaaGreatDoorQLexC
import Derived.Test.YtpcmcfajfnpjeaaGreatDoorQGrow
import Derived.Test.YtpcmcfajfnpjeaaGreatDoorQLxD
import Derived.Test.YtpcmcfajfnpjeaaGreatDoorQLexGl
import Derived.Test.YtpcmcfajfnpjeaaGreatDoorQLexBk
import Derived.Test.YtpcmcfajfnpjeaaGreatDoorQRefH
import Derived.Test.YtpcmcfajfnpjeaaGreatDoorQRefI
set_option linter.unusedSimpArgs false
set_option linter.unusedVariables false
set_option maxHeartbeats 8000000
set_option maxRecDepth 20000
namespace Go.Proofs.YtpcmcfajfnpjeaaGreatDoor
open Go.RowKit Go.Lamb
def c220:AC:=.seq (.reg [.o 1 (.box (.t 0)),.o 2 (.box (.k (.agg zS4))),.o 3 (.mov (.k (.csl [])))]) (.seq (.seq (.reg [.f 4 0 1,.l 5 4,.o 6 (.bin .neq (.t 5) (zK 6)),.m 7 6,.z 8 (.loadn 4 (.t 1)) 7,.z 9 (.call (.k (.fn 23 [])) [.t 8]) 7,.z 10 (.un .not (.t 9)) 7,.o 11 (.pick (.t 7) zT (.t 10))]) (.cond (.t 11) (.seq (.reg [.d 12 4 1,.s 4 2 12,.o 3 (.mov (.k (.csl [])))]) (.ret)) (.skip))) (.seq (.dreg [.f 13 3 1,.l 14 13,.o 15 (.iadd 4 (.t 14) (zK 0)),.d 16 4 15,.f 17 3 1,.l 18 17,.o 19 (.slr 4 (.t 18) (some (zK 1)) none none),.k 20 174 [.t 19],.s 4 2 16,.m 3 20] [.q (.f 17 3 1),.q (.l 18 17),.q (.o 19 (.slr 4 (.t 18) (some (zK 1)) none none)),⟨.k 20 174 [.t 19],true,0⟩,.q (.f 13 3 1),.q (.l 14 13),.q (.o 15 (.iadd 4 (.t 14) (zK 0))),.q (.d 16 4 15),⟨.s 4 2 16,true,1⟩,⟨.m 3 20,false,2⟩]) (.ret)))
def r220:List ResV:=[.celln 4 2,.tmp 3]
theorem k220:CodeIs Tryz.prog 220 1 Tryz.f220 c220 r220:=.auto Tryz.func220
def c126:AC:=.seq (.reg [.o 1 (.box (.t 0)),.o 2 (.box (.k (.agg zS4)))]) (.seq (.block 0 (.seq (.reg [.d 4 4 1,.k 5 23 [.t 4],.o 6 (.un .not (.t 5)),.m 3 6]) (.cond (.t 3) (.seq (.reg [.d 7 4 1,.s 4 2 7]) (.ret)) (.seq (.reg [.f 9 0 1,.l 10 9,.o 11 (.bin .eql (.t 10) (zK 5)),.m 8 11]) (.cond (.t 8) (.seq (.reg [.f 12 3 1,.l 13 12,.o 14 (.iadd 4 (.t 13) (zK 0)),.d 15 4 14,.s 4 2 15]) (.ret)) (.skip)))))) (.seq (.reg [.d 16 4 1,.k 17 83 [.t 16,(zK 0),(zK 1)],.o 18 (.build zS4 [(0,1,(zK 3))]),.o 19 (.bsl 4 [.t 18]),.k 20 42 [.t 17,.t 19],.s 4 2 20]) (.ret)))
def r126:List ResV:=[.celln 4 2]
theorem k126:CodeIs Tryz.prog 126 1 Tryz.f126 c126 r126:=.auto Tryz.func126
def c222:AC:=.seq (.reg [.o 2 (.mov (zK 0))]) (.seq (.seq (.reg [.m 3 0]) (.block 0 (.seq (.seq (.reg [.o 5 (.bin .eql (.t 3) (.k (.c (.str [116,114,117,101])))),.m 4 5]) (.cond (.t 4) (.skip) (.seq (.reg [.o 6 (.bin .eql (.t 3) (.k (.c (.str [102,97,105,108])))),.m 4 6]) (.cond (.t 4) (.skip) (.reg [.o 7 (.bin .eql (.t 3) (.k (.c (.str [33])))),.m 4 7]))))) (.cond (.t 4) (.seq (.reg [.o 2 (.mov (zK 0))]) (.ret)) (.seq (.seq (.reg [.o 9 (.bin .eql (.t 3) (.k (.c (.str [112,105])))),.m 8 9]) (.cond (.t 8) (.skip) (.reg [.o 10 (.bin .eql (.t 3) (.k (.c (.str [115,105,103,109,97])))),.m 8 10]))) (.cond (.t 8) (.seq (.reg [.o 2 (.mov (zK 1))]) (.ret)) (.skip))))))) (.seq (.reg [.o 2 (.mov (zK 2))]) (.ret)))
def r222:List ResV:=[.tmp 2]
theorem k222:CodeIs Tryz.prog 222 1 Tryz.f222 c222 r222:=.auto Tryz.func222
def c125:AC:=.seq (.reg [.o 2 (.box (.t 0)),.o 4 (.mov (.k (.c (.str [])))),.o 5 (.mov (.k (.csl []))),.o 6 (.mov (zK 0))]) (.seq (.reg [.d 10 4 2,.k 11 220 [.t 10],.m 9 11,.x 12 9 0,.x 13 9 1,.o 7 (.box (.k (.agg zS4))),.s 4 7 12,.m 8 13]) (.seq (.block 0 (.seq (.reg [.f 15 0 7,.l 16 15,.o 17 (.bin .eql (.t 16) (zK 4)),.m 18 17,.z 19 (.fadd 0 (.t 7)) 18,.z 20 (.load1 (.t 19)) 18,.z 21 (.bin .eql (.t 20) (zK 3)) 18,.o 22 (.pick (.t 18) zT (.t 21)),.m 14 22]) (.cond (.t 14) (.seq (.reg [.m 23 1,.o 4 (.mov (.k (.c (.str [])))),.o 5 (.mov (.k (.csl []))),.m 6 23]) (.ret)) (.seq (.reg [.f 25 0 7,.l 26 25,.o 27 (.bin .neq (.t 26) (zK 0)),.m 24 27]) (.cond (.t 24) (.seq (.reg [.o 4 (.mov (.k (.c (.str [])))),.o 5 (.mov (.k (.csl []))),.o 6 (.mov (zK 130))]) (.ret)) (.seq (.reg [.f 29 1 7,.l 30 29,.k 31 221 [.t 30],.o 32 (.un .not (.t 31)),.m 28 32]) (.cond (.t 28) (.seq (.reg [.m 33 8,.o 4 (.mov (.k (.c (.str [])))),.m 5 33,.o 6 (.mov (zK 0))]) (.ret)) (.seq (.reg [.m 35 8,.o 36 (.lenr (.t 35)),.f 37 1 7,.l 38 37,.k 39 222 [.t 38],.o 40 (.bin .neq (.t 36) (.t 39)),.m 34 40]) (.cond (.t 34) (.seq (.reg [.o 4 (.mov (.k (.c (.str [])))),.o 5 (.mov (.k (.csl []))),.o 6 (.mov (zK 130))]) (.ret)) (.skip)))))))))) (.seq (.reg [.f 41 1 7,.l 42 41,.m 43 8,.m 4 42,.m 5 43,.o 6 (.mov (zK 0))]) (.ret))))
def r125:List ResV:=[.tmp 4,.tmp 5,.tmp 6]
theorem k125:CodeIs Tryz.prog 125 2 Tryz.f125 c125 r125:=.auto Tryz.func125
def c45:AC:=.seq (.reg [.o 1 (.box (.t 0)),.o 2 (.mov (zK 0))]) (.seq (.seq (.reg [.d 9 4 1,.k 10 23 [.t 9],.o 11 (.un .not (.t 10))]) (.cond (.t 11) (.seq (.reg [.o 2 (.mov (zK 1))]) (.ret)) (.skip))) (.seq (.reg [.d 13 4 1,.k 14 125 [.t 13,(zK 133)],.m 12 14,.x 15 12 0,.x 16 12 1,.x 17 12 2,.m 3 15,.m 4 16,.m 5 17]) (.seq (.seq (.reg [.m 18 5,.o 19 (.bin .neq (.t 18) (zK 0))]) (.cond (.t 19) (.seq (.reg [.m 20 5,.m 2 20]) (.ret)) (.skip))) (.seq (.seq (.reg [.m 21 3]) (.block 0 (.seq (.reg [.o 23 (.bin .eql (.t 21) (.k (.c (.str [58,45])))),.m 22 23]) (.cond (.t 22) (.seq (.reg [.o 2 (.mov (zK 130))]) (.ret)) (.seq (.seq (.reg [.o 25 (.bin .eql (.t 21) (.k (.c (.str [44])))),.m 24 25]) (.cond (.t 24) (.skip) (.reg [.o 26 (.bin .eql (.t 21) (.k (.c (.str [59])))),.m 24 26]))) (.cond (.t 24) (.seq (.seq (.reg [.m 27 4,.o 28 (.iadd 4 (.t 27) (zK 0)),.d 29 4 28,.k 30 45 [.t 29],.m 6 30]) (.seq (.reg [.m 31 6,.o 32 (.bin .neq (.t 31) (zK 0))]) (.cond (.t 32) (.seq (.reg [.m 33 6,.m 2 33]) (.ret)) (.skip)))) (.seq (.reg [.m 34 4,.o 35 (.iadd 4 (.t 34) (zK 1)),.d 36 4 35,.k 37 45 [.t 36],.m 2 37]) (.ret))) (.seq (.reg [.o 39 (.bin .eql (.t 21) (.k (.c (.str [61,62])))),.m 38 39]) (.cond (.t 38) (.seq (.seq (.reg [.m 41 4,.o 42 (.iadd 4 (.t 41) (zK 0)),.d 43 4 42,.k 44 41 [.t 43],.m 40 44,.x 45 40 0,.x 46 40 1,.m 7 45,.m 8 46]) (.seq (.reg [.m 47 8,.o 48 (.bin .neq (.t 47) (zK 0))]) (.cond (.t 48) (.seq (.reg [.m 49 8,.m 2 49]) (.ret)) (.skip)))) (.seq (.reg [.m 50 4,.o 51 (.iadd 4 (.t 50) (zK 1)),.d 52 4 51,.k 53 45 [.t 52],.m 2 53]) (.ret))) (.seq (.seq (.reg [.o 55 (.bin .eql (.t 21) (.k (.c (.str [112,105])))),.m 54 55]) (.cond (.t 54) (.skip) (.reg [.o 56 (.bin .eql (.t 21) (.k (.c (.str [115,105,103,109,97])))),.m 54 56]))) (.cond (.t 54) (.seq (.reg [.m 57 4,.o 58 (.iadd 4 (.t 57) (zK 0)),.d 59 4 58,.k 60 126 [.t 59],.k 61 45 [.t 60],.m 2 61]) (.ret)) (.skip))))))))))) (.seq (.reg [.o 2 (.mov (zK 0))]) (.ret))))))
def r45:List ResV:=[.tmp 2]
theorem k45:CodeIs Tryz.prog 45 1 Tryz.f45 c45 r45:=.auto Tryz.func45
def c332:AC:=.seq (.reg [.o 4 (.mov zF)]) (.seq (.reg [.o 8 (.mkmap),.m 5 8]) (.seq (.seq (.reg [.m 9 0,.o 10 (.lenr (.t 9)),.o 11 (.mov (zK 0))]) (.block 0 (.loop (.seq (.reg [.o 12 (.bin .lss (.t 11) (.t 10))]) (.seq (.cond (.t 12) (.skip) (.exit 0)) (.seq (.block 1 (.seq (.reg [.o 13 (.iadd 4 (.t 9) (.t 11)),.d 14 4 13,.o 7 (.box (.k (.agg zS4))),.s 4 7 14]) (.seq (.seq (.reg [.f 15 0 7,.l 16 15,.o 17 (.bin .neq (.t 16) (zK 3)),.m 18 17,.z 19 (.fadd 2 (.t 7)) 18,.z 20 (.load1 (.t 19)) 18,.z 21 (.mov (.t 1)) 18,.z 22 (.bin .geq (.t 20) (.t 21)) 18,.o 23 (.pick (.t 18) zT (.t 22)),.m 24 23,.z 25 (.mov (.t 5)) 24,.z 26 (.fadd 2 (.t 7)) 24,.z 27 (.load1 (.t 26)) 24,.z 28 (.look false (.i .i64) (.bool false) (.t 25) (.t 27)) 24,.o 29 (.pick (.t 24) zT (.t 28))]) (.cond (.t 29) (.seq (.reg [.o 4 (.mov zF)]) (.ret)) (.skip))) (.reg [.m 30 5,.f 31 2 7,.l 32 31,⟨none,.mupd (.i .i64) (.t 30) (.t 32) zT,none⟩])))) (.reg [.o 33 (.bin .add (.t 11) (zK 1)),.m 11 33]))))))) (.seq (.reg [.o 4 (.mov zT)]) (.ret))))
def r332:List ResV:=[.tmp 4]
theorem k332:CodeIs Tryz.prog 332 2 Tryz.f332 c332 r332:=.auto Tryz.func332
def c279:AC:=.seq (.reg [.o 2 (.box (.t 0)),.o 3 (.box (.t 1)),.o 4 (.mov zF)]) (.seq (.seq (.reg [.f 7 0 2,.l 8 7,.o 9 (.bin .eql (.t 8) (zK 5))]) (.cond (.t 9) (.seq (.dreg [.f 10 3 2,.l 11 10,.o 12 (.iadd 4 (.t 11) (zK 0)),.d 13 4 12,.l 14 3,.o 15 (.bin .add (.t 14) (zK 1)),.k 16 279 [.t 13,.t 15],.m 4 16] [.q (.f 10 3 2),.q (.l 11 10),.q (.o 12 (.iadd 4 (.t 11) (zK 0))),.q (.d 13 4 12),.q (.l 14 3),.q (.o 15 (.bin .add (.t 14) (zK 1))),⟨.k 16 279 [.t 13,.t 15],true,0⟩,⟨.m 4 16,false,1⟩]) (.ret)) (.skip))) (.seq (.reg [.d 18 4 2,.k 19 220 [.t 18],.m 17 19,.x 20 17 0,.x 21 17 1,.o 5 (.box (.k (.agg zS4))),.s 4 5 20,.m 6 21]) (.seq (.block 0 (.seq (.reg [.f 23 0 5,.l 24 23,.o 25 (.bin .eql (.t 24) (zK 5)),.m 22 25]) (.cond (.t 22) (.seq (.reg [.o 4 (.mov zF)]) (.ret)) (.seq (.reg [.f 27 0 5,.l 28 27,.o 29 (.bin .eql (.t 28) (zK 4)),.m 30 29,.z 31 (.fadd 0 (.t 5)) 30,.z 32 (.load1 (.t 31)) 30,.z 33 (.bin .eql (.t 32) (zK 3)) 30,.z 34 (.mov (.t 33)) 30,.y 35 (.fadd 2 (.t 5)) 34,.y 36 (.load1 (.t 35)) 34,.y 37 (.load1 (.t 3)) 34,.y 38 (.bin .geq (.t 36) (.t 37)) 34,.z 39 (.pick (.t 34) (.t 38) zF) 30,.o 40 (.pick (.t 30) zT (.t 39)),.m 26 40]) (.cond (.t 26) (.seq (.reg [.m 41 6,.l 42 3,.k 43 332 [.t 41,.t 42],.m 4 43]) (.ret)) (.skip)))))) (.seq (.reg [.m 44 6,.o 45 (.mkfn 333 [.t 3]),.k 46 77 [.t 44,.t 45],.o 47 (.un .not (.t 46)),.m 4 47]) (.ret)))))
def r279:List ResV:=[.tmp 4]
theorem k279:CodeIs Tryz.prog 279 2 Tryz.f279 c279 r279:=.auto Tryz.func279
def c333:AC:=.seq (.reg [.o 2 (.box (.t 0)),.o 3 (.mov zF)]) (.seq (.reg [.d 4 4 2,.l 5 1,.k 6 279 [.t 4,.t 5],.o 7 (.un .not (.t 6)),.m 3 7]) (.ret))
def r333:List ResV:=[.tmp 3]
theorem k333:CodeIs Tryz.prog 333 2 Tryz.f333 c333 r333:=.auto Tryz.func333
def c217:AC:=.seq (.reg [.o 3 (.box (.t 0)),.o 4 (.box (.t 1)),.o 6 (.mov (zK 0))]) (.seq (.reg [.d 13 4 3,.k 14 125 [.t 13,(zK 131)],.m 12 14,.x 15 12 0,.x 16 12 1,.x 17 12 2,.m 7 15,.m 8 16,.m 9 17]) (.seq (.seq (.reg [.m 18 9,.o 19 (.bin .neq (.t 18) (zK 0))]) (.cond (.t 19) (.seq (.reg [.m 20 9,.m 6 20]) (.ret)) (.skip))) (.seq (.seq (.reg [.m 21 7]) (.block 0 (.seq (.block 5 (.seq (.block 4 (.seq (.block 3 (.seq (.block 2 (.seq (.block 1 (.seq (.seq (.seq (.reg [.o 23 (.bin .eql (.t 21) (.k (.c (.str [])))),.m 22 23]) (.cond (.t 22) (.exit 1) (.skip))) (.seq (.seq (.reg [.o 25 (.bin .eql (.t 21) (.k (.c (.str [44])))),.m 24 25]) (.cond (.t 24) (.exit 2) (.skip))) (.seq (.seq (.reg [.o 27 (.bin .eql (.t 21) (.k (.c (.str [112,105])))),.m 26 27]) (.cond (.t 26) (.exit 3) (.skip))) (.seq (.seq (.reg [.o 29 (.bin .eql (.t 21) (.k (.c (.str [61,62])))),.m 28 29]) (.cond (.t 28) (.exit 4) (.skip))) (.seq (.reg [.o 31 (.bin .eql (.t 21) (.k (.c (.str [58,45])))),.m 30 31]) (.cond (.t 30) (.exit 5) (.skip))))))) (.exit 0))) (.seq (.seq (.seq (.reg [.f 32 2 4,.l 33 32,.o 34 (.un .not (.t 33)),.m 35 34,.y 36 (.mov (.t 8)) 35,.y 37 (.call (.k (.fn 77 [])) [.t 36,(.k (.fn 278 []))]) 35,.o 38 (.pick (.t 35) (.t 37) zF)]) (.cond (.t 38) (.seq (.reg [.o 6 (.mov (zK 132))]) (.ret)) (.skip))) (.seq (.dreg [.m 39 2,.f 40 0 4,.l 41 40,.d 42 4 3,.d 43 3 4,.k 44 280 [.t 43],.o 45 (.build [.c (.int .i64 0),.c (.int .i64 0),.c (.str []),.c (.int .i64 0),.csl [],.c (.int .i64 0),.c (.str []),.c (.int .i64 0),.csl []] [(0,1,(.t 41)),(1,4,(.t 42)),(5,4,(.t 44))]),.o 46 (.call (.t 39) [.t 45])] [.q (.d 43 3 4),⟨.k 44 280 [.t 43],true,0⟩,.q (.m 39 2),.q (.f 40 0 4),.q (.l 41 40),.q (.d 42 4 3),⟨.o 45 (.build [.c (.int .i64 0),.c (.int .i64 0),.c (.str []),.c (.int .i64 0),.csl [],.c (.int .i64 0),.c (.str []),.c (.int .i64 0),.csl []] [(0,1,(.t 41)),(1,4,(.t 42)),(5,4,(.t 44))]),false,1⟩,⟨.o 46 (.call (.t 39) [.t 45]),true,1⟩]) (.seq (.reg [.o 6 (.mov (zK 0))]) (.ret)))) (.exit 0)))) (.seq (.seq (.seq (.dreg [.m 47 8,.o 48 (.iadd 4 (.t 47) (zK 0)),.d 49 4 48,.d 50 3 4,.m 51 2,.k 52 217 [.t 49,.t 50,.t 51],.m 10 52] [.q (.m 47 8),.q (.o 48 (.iadd 4 (.t 47) (zK 0))),.q (.d 49 4 48),.q (.d 50 3 4),.q (.m 51 2),⟨.k 52 217 [.t 49,.t 50,.t 51],true,0⟩,⟨.m 10 52,false,1⟩]) (.seq (.reg [.m 53 10,.o 54 (.bin .neq (.t 53) (zK 0))]) (.cond (.t 54) (.seq (.reg [.m 55 10,.m 6 55]) (.ret)) (.skip)))) (.seq (.dreg [.m 56 8,.o 57 (.iadd 4 (.t 56) (zK 1)),.d 58 4 57,.d 59 3 4,.m 60 2,.k 61 217 [.t 58,.t 59,.t 60],.m 6 61] [.q (.m 56 8),.q (.o 57 (.iadd 4 (.t 56) (zK 1))),.q (.d 58 4 57),.q (.d 59 3 4),.q (.m 60 2),⟨.k 61 217 [.t 58,.t 59,.t 60],true,0⟩,⟨.m 6 61,false,1⟩]) (.ret))) (.exit 0)))) (.seq (.seq (.dreg [.m 62 8,.o 63 (.iadd 4 (.t 62) (zK 0)),.d 64 4 63,.k 65 126 [.t 64],.d 66 3 4,.k 67 281 [.t 66],.m 68 2,.k 69 217 [.t 65,.t 67,.t 68],.m 6 69] [.q (.m 62 8),.q (.o 63 (.iadd 4 (.t 62) (zK 0))),.q (.d 64 4 63),⟨.k 65 126 [.t 64],true,0⟩,.q (.d 66 3 4),⟨.k 67 281 [.t 66],true,1⟩,.q (.m 68 2),⟨.k 69 217 [.t 65,.t 67,.t 68],true,2⟩,⟨.m 6 69,false,3⟩]) (.ret)) (.exit 0)))) (.reg [.m 70 8,.k 71 282 [.t 70]]))) (.seq (.seq (.seq (.reg [.m 72 8,.o 73 (.iadd 4 (.t 72) (zK 1)),.d 74 4 73,.k 75 45 [.t 74],.m 11 75]) (.seq (.reg [.m 76 11,.o 77 (.bin .neq (.t 76) (zK 0))]) (.cond (.t 77) (.seq (.reg [.m 78 11,.m 6 78]) (.ret)) (.skip)))) (.seq (.dreg [.m 79 8,.o 80 (.iadd 4 (.t 79) (zK 0)),.d 81 4 80,.d 82 3 4,.m 83 8,.o 84 (.iadd 4 (.t 83) (zK 1)),.d 85 4 84,.k 86 283 [.t 82,.t 85],.m 87 2,.k 88 217 [.t 81,.t 86,.t 87],.m 6 88] [.q (.d 82 3 4),.q (.m 83 8),.q (.o 84 (.iadd 4 (.t 83) (zK 1))),.q (.d 85 4 84),⟨.k 86 283 [.t 82,.t 85],true,0⟩,.q (.m 79 8),.q (.o 80 (.iadd 4 (.t 79) (zK 0))),.q (.d 81 4 80),.q (.m 87 2),⟨.k 88 217 [.t 81,.t 86,.t 87],true,1⟩,⟨.m 6 88,false,2⟩]) (.ret))) (.exit 0))))) (.seq (.reg [.o 6 (.mov (zK 131))]) (.ret)))))
def r217:List ResV:=[.tmp 6]
theorem k217:CodeIs Tryz.prog 217 3 Tryz.f217 c217 r217:=.auto Tryz.func217
def c278:AC:=.seq (.reg [.o 1 (.box (.t 0)),.o 2 (.mov zF)]) (.seq (.reg [.d 3 4 1,.k 4 279 [.t 3,(zK 0)],.o 5 (.un .not (.t 4)),.m 2 5]) (.ret))
def r278:List ResV:=[.tmp 2]
theorem k278:CodeIs Tryz.prog 278 1 Tryz.f278 c278 r278:=.auto Tryz.func278
def c123:AC:=.seq (.reg [.o 2 (.box (.t 0)),.o 3 (.box (.t 1)),.o 4 (.mov (.k (.csl []))),.o 5 (.mov (zK 0))]) (.seq (.reg [.o 6 (.box (.k (.csl [])))]) (.seq (.seq (.reg [.d 8 4 2,.d 9 3 3,.o 10 (.mkfn 218 [.t 6]),.k 11 217 [.t 8,.t 9,.t 10],.m 7 11]) (.seq (.reg [.m 12 7,.o 13 (.bin .neq (.t 12) (zK 0))]) (.cond (.t 13) (.seq (.reg [.m 14 7,.o 4 (.mov (.k (.csl []))),.m 5 14]) (.ret)) (.skip)))) (.seq (.reg [.l 15 6,.m 4 15,.o 5 (.mov (zK 0))]) (.ret))))
def r123:List ResV:=[.tmp 4,.tmp 5]
theorem k123:CodeIs Tryz.prog 123 2 Tryz.f123 c123 r123:=.auto Tryz.func123
def c218:AC:=.seq (.reg [.o 2 (.box (.t 0))]) (.reg [.l 3 1,.d 4 9 2,.o 5 (.bsl 9 [.t 4]),.o 6 (.app 88 9 120 (.t 3) (.t 5)),.s 1 1 6])
def r218:List ResV:=[]
theorem k218:CodeIs Tryz.prog 218 2 Tryz.f218 c218 r218:=.auto Tryz.func218
def c41:AC:=.seq (.reg [.o 1 (.box (.t 0)),.o 2 (.mov (.k (.csl []))),.o 3 (.mov (zK 0))]) (.seq (.seq (.reg [.d 4 4 1,.k 5 23 [.t 4],.o 6 (.un .not (.t 5))]) (.cond (.t 6) (.seq (.reg [.o 2 (.mov (.k (.csl []))),.o 3 (.mov (zK 1))]) (.ret)) (.skip))) (.seq (.reg [.d 7 4 1,.o 8 (.build [.c (.int .i64 0),.csl [],.c (.bool false)] []),.k 9 123 [.t 7,.t 8],.x 10 9 0,.x 11 9 1,.m 2 10,.m 3 11]) (.ret)))
def r41:List ResV:=[.tmp 2,.tmp 3]
theorem k41:CodeIs Tryz.prog 41 1 Tryz.f41 c41 r41:=.auto Tryz.func41
def c47:AC:=.seq (.reg [.o 1 (.box (.t 0)),.o 2 (.mov (.k (.csl []))),.o 3 (.mov (zK 0))]) (.seq (.seq (.reg [.d 4 4 1,.k 5 23 [.t 4],.o 6 (.un .not (.t 5))]) (.cond (.t 6) (.seq (.reg [.o 2 (.mov (.k (.csl []))),.o 3 (.mov (zK 1))]) (.ret)) (.skip))) (.seq (.reg [.d 7 4 1,.o 8 (.build [.c (.int .i64 0),.csl [],.c (.bool false)] [(2,1,zT)]),.k 9 123 [.t 7,.t 8],.x 10 9 0,.x 11 9 1,.m 2 10,.m 3 11]) (.ret)))
def r47:List ResV:=[.tmp 2,.tmp 3]
theorem k47:CodeIs Tryz.prog 47 1 Tryz.f47 c47 r47:=.auto Tryz.func47
def c223:AC:=.seq (.reg [.o 3 (.box (.t 0)),.o 6 (.box (.k (.agg zS4)))]) (.seq (.seq (.reg [.f 9 0 3,.l 10 9]) (.block 0 (.seq (.reg [.o 12 (.bin .eql (.t 10) (zK 4)),.m 11 12]) (.cond (.t 11) (.seq (.reg [.f 13 2 3,.l 14 13,.m 15 1,.o 16 (.bin .lss (.t 14) (.t 15))]) (.cond (.t 16) (.seq (.reg [.m 17 2,.m 18 1,.o 19 (.bin .add (.t 17) (.t 18)),.o 20 (.bin .sub (.t 19) (zK 1)),.f 21 2 3,.l 22 21,.o 23 (.bin .sub (.t 20) (.t 22)),.o 24 (.build zS4 [(0,1,(zK 3)),(2,1,(.t 23))]),.s 4 6 24]) (.ret)) (.skip))) (.seq (.reg [.o 26 (.bin .eql (.t 10) (zK 3)),.m 25 26]) (.cond (.t 25) (.seq (.reg [.f 27 2 3,.l 28 27,.m 29 2,.o 30 (.bin .geq (.t 28) (.t 29))]) (.cond (.t 30) (.reg [.f 31 2 3,.l 32 31,.m 33 1,.o 34 (.bin .add (.t 32) (.t 33)),.f 35 2 3,.s 1 35 34]) (.skip))) (.seq (.reg [.o 37 (.bin .eql (.t 10) (zK 5)),.m 36 37]) (.cond (.t 36) (.seq (.reg [.f 38 3 3,.l 39 38,.o 40 (.iadd 4 (.t 39) (zK 0)),.d 41 4 40,.m 42 1,.m 43 2,.o 44 (.bin .add (.t 43) (zK 1)),.k 45 223 [.t 41,.t 42,.t 44],.k 46 44 [(zK 1),.t 45],.s 4 6 46]) (.ret)) (.seq (.reg [.o 48 (.bin .eql (.t 10) (zK 6)),.m 47 48]) (.cond (.t 47) (.seq (.reg [.f 49 3 3,.l 50 49,.k 51 174 [.t 50],.m 7 51]) (.seq (.seq (.reg [.m 52 7,.o 53 (.lenr (.t 52)),.o 54 (.mov (zK 0))]) (.block 1 (.loop (.seq (.reg [.o 55 (.bin .lss (.t 54) (.t 53))]) (.seq (.cond (.t 55) (.skip) (.exit 1)) (.seq (.block 2 (.seq (.reg [.m 56 54,.m 8 56]) (.reg [.m 57 7,.m 58 8,.m 59 7,.m 60 8,.o 61 (.iadd 4 (.t 59) (.t 60)),.d 62 4 61,.m 63 1,.m 64 2,.k 65 223 [.t 62,.t 63,.t 64],.o 66 (.iadd 4 (.t 57) (.t 58)),.s 4 66 65]))) (.reg [.o 67 (.bin .add (.t 54) (zK 1)),.m 54 67]))))))) (.reg [.m 68 7,.f 69 3 3,.s 1 69 68]))) (.skip))))))))))) (.seq (.reg [.d 70 4 3,.s 4 6 70]) (.ret)))
def r223:List ResV:=[.celln 4 6]
theorem k223:CodeIs Tryz.prog 223 3 Tryz.f223 c223 r223:=.auto Tryz.func223
def c127:AC:=.seq (.reg [.o 2 (.box (.t 0)),.o 4 (.box (.k (.agg zS4)))]) (.seq (.seq (.reg [.d 5 4 2,.k 6 23 [.t 5],.o 7 (.un .not (.t 6))]) (.cond (.t 7) (.seq (.reg [.d 8 4 2,.s 4 4 8]) (.ret)) (.skip))) (.seq (.reg [.d 9 4 2,.m 10 1,.o 11 (.mx (.t 10) (zK 0)),.k 12 223 [.t 9,.t 11,(zK 0)],.s 4 4 12]) (.ret)))
def r127:List ResV:=[.celln 4 4]
theorem k127:CodeIs Tryz.prog 127 2 Tryz.f127 c127 r127:=.auto Tryz.func127
def c46:AC:=.seq (.reg [.o 2 (.box (.t 0)),.o 4 (.mov (.k (.csl []))),.o 5 (.mov (zK 0))]) (.seq (.seq (.reg [.d 6 4 2,.k 7 23 [.t 6],.o 8 (.un .not (.t 7)),.m 9 8,.z 10 (.mov (.t 1)) 9,.z 11 (.bin .gtr (.t 10) (zK 4096)) 9,.o 12 (.pick (.t 9) zT (.t 11))]) (.cond (.t 12) (.seq (.reg [.o 4 (.mov (.k (.csl []))),.o 5 (.mov (zK 1))]) (.ret)) (.skip))) (.seq (.reg [.d 13 4 2,.m 14 1,.k 15 127 [.t 13,.t 14],.m 16 1,.o 17 (.mx (.t 16) (zK 0)),.o 18 (.build [.c (.int .i64 0),.csl [],.c (.bool false)] [(0,1,(.t 17))]),.k 19 123 [.t 15,.t 18],.x 20 19 0,.x 21 19 1,.m 4 20,.m 5 21]) (.ret)))
def r46:List ResV:=[.tmp 4,.tmp 5]
theorem k46:CodeIs Tryz.prog 46 2 Tryz.f46 c46 r46:=.auto Tryz.func46
def c282:AC:=.seq (.reg [.m 4 0,.o 5 (.lenr (.t 4)),.o 6 (.bin .sub (.t 5) (zK 1)),.o 2 (.mov (zK 0)),.m 3 6]) (.block 0 (.loop (.seq (.seq (.reg [.m 7 2,.m 8 3,.o 9 (.bin .lss (.t 7) (.t 8))]) (.cond (.t 9) (.skip) (.exit 0))) (.seq (.block 1 (.dreg [.m 14 0,.m 15 2,.m 16 0,.m 17 3,.m 18 0,.m 19 3,.o 20 (.iadd 4 (.t 18) (.t 19)),.d 21 4 20,.m 22 0,.m 23 2,.o 24 (.iadd 4 (.t 22) (.t 23)),.d 25 4 24,.o 26 (.iadd 4 (.t 14) (.t 15)),.s 4 26 21,.o 27 (.iadd 4 (.t 16) (.t 17)),.s 4 27 25] [.q (.m 14 0),.q (.m 15 2),.q (.m 18 0),.q (.m 19 3),.q (.o 20 (.iadd 4 (.t 18) (.t 19))),.q (.d 21 4 20),.q (.m 22 0),.q (.m 23 2),.q (.o 24 (.iadd 4 (.t 22) (.t 23))),.q (.d 25 4 24),.q (.o 26 (.iadd 4 (.t 14) (.t 15))),⟨.s 4 26 21,true,0⟩,.q (.m 16 0),.q (.m 17 3),⟨.o 27 (.iadd 4 (.t 16) (.t 17)),false,1⟩,⟨.s 4 27 25,true,1⟩])) (.reg [.m 10 2,.o 11 (.bin .add (.t 10) (zK 1)),.m 12 3,.o 13 (.bin .sub (.t 12) (zK 1)),.m 2 11,.m 3 13])))))
def r282:List ResV:=[]
theorem k282:CodeIs Tryz.prog 282 1 Tryz.f282 c282 r282:=.auto Tryz.func282
def c334:AC:=.seq (.reg [.o 2 (.mov (.k (.csl [])))]) (.seq (.reg [.m 3 0,.m 4 0,.o 5 (.lenr (.t 4)),.m 6 0,.o 7 (.lenr (.t 6)),.o 8 (.slr 4 (.t 3) none (some (.t 5)) (some (.t 7))),.m 2 8]) (.ret))
def r334:List ResV:=[.tmp 2]
theorem k334:CodeIs Tryz.prog 334 1 Tryz.f334 c334 r334:=.auto Tryz.func334
def c275:AC:=.seq (.reg [.o 4 (.box (.k (.agg [.c (.str []),.c (.int .i64 0)]))),.o 5 (.mov zF)]) (.seq (.seq (.reg [.m 9 0,.o 10 (.lenr (.t 9)),.o 11 (.mov (zK 0))]) (.block 0 (.loop (.seq (.reg [.o 12 (.bin .lss (.t 11) (.t 10))]) (.seq (.cond (.t 12) (.skip) (.exit 0)) (.seq (.block 1 (.seq (.reg [.o 13 (.iadd 2 (.t 9) (.t 11)),.d 14 2 13,.o 7 (.box (.k (.agg [.c (.str []),.c (.int .i64 0)]))),.s 2 7 14]) (.seq (.reg [.m 15 1,.d 16 2 7,.o 17 (.call (.t 15) [.t 16])]) (.cond (.t 17) (.seq (.reg [.d 18 2 7,.s 2 4 18,.o 5 (.mov zT)]) (.ret)) (.skip))))) (.reg [.o 19 (.bin .add (.t 11) (zK 1)),.m 11 19]))))))) (.seq (.reg [.o 8 (.box (.k (.agg [.c (.str []),.c (.int .i64 0)])))]) (.seq (.reg [.d 20 2 8,.s 2 4 20,.o 5 (.mov zF)]) (.ret))))
def r275:List ResV:=[.celln 2 4,.tmp 5]
theorem k275:CodeIs Tryz.prog 275 2 Tryz.f275 c275 r275:=.auto Tryz.func275
def c276:AC:=.seq (.reg [.o 2 (.box (.t 0)),.o 3 (.mov zF)]) (.seq (.reg [.f 4 0 2,.l 5 4,.l 6 1,.o 7 (.bin .eql (.t 5) (.t 6)),.m 3 7]) (.ret))
def r276:List ResV:=[.tmp 3]
theorem k276:CodeIs Tryz.prog 276 2 Tryz.f276 c276 r276:=.auto Tryz.func276
def c212:AC:=.seq (.reg [.o 2 (.box (.t 0)),.o 3 (.box (.t 1)),.o 4 (.mov (zK 0)),.o 5 (.mov zF)]) (.seq (.reg [.f 9 0 2,.l 10 9,.o 11 (.mkfn 276 [.t 3]),.k 12 275 [.t 10,.t 11],.m 8 12,.x 13 8 0,.x 14 8 1,.o 6 (.box (.k (.agg [.c (.str []),.c (.int .i64 0)]))),.s 2 6 13,.m 7 14]) (.seq (.reg [.f 15 1 6,.l 16 15,.m 17 7,.m 4 16,.m 5 17]) (.ret)))
def r212:List ResV:=[.tmp 4,.tmp 5]
theorem k212:CodeIs Tryz.prog 212 2 Tryz.f212 c212 r212:=.auto Tryz.func212
def c70:AC:=.seq (.reg [.o 4 (.box (.k (.agg [.c (.str []),.c (.int .i64 0),.c (.str []),.c (.int .i64 0),.csl []]))),.o 5 (.mov zF)]) (.seq (.seq (.reg [.m 9 0,.o 10 (.lenr (.t 9)),.o 11 (.mov (zK 0))]) (.block 0 (.loop (.seq (.reg [.o 12 (.bin .lss (.t 11) (.t 10))]) (.seq (.cond (.t 12) (.skip) (.exit 0)) (.seq (.block 1 (.seq (.reg [.o 13 (.iadd 5 (.t 9) (.t 11)),.d 14 5 13,.o 7 (.box (.k (.agg [.c (.str []),.c (.int .i64 0),.c (.str []),.c (.int .i64 0),.csl []]))),.s 5 7 14]) (.seq (.reg [.m 15 1,.d 16 5 7,.o 17 (.call (.t 15) [.t 16])]) (.cond (.t 17) (.seq (.reg [.d 18 5 7,.s 5 4 18,.o 5 (.mov zT)]) (.ret)) (.skip))))) (.reg [.o 19 (.bin .add (.t 11) (zK 1)),.m 11 19]))))))) (.seq (.reg [.o 8 (.box (.k (.agg [.c (.str []),.c (.int .i64 0),.c (.str []),.c (.int .i64 0),.csl []])))]) (.seq (.reg [.d 20 5 8,.s 5 4 20,.o 5 (.mov zF)]) (.ret))))
def r70:List ResV:=[.celln 5 4,.tmp 5]
theorem k70:CodeIs Tryz.prog 70 2 Tryz.f70 c70 r70:=.auto Tryz.func70
def c71:AC:=.seq (.reg [.o 2 (.box (.t 0)),.o 3 (.mov zF)]) (.seq (.reg [.f 4 0 2,.l 5 4,.l 6 1,.o 7 (.bin .eql (.t 5) (.t 6)),.m 3 7]) (.ret))
def r71:List ResV:=[.tmp 3]
theorem k71:CodeIs Tryz.prog 71 2 Tryz.f71 c71 r71:=.auto Tryz.func71
def c21:AC:=.seq (.reg [.o 2 (.box (.t 0)),.o 3 (.box (.t 1)),.o 4 (.box (.k (.agg zS4))),.o 5 (.mov zF)]) (.seq (.reg [.f 9 1 2,.l 10 9,.o 11 (.mkfn 71 [.t 3]),.k 12 70 [.t 10,.t 11],.m 8 12,.x 13 8 0,.x 14 8 1,.o 6 (.box (.k (.agg [.c (.str []),.c (.int .i64 0),.c (.str []),.c (.int .i64 0),.csl []]))),.s 5 6 13,.m 7 14]) (.seq (.reg [.f 15 1 6,.d 16 4 15,.m 17 7,.s 4 4 16,.m 5 17]) (.ret)))
def r21:List ResV:=[.celln 4 4,.tmp 5]
theorem k21:CodeIs Tryz.prog 21 2 Tryz.f21 c21 r21:=.auto Tryz.func21
def c221:AC:=.seq (.reg [.o 2 (.mov zF)]) (.seq (.seq (.reg [.m 3 0]) (.block 0 (.seq (.seq (.reg [.o 5 (.bin .eql (.t 3) (.k (.c (.str [58,45])))),.m 4 5]) (.cond (.t 4) (.skip) (.seq (.reg [.o 6 (.bin .eql (.t 3) (.k (.c (.str [44])))),.m 4 6]) (.cond (.t 4) (.skip) (.seq (.reg [.o 7 (.bin .eql (.t 3) (.k (.c (.str [59])))),.m 4 7]) (.cond (.t 4) (.skip) (.seq (.reg [.o 8 (.bin .eql (.t 3) (.k (.c (.str [61,62])))),.m 4 8]) (.cond (.t 4) (.skip) (.seq (.reg [.o 9 (.bin .eql (.t 3) (.k (.c (.str [61])))),.m 4 9]) (.cond (.t 4) (.skip) (.seq (.reg [.o 10 (.bin .eql (.t 3) (.k (.c (.str [105,115])))),.m 4 10]) (.cond (.t 4) (.skip) (.seq (.reg [.o 11 (.bin .eql (.t 3) (.k (.c (.str [60])))),.m 4 11]) (.cond (.t 4) (.skip) (.seq (.reg [.o 12 (.bin .eql (.t 3) (.k (.c (.str [61,60])))),.m 4 12]) (.cond (.t 4) (.skip) (.seq (.reg [.o 13 (.bin .eql (.t 3) (.k (.c (.str [62])))),.m 4 13]) (.cond (.t 4) (.skip) (.seq (.reg [.o 14 (.bin .eql (.t 3) (.k (.c (.str [62,61])))),.m 4 14]) (.cond (.t 4) (.skip) (.seq (.reg [.o 15 (.bin .eql (.t 3) (.k (.c (.str [116,114,117,101])))),.m 4 15]) (.cond (.t 4) (.skip) (.seq (.reg [.o 16 (.bin .eql (.t 3) (.k (.c (.str [102,97,105,108])))),.m 4 16]) (.cond (.t 4) (.skip) (.seq (.reg [.o 17 (.bin .eql (.t 3) (.k (.c (.str [33])))),.m 4 17]) (.cond (.t 4) (.skip) (.seq (.reg [.o 18 (.bin .eql (.t 3) (.k (.c (.str [112,105])))),.m 4 18]) (.cond (.t 4) (.skip) (.reg [.o 19 (.bin .eql (.t 3) (.k (.c (.str [115,105,103,109,97])))),.m 4 19]))))))))))))))))))))))))))))) (.cond (.t 4) (.seq (.reg [.o 2 (.mov zT)]) (.ret)) (.skip))))) (.seq (.reg [.o 2 (.mov zF)]) (.ret)))
def r221:List ResV:=[.tmp 2]
theorem k221:CodeIs Tryz.prog 221 1 Tryz.f221 c221 r221:=.auto Tryz.func221
def c211:AC:=.seq (.reg [.o 2 (.box (.t 0)),.o 3 (.box (.t 1)),.o 4 (.mov zF)]) (.seq (.seq (.reg [.d 8 3 2,.f 9 1 3,.l 10 9,.k 11 212 [.t 8,.t 10],.m 7 11,.x 12 7 0,.x 13 7 1,.m 5 12,.m 6 13]) (.seq (.reg [.f 14 0 3,.l 15 14,.o 16 (.bin .eql (.t 15) (zK 0)),.m 17 16,.y 18 (.mov (.t 6)) 17,.y 19 (.un .not (.t 18)) 17,.y 20 (.mov (.t 19)) 17,.z 21 (.mov (.t 5)) 20,.z 22 (.fadd 3 (.t 3)) 20,.z 23 (.load1 (.t 22)) 20,.z 24 (.lenr (.t 23)) 20,.z 25 (.bin .neq (.t 21) (.t 24)) 20,.y 26 (.pick (.t 20) zT (.t 25)) 17,.o 27 (.pick (.t 17) (.t 26) zF)]) (.cond (.t 27) (.seq (.reg [.o 4 (.mov zF)]) (.ret)) (.skip)))) (.seq (.reg [.f 28 3 3,.l 29 28,.o 30 (.mkfn 274 [.t 2]),.k 31 181 [.t 29,.t 30],.o 32 (.un .not (.t 31)),.m 4 32]) (.ret)))
def r211:List ResV:=[.tmp 4]
theorem k211:CodeIs Tryz.prog 211 2 Tryz.f211 c211 r211:=.auto Tryz.func211
def c274:AC:=.seq (.reg [.o 2 (.box (.t 0)),.o 3 (.mov zF)]) (.seq (.reg [.d 4 3 1,.d 5 4 2,.k 6 211 [.t 4,.t 5],.o 7 (.un .not (.t 6)),.m 3 7]) (.ret))
def r274:List ResV:=[.tmp 3]
theorem k274:CodeIs Tryz.prog 274 2 Tryz.f274 c274 r274:=.auto Tryz.func274
def c119:AC:=.seq (.reg [.o 2 (.box (.t 0)),.o 3 (.box (.t 1)),.o 4 (.mov zF)]) (.seq (.reg [.d 5 4 3,.k 6 93 [.t 5],.m 7 6,.y 8 (.loadn 3 (.t 2)) 7,.y 9 (.loadn 4 (.t 3)) 7,.y 10 (.call (.k (.fn 211 [])) [.t 8,.t 9]) 7,.o 11 (.pick (.t 7) (.t 10) zF),.m 4 11]) (.ret))
def r119:List ResV:=[.tmp 4]
theorem k119:CodeIs Tryz.prog 119 2 Tryz.f119 c119 r119:=.auto Tryz.func119
def c213:AC:=.seq (.reg [.o 6 (.mov (zK 0))]) (.seq (.block 0 (.seq (.reg [.m 8 0,.o 9 (.un .not (.t 8)),.m 7 9]) (.cond (.t 7) (.seq (.reg [.o 6 (.mov (zK 113))]) (.ret)) (.seq (.reg [.m 11 1,.m 10 11]) (.cond (.t 10) (.seq (.reg [.o 6 (.mov (zK 110))]) (.ret)) (.seq (.reg [.m 13 2,.o 14 (.bin .geq (.t 13) (zK 1024)),.m 12 14]) (.cond (.t 12) (.seq (.reg [.o 6 (.mov (zK 112))]) (.ret)) (.skip)))))))) (.seq (.reg [.o 6 (.mov (zK 0))]) (.ret)))
def r213:List ResV:=[.tmp 6]
theorem k213:CodeIs Tryz.prog 213 3 Tryz.f213 c213 r213:=.auto Tryz.func213
def c120:AC:=.seq (.reg [.o 3 (.box (.t 0)),.o 4 (.box (.t 1)),.o 6 (.box (.k (.agg [.csl [],.csl [],.csl []]))),.o 7 (.mov (zK 0))]) (.seq (.reg [.o 8 (.mov (zK 0))]) (.seq (.seq (.reg [.f 14 0 4,.l 15 14]) (.block 0 (.seq (.reg [.o 17 (.bin .eql (.t 15) (zK 0)),.m 16 17]) (.cond (.t 16) (.seq (.reg [.d 19 3 3,.m 20 2,.k 21 212 [.t 19,.t 20],.m 18 21,.x 22 18 0,.x 23 18 1,.m 9 22,.m 10 23]) (.seq (.dreg [.m 24 2,.k 25 75 [.t 24],.m 26 25,.y 27 (.fadd 2 (.t 4)) 26,.y 28 (.load1 (.t 27)) 26,.y 29 (.bin .geq (.t 28) (zK 0)) 26,.o 30 (.pick (.t 26) (.t 29) zF),.m 31 10,.f 32 0 3,.l 33 32,.o 34 (.lenr (.t 33)),.k 35 213 [.t 30,.t 31,.t 34],.m 8 35] [.q (.m 24 2),⟨.k 25 75 [.t 24],true,0⟩,⟨.m 26 25,false,1⟩,⟨.y 27 (.fadd 2 (.t 4)) 26,false,1⟩,⟨.y 28 (.load1 (.t 27)) 26,false,1⟩,⟨.y 29 (.bin .geq (.t 28) (zK 0)) 26,false,1⟩,⟨.o 30 (.pick (.t 26) (.t 29) zF),false,1⟩,.q (.m 31 10),.q (.f 32 0 3),.q (.l 33 32),.q (.o 34 (.lenr (.t 33))),⟨.k 35 213 [.t 30,.t 31,.t 34],true,1⟩,⟨.m 8 35,false,2⟩]) (.dreg [.f 36 0 3,.l 37 36,.k 38 214 [.t 37],.m 39 2,.f 40 2 4,.l 41 40,.o 42 (.build [.c (.str []),.c (.int .i64 0)] [(0,1,(.t 39)),(1,1,(.t 41))]),.o 43 (.bsl 2 [.t 42]),.o 44 (.app 164 2 24 (.t 38) (.t 43)),.f 45 0 3,.s 1 45 44] [.q (.f 36 0 3),.q (.l 37 36),⟨.k 38 214 [.t 37],true,0⟩,.q (.m 39 2),.q (.f 40 2 4),.q (.l 41 40),.q (.o 42 (.build [.c (.str []),.c (.int .i64 0)] [(0,1,(.t 39)),(1,1,(.t 41))])),.q (.o 43 (.bsl 2 [.t 42])),⟨.o 44 (.app 164 2 24 (.t 38) (.t 43)),true,1⟩,⟨.f 45 0 3,false,2⟩,⟨.s 1 45 44,true,2⟩]))) (.seq (.reg [.o 47 (.bin .eql (.t 15) (zK 1)),.m 46 47]) (.cond (.t 46) (.seq (.reg [.d 49 3 3,.m 50 2,.k 51 21 [.t 49,.t 50],.m 48 51,.x 52 48 0,.x 53 48 1,.o 11 (.box (.k (.agg zS4))),.s 4 11 52,.m 12 53]) (.seq (.dreg [.m 54 2,.k 55 75 [.t 54],.m 56 55,.z 57 (.mov (.t 2)) 56,.z 58 (.call (.k (.fn 76 [])) [.t 57]) 56,.o 59 (.pick (.t 56) zT (.t 58)),.m 60 12,.f 61 1 3,.l 62 61,.o 63 (.lenr (.t 62)),.k 64 213 [.t 59,.t 60,.t 63],.m 8 64] [.q (.m 54 2),⟨.k 55 75 [.t 54],true,0⟩,⟨.m 56 55,false,1⟩,⟨.z 57 (.mov (.t 2)) 56,false,1⟩,⟨.z 58 (.call (.k (.fn 76 [])) [.t 57]) 56,true,1⟩,⟨.o 59 (.pick (.t 56) zT (.t 58)),false,2⟩,.q (.m 60 12),.q (.f 61 1 3),.q (.l 62 61),.q (.o 63 (.lenr (.t 62))),⟨.k 64 213 [.t 59,.t 60,.t 63],true,2⟩,⟨.m 8 64,false,3⟩]) (.dreg [.f 65 1 3,.l 66 65,.k 67 215 [.t 66],.m 68 2,.f 69 3 4,.d 70 4 69,.o 71 (.build [.c (.str []),.c (.int .i64 0),.c (.str []),.c (.int .i64 0),.csl []] [(0,1,(.t 68)),(1,4,(.t 70))]),.o 72 (.bsl 5 [.t 71]),.o 73 (.app 68 5 72 (.t 67) (.t 72)),.f 74 1 3,.s 1 74 73] [.q (.f 65 1 3),.q (.l 66 65),⟨.k 67 215 [.t 66],true,0⟩,.q (.m 68 2),.q (.f 69 3 4),.q (.d 70 4 69),.q (.o 71 (.build [.c (.str []),.c (.int .i64 0),.c (.str []),.c (.int .i64 0),.csl []] [(0,1,(.t 68)),(1,4,(.t 70))])),.q (.o 72 (.bsl 5 [.t 71])),⟨.o 73 (.app 68 5 72 (.t 67) (.t 72)),true,1⟩,⟨.f 74 1 3,false,2⟩,⟨.s 1 74 73,true,2⟩]))) (.seq (.reg [.o 76 (.bin .eql (.t 15) (zK 2)),.m 75 76]) (.cond (.t 75) (.seq (.reg [.f 77 7 4,.d 78 3 77,.o 13 (.box (.k (.agg [.c (.str []),.c (.int .i64 0),.c (.int .i64 0)]))),.s 3 13 78]) (.seq (.reg [.m 79 2,.f 80 0 13,.s 1 80 79]) (.reg [.f 82 2 3,.l 83 82,.d 84 3 13,.k 85 216 [.t 83,.t 84],.m 81 85,.x 86 81 0,.x 87 81 1,.f 88 2 3,.s 1 88 86,.m 8 87]))) (.skip))))))))) (.seq (.reg [.d 89 3 3,.m 90 8,.s 3 6 89,.m 7 90]) (.ret))))
def r120:List ResV:=[.celln 3 6,.tmp 7]
theorem k120:CodeIs Tryz.prog 120 3 Tryz.f120 c120 r120:=.auto Tryz.func120
def c118:AC:=.seq (.reg [.o 1 (.box (.t 0)),.o 2 (.box (.k (.agg [.csl [],.csl [],.csl []])))]) (.seq (.dreg [.f 3 0 1,.l 4 3,.k 5 209 [.t 4],.f 6 1 1,.l 7 6,.k 8 196 [.t 7],.f 9 2 1,.l 10 9,.k 11 210 [.t 10],.o 12 (.build [.csl [],.csl [],.csl []] [(0,1,(.t 5)),(1,1,(.t 8)),(2,1,(.t 11))]),.s 3 2 12] [.q (.f 3 0 1),.q (.l 4 3),⟨.k 5 209 [.t 4],true,0⟩,.q (.f 6 1 1),.q (.l 7 6),⟨.k 8 196 [.t 7],true,1⟩,.q (.f 9 2 1),.q (.l 10 9),⟨.k 11 210 [.t 10],true,2⟩,⟨.o 12 (.build [.csl [],.csl [],.csl []] [(0,1,(.t 5)),(1,1,(.t 8)),(2,1,(.t 11))]),false,3⟩,⟨.s 3 2 12,true,3⟩]) (.ret))
def r118:List ResV:=[.celln 3 2]
theorem k118:CodeIs Tryz.prog 118 1 Tryz.f118 c118 r118:=.auto Tryz.func118
def c36:AC:=.seq (.reg [.o 2 (.box (.t 0)),.o 3 (.box (.t 1)),.o 4 (.box (.k (.agg [.csl [],.csl [],.csl []]))),.o 5 (.mov (zK 0))]) (.seq (.block 0 (.seq (.reg [.f 12 0 3,.l 13 12,.o 14 (.bin .lss (.t 13) (zK 0)),.m 15 14,.z 16 (.fadd 0 (.t 3)) 15,.z 17 (.load1 (.t 16)) 15,.z 18 (.bin .gtr (.t 17) (zK 3)) 15,.o 19 (.pick (.t 15) zT (.t 18)),.m 11 19]) (.cond (.t 11) (.seq (.reg [.d 20 3 2,.k 21 118 [.t 20],.s 3 4 21,.o 5 (.mov (zK 1))]) (.ret)) (.seq (.reg [.f 23 0 3,.l 24 23,.o 25 (.bin .eql (.t 24) (zK 1)),.m 26 25,.y 27 (.loadn 3 (.t 2)) 26,.y 28 (.fadd 3 (.t 3)) 26,.y 29 (.loadn 4 (.t 28)) 26,.y 30 (.call (.k (.fn 119 [])) [.t 27,.t 29]) 26,.y 31 (.un .not (.t 30)) 26,.o 32 (.pick (.t 26) (.t 31) zF),.m 22 32]) (.cond (.t 22) (.seq (.reg [.d 33 3 2,.k 34 118 [.t 33],.s 3 4 34,.o 5 (.mov (zK 111))]) (.ret)) (.skip)))))) (.seq (.reg [.d 35 3 2,.k 36 118 [.t 35],.o 6 (.box (.k (.agg [.csl [],.csl [],.csl []]))),.s 3 6 36]) (.seq (.seq (.reg [.f 37 1 3,.l 38 37,.o 39 (.lenr (.t 38)),.o 40 (.mov (zK 0))]) (.block 1 (.loop (.seq (.reg [.o 41 (.bin .lss (.t 40) (.t 39))]) (.seq (.cond (.t 41) (.skip) (.exit 1)) (.seq (.block 2 (.seq (.reg [.o 42 (.iadd 1 (.t 38) (.t 40)),.l 43 42,.m 8 43]) (.seq (.reg [.d 45 3 6,.d 46 16 3,.m 47 8,.k 48 120 [.t 45,.t 46,.t 47],.m 44 48,.x 49 44 0,.x 50 44 1,.o 9 (.box (.k (.agg [.csl [],.csl [],.csl []]))),.s 3 9 49,.m 10 50]) (.seq (.seq (.reg [.m 51 10,.o 52 (.bin .neq (.t 51) (zK 0))]) (.cond (.t 52) (.seq (.reg [.d 53 3 2,.k 54 118 [.t 53],.m 55 10,.s 3 4 54,.m 5 55]) (.ret)) (.skip))) (.reg [.d 56 3 9,.s 3 6 56]))))) (.reg [.o 57 (.bin .add (.t 40) (zK 1)),.m 40 57]))))))) (.seq (.reg [.d 58 3 6,.s 3 4 58,.o 5 (.mov (zK 0))]) (.ret)))))
def r36:List ResV:=[.celln 3 4,.tmp 5]
theorem k36:CodeIs Tryz.prog 36 2 Tryz.f36 c36 r36:=.auto Tryz.func36
def c294:AC:=.seq (.reg [.o 2 (.box (.k (.agg zS4)))]) (.seq (.reg [.m 3 0,.o 4 (.build zS4 [(1,1,(.t 3))]),.s 4 2 4]) (.ret))
def r294:List ResV:=[.celln 4 2]
theorem k294:CodeIs Tryz.prog 294 1 Tryz.f294 c294 r294:=.auto Tryz.func294
def c296:AC:=.seq (.reg [.o 2 (.box (.t 0)),.o 4 (.mov (.k (.csl [])))]) (.seq (.reg [.o 5 (.mov (.k (.csl [])))]) (.seq (.seq (.reg [.m 8 1,.o 9 (.lenr (.t 8)),.o 10 (.mov (zK 0))]) (.block 0 (.loop (.seq (.reg [.o 11 (.bin .lss (.t 10) (.t 9))]) (.seq (.cond (.t 11) (.skip) (.exit 0)) (.seq (.block 1 (.seq (.reg [.o 12 (.iadd 1 (.t 8) (.t 10)),.l 13 12,.m 7 13]) (.reg [.m 14 5,.m 15 7,.d 16 4 2,.o 17 (.build [.c (.str []),.c (.int .i64 0),.c (.str []),.c (.int .i64 0),.csl []] [(0,1,(.t 15)),(1,4,(.t 16))]),.o 18 (.bsl 5 [.t 17]),.o 19 (.app 68 5 72 (.t 14) (.t 18)),.m 5 19]))) (.reg [.o 20 (.bin .add (.t 10) (zK 1)),.m 10 20]))))))) (.seq (.reg [.m 21 5,.m 4 21]) (.ret))))
def r296:List ResV:=[.tmp 4]
theorem k296:CodeIs Tryz.prog 296 2 Tryz.f296 c296 r296:=.auto Tryz.func296
def c231:AC:=.seq (.reg [.o 0 (.box (.k (.agg [.csl [],.csl [],.csl []])))]) (.seq (.reg [.k 5 294 [(.k (.c (.str [111])))],.k 6 294 [(.k (.c (.str [105,110,116])))],.o 7 (.build zS4 [(0,1,(zK 1))]),.o 1 (.box (.k (.agg zS4))),.o 2 (.box (.k (.agg zS4))),.o 3 (.box (.k (.agg zS4))),.s 4 1 5,.s 4 2 6,.s 4 3 7]) (.seq (.dreg [.d 8 4 1,.d 9 4 1,.d 10 4 1,.o 11 (.bsl 4 [.t 9,.t 10]),.k 12 185 [.t 8,.t 11],.o 13 (.bsl 1 [(.k (.c (.str [58,45]))),(.k (.c (.str [44]))),(.k (.c (.str [59]))),(.k (.c (.str [61,62])))]),.k 14 296 [.t 12,.t 13],.d 15 4 1,.d 16 4 3,.d 17 4 3,.o 18 (.bsl 4 [.t 16,.t 17]),.k 19 185 [.t 15,.t 18],.o 20 (.bsl 1 [(.k (.c (.str [61])))]),.k 21 296 [.t 19,.t 20],.d 22 4 1,.d 23 4 2,.d 24 4 2,.o 25 (.bsl 4 [.t 23,.t 24]),.k 26 185 [.t 22,.t 25],.o 27 (.bsl 1 [(.k (.c (.str [105,115]))),(.k (.c (.str [60]))),(.k (.c (.str [61,60]))),(.k (.c (.str [62]))),(.k (.c (.str [62,61])))]),.k 28 296 [.t 26,.t 27],.d 29 4 2,.d 30 4 2,.d 31 4 2,.o 32 (.bsl 4 [.t 30,.t 31]),.k 33 185 [.t 29,.t 32],.o 34 (.bsl 1 [(.k (.c (.str [43]))),(.k (.c (.str [45]))),(.k (.c (.str [42]))),(.k (.c (.str [100,105,118]))),(.k (.c (.str [109,111,100])))]),.k 35 296 [.t 33,.t 34],.d 36 4 2,.d 37 4 2,.o 38 (.bsl 4 [.t 37]),.k 39 185 [.t 36,.t 38],.o 40 (.bsl 1 [(.k (.c (.str [126])))]),.k 41 296 [.t 39,.t 40],.d 42 4 1,.o 43 (.bsl 1 [(.k (.c (.str [116,114,117,101]))),(.k (.c (.str [102,97,105,108]))),(.k (.c (.str [33])))]),.k 44 296 [.t 42,.t 43],.d 45 4 1,.d 46 4 1,.d 47 4 3,.o 48 (.bsl 4 [.t 47]),.k 49 185 [.t 46,.t 48],.o 50 (.bsl 4 [.t 49]),.k 51 185 [.t 45,.t 50],.o 52 (.bsl 1 [(.k (.c (.str [112,105]))),(.k (.c (.str [115,105,103,109,97])))]),.k 53 296 [.t 51,.t 52],.o 54 (.bsl 1 [.t 14,.t 21,.t 28,.t 35,.t 41,.t 44,.t 53]),.k 55 295 [.t 54],.m 4 55] [.q (.d 8 4 1),.q (.d 9 4 1),.q (.d 10 4 1),.q (.o 11 (.bsl 4 [.t 9,.t 10])),⟨.k 12 185 [.t 8,.t 11],true,0⟩,.q (.o 13 (.bsl 1 [(.k (.c (.str [58,45]))),(.k (.c (.str [44]))),(.k (.c (.str [59]))),(.k (.c (.str [61,62])))])),⟨.k 14 296 [.t 12,.t 13],true,1⟩,.q (.d 15 4 1),.q (.d 16 4 3),.q (.d 17 4 3),.q (.o 18 (.bsl 4 [.t 16,.t 17])),⟨.k 19 185 [.t 15,.t 18],true,2⟩,.q (.o 20 (.bsl 1 [(.k (.c (.str [61])))])),⟨.k 21 296 [.t 19,.t 20],true,3⟩,.q (.d 22 4 1),.q (.d 23 4 2),.q (.d 24 4 2),.q (.o 25 (.bsl 4 [.t 23,.t 24])),⟨.k 26 185 [.t 22,.t 25],true,4⟩,.q (.o 27 (.bsl 1 [(.k (.c (.str [105,115]))),(.k (.c (.str [60]))),(.k (.c (.str [61,60]))),(.k (.c (.str [62]))),(.k (.c (.str [62,61])))])),⟨.k 28 296 [.t 26,.t 27],true,5⟩,.q (.d 29 4 2),.q (.d 30 4 2),.q (.d 31 4 2),.q (.o 32 (.bsl 4 [.t 30,.t 31])),⟨.k 33 185 [.t 29,.t 32],true,6⟩,.q (.o 34 (.bsl 1 [(.k (.c (.str [43]))),(.k (.c (.str [45]))),(.k (.c (.str [42]))),(.k (.c (.str [100,105,118]))),(.k (.c (.str [109,111,100])))])),⟨.k 35 296 [.t 33,.t 34],true,7⟩,.q (.d 36 4 2),.q (.d 37 4 2),.q (.o 38 (.bsl 4 [.t 37])),⟨.k 39 185 [.t 36,.t 38],true,8⟩,.q (.o 40 (.bsl 1 [(.k (.c (.str [126])))])),⟨.k 41 296 [.t 39,.t 40],true,9⟩,.q (.d 42 4 1),.q (.o 43 (.bsl 1 [(.k (.c (.str [116,114,117,101]))),(.k (.c (.str [102,97,105,108]))),(.k (.c (.str [33])))])),⟨.k 44 296 [.t 42,.t 43],true,10⟩,.q (.d 46 4 1),.q (.d 47 4 3),.q (.o 48 (.bsl 4 [.t 47])),⟨.k 49 185 [.t 46,.t 48],true,11⟩,.q (.d 45 4 1),⟨.o 50 (.bsl 4 [.t 49]),false,12⟩,⟨.k 51 185 [.t 45,.t 50],true,12⟩,.q (.o 52 (.bsl 1 [(.k (.c (.str [112,105]))),(.k (.c (.str [115,105,103,109,97])))])),⟨.k 53 296 [.t 51,.t 52],true,13⟩,⟨.o 54 (.bsl 1 [.t 14,.t 21,.t 28,.t 35,.t 41,.t 44,.t 53]),false,14⟩,⟨.k 55 295 [.t 54],true,14⟩,⟨.m 4 55,false,15⟩]) (.seq (.reg [.o 56 (.build [.c (.str []),.c (.int .i64 0)] [(0,1,(.k (.c (.str [111]))))]),.o 57 (.build [.c (.str []),.c (.int .i64 0)] [(0,1,(.k (.c (.str [105,110,116]))))]),.o 58 (.bsl 2 [.t 56,.t 57]),.m 59 4,.k 60 229 [],.o 61 (.build [.csl [],.csl [],.csl []] [(0,1,(.t 58)),(1,1,(.t 59)),(2,1,(.t 60))]),.s 3 0 61]) (.ret))))
def r231:List ResV:=[.celln 3 0]
theorem k231:CodeIs Tryz.prog 231 0 Tryz.f231 c231 r231:=.auto Tryz.func231
def c209:AC:=.seq (.reg [.o 2 (.mov (.k (.csl [])))]) (.seq (.seq (.reg [.m 3 0,.o 4 (.eqz false (.t 3))]) (.cond (.t 4) (.seq (.reg [.o 2 (.mov (.k (.csl [])))]) (.ret)) (.skip))) (.seq (.reg [.o 5 (.bsl 2 []),.m 6 0,.o 7 (.app 164 2 24 (.t 5) (.t 6)),.m 2 7]) (.ret)))
def r209:List ResV:=[.tmp 2]
theorem k209:CodeIs Tryz.prog 209 1 Tryz.f209 c209 r209:=.auto Tryz.func209
def c196:AC:=.seq (.reg [.o 2 (.mov (.k (.csl [])))]) (.seq (.seq (.reg [.m 3 0,.o 4 (.eqz false (.t 3))]) (.cond (.t 4) (.seq (.reg [.o 2 (.mov (.k (.csl [])))]) (.ret)) (.skip))) (.seq (.reg [.o 5 (.bsl 5 []),.m 6 0,.o 7 (.app 68 5 72 (.t 5) (.t 6)),.m 2 7]) (.ret)))
def r196:List ResV:=[.tmp 2]
theorem k196:CodeIs Tryz.prog 196 1 Tryz.f196 c196 r196:=.auto Tryz.func196
def c214:AC:=.seq (.reg [.o 2 (.mov (.k (.csl [])))]) (.seq (.reg [.m 3 0,.m 4 0,.o 5 (.lenr (.t 4)),.m 6 0,.o 7 (.lenr (.t 6)),.o 8 (.slr 2 (.t 3) none (some (.t 5)) (some (.t 7))),.m 2 8]) (.ret))
def r214:List ResV:=[.tmp 2]
theorem k214:CodeIs Tryz.prog 214 1 Tryz.f214 c214 r214:=.auto Tryz.func214
def c215:AC:=.seq (.reg [.o 2 (.mov (.k (.csl [])))]) (.seq (.reg [.m 3 0,.m 4 0,.o 5 (.lenr (.t 4)),.m 6 0,.o 7 (.lenr (.t 6)),.o 8 (.slr 5 (.t 3) none (some (.t 5)) (some (.t 7))),.m 2 8]) (.ret))
def r215:List ResV:=[.tmp 2]
theorem k215:CodeIs Tryz.prog 215 1 Tryz.f215 c215 r215:=.auto Tryz.func215
def c188:AC:=.seq (.reg [.o 1 (.box (.t 0)),.o 2 (.box (.k (.agg zS4)))]) (.seq (.reg [.o 4 (.mkmap),.o 3 (.box (.k (.nilm))),.s 1 3 4]) (.seq (.reg [.d 5 4 1,.o 6 (.mkfn 260 [.t 3]),.k 7 259 [.t 5,.t 6],.s 4 2 7]) (.ret)))
def r188:List ResV:=[.celln 4 2]
theorem k188:CodeIs Tryz.prog 188 1 Tryz.f188 c188 r188:=.auto Tryz.func188
def c260:AC:=.seq (.reg [.o 3 (.box (.k (.agg zS4)))]) (.seq (.reg [.l 7 1,.m 8 0,.o 9 (.look true (.i .i64) (.int .i64 0) (.t 7) (.t 8)),.m 6 9,.x 10 6 0,.x 11 6 1,.m 4 10,.m 5 11]) (.seq (.seq (.reg [.m 12 5,.o 13 (.un .not (.t 12))]) (.cond (.t 13) (.seq (.reg [.l 14 1,.o 15 (.lenm (.t 14)),.m 4 15]) (.reg [.l 16 1,.m 17 0,.m 18 4,⟨none,.mupd (.i .i64) (.t 16) (.t 17) (.t 18),none⟩])) (.skip))) (.seq (.reg [.m 19 4,.k 20 261 [.t 19],.s 4 3 20]) (.ret))))
def r260:List ResV:=[.celln 4 3]
theorem k260:CodeIs Tryz.prog 260 2 Tryz.f260 c260 r260:=.auto Tryz.func260
def c189:AC:=.seq (.reg [.o 2 (.box (.t 0)),.o 3 (.box (.t 1)),.o 4 (.box (.k (.agg zS4)))]) (.seq (.reg [.d 5 4 2,.o 6 (.mkfn 262 [.t 3]),.k 7 259 [.t 5,.t 6],.s 4 4 7]) (.ret))
def r189:List ResV:=[.celln 4 4]
theorem k189:CodeIs Tryz.prog 189 2 Tryz.f189 c189 r189:=.auto Tryz.func189
def c262:AC:=.seq (.reg [.o 3 (.box (.k (.agg zS4)))]) (.seq (.reg [.m 4 0,.l 5 1,.o 6 (.bin .add (.t 4) (.t 5)),.k 7 261 [.t 6],.s 4 3 7]) (.ret))
def r262:List ResV:=[.celln 4 3]
theorem k262:CodeIs Tryz.prog 262 2 Tryz.f262 c262 r262:=.auto Tryz.func262
def c130:AC:=.seq (.reg [.o 2 (.mov zF)]) (.seq (.reg [.o 5 (.bsl 1 [(.k (.c (.str [58,45]))),(.k (.c (.str [44]))),(.k (.c (.str [59]))),(.k (.c (.str [61,62]))),(.k (.c (.str [61]))),(.k (.c (.str [105,115]))),(.k (.c (.str [60]))),(.k (.c (.str [61,60]))),(.k (.c (.str [62]))),(.k (.c (.str [62,61]))),(.k (.c (.str [116,114,117,101]))),(.k (.c (.str [102,97,105,108]))),(.k (.c (.str [33]))),(.k (.c (.str [112,105]))),(.k (.c (.str [115,105,103,109,97])))]),.m 3 5]) (.seq (.seq (.reg [.o 4 (.mov (zK 0))]) (.block 0 (.loop (.seq (.seq (.reg [.m 6 4,.m 7 3,.o 8 (.lenr (.t 7)),.o 9 (.bin .lss (.t 6) (.t 8))]) (.cond (.t 9) (.skip) (.exit 0))) (.seq (.block 1 (.seq (.reg [.m 12 3,.m 13 4,.o 14 (.iadd 1 (.t 12) (.t 13)),.l 15 14,.m 16 0,.o 17 (.bin .eql (.t 15) (.t 16))]) (.cond (.t 17) (.seq (.reg [.o 2 (.mov zT)]) (.ret)) (.skip)))) (.reg [.m 10 4,.o 11 (.bin .add (.t 10) (zK 1)),.m 4 11])))))) (.seq (.reg [.o 2 (.mov zF)]) (.ret))))
def r130:List ResV:=[.tmp 2]
theorem k130:CodeIs Tryz.prog 130 1 Tryz.f130 c130 r130:=.auto Tryz.func130
def c180:AC:=.seq (.reg [.o 1 (.box (.t 0)),.o 2 (.mov zF)]) (.seq (.reg [.f 3 0 1,.l 4 3,.o 5 (.bin .eql (.t 4) (zK 2)),.m 6 5,.y 7 (.fadd 3 (.t 1)) 6,.y 8 (.load1 (.t 7)) 6,.y 9 (.lenr (.t 8)) 6,.y 10 (.bin .eql (.t 9) (zK 2)) 6,.o 11 (.pick (.t 6) (.t 10) zF),.m 2 11]) (.ret))
def r180:List ResV:=[.tmp 2]
theorem k180:CodeIs Tryz.prog 180 1 Tryz.f180 c180 r180:=.auto Tryz.func180
def c195:AC:=.seq (.reg [.o 1 (.box (.t 0)),.o 2 (.mov (.k (.csl []))),.o 3 (.box (.k (.agg zS4)))]) (.seq (.reg [.o 4 (.mov (.k (.csl [])))]) (.seq (.block 0 (.loop (.seq (.seq (.reg [.d 5 4 1,.k 6 180 [.t 5]]) (.cond (.t 6) (.skip) (.exit 0))) (.block 1 (.dreg [.m 7 4,.f 8 3 1,.l 9 8,.o 10 (.iadd 4 (.t 9) (zK 0)),.d 11 4 10,.o 12 (.bsl 4 [.t 11]),.o 13 (.app 48 4 56 (.t 7) (.t 12)),.f 14 3 1,.l 15 14,.o 16 (.iadd 4 (.t 15) (zK 1)),.d 17 4 16,.m 4 13,.s 4 1 17] [.q (.m 7 4),.q (.f 8 3 1),.q (.l 9 8),.q (.o 10 (.iadd 4 (.t 9) (zK 0))),.q (.d 11 4 10),.q (.o 12 (.bsl 4 [.t 11])),⟨.o 13 (.app 48 4 56 (.t 7) (.t 12)),true,0⟩,.q (.f 14 3 1),.q (.l 15 14),.q (.o 16 (.iadd 4 (.t 15) (zK 1))),.q (.d 17 4 16),⟨.m 4 13,false,1⟩,⟨.s 4 1 17,true,1⟩]))))) (.seq (.dreg [.m 18 4,.d 19 4 1,.m 2 18,.s 4 3 19] [.q (.m 18 4),.q (.d 19 4 1),.q (.m 2 18),⟨.s 4 3 19,true,0⟩]) (.ret))))
def r195:List ResV:=[.tmp 2,.celln 4 3]
theorem k195:CodeIs Tryz.prog 195 1 Tryz.f195 c195 r195:=.auto Tryz.func195
def c93:AC:=.seq (.reg [.o 1 (.box (.t 0)),.o 2 (.mov zF)]) (.seq (.reg [.o 3 (.mov zF)]) (.seq (.seq (.reg [.f 4 0 1,.l 5 4]) (.block 0 (.seq (.reg [.o 7 (.bin .eql (.t 5) (zK 0)),.m 6 7]) (.cond (.t 6) (.reg [.f 8 1 1,.l 9 8,.k 10 75 [.t 9],.m 11 10,.y 12 (.fadd 2 (.t 1)) 11,.y 13 (.load1 (.t 12)) 11,.y 14 (.bin .eql (.t 13) (zK 0)) 11,.o 15 (.pick (.t 11) (.t 14) zF),.m 3 15]) (.seq (.reg [.o 17 (.bin .eql (.t 5) (zK 1)),.m 16 17]) (.cond (.t 16) (.reg [.f 18 1 1,.l 19 18,.o 20 (.bin .eql (.t 19) (.k (.c (.str [])))),.m 21 20,.y 22 (.fadd 2 (.t 1)) 21,.y 23 (.load1 (.t 22)) 21,.y 24 (.bin .geq (.t 23) (zK 0)) 21,.o 25 (.pick (.t 21) (.t 24) zF),.m 26 25,.y 27 (.fadd 2 (.t 1)) 26,.y 28 (.load1 (.t 27)) 26,.y 29 (.bin .leq (.t 28) (zK 4611686018427387904)) 26,.o 30 (.pick (.t 26) (.t 29) zF),.m 31 30,.y 32 (.fadd 3 (.t 1)) 31,.y 33 (.load1 (.t 32)) 31,.y 34 (.lenr (.t 33)) 31,.y 35 (.bin .eql (.t 34) (zK 0)) 31,.o 36 (.pick (.t 31) (.t 35) zF),.m 3 36]) (.seq (.reg [.o 38 (.bin .eql (.t 5) (zK 2)),.m 37 38]) (.cond (.t 37) (.reg [.f 39 1 1,.l 40 39,.o 41 (.bin .eql (.t 40) (.k (.c (.str [])))),.m 42 41,.y 43 (.fadd 2 (.t 1)) 42,.y 44 (.load1 (.t 43)) 42,.y 45 (.bin .eql (.t 44) (zK 0)) 42,.o 46 (.pick (.t 42) (.t 45) zF),.m 47 46,.y 48 (.loadn 4 (.t 1)) 47,.y 49 (.call (.k (.fn 180 [])) [.t 48]) 47,.o 50 (.pick (.t 47) (.t 49) zF),.m 3 50]) (.skip))))))))) (.seq (.reg [.m 51 3,.m 52 51,.y 53 (.fadd 3 (.t 1)) 52,.y 54 (.load1 (.t 53)) 52,.y 55 (.call (.k (.fn 181 [])) [.t 54,(.k (.fn 182 []))]) 52,.y 56 (.un .not (.t 55)) 52,.o 57 (.pick (.t 52) (.t 56) zF),.m 2 57]) (.ret))))
def r93:List ResV:=[.tmp 2]
theorem k93:CodeIs Tryz.prog 93 1 Tryz.f93 c93 r93:=.auto Tryz.func93
def c182:AC:=.seq (.reg [.o 1 (.box (.t 0)),.o 2 (.mov zF)]) (.seq (.reg [.d 3 4 1,.k 4 93 [.t 3],.o 5 (.un .not (.t 4)),.m 2 5]) (.ret))
def r182:List ResV:=[.tmp 2]
theorem k182:CodeIs Tryz.prog 182 1 Tryz.f182 c182 r182:=.auto Tryz.func182
def c190:AC:=.seq (.reg [.o 1 (.box (.t 0)),.o 2 (.mov (zK 0))]) (.seq (.reg [.o 3 (.box (zK 0)),⟨none,.store 1 (.t 3) (zK 0),none⟩]) (.seq (.reg [.d 4 4 1,.o 5 (.mkfn 263 [.t 3]),.k 6 259 [.t 4,.t 5]]) (.seq (.reg [.l 7 3,.m 2 7]) (.ret))))
def r190:List ResV:=[.tmp 2]
theorem k190:CodeIs Tryz.prog 190 1 Tryz.f190 c190 r190:=.auto Tryz.func190
def c263:AC:=.seq (.reg [.o 3 (.box (.k (.agg zS4)))]) (.seq (.reg [.l 4 1,.m 5 0,.o 6 (.mx (.t 5) (.k (.c (.int .i64 (-1))))),.o 7 (.bin .add (.t 6) (zK 1)),.o 8 (.mx (.t 4) (.t 7)),.s 1 1 8]) (.seq (.reg [.o 9 (.build zS4 []),.s 4 3 9]) (.ret)))
def r263:List ResV:=[.celln 4 3]
theorem k263:CodeIs Tryz.prog 263 2 Tryz.f263 c263 r263:=.auto Tryz.func263
def c259:AC:=.seq (.reg [.o 2 (.box (.t 0)),.o 4 (.box (.k (.agg zS4)))]) (.seq (.seq (.reg [.f 8 0 2,.l 9 8,.o 10 (.bin .eql (.t 9) (zK 1))]) (.cond (.t 10) (.seq (.reg [.m 11 1,.f 12 2 2,.l 13 12,.o 14 (.call (.t 11) [.t 13]),.s 4 4 14]) (.ret)) (.skip))) (.seq (.reg [.f 15 1 2,.l 16 15,.o 17 (.build zS4 [(0,1,(zK 0)),(1,1,(.t 16))]),.o 5 (.box (.k (.agg zS4))),.s 4 5 17]) (.seq (.seq (.reg [.d 18 4 2,.k 19 180 [.t 18]]) (.cond (.t 19) (.reg [.o 20 (.build zS4 [(0,1,(zK 2))]),.s 4 5 20]) (.skip))) (.seq (.seq (.reg [.f 21 3 2,.l 22 21,.o 23 (.lenr (.t 22)),.o 24 (.mov (zK 0))]) (.block 0 (.loop (.seq (.reg [.o 25 (.bin .lss (.t 24) (.t 23))]) (.seq (.cond (.t 25) (.skip) (.exit 0)) (.seq (.block 1 (.seq (.reg [.o 26 (.iadd 4 (.t 22) (.t 24)),.d 27 4 26,.o 7 (.box (.k (.agg zS4))),.s 4 7 27]) (.dreg [.f 28 3 5,.l 29 28,.d 30 4 7,.m 31 1,.k 32 259 [.t 30,.t 31],.o 33 (.bsl 4 [.t 32]),.o 34 (.app 48 4 56 (.t 29) (.t 33)),.f 35 3 5,.s 1 35 34] [.q (.d 30 4 7),.q (.m 31 1),⟨.k 32 259 [.t 30,.t 31],true,0⟩,.q (.f 28 3 5),.q (.l 29 28),⟨.o 33 (.bsl 4 [.t 32]),false,1⟩,⟨.o 34 (.app 48 4 56 (.t 29) (.t 33)),true,1⟩,⟨.f 35 3 5,false,2⟩,⟨.s 1 35 34,true,2⟩]))) (.reg [.o 36 (.bin .add (.t 24) (zK 1)),.m 24 36]))))))) (.seq (.reg [.d 37 4 5,.s 4 4 37]) (.ret))))))
def r259:List ResV:=[.celln 4 4]
theorem k259:CodeIs Tryz.prog 259 2 Tryz.f259 c259 r259:=.auto Tryz.func259
def c181:AC:=.seq (.reg [.o 4 (.mov zF)]) (.seq (.reg [.m 5 0,.m 6 1,.k 7 254 [.t 5,.t 6],.o 8 (.bin .geq (.t 7) (zK 0)),.m 4 8]) (.ret))
def r181:List ResV:=[.tmp 4]
theorem k181:CodeIs Tryz.prog 181 2 Tryz.f181 c181 r181:=.auto Tryz.func181
def c254:AC:=.seq (.reg [.o 4 (.mov (zK 0))]) (.seq (.seq (.reg [.m 6 0,.o 7 (.lenr (.t 6)),.o 8 (.mov (zK 0))]) (.block 0 (.loop (.seq (.reg [.o 9 (.bin .lss (.t 8) (.t 7))]) (.seq (.cond (.t 9) (.skip) (.exit 0)) (.seq (.block 1 (.seq (.reg [.m 10 8,.m 5 10]) (.seq (.reg [.m 11 1,.m 12 0,.m 13 5,.o 14 (.iadd 4 (.t 12) (.t 13)),.d 15 4 14,.o 16 (.call (.t 11) [.t 15])]) (.cond (.t 16) (.seq (.reg [.m 17 5,.m 4 17]) (.ret)) (.skip))))) (.reg [.o 18 (.bin .add (.t 8) (zK 1)),.m 8 18]))))))) (.seq (.reg [.o 4 (.mov (.k (.c (.int .i64 (-1)))))]) (.ret)))
def r254:List ResV:=[.tmp 4]
theorem k254:CodeIs Tryz.prog 254 2 Tryz.f254 c254 r254:=.auto Tryz.func254
def c393:AC:=.seq (.reg [.o 2 (.box (.k (.agg [.c (.int .i64 0),.c (.str []),.c (.int .i64 0),.c (.int .i64 0)])))]) (.seq (.seq (.dreg [.m 3 0,.n 4 3,.f 5 1 4,.l 6 5,.o 7 (.bin .leq (zK 0) (.t 6)),.m 8 7,.y 9 (.mov (.t 0)) 8,.y 10 (.nilck (.t 9)) 8,.y 11 (.fadd 1 (.t 10)) 8,.y 12 (.load1 (.t 11)) 8,.y 13 (.mov (.t 0)) 8,.y 14 (.nilck (.t 13)) 8,.y 15 (.fadd 0 (.t 14)) 8,.y 16 (.load1 (.t 15)) 8,.y 17 (.lenr (.t 16)) 8,.y 18 (.bin .lss (.t 12) (.t 17)) 8,.o 19 (.pick (.t 8) (.t 18) zF)] [.q (.m 3 0),.q (.n 4 3),.q (.f 5 1 4),.q (.l 6 5),.q (.o 7 (.bin .leq (zK 0) (.t 6))),.q (.m 8 7),.q (.y 9 (.mov (.t 0)) 8),.q (.y 10 (.nilck (.t 9)) 8),.q (.y 11 (.fadd 1 (.t 10)) 8),.q (.y 12 (.load1 (.t 11)) 8),.q (.y 13 (.mov (.t 0)) 8),.q (.y 14 (.nilck (.t 13)) 8),.q (.y 15 (.fadd 0 (.t 14)) 8),.q (.y 16 (.load1 (.t 15)) 8),.q (.y 17 (.lenr (.t 16)) 8),.q (.y 18 (.bin .lss (.t 12) (.t 17)) 8),.q (.o 19 (.pick (.t 8) (.t 18) zF))]) (.cond (.t 19) (.seq (.dreg [.m 20 0,.n 21 20,.f 22 0 21,.l 23 22,.m 24 0,.n 25 24,.f 26 1 25,.l 27 26,.o 28 (.iadd 4 (.t 23) (.t 27)),.d 29 4 28,.s 4 2 29] [.q (.m 20 0),.q (.n 21 20),.q (.f 22 0 21),.q (.l 23 22),.q (.m 24 0),.q (.n 25 24),.q (.f 26 1 25),.q (.l 27 26),.q (.o 28 (.iadd 4 (.t 23) (.t 27))),.q (.d 29 4 28),⟨.s 4 2 29,true,0⟩]) (.ret)) (.skip))) (.seq (.seq (.reg [.m 30 0,.n 31 30,.f 32 0 31,.l 33 32,.o 34 (.lenr (.t 33)),.o 35 (.bin .gtr (.t 34) (zK 0))]) (.cond (.t 35) (.seq (.dreg [.m 36 0,.n 37 36,.f 38 0 37,.l 39 38,.m 40 0,.n 41 40,.f 42 0 41,.l 43 42,.o 44 (.lenr (.t 43)),.o 45 (.bin .sub (.t 44) (zK 1)),.o 46 (.iadd 4 (.t 39) (.t 45)),.f 47 3 46,.l 48 47,.o 49 (.build [.c (.int .i64 0),.c (.str []),.c (.int .i64 0),.c (.int .i64 0)] [(3,1,(.t 48))]),.s 4 2 49] [.q (.m 36 0),.q (.n 37 36),.q (.f 38 0 37),.q (.l 39 38),.q (.m 40 0),.q (.n 41 40),.q (.f 42 0 41),.q (.l 43 42),.q (.o 44 (.lenr (.t 43))),.q (.o 45 (.bin .sub (.t 44) (zK 1))),.q (.o 46 (.iadd 4 (.t 39) (.t 45))),.q (.f 47 3 46),.q (.l 48 47),.q (.o 49 (.build [.c (.int .i64 0),.c (.str []),.c (.int .i64 0),.c (.int .i64 0)] [(3,1,(.t 48))])),⟨.s 4 2 49,true,0⟩]) (.ret)) (.skip))) (.seq (.reg [.o 50 (.build [.c (.int .i64 0),.c (.str []),.c (.int .i64 0),.c (.int .i64 0)] []),.s 4 2 50]) (.ret))))
def r393:List ResV:=[.celln 4 2]
theorem k393:CodeIs Tryz.prog 393 1 Tryz.f393 c393 r393:=.auto Tryz.func393
def c395:AC:=.seq (.reg [.o 2 (.mov zF)]) (.seq (.seq (.reg [.m 3 0,.k 4 393 [.t 3],.o 5 (.field1 0 (.t 4))]) (.block 0 (.seq (.seq (.reg [.o 7 (.bin .eql (.t 5) (zK 1)),.m 6 7]) (.cond (.t 6) (.skip) (.seq (.reg [.o 8 (.bin .eql (.t 5) (zK 2)),.m 6 8]) (.cond (.t 6) (.skip) (.reg [.o 9 (.bin .eql (.t 5) (zK 5)),.m 6 9]))))) (.cond (.t 6) (.seq (.reg [.o 2 (.mov zT)]) (.ret)) (.skip))))) (.seq (.reg [.o 2 (.mov zF)]) (.ret)))
def r395:List ResV:=[.tmp 2]
theorem k395:CodeIs Tryz.prog 395 1 Tryz.f395 c395 r395:=.auto Tryz.func395
def c161:AC:=.seq (.reg [.o 4 (.mov (zK 0))]) (.seq (.seq (.reg [.m 6 0,.o 7 (.lenr (.t 6)),.o 8 (.mov (zK 0))]) (.block 0 (.loop (.seq (.reg [.o 9 (.bin .lss (.t 8) (.t 7))]) (.seq (.cond (.t 9) (.skip) (.exit 0)) (.seq (.block 1 (.seq (.reg [.m 10 8,.m 5 10]) (.seq (.reg [.m 11 1,.m 12 0,.m 13 5,.o 14 (.iadd 1 (.t 12) (.t 13)),.l 15 14,.o 16 (.bin .eql (.t 11) (.t 15))]) (.cond (.t 16) (.seq (.reg [.m 17 5,.m 4 17]) (.ret)) (.skip))))) (.reg [.o 18 (.bin .add (.t 8) (zK 1)),.m 8 18]))))))) (.seq (.reg [.o 4 (.mov (.k (.c (.int .i64 (-1)))))]) (.ret)))
def r161:List ResV:=[.tmp 4]
theorem k161:CodeIs Tryz.prog 161 2 Tryz.f161 c161 r161:=.auto Tryz.func161
def c261:AC:=.seq (.reg [.o 2 (.box (.k (.agg zS4)))]) (.seq (.reg [.m 3 0,.o 4 (.build zS4 [(0,1,(zK 1)),(2,1,(.t 3))]),.s 4 2 4]) (.ret))
def r261:List ResV:=[.celln 4 2]
theorem k261:CodeIs Tryz.prog 261 1 Tryz.f261 c261 r261:=.auto Tryz.func261
def c396:AC:=.seq (.reg [.o 5 (.box (.t 2)),.o 6 (.box (.k (.agg zS4)))]) (.seq (.seq (.reg [.m 7 1,.o 8 (.bin .geq (.t 7) (zK 200))]) (.cond (.t 8) (.seq (.reg [.m 9 0,.f 10 3 5,.l 11 10,.k 12 404 [.t 9,(zK 31),.t 11]]) (.seq (.reg [.o 13 (.build zS4 []),.s 4 6 13]) (.ret))) (.skip))) (.seq (.reg [.m 14 0,.m 15 1,.o 16 (.bin .add (.t 15) (zK 1)),.k 17 375 [.t 14,.t 16],.s 4 6 17]) (.ret)))
def r396:List ResV:=[.celln 4 6]
theorem k396:CodeIs Tryz.prog 396 3 Tryz.f396 c396 r396:=.auto Tryz.func396
def c394:AC:=.seq (.reg [.o 4 (.box (.k (.agg zS4)))]) (.seq (.reg [.m 8 0,.k 9 393 [.t 8],.o 5 (.box (.k (.agg [.c (.int .i64 0),.c (.str []),.c (.int .i64 0),.c (.int .i64 0)]))),.s 4 5 9]) (.seq (.seq (.reg [.m 10 0,.k 11 395 [.t 10],.o 12 (.un .not (.t 11))]) (.cond (.t 12) (.seq (.reg [.m 13 0,.f 14 3 5,.l 15 14,.k 16 404 [.t 13,(zK 50),.t 15]]) (.seq (.reg [.o 17 (.build zS4 []),.s 4 4 17]) (.ret))) (.skip))) (.seq (.reg [.m 18 0,.n 19 18,.f 20 1 19,.l 21 20,.o 22 (.bin .add (.t 21) (zK 1)),.n 23 18,.f 24 1 23,.s 1 24 22]) (.seq (.seq (.reg [.f 25 0 5,.l 26 25]) (.block 0 (.seq (.reg [.o 28 (.bin .eql (.t 26) (zK 1)),.m 27 28]) (.cond (.t 27) (.seq (.reg [.f 29 1 5,.l 30 29,.o 31 (.build zS4 [(0,1,(zK 0)),(1,1,(.t 30))]),.s 4 4 31]) (.ret)) (.seq (.reg [.o 33 (.bin .eql (.t 26) (zK 2)),.m 32 33]) (.cond (.t 32) (.seq (.reg [.m 34 0,.f 35 1 5,.l 36 35,.k 37 405 [.t 34,.t 36],.s 4 4 37]) (.ret)) (.skip))))))) (.seq (.reg [.m 38 0,.m 39 1,.d 40 4 5,.k 41 396 [.t 38,.t 39,.t 40],.o 6 (.box (.k (.agg zS4))),.s 4 6 41]) (.seq (.seq (.reg [.m 42 0,.k 43 393 [.t 42],.o 7 (.box (.k (.agg [.c (.int .i64 0),.c (.str []),.c (.int .i64 0),.c (.int .i64 0)]))),.s 4 7 43]) (.seq (.reg [.f 44 0 7,.l 45 44,.o 46 (.bin .neq (.t 45) (zK 6))]) (.cond (.t 46) (.reg [.m 47 0,.f 48 3 7,.l 49 48,.k 50 404 [.t 47,(zK 50),.t 49]]) (.skip)))) (.seq (.reg [.m 51 0,.n 52 51,.f 53 1 52,.l 54 53,.o 55 (.bin .add (.t 54) (zK 1)),.n 56 51,.f 57 1 56,.s 1 57 55]) (.seq (.reg [.d 58 4 6,.s 4 4 58]) (.ret)))))))))
def r394:List ResV:=[.celln 4 4]
theorem k394:CodeIs Tryz.prog 394 2 Tryz.f394 c394 r394:=.auto Tryz.func394
def c375:AC:=.seq (.reg [.o 4 (.box (.k (.agg zS4)))]) (.seq (.reg [.m 8 0,.k 9 393 [.t 8],.o 10 (.field1 0 (.t 9)),.o 11 (.bin .eql (.t 10) (zK 1)),.m 5 11]) (.seq (.reg [.m 12 0,.m 13 1,.k 14 394 [.t 12,.t 13],.o 6 (.box (.k (.agg zS4))),.s 4 6 14]) (.seq (.block 0 (.loop (.seq (.seq (.reg [.m 15 5,.m 16 15,.y 17 (.mov (.t 0)) 16,.y 18 (.nilck (.t 17)) 16,.y 19 (.fadd 3 (.t 18)) 16,.y 20 (.load1 (.t 19)) 16,.y 21 (.bin .eql (.t 20) (zK 0)) 16,.o 22 (.pick (.t 16) (.t 21) zF),.m 23 22,.y 24 (.mov (.t 0)) 23,.y 25 (.call (.k (.fn 395 [])) [.t 24]) 23,.o 26 (.pick (.t 23) (.t 25) zF)]) (.cond (.t 26) (.skip) (.exit 0))) (.block 1 (.dreg [.f 27 3 6,.l 28 27,.m 29 0,.m 30 1,.k 31 394 [.t 29,.t 30],.o 32 (.bsl 4 [.t 31]),.o 33 (.app 48 4 56 (.t 28) (.t 32)),.f 34 3 6,.s 1 34 33] [.q (.m 29 0),.q (.m 30 1),⟨.k 31 394 [.t 29,.t 30],true,0⟩,.q (.f 27 3 6),.q (.l 28 27),⟨.o 32 (.bsl 4 [.t 31]),false,1⟩,⟨.o 33 (.app 48 4 56 (.t 28) (.t 32)),true,1⟩,⟨.f 34 3 6,false,2⟩,⟨.s 1 34 33,true,2⟩]))))) (.seq (.reg [.m 35 0,.k 36 393 [.t 35],.o 7 (.box (.k (.agg [.c (.int .i64 0),.c (.str []),.c (.int .i64 0),.c (.int .i64 0)]))),.s 4 7 36]) (.seq (.seq (.reg [.m 37 0,.n 38 37,.f 39 3 38,.l 40 39,.o 41 (.bin .neq (.t 40) (zK 0)),.m 42 41,.z 43 (.fadd 0 (.t 7)) 42,.z 44 (.load1 (.t 43)) 42,.z 45 (.bin .neq (.t 44) (zK 4)) 42,.o 46 (.pick (.t 42) zT (.t 45)),.m 47 46,.z 48 (.fadd 1 (.t 7)) 47,.z 49 (.load1 (.t 48)) 47,.z 50 (.bin .neq (.t 49) (.k (.c (.str [45,62])))) 47,.o 51 (.pick (.t 47) zT (.t 50))]) (.cond (.t 51) (.seq (.reg [.d 52 4 6,.s 4 4 52]) (.ret)) (.skip))) (.seq (.reg [.m 53 0,.n 54 53,.f 55 1 54,.l 56 55,.o 57 (.bin .add (.t 56) (zK 1)),.n 58 53,.f 59 1 58,.s 1 59 57]) (.seq (.dreg [.m 60 0,.m 61 1,.d 62 4 7,.k 63 396 [.t 60,.t 61,.t 62],.d 64 4 6,.o 65 (.bsl 4 [.t 64]),.k 66 185 [.t 63,.t 65],.s 4 4 66] [.q (.m 60 0),.q (.m 61 1),.q (.d 62 4 7),⟨.k 63 396 [.t 60,.t 61,.t 62],true,0⟩,.q (.d 64 4 6),.q (.o 65 (.bsl 4 [.t 64])),⟨.k 66 185 [.t 63,.t 65],true,1⟩,⟨.s 4 4 66,true,2⟩]) (.ret))))))))
def r375:List ResV:=[.celln 4 4]
theorem k375:CodeIs Tryz.prog 375 2 Tryz.f375 c375 r375:=.auto Tryz.func375
def c340:AC:=.seq (.reg [.o 4 (.box (.k (.agg zS4))),.o 5 (.mov (zK 0)),.o 6 (.mov (zK 0)),.o 7 (.mov (zK 0))]) (.seq (.reg [.m 10 0,.m 11 1,.o 12 (.build [.csl [],.c (.int .i64 0),.csl [],.c (.int .i64 0),.c (.int .i64 0)] [(0,1,(.t 10)),(1,1,(.t 11))]),.o 13 (.box (.t 12)),.m 8 13]) (.seq (.reg [.m 14 8,.k 15 375 [.t 14,(zK 0)],.o 9 (.box (.k (.agg zS4))),.s 4 9 15]) (.seq (.seq (.reg [.m 16 8,.n 17 16,.f 18 3 17,.l 19 18,.o 20 (.bin .neq (.t 19) (zK 0))]) (.cond (.t 20) (.seq (.dreg [.o 21 (.build zS4 []),.m 22 1,.m 23 8,.n 24 23,.f 25 3 24,.l 26 25,.m 27 8,.n 28 27,.f 29 4 28,.l 30 29,.s 4 4 21,.m 5 22,.m 6 26,.m 7 30] [.q (.o 21 (.build zS4 [])),⟨.s 4 4 21,true,0⟩,.q (.m 22 1),.q (.m 23 8),.q (.n 24 23),.q (.f 25 3 24),.q (.l 26 25),.q (.m 27 8),.q (.n 28 27),.q (.f 29 4 28),.q (.l 30 29),⟨.m 5 22,false,1⟩,⟨.m 6 26,false,1⟩,⟨.m 7 30,false,1⟩]) (.ret)) (.skip))) (.seq (.dreg [.d 31 4 9,.m 32 8,.n 33 32,.f 34 1 33,.l 35 34,.s 4 4 31,.m 5 35,.o 6 (.mov (zK 0)),.o 7 (.mov (zK 0))] [.q (.d 31 4 9),⟨.s 4 4 31,true,0⟩,.q (.m 32 8),.q (.n 33 32),.q (.f 34 1 33),.q (.l 35 34),⟨.m 5 35,false,1⟩,⟨.o 6 (.mov (zK 0)),false,1⟩,⟨.o 7 (.mov (zK 0)),false,1⟩]) (.ret)))))
def r340:List ResV:=[.celln 4 4,.tmp 5,.tmp 6,.tmp 7]
theorem k340:CodeIs Tryz.prog 340 2 Tryz.f340 c340 r340:=.auto Tryz.func340
def c160:AC:=.seq (.reg [.o 2 (.box (.t 0)),.o 3 (.mov zF)]) (.seq (.reg [.f 4 0 2,.l 5 4,.l 6 1,.o 7 (.bin .eql (.t 5) (.t 6)),.m 3 7]) (.ret))
def r160:List ResV:=[.tmp 3]
theorem k160:CodeIs Tryz.prog 160 2 Tryz.f160 c160 r160:=.auto Tryz.func160
def c159:AC:=.seq (.reg [.o 4 (.mov (zK 0))]) (.seq (.seq (.reg [.m 6 0,.o 7 (.lenr (.t 6)),.o 8 (.mov (zK 0))]) (.block 0 (.loop (.seq (.reg [.o 9 (.bin .lss (.t 8) (.t 7))]) (.seq (.cond (.t 9) (.skip) (.exit 0)) (.seq (.block 1 (.seq (.reg [.m 10 8,.m 5 10]) (.seq (.reg [.m 11 1,.m 12 0,.m 13 5,.o 14 (.iadd 3 (.t 12) (.t 13)),.d 15 3 14,.o 16 (.call (.t 11) [.t 15])]) (.cond (.t 16) (.seq (.reg [.m 17 5,.m 4 17]) (.ret)) (.skip))))) (.reg [.o 18 (.bin .add (.t 8) (zK 1)),.m 8 18]))))))) (.seq (.reg [.o 4 (.mov (.k (.c (.int .i64 (-1)))))]) (.ret)))
def r159:List ResV:=[.tmp 4]
theorem k159:CodeIs Tryz.prog 159 2 Tryz.f159 c159 r159:=.auto Tryz.func159
def c66:AC:=.seq (.reg [.o 3 (.box (.t 1)),.o 4 (.box (.k (.agg [.c (.str []),.c (.int .i64 0),.c (.int .i64 0)]))),.o 5 (.mov zF)]) (.seq (.reg [.m 7 0,.o 8 (.mkfn 160 [.t 3]),.k 9 159 [.t 7,.t 8],.m 6 9]) (.seq (.seq (.reg [.m 10 6,.o 11 (.bin .lss (.t 10) (zK 0))]) (.cond (.t 11) (.seq (.reg [.o 12 (.build [.c (.str []),.c (.int .i64 0),.c (.int .i64 0)] []),.s 3 4 12,.o 5 (.mov zF)]) (.ret)) (.skip))) (.seq (.reg [.m 13 0,.m 14 6,.o 15 (.iadd 3 (.t 13) (.t 14)),.d 16 3 15,.s 3 4 16,.o 5 (.mov zT)]) (.ret))))
def r66:List ResV:=[.celln 3 4,.tmp 5]
theorem k66:CodeIs Tryz.prog 66 2 Tryz.f66 c66 r66:=.auto Tryz.func66
def c363:AC:=.seq (.reg [.o 3 (.box (.t 1)),.o 4 (.box (.k (.agg [.c (.str []),.c (.int .i64 0),.c (.int .i64 0)]))),.o 5 (.mov zF)]) (.seq (.seq (.reg [.f 6 0 3,.l 7 6]) (.block 0 (.seq (.seq (.reg [.o 9 (.bin .eql (.t 7) (zK 1)),.m 8 9]) (.cond (.t 8) (.skip) (.reg [.o 10 (.bin .eql (.t 7) (zK 4)),.m 8 10]))) (.cond (.t 8) (.seq (.reg [.m 11 0,.f 12 1 3,.l 13 12,.k 14 66 [.t 11,.t 13],.x 15 14 0,.x 16 14 1,.s 3 4 15,.m 5 16]) (.ret)) (.skip))))) (.seq (.reg [.o 17 (.build [.c (.str []),.c (.int .i64 0),.c (.int .i64 0)] []),.s 3 4 17,.o 5 (.mov zF)]) (.ret)))
def r363:List ResV:=[.celln 3 4,.tmp 5]
theorem k363:CodeIs Tryz.prog 363 2 Tryz.f363 c363 r363:=.auto Tryz.func363
def c297:AC:=.seq (.reg [.o 3 (.box (.t 0)),.o 4 (.box (.t 1)),.o 6 (.mov zF)]) (.seq (.reg [.f 7 1 4,.l 8 7,.f 9 1 3,.l 10 9,.o 11 (.bin .gtr (.t 8) (.t 10)),.m 12 11,.z 13 (.fadd 1 (.t 4)) 12,.z 14 (.load1 (.t 13)) 12,.z 15 (.fadd 1 (.t 3)) 12,.z 16 (.load1 (.t 15)) 12,.z 17 (.bin .eql (.t 14) (.t 16)) 12,.z 18 (.mov (.t 17)) 12,.y 19 (.fadd 2 (.t 3)) 18,.y 20 (.load1 (.t 19)) 18,.y 21 (.mov (.t 2)) 18,.y 22 (.bin .eql (.t 20) (.t 21)) 18,.z 23 (.pick (.t 18) (.t 22) zF) 12,.z 24 (.mov (.t 23)) 12,.y 25 (.fadd 2 (.t 4)) 24,.y 26 (.load1 (.t 25)) 24,.y 27 (.mov (.t 2)) 24,.y 28 (.bin .eql (.t 26) (.t 27)) 24,.z 29 (.pick (.t 24) (.t 28) zF) 12,.o 30 (.pick (.t 12) zT (.t 29)),.m 6 30]) (.ret))
def r297:List ResV:=[.tmp 6]
theorem k297:CodeIs Tryz.prog 297 3 Tryz.f297 c297 r297:=.auto Tryz.func297
def c238:AC:=.seq (.reg [.o 2 (.box (.t 0)),.o 3 (.box (.t 1)),.o 4 (.mov zF)]) (.seq (.reg [.d 5 3 2,.d 6 3 3,.k 7 297 [.t 5,.t 6,(zK 2)],.m 4 7]) (.ret))
def r238:List ResV:=[.tmp 4]
theorem k238:CodeIs Tryz.prog 238 2 Tryz.f238 c238 r238:=.auto Tryz.func238
attribute [local go_sem] advO_skip advO_reg advO_seq advO_block advO_exit advO_endb advO_opsNil advO_ops advG_yes advG_no advG_none advS_some advS_none advO_cond advO_loop advO_dreg advO_ret advO_bad advO_inv advO_nil advO_zero wantedV Lamb.step ev_t ev_k put_some put_none argEnv popTo cellsAt V.cellsV V.rows V.sub V.toC toCs fillV bytesC byteRows appV rowsV boundV boundL binV binInt binStr eqC eqL V.isNil leaves V.leaf Ins.quiet Ins.pure List.getD_cons_zero List.getD_cons_succ List.getD_nil List.all_cons List.all_nil List.length_cons List.length_nil List.take_succ_cons List.take_zero List.drop_succ_cons List.drop_zero List.cons_append List.nil_append List.append_nil List.append_assoc List.map_cons List.map_nil List.getElem?_cons_zero List.getElem?_cons_succ List.length_append List.length_set hget0 hget hset0 hset hsets hgs0 hgs hss0 hss List.set_cons_zero List.set_cons_succ List.forall_mem_cons List.not_mem_nil false_implies implies_true Option.map_some Bool.and_true Bool.true_and Bool.not_not Bool.not_true Bool.not_false Bool.and_self Bool.or_true Bool.true_or Bool.or_false Bool.false_or Bool.and_false Bool.false_and Bool.false_eq_true beq_self_eq_true and_self and_true true_and if_true if_false Nat.zero_add Nat.add_zero Nat.le_refl Int.toNat_natCast decide_true decide_false beq_t beq_f List.length_map List.getElem?_map I S B opsC toksC OpT.v OpT.cs OpT.zero Tok.v Tok.cs Pre.v Pre.cs_eq k_mk name_mk n_mk l_mk pos_mk Pre.app applyL natCast0 natCast1 natCast2 AOp.o AOp.m AOp.f AOp.l AOp.d AOp.n AOp.x AOp.s AOp.k AOp.y AOp.z EOp.q low_c low_void low_any low_csl low_nilf low_ptr low_osl low_agg low_tup low_fn resEval advPO_nil advPO_loud advPO_quiet pL_yes pL_no pLS_some pLS_none pQ_yes pQ_no pQS_some pQS_loud eq_self Nat.sub_zero zK zT zF zS4
section

end
section
def c310:AC:=.seq (.reg [.o 4 (.box (.k (.agg [.c (.int .i64 0),.c (.str []),.c (.int .i64 0),.c (.int .i64 0)])))]) (.seq (.seq (.reg [.m 6 0,.n 7 6,.f 8 2 7,.l 9 8,.m 10 1,.o 11 (.bin .add (.t 9) (.t 10)),.m 5 11]) (.seq (.reg [.m 12 5,.o 13 (.bin .leq (zK 0) (.t 12)),.m 14 13,.y 15 (.mov (.t 5)) 14,.y 16 (.mov (.t 0)) 14,.y 17 (.nilck (.t 16)) 14,.y 18 (.fadd 1 (.t 17)) 14,.y 19 (.load1 (.t 18)) 14,.y 20 (.lenr (.t 19)) 14,.y 21 (.bin .lss (.t 15) (.t 20)) 14,.o 22 (.pick (.t 14) (.t 21) zF)]) (.cond (.t 22) (.seq (.reg [.m 23 0,.n 24 23,.f 25 1 24,.l 26 25,.m 27 5,.o 28 (.iadd 4 (.t 26) (.t 27)),.d 29 4 28,.s 4 4 29]) (.ret)) (.skip)))) (.seq (.seq (.reg [.m 30 0,.n 31 30,.f 32 1 31,.l 33 32,.o 34 (.lenr (.t 33)),.o 35 (.bin .gtr (.t 34) (zK 0))]) (.cond (.t 35) (.seq (.dreg [.m 36 0,.n 37 36,.f 38 1 37,.l 39 38,.m 40 0,.n 41 40,.f 42 1 41,.l 43 42,.o 44 (.lenr (.t 43)),.o 45 (.bin .sub (.t 44) (zK 1)),.o 46 (.iadd 4 (.t 39) (.t 45)),.f 47 3 46,.l 48 47,.o 49 (.build [.c (.int .i64 0),.c (.str []),.c (.int .i64 0),.c (.int .i64 0)] [(3,1,(.t 48))]),.s 4 4 49] [.q (.m 36 0),.q (.n 37 36),.q (.f 38 1 37),.q (.l 39 38),.q (.m 40 0),.q (.n 41 40),.q (.f 42 1 41),.q (.l 43 42),.q (.o 44 (.lenr (.t 43))),.q (.o 45 (.bin .sub (.t 44) (zK 1))),.q (.o 46 (.iadd 4 (.t 39) (.t 45))),.q (.f 47 3 46),.q (.l 48 47),.q (.o 49 (.build [.c (.int .i64 0),.c (.str []),.c (.int .i64 0),.c (.int .i64 0)] [(3,1,(.t 48))])),⟨.s 4 4 49,true,0⟩]) (.ret)) (.skip))) (.seq (.reg [.o 50 (.build [.c (.int .i64 0),.c (.str []),.c (.int .i64 0),.c (.int .i64 0)] []),.s 4 4 50]) (.ret))))
def r310:List ResV:=[.celln 4 4]
theorem k310:CodeIs Tryz.prog 310 2 Tryz.f310 c310 r310:=.auto Tryz.func310
def c311:AC:=.seq (.reg [.o 3 (.box (.t 1)),.o 4 (.box (.k (.agg [.c (.str []),.c (.int .i64 0),.c (.int .i64 0)]))),.o 5 (.mov zF)]) (.seq (.dreg [.m 6 0,.n 7 6,.f 8 0 7,.l 9 8,.d 10 4 3,.k 11 363 [.t 9,.t 10],.x 12 11 0,.x 13 11 1,.s 3 4 12,.m 5 13] [.q (.m 6 0),.q (.n 7 6),.q (.f 8 0 7),.q (.l 9 8),.q (.d 10 4 3),⟨.k 11 363 [.t 9,.t 10],true,0⟩,⟨.x 12 11 0,false,1⟩,⟨.x 13 11 1,false,1⟩,⟨.s 3 4 12,true,1⟩,⟨.m 5 13,false,2⟩]) (.ret))
def r311:List ResV:=[.celln 3 4,.tmp 5]
theorem k311:CodeIs Tryz.prog 311 2 Tryz.f311 c311 r311:=.auto Tryz.func311
def c362:AC:=.seq (.reg [.o 2 (.mov zF)]) (.seq (.seq (.reg [.m 6 0,.k 7 310 [.t 6,(zK 0)],.o 3 (.box (.k (.agg [.c (.int .i64 0),.c (.str []),.c (.int .i64 0),.c (.int .i64 0)]))),.s 4 3 7]) (.seq (.reg [.f 8 0 3,.l 9 8]) (.block 0 (.seq (.seq (.reg [.o 11 (.bin .eql (.t 9) (zK 1)),.m 10 11]) (.cond (.t 10) (.skip) (.reg [.o 12 (.bin .eql (.t 9) (zK 4)),.m 10 12]))) (.cond (.t 10) (.seq (.reg [.m 14 0,.d 15 4 3,.k 16 311 [.t 14,.t 15],.m 13 16,.x 17 13 0,.x 18 13 1,.o 4 (.box (.k (.agg [.c (.str []),.c (.int .i64 0),.c (.int .i64 0)]))),.s 3 4 17,.m 5 18]) (.seq (.reg [.m 19 5,.o 20 (.un .not (.t 19)),.m 2 20]) (.ret))) (.seq (.seq (.reg [.o 22 (.bin .eql (.t 9) (zK 2)),.m 21 22]) (.cond (.t 21) (.skip) (.seq (.reg [.o 23 (.bin .eql (.t 9) (zK 3)),.m 21 23]) (.cond (.t 21) (.skip) (.reg [.o 24 (.bin .eql (.t 9) (zK 5)),.m 21 24]))))) (.cond (.t 21) (.seq (.reg [.o 2 (.mov zT)]) (.ret)) (.skip)))))))) (.seq (.reg [.o 2 (.mov zF)]) (.ret)))
def r362:List ResV:=[.tmp 2]
theorem k362:CodeIs Tryz.prog 362 1 Tryz.f362 c362 r362:=.auto Tryz.func362
def c360:AC:=.seq (.reg [.o 2 (.mov zF)]) (.seq (.reg [.m 4 0,.k 5 310 [.t 4,(zK 0)],.o 6 (.field1 0 (.t 5)),.m 3 6]) (.seq (.reg [.m 7 3,.o 8 (.bin .eql (.t 7) (zK 1)),.m 9 8,.z 10 (.mov (.t 3)) 9,.z 11 (.bin .eql (.t 10) (zK 2)) 9,.o 12 (.pick (.t 9) zT (.t 11)),.m 13 12,.y 14 (.mov (.t 0)) 13,.y 15 (.call (.k (.fn 310 [])) [.t 14,(zK 1)]) 13,.y 16 (.field1 0 (.t 15)) 13,.y 17 (.bin .eql (.t 16) (zK 8)) 13,.o 18 (.pick (.t 13) (.t 17) zF),.m 2 18]) (.ret)))
def r360:List ResV:=[.tmp 2]
theorem k360:CodeIs Tryz.prog 360 1 Tryz.f360 c360 r360:=.auto Tryz.func360
def c253:AC:=.seq (.reg [.o 1 (.box (.t 0)),.o 2 (.mov zF)]) (.seq (.reg [.f 3 0 1,.l 4 3,.o 5 (.bin .eql (.t 4) (zK 0)),.m 2 5]) (.ret))
def r253:List ResV:=[.tmp 2]
theorem k253:CodeIs Tryz.prog 253 1 Tryz.f253 c253 r253:=.auto Tryz.func253
def c313:AC:=.seq (.reg [.o 4 (.box (.t 0)),.o 6 (.box (.t 2)),.o 7 (.box (.t 3)),.o 8 (.box (.k (.agg [.c (.int .i64 0),.c (.str []),.c (.int .i64 0),.csl [],.c (.int .i64 0)])))]) (.seq (.reg [.f 12 0 4,.l 13 12,.m 14 1,.o 15 (.build [.c (.int .i64 0),.c (.str []),.c (.int .i64 0),.csl [],.c (.int .i64 0)] [(0,1,(zK 0)),(1,1,(.t 13)),(4,1,(.t 14))]),.o 9 (.box (.k (.agg [.c (.int .i64 0),.c (.str []),.c (.int .i64 0),.csl [],.c (.int .i64 0)]))),.s 5 9 15]) (.seq (.seq (.reg [.d 16 5 6,.d 17 5 7,.o 18 (.bsl 5 [.t 16,.t 17]),.o 19 (.lenr (.t 18)),.o 20 (.mov (zK 0))]) (.block 0 (.loop (.seq (.reg [.o 21 (.bin .lss (.t 20) (.t 19))]) (.seq (.cond (.t 21) (.skip) (.exit 0)) (.seq (.block 1 (.seq (.reg [.o 22 (.iadd 5 (.t 18) (.t 20)),.d 23 5 22,.o 11 (.box (.k (.agg [.c (.int .i64 0),.c (.str []),.c (.int .i64 0),.csl [],.c (.int .i64 0)]))),.s 5 11 23]) (.reg [.d 24 5 9,.d 25 5 11,.o 26 (.bsl 5 [.t 24,.t 25]),.m 27 1,.o 28 (.build [.c (.int .i64 0),.c (.str []),.c (.int .i64 0),.csl [],.c (.int .i64 0)] [(0,1,(zK 3)),(3,1,(.t 26)),(4,1,(.t 27))]),.s 5 9 28]))) (.reg [.o 29 (.bin .add (.t 20) (zK 1)),.m 20 29]))))))) (.seq (.reg [.d 30 5 9,.s 5 8 30]) (.ret))))
def r313:List ResV:=[.celln 5 8]
theorem k313:CodeIs Tryz.prog 313 4 Tryz.f313 c313 r313:=.auto Tryz.func313
def c312:AC:=.seq (.reg [.o 7 (.box (.t 3)),.o 8 (.box (.k (.agg [.c (.int .i64 0),.c (.str []),.c (.int .i64 0),.csl [],.c (.int .i64 0),.c (.nilp),.c (.int .i64 0),.c (.str []),.c (.int .i64 0),.c (.int .i64 0)]))),.o 9 (.box (.k (.agg [.c (.int .i64 0),.c (.int .i64 0)])))]) (.seq (.seq (.reg [.m 10 2,.o 11 (.bin .geq (.t 10) (zK 200))]) (.cond (.t 11) (.seq (.dreg [.o 12 (.build [.c (.int .i64 0),.c (.str []),.c (.int .i64 0),.csl [],.c (.int .i64 0),.c (.nilp),.c (.int .i64 0),.c (.str []),.c (.int .i64 0),.c (.int .i64 0)] []),.f 13 3 7,.l 14 13,.o 15 (.build [.c (.int .i64 0),.c (.int .i64 0)] [(0,1,(zK 31)),(1,1,(.t 14))]),.s 10 8 12,.s 2 9 15] [.q (.o 12 (.build [.c (.int .i64 0),.c (.str []),.c (.int .i64 0),.csl [],.c (.int .i64 0),.c (.nilp),.c (.int .i64 0),.c (.str []),.c (.int .i64 0),.c (.int .i64 0)] [])),⟨.s 10 8 12,true,0⟩,.q (.f 13 3 7),.q (.l 14 13),.q (.o 15 (.build [.c (.int .i64 0),.c (.int .i64 0)] [(0,1,(zK 31)),(1,1,(.t 14))])),⟨.s 2 9 15,true,1⟩]) (.ret)) (.skip))) (.seq (.reg [.m 16 0,.m 17 1,.m 18 2,.o 19 (.bin .add (.t 18) (zK 1)),.k 20 252 [.t 16,.t 17,.t 19],.x 21 20 0,.x 22 20 1,.s 10 8 21,.s 2 9 22]) (.ret)))
def r312:List ResV:=[.celln 10 8,.celln 2 9]
theorem k312:CodeIs Tryz.prog 312 4 Tryz.f312 c312 r312:=.auto Tryz.func312
def c388:AC:=.seq (.reg [.o 4 (.box (.k (.agg [.c (.int .i64 0),.c (.str []),.c (.int .i64 0),.csl [],.c (.int .i64 0)]))),.o 5 (.box (.k (.agg [.c (.int .i64 0),.c (.int .i64 0)])))]) (.seq (.reg [.m 13 0,.k 14 310 [.t 13,(zK 0)],.m 15 0,.k 16 310 [.t 15,(zK 1)],.o 6 (.box (.k (.agg [.c (.int .i64 0),.c (.str []),.c (.int .i64 0),.c (.int .i64 0)]))),.o 7 (.box (.k (.agg [.c (.int .i64 0),.c (.str []),.c (.int .i64 0),.c (.int .i64 0)]))),.s 4 6 14,.s 4 7 16]) (.seq (.seq (.reg [.m 18 0,.d 19 4 7,.k 20 311 [.t 18,.t 19],.m 17 20,.x 21 17 0,.x 22 17 1,.o 8 (.box (.k (.agg [.c (.str []),.c (.int .i64 0),.c (.int .i64 0)]))),.s 3 8 21,.m 9 22]) (.seq (.reg [.m 23 9,.m 24 23,.y 25 (.mov (.t 0)) 24,.y 26 (.call (.k (.fn 310 [])) [.t 25,(zK 2)]) 24,.y 27 (.field1 0 (.t 26)) 24,.y 28 (.bin .eql (.t 27) (zK 6)) 24,.o 29 (.pick (.t 24) (.t 28) zF)]) (.cond (.t 29) (.seq (.reg [.m 30 0,.n 31 30,.f 32 2 31,.l 33 32,.o 34 (.bin .add (.t 33) (zK 3)),.n 35 30,.f 36 2 35,.s 1 36 34]) (.seq (.reg [.f 37 1 7,.l 38 37,.f 39 3 7,.l 40 39,.o 41 (.build [.c (.int .i64 0),.c (.str []),.c (.int .i64 0),.csl [],.c (.int .i64 0)] [(0,1,(zK 0)),(1,1,(.t 38)),(4,1,(.t 40))]),.o 42 (.build [.c (.int .i64 0),.c (.int .i64 0)] []),.s 5 4 41,.s 2 5 42]) (.ret))) (.skip)))) (.seq (.reg [.m 43 0,.n 44 43,.f 45 2 44,.l 46 45,.o 47 (.bin .add (.t 46) (zK 1)),.n 48 43,.f 49 2 48,.s 1 49 47]) (.seq (.reg [.m 51 0,.m 52 1,.d 53 4 6,.k 54 312 [.t 51,(zK 0),.t 52,.t 53],.m 50 54,.x 55 50 0,.x 56 50 1,.o 10 (.box (.k (.agg [.c (.int .i64 0),.c (.str []),.c (.int .i64 0),.csl [],.c (.int .i64 0),.c (.nilp),.c (.int .i64 0),.c (.str []),.c (.int .i64 0),.c (.int .i64 0)]))),.o 11 (.box (.k (.agg [.c (.int .i64 0),.c (.int .i64 0)]))),.s 10 10 55,.s 2 11 56]) (.seq (.seq (.reg [.d 57 2 11,.k 58 253 [.t 57],.o 59 (.un .not (.t 58))]) (.cond (.t 59) (.seq (.dreg [.o 60 (.build [.c (.int .i64 0),.c (.str []),.c (.int .i64 0),.csl [],.c (.int .i64 0)] []),.d 61 2 11,.s 5 4 60,.s 2 5 61] [.q (.o 60 (.build [.c (.int .i64 0),.c (.str []),.c (.int .i64 0),.csl [],.c (.int .i64 0)] [])),⟨.s 5 4 60,true,0⟩,.q (.d 61 2 11),⟨.s 2 5 61,true,1⟩]) (.ret)) (.skip))) (.seq (.seq (.reg [.m 62 0,.k 63 310 [.t 62,(zK 0)],.o 12 (.box (.k (.agg [.c (.int .i64 0),.c (.str []),.c (.int .i64 0),.c (.int .i64 0)]))),.s 4 12 63]) (.seq (.reg [.f 64 0 12,.l 65 64,.o 66 (.bin .neq (.t 65) (zK 6))]) (.cond (.t 66) (.seq (.dreg [.o 67 (.build [.c (.int .i64 0),.c (.str []),.c (.int .i64 0),.csl [],.c (.int .i64 0)] []),.f 68 3 12,.l 69 68,.o 70 (.build [.c (.int .i64 0),.c (.int .i64 0)] [(0,1,(zK 30)),(1,1,(.t 69))]),.s 5 4 67,.s 2 5 70] [.q (.o 67 (.build [.c (.int .i64 0),.c (.str []),.c (.int .i64 0),.csl [],.c (.int .i64 0)] [])),⟨.s 5 4 67,true,0⟩,.q (.f 68 3 12),.q (.l 69 68),.q (.o 70 (.build [.c (.int .i64 0),.c (.int .i64 0)] [(0,1,(zK 30)),(1,1,(.t 69))])),⟨.s 2 5 70,true,1⟩]) (.ret)) (.skip)))) (.seq (.reg [.m 71 0,.n 72 71,.f 73 2 72,.l 74 73,.o 75 (.bin .add (.t 74) (zK 1)),.n 76 71,.f 77 2 76,.s 1 77 75]) (.seq (.reg [.f 78 0 10,.d 79 5 78,.o 80 (.build [.c (.int .i64 0),.c (.int .i64 0)] []),.s 5 4 79,.s 2 5 80]) (.ret)))))))))
def r388:List ResV:=[.celln 5 4,.celln 2 5]
theorem k388:CodeIs Tryz.prog 388 2 Tryz.f388 c388 r388:=.auto Tryz.func388
def c361:AC:=.seq (.reg [.o 4 (.box (.k (.agg [.c (.int .i64 0),.c (.str []),.c (.int .i64 0),.csl [],.c (.int .i64 0)]))),.o 5 (.box (.k (.agg [.c (.int .i64 0),.c (.int .i64 0)])))]) (.seq (.reg [.m 10 0,.k 11 310 [.t 10,(zK 0)],.o 6 (.box (.k (.agg [.c (.int .i64 0),.c (.str []),.c (.int .i64 0),.c (.int .i64 0)]))),.s 4 6 11]) (.seq (.reg [.f 12 1 6,.l 13 12,.f 14 3 6,.l 15 14,.o 16 (.build [.c (.int .i64 0),.c (.str []),.c (.int .i64 0),.csl [],.c (.int .i64 0)] [(0,1,(zK 0)),(1,1,(.t 13)),(4,1,(.t 15))]),.o 7 (.box (.k (.agg [.c (.int .i64 0),.c (.str []),.c (.int .i64 0),.csl [],.c (.int .i64 0)]))),.s 5 7 16]) (.seq (.block 0 (.seq (.reg [.m 18 0,.k 19 362 [.t 18],.o 20 (.un .not (.t 19)),.m 17 20]) (.cond (.t 17) (.seq (.dreg [.o 21 (.build [.c (.int .i64 0),.c (.str []),.c (.int .i64 0),.csl [],.c (.int .i64 0)] []),.f 22 3 6,.l 23 22,.o 24 (.build [.c (.int .i64 0),.c (.int .i64 0)] [(0,1,(zK 30)),(1,1,(.t 23))]),.s 5 4 21,.s 2 5 24] [.q (.o 21 (.build [.c (.int .i64 0),.c (.str []),.c (.int .i64 0),.csl [],.c (.int .i64 0)] [])),⟨.s 5 4 21,true,0⟩,.q (.f 22 3 6),.q (.l 23 22),.q (.o 24 (.build [.c (.int .i64 0),.c (.int .i64 0)] [(0,1,(zK 30)),(1,1,(.t 23))])),⟨.s 2 5 24,true,1⟩]) (.ret)) (.seq (.reg [.f 26 0 6,.l 27 26,.o 28 (.bin .eql (.t 27) (zK 5)),.m 25 28]) (.cond (.t 25) (.seq (.reg [.m 29 0,.m 30 1,.k 31 388 [.t 29,.t 30],.x 32 31 0,.x 33 31 1,.s 5 4 32,.s 2 5 33]) (.ret)) (.seq (.reg [.f 35 0 6,.l 36 35,.o 37 (.bin .eql (.t 36) (zK 3)),.m 34 37]) (.cond (.t 34) (.reg [.f 38 2 6,.l 39 38,.f 40 3 6,.l 41 40,.o 42 (.build [.c (.int .i64 0),.c (.str []),.c (.int .i64 0),.csl [],.c (.int .i64 0)] [(0,1,(zK 2)),(2,1,(.t 39)),(4,1,(.t 41))]),.s 5 7 42]) (.seq (.reg [.f 44 0 6,.l 45 44,.o 46 (.bin .neq (.t 45) (zK 4)),.m 47 46,.y 48 (.mov (.t 0)) 47,.y 49 (.call (.k (.fn 310 [])) [.t 48,(zK 1)]) 47,.y 50 (.field1 0 (.t 49)) 47,.y 51 (.bin .eql (.t 50) (zK 8)) 47,.o 52 (.pick (.t 47) (.t 51) zF),.m 43 52]) (.cond (.t 43) (.seq (.reg [.m 53 0,.n 54 53,.f 55 2 54,.l 56 55,.o 57 (.bin .add (.t 56) (zK 2)),.n 58 53,.f 59 2 58,.s 1 59 57]) (.seq (.reg [.m 61 0,.m 62 1,.d 63 4 6,.k 64 312 [.t 61,(zK 0),.t 62,.t 63],.m 60 64,.x 65 60 0,.x 66 60 1,.o 8 (.box (.k (.agg [.c (.int .i64 0),.c (.str []),.c (.int .i64 0),.csl [],.c (.int .i64 0),.c (.nilp),.c (.int .i64 0),.c (.str []),.c (.int .i64 0),.c (.int .i64 0)]))),.o 9 (.box (.k (.agg [.c (.int .i64 0),.c (.int .i64 0)]))),.s 10 8 65,.s 2 9 66]) (.seq (.dreg [.f 67 1 6,.l 68 67,.f 69 0 8,.d 70 5 69,.o 71 (.bsl 5 [.t 70]),.f 72 3 6,.l 73 72,.o 74 (.build [.c (.int .i64 0),.c (.str []),.c (.int .i64 0),.csl [],.c (.int .i64 0)] [(0,1,(zK 4)),(1,1,(.t 68)),(3,1,(.t 71)),(4,1,(.t 73))]),.d 75 2 9,.s 5 4 74,.s 2 5 75] [.q (.f 67 1 6),.q (.l 68 67),.q (.f 69 0 8),.q (.d 70 5 69),.q (.o 71 (.bsl 5 [.t 70])),.q (.f 72 3 6),.q (.l 73 72),.q (.o 74 (.build [.c (.int .i64 0),.c (.str []),.c (.int .i64 0),.csl [],.c (.int .i64 0)] [(0,1,(zK 4)),(1,1,(.t 68)),(3,1,(.t 71)),(4,1,(.t 73))])),⟨.s 5 4 74,true,0⟩,.q (.d 75 2 9),⟨.s 2 5 75,true,1⟩]) (.ret)))) (.seq (.reg [.f 77 0 6,.l 78 77,.o 79 (.bin .eql (.t 78) (zK 2)),.m 76 79]) (.cond (.t 76) (.reg [.f 80 0 7,⟨none,.store 1 (.t 80) (zK 1),none⟩]) (.skip)))))))))))) (.seq (.reg [.m 81 0,.n 82 81,.f 83 2 82,.l 84 83,.o 85 (.bin .add (.t 84) (zK 1)),.n 86 81,.f 87 2 86,.s 1 87 85]) (.seq (.reg [.d 88 5 7,.o 89 (.build [.c (.int .i64 0),.c (.int .i64 0)] []),.s 5 4 88,.s 2 5 89]) (.ret))))))
def r361:List ResV:=[.celln 5 4,.celln 2 5]
theorem k361:CodeIs Tryz.prog 361 2 Tryz.f361 c361 r361:=.auto Tryz.func361
def c309:AC:=.seq (.reg [.o 4 (.box (.k (.agg [.c (.int .i64 0),.c (.str []),.c (.int .i64 0),.csl [],.c (.int .i64 0)]))),.o 5 (.box (.k (.agg [.c (.int .i64 0),.c (.int .i64 0)])))]) (.seq (.reg [.m 11 0,.k 12 360 [.t 11],.m 6 12]) (.seq (.reg [.m 14 0,.m 15 1,.k 16 361 [.t 14,.t 15],.m 13 16,.x 17 13 0,.x 18 13 1,.o 7 (.box (.k (.agg [.c (.int .i64 0),.c (.str []),.c (.int .i64 0),.csl [],.c (.int .i64 0)]))),.o 8 (.box (.k (.agg [.c (.int .i64 0),.c (.int .i64 0)]))),.s 5 7 17,.s 2 8 18]) (.seq (.reg [.f 19 4 7,.l 20 19,.m 9 20]) (.seq (.block 0 (.loop (.seq (.seq (.reg [.d 21 2 8,.k 22 253 [.t 21],.m 23 22,.y 24 (.mov (.t 6)) 23,.y 25 (.un .not (.t 24)) 23,.o 26 (.pick (.t 23) (.t 25) zF),.m 27 26,.y 28 (.mov (.t 0)) 27,.y 29 (.call (.k (.fn 362 [])) [.t 28]) 27,.o 30 (.pick (.t 27) (.t 29) zF)]) (.cond (.t 30) (.skip) (.exit 0))) (.block 1 (.seq (.reg [.m 31 0,.k 32 360 [.t 31],.m 6 32]) (.seq (.reg [.o 10 (.box (.k (.agg [.c (.int .i64 0),.c (.str []),.c (.int .i64 0),.csl [],.c (.int .i64 0)])))]) (.seq (.reg [.m 34 0,.m 35 1,.k 36 361 [.t 34,.t 35],.m 33 36,.x 37 33 0,.x 38 33 1,.s 5 10 37,.s 2 8 38]) (.reg [.d 39 5 7,.d 40 5 10,.o 41 (.bsl 5 [.t 39,.t 40]),.m 42 9,.o 43 (.build [.c (.int .i64 0),.c (.str []),.c (.int .i64 0),.csl [],.c (.int .i64 0)] [(0,1,(zK 3)),(3,1,(.t 41)),(4,1,(.t 42))]),.s 5 7 43])))))))) (.seq (.dreg [.d 44 5 7,.d 45 2 8,.s 5 4 44,.s 2 5 45] [.q (.d 44 5 7),⟨.s 5 4 44,true,0⟩,.q (.d 45 2 8),⟨.s 2 5 45,true,1⟩]) (.ret))))))
def r309:List ResV:=[.celln 5 4,.celln 2 5]
theorem k309:CodeIs Tryz.prog 309 2 Tryz.f309 c309 r309:=.auto Tryz.func309
def c252:AC:=.seq (.reg [.o 6 (.box (.k (.agg [.c (.int .i64 0),.c (.str []),.c (.int .i64 0),.csl [],.c (.int .i64 0),.c (.nilp),.c (.int .i64 0),.c (.str []),.c (.int .i64 0),.c (.int .i64 0)]))),.o 7 (.box (.k (.agg [.c (.int .i64 0),.c (.int .i64 0)])))]) (.seq (.reg [.m 17 0,.m 18 2,.k 19 309 [.t 17,.t 18],.m 16 19,.x 20 16 0,.x 21 16 1,.o 8 (.box (.k (.agg [.c (.int .i64 0),.c (.str []),.c (.int .i64 0),.csl [],.c (.int .i64 0)]))),.o 9 (.box (.k (.agg [.c (.int .i64 0),.c (.int .i64 0)]))),.s 5 8 20,.s 2 9 21]) (.seq (.reg [.d 22 5 8,.o 23 (.build [.c (.int .i64 0),.c (.str []),.c (.int .i64 0),.csl [],.c (.int .i64 0),.c (.nilp),.c (.int .i64 0),.c (.str []),.c (.int .i64 0),.c (.int .i64 0)] [(0,5,(.t 22))]),.o 10 (.box (.k (.agg [.c (.int .i64 0),.c (.str []),.c (.int .i64 0),.csl [],.c (.int .i64 0),.c (.nilp),.c (.int .i64 0),.c (.str []),.c (.int .i64 0),.c (.int .i64 0)]))),.s 10 10 23]) (.seq (.skip) (.seq (.block 0 (.loop (.seq (.seq (.reg [.d 24 2 9,.k 25 253 [.t 24]]) (.cond (.t 25) (.skip) (.exit 0))) (.block 1 (.seq (.reg [.m 26 0,.k 27 310 [.t 26,(zK 0)],.o 11 (.box (.k (.agg [.c (.int .i64 0),.c (.str []),.c (.int .i64 0),.c (.int .i64 0)]))),.s 4 11 27]) (.seq (.reg [.m 29 0,.d 30 4 11,.k 31 311 [.t 29,.t 30],.m 28 31,.x 32 28 0,.x 33 28 1,.o 12 (.box (.k (.agg [.c (.str []),.c (.int .i64 0),.c (.int .i64 0)]))),.s 3 12 32,.m 13 33]) (.seq (.block 2 (.seq (.reg [.m 35 13,.o 36 (.un .not (.t 35)),.m 37 36,.z 38 (.fadd 1 (.t 12)) 37,.z 39 (.load1 (.t 38)) 37,.z 40 (.mov (.t 1)) 37,.z 41 (.bin .lss (.t 39) (.t 40)) 37,.o 42 (.pick (.t 37) zT (.t 41)),.m 34 42]) (.cond (.t 34) (.exit 0) (.seq (.dreg [.f 44 5 10,.l 45 44,.o 46 (.eqn true 0 (.t 45)),.m 47 46,.y 48 (.loadn 3 (.t 12)) 47,.y 49 (.fadd 5 (.t 10)) 47,.y 50 (.load1 (.t 49)) 47,.y 51 (.nilck (.t 50)) 47,.y 52 (.loadn 3 (.t 51)) 47,.y 53 (.call (.k (.fn 236 [])) [.t 48,.t 52]) 47,.y 54 (.un .not (.t 53)) 47,.o 55 (.pick (.t 47) (.t 54) zF),.m 43 55] [.q (.f 44 5 10),.q (.l 45 44),.q (.o 46 (.eqn true 0 (.t 45))),.q (.m 47 46),.q (.y 48 (.loadn 3 (.t 12)) 47),.q (.y 49 (.fadd 5 (.t 10)) 47),.q (.y 50 (.load1 (.t 49)) 47),.q (.y 51 (.nilck (.t 50)) 47),.q (.y 52 (.loadn 3 (.t 51)) 47),⟨.y 53 (.call (.k (.fn 236 [])) [.t 48,.t 52]) 47,true,0⟩,⟨.y 54 (.un .not (.t 53)) 47,false,1⟩,⟨.o 55 (.pick (.t 47) (.t 54) zF),false,1⟩,⟨.m 43 55,false,1⟩]) (.cond (.t 43) (.seq (.dreg [.o 56 (.build [.c (.int .i64 0),.c (.str []),.c (.int .i64 0),.csl [],.c (.int .i64 0),.c (.nilp),.c (.int .i64 0),.c (.str []),.c (.int .i64 0),.c (.int .i64 0)] []),.f 57 3 11,.l 58 57,.o 59 (.build [.c (.int .i64 0),.c (.int .i64 0)] [(0,1,(zK 32)),(1,1,(.t 58))]),.s 10 6 56,.s 2 7 59] [.q (.o 56 (.build [.c (.int .i64 0),.c (.str []),.c (.int .i64 0),.csl [],.c (.int .i64 0),.c (.nilp),.c (.int .i64 0),.c (.str []),.c (.int .i64 0),.c (.int .i64 0)] [])),⟨.s 10 6 56,true,0⟩,.q (.f 57 3 11),.q (.l 58 57),.q (.o 59 (.build [.c (.int .i64 0),.c (.int .i64 0)] [(0,1,(zK 32)),(1,1,(.t 58))])),⟨.s 2 7 59,true,1⟩]) (.ret)) (.skip)))))) (.seq (.reg [.m 60 0,.n 61 60,.f 62 2 61,.l 63 62,.o 64 (.bin .add (.t 63) (zK 1)),.n 65 60,.f 66 2 65,.s 1 66 64]) (.seq (.reg [.f 67 1 12,.l 68 67,.o 69 (.bin .add (.t 68) (zK 1)),.m 14 69]) (.seq (.seq (.reg [.f 70 2 12,.l 71 70,.o 72 (.bin .eql (.t 71) (zK 2))]) (.cond (.t 72) (.reg [.f 73 1 12,.l 74 73,.m 14 74]) (.skip))) (.seq (.reg [.o 15 (.box (.k (.agg [.c (.int .i64 0),.c (.str []),.c (.int .i64 0),.csl [],.c (.int .i64 0),.c (.nilp),.c (.int .i64 0),.c (.str []),.c (.int .i64 0),.c (.int .i64 0)])))]) (.seq (.reg [.m 76 0,.m 77 14,.m 78 2,.d 79 4 11,.k 80 312 [.t 76,.t 77,.t 78,.t 79],.m 75 80,.x 81 75 0,.x 82 75 1,.s 10 15 81,.s 2 9 82]) (.seq (.seq (.dreg [.d 83 2 9,.k 84 253 [.t 83],.m 85 84,.y 86 (.fadd 5 (.t 15)) 85,.y 87 (.load1 (.t 86)) 85,.y 88 (.eqn true 0 (.t 87)) 85,.o 89 (.pick (.t 85) (.t 88) zF),.m 90 89,.y 91 (.loadn 3 (.t 12)) 90,.y 92 (.fadd 5 (.t 15)) 90,.y 93 (.load1 (.t 92)) 90,.y 94 (.nilck (.t 93)) 90,.y 95 (.loadn 3 (.t 94)) 90,.y 96 (.call (.k (.fn 238 [])) [.t 91,.t 95]) 90,.y 97 (.un .not (.t 96)) 90,.o 98 (.pick (.t 90) (.t 97) zF)] [.q (.d 83 2 9),⟨.k 84 253 [.t 83],true,0⟩,⟨.m 85 84,false,1⟩,⟨.y 86 (.fadd 5 (.t 15)) 85,false,1⟩,⟨.y 87 (.load1 (.t 86)) 85,false,1⟩,⟨.y 88 (.eqn true 0 (.t 87)) 85,false,1⟩,⟨.o 89 (.pick (.t 85) (.t 88) zF),false,1⟩,⟨.m 90 89,false,1⟩,⟨.y 91 (.loadn 3 (.t 12)) 90,false,1⟩,⟨.y 92 (.fadd 5 (.t 15)) 90,false,1⟩,⟨.y 93 (.load1 (.t 92)) 90,false,1⟩,⟨.y 94 (.nilck (.t 93)) 90,false,1⟩,⟨.y 95 (.loadn 3 (.t 94)) 90,false,1⟩,⟨.y 96 (.call (.k (.fn 238 [])) [.t 91,.t 95]) 90,true,1⟩,⟨.y 97 (.un .not (.t 96)) 90,false,2⟩,⟨.o 98 (.pick (.t 90) (.t 97) zF),false,2⟩]) (.cond (.t 98) (.reg [.f 99 6 15,.f 100 3 99,.l 101 100,.o 102 (.build [.c (.int .i64 0),.c (.int .i64 0)] [(0,1,(zK 32)),(1,1,(.t 101))]),.s 2 9 102]) (.skip))) (.dreg [.d 103 3 12,.f 104 3 11,.l 105 104,.f 106 0 10,.d 107 5 106,.f 108 0 15,.d 109 5 108,.k 110 313 [.t 103,.t 105,.t 107,.t 109],.d 111 4 11,.o 112 (.build [.c (.int .i64 0),.c (.str []),.c (.int .i64 0),.csl [],.c (.int .i64 0),.c (.nilp),.c (.int .i64 0),.c (.str []),.c (.int .i64 0),.c (.int .i64 0)] [(0,5,(.t 110)),(5,1,(.t 12)),(6,4,(.t 111))]),.s 10 10 112] [.q (.d 103 3 12),.q (.f 104 3 11),.q (.l 105 104),.q (.f 106 0 10),.q (.d 107 5 106),.q (.f 108 0 15),.q (.d 109 5 108),⟨.k 110 313 [.t 103,.t 105,.t 107,.t 109],true,0⟩,.q (.d 111 4 11),⟨.o 112 (.build [.c (.int .i64 0),.c (.str []),.c (.int .i64 0),.csl [],.c (.int .i64 0),.c (.nilp),.c (.int .i64 0),.c (.str []),.c (.int .i64 0),.c (.int .i64 0)] [(0,5,(.t 110)),(5,1,(.t 12)),(6,4,(.t 111))]),false,1⟩,⟨.s 10 10 112,true,1⟩])))))))))))))) (.seq (.dreg [.d 113 10 10,.d 114 2 9,.s 10 6 113,.s 2 7 114] [.q (.d 113 10 10),⟨.s 10 6 113,true,0⟩,.q (.d 114 2 9),⟨.s 2 7 114,true,1⟩]) (.ret))))))
def r252:List ResV:=[.celln 10 6,.celln 2 7]
theorem k252:CodeIs Tryz.prog 252 3 Tryz.f252 c252 r252:=.auto Tryz.func252
def c177:AC:=.seq (.reg [.o 6 (.box (.k (.agg [.c (.int .i64 0),.c (.str []),.c (.int .i64 0),.csl [],.c (.int .i64 0)]))),.o 7 (.mov (zK 0)),.o 8 (.mov (zK 0)),.o 9 (.mov (zK 0))]) (.seq (.reg [.m 13 0,.m 14 1,.m 15 2,.o 16 (.build [.csl [],.csl [],.c (.int .i64 0)] [(0,1,(.t 13)),(1,1,(.t 14)),(2,1,(.t 15))]),.o 17 (.box (.t 16)),.m 10 17]) (.seq (.reg [.m 19 10,.k 20 252 [.t 19,(zK 0),(zK 0)],.m 18 20,.x 21 18 0,.x 22 18 1,.o 11 (.box (.k (.agg [.c (.int .i64 0),.c (.str []),.c (.int .i64 0),.csl [],.c (.int .i64 0),.c (.nilp),.c (.int .i64 0),.c (.str []),.c (.int .i64 0),.c (.int .i64 0)]))),.o 12 (.box (.k (.agg [.c (.int .i64 0),.c (.int .i64 0)]))),.s 10 11 21,.s 2 12 22]) (.seq (.seq (.reg [.d 23 2 12,.k 24 253 [.t 23],.o 25 (.un .not (.t 24))]) (.cond (.t 25) (.seq (.dreg [.o 26 (.build [.c (.int .i64 0),.c (.str []),.c (.int .i64 0),.csl [],.c (.int .i64 0)] []),.m 27 2,.f 28 0 12,.l 29 28,.f 30 1 12,.l 31 30,.s 5 6 26,.m 7 27,.m 8 29,.m 9 31] [.q (.o 26 (.build [.c (.int .i64 0),.c (.str []),.c (.int .i64 0),.csl [],.c (.int .i64 0)] [])),⟨.s 5 6 26,true,0⟩,.q (.m 27 2),.q (.f 28 0 12),.q (.l 29 28),.q (.f 30 1 12),.q (.l 31 30),⟨.m 7 27,false,1⟩,⟨.m 8 29,false,1⟩,⟨.m 9 31,false,1⟩]) (.ret)) (.skip))) (.seq (.dreg [.f 32 0 11,.d 33 5 32,.m 34 10,.n 35 34,.f 36 2 35,.l 37 36,.s 5 6 33,.m 7 37,.o 8 (.mov (zK 0)),.o 9 (.mov (zK 0))] [.q (.f 32 0 11),.q (.d 33 5 32),⟨.s 5 6 33,true,0⟩,.q (.m 34 10),.q (.n 35 34),.q (.f 36 2 35),.q (.l 37 36),⟨.m 7 37,false,1⟩,⟨.o 8 (.mov (zK 0)),false,1⟩,⟨.o 9 (.mov (zK 0)),false,1⟩]) (.ret)))))
def r177:List ResV:=[.celln 5 6,.tmp 7,.tmp 8,.tmp 9]
theorem k177:CodeIs Tryz.prog 177 3 Tryz.f177 c177 r177:=.auto Tryz.func177
end
section

end
section

def strsR (l:List Str):List (List C):=l.map fun s=>[C.str s]
def tyX (t:List Tok) (i:Int) (v:Nat) (vs:List Str) (e p:Int):Blk:=.cells [.c (toksC t),I i,.osl v (strsR vs),I e,I p]
def tyY (vs:List Str):Blk:=.spare 9 1 vs.length
attribute [local go_sem] tyX tyY rs_len rs_g0 rs_g rs_s0 rs_s rs_sv Typ.v Typ.cs_eq tk_mk tname_mk tn_mk tl_mk tysC
end
section

attribute [local go_sem] tyX tyY rs_len rs_g0 rs_g rs_s0 rs_s rs_sv Typ.v Typ.cs_eq tk_mk tname_mk tn_mk tl_mk tysC
end
section
attribute [local go_sem] tyX tyY rs_len rs_g0 rs_g rs_s0 rs_s rs_sv Typ.v Typ.cs_eq tk_mk tname_mk tn_mk tl_mk tysC

end
section
attribute [local go_sem] tyX tyY rs_len rs_g0 rs_g rs_s0 rs_s rs_sv Typ.v Typ.cs_eq tk_mk tname_mk tn_mk tl_mk tysC

end
section
def c288:AC:=.seq (.reg [.o 0 (.mov (.k (.csl [])))]) (.seq (.reg [.o 1 (.bsl 1 [(.k (.c (.str [107,105,110,100]))),(.k (.c (.str [116,121,112,101]))),(.k (.c (.str [105,110,102,105,120]))),(.k (.c (.str [105,110,102,105,120,108]))),(.k (.c (.str [105,110,102,105,120,114])))]),.m 0 1]) (.ret))
def r288:List ResV:=[.tmp 0]
theorem k288:CodeIs Tryz.prog 288 0 Tryz.f288 c288 r288:=.auto Tryz.func288
def c178:AC:=.seq (.reg [.o 2 (.box (.k (.agg [.c (.int .i64 0),.c (.str []),.c (.int .i64 0),.c (.int .i64 0)])))]) (.seq (.dreg [.m 3 0,.n 4 3,.f 5 0 4,.l 6 5,.m 7 0,.n 8 7,.f 9 1 8,.l 10 9,.m 11 0,.n 12 11,.f 13 0 12,.l 14 13,.o 15 (.lenr (.t 14)),.o 16 (.bin .sub (.t 15) (zK 1)),.o 17 (.mn (.t 10) (.t 16)),.o 18 (.iadd 4 (.t 6) (.t 17)),.d 19 4 18,.s 4 2 19] [.q (.m 3 0),.q (.n 4 3),.q (.f 5 0 4),.q (.l 6 5),.q (.m 7 0),.q (.n 8 7),.q (.f 9 1 8),.q (.l 10 9),.q (.m 11 0),.q (.n 12 11),.q (.f 13 0 12),.q (.l 14 13),.q (.o 15 (.lenr (.t 14))),.q (.o 16 (.bin .sub (.t 15) (zK 1))),.q (.o 17 (.mn (.t 10) (.t 16))),.q (.o 18 (.iadd 4 (.t 6) (.t 17))),.q (.d 19 4 18),⟨.s 4 2 19,true,0⟩]) (.ret))
def r178:List ResV:=[.celln 4 2]
theorem k178:CodeIs Tryz.prog 178 1 Tryz.f178 c178 r178:=.auto Tryz.func178
def c338:AC:=.seq (.reg [.o 6 (.mov zF)]) (.seq (.reg [.m 9 0,.k 10 178 [.t 9],.o 7 (.box (.k (.agg [.c (.int .i64 0),.c (.str []),.c (.int .i64 0),.c (.int .i64 0)]))),.s 4 7 10]) (.seq (.reg [.f 11 0 7,.l 12 11,.m 13 1,.o 14 (.bin .eql (.t 12) (.t 13)),.m 15 14,.y 16 (.fadd 1 (.t 7)) 15,.y 17 (.load1 (.t 16)) 15,.y 18 (.mov (.t 2)) 15,.y 19 (.bin .eql (.t 17) (.t 18)) 15,.o 20 (.pick (.t 15) (.t 19) zF),.m 8 20]) (.seq (.seq (.reg [.m 21 8]) (.cond (.t 21) (.reg [.m 22 0,.n 23 22,.f 24 1 23,.l 25 24,.o 26 (.bin .add (.t 25) (zK 1)),.n 27 22,.f 28 1 27,.s 1 28 26]) (.skip))) (.seq (.reg [.m 29 8,.m 6 29]) (.ret)))))
def r338:List ResV:=[.tmp 6]
theorem k338:CodeIs Tryz.prog 338 3 Tryz.f338 c338 r338:=.auto Tryz.func338
def c341:AC:=.seq (.reg [.o 6 (.box (.k (.agg [.c (.int .i64 0),.c (.str []),.c (.int .i64 0),.c (.int .i64 0)])))]) (.seq (.reg [.m 8 0,.k 9 178 [.t 8],.o 7 (.box (.k (.agg [.c (.int .i64 0),.c (.str []),.c (.int .i64 0),.c (.int .i64 0)]))),.s 4 7 9]) (.seq (.seq (.reg [.m 10 2,.f 11 0 7,.l 12 11,.k 13 376 [.t 10,.t 12],.o 14 (.un .not (.t 13))]) (.cond (.t 14) (.reg [.m 15 0,.m 16 1,.f 17 3 7,.l 18 17,.k 19 339 [.t 15,.t 16,.t 18]]) (.skip))) (.seq (.reg [.m 20 0,.n 21 20,.f 22 1 21,.l 23 22,.o 24 (.bin .add (.t 23) (zK 1)),.n 25 20,.f 26 1 25,.s 1 26 24]) (.seq (.reg [.d 27 4 7,.s 4 6 27]) (.ret)))))
def r341:List ResV:=[.celln 4 6]
theorem k341:CodeIs Tryz.prog 341 3 Tryz.f341 c341 r341:=.auto Tryz.func341
def c337:AC:=.seq (.reg [.o 4 (.mov (.k (.csl [])))]) (.seq (.reg [.m 6 0,.m 7 1,.k 8 341 [.t 6,(zK 100),.t 7],.o 9 (.bsl 4 [.t 8]),.m 5 9]) (.seq (.block 0 (.loop (.seq (.seq (.reg [.m 10 0,.n 11 10,.f 12 3 11,.l 13 12,.o 14 (.bin .eql (.t 13) (zK 0)),.m 15 14,.y 16 (.mov (.t 0)) 15,.y 17 (.call (.k (.fn 338 [])) [.t 16,(zK 4),(.k (.c (.str [44])))]) 15,.o 18 (.pick (.t 15) (.t 17) zF)]) (.cond (.t 18) (.skip) (.exit 0))) (.block 1 (.reg [.m 19 5,.m 20 0,.m 21 1,.k 22 341 [.t 20,(zK 100),.t 21],.o 23 (.bsl 4 [.t 22]),.o 24 (.app 223 4 40 (.t 19) (.t 23)),.m 5 24]))))) (.seq (.reg [.m 25 5,.m 4 25]) (.ret))))
def r337:List ResV:=[.tmp 4]
theorem k337:CodeIs Tryz.prog 337 2 Tryz.f337 c337 r337:=.auto Tryz.func337
def c336:AC:=.seq (.reg [.o 2 (.mov (.k (.csl [])))]) (.seq (.reg [.o 3 (.mov (.k (.csl [])))]) (.seq (.seq (.reg [.m 6 0,.o 7 (.lenr (.t 6)),.o 8 (.mov (zK 0))]) (.block 0 (.loop (.seq (.reg [.o 9 (.bin .lss (.t 8) (.t 7))]) (.seq (.cond (.t 9) (.skip) (.exit 0)) (.seq (.block 1 (.seq (.reg [.o 10 (.iadd 4 (.t 6) (.t 8)),.d 11 4 10,.o 5 (.box (.k (.agg [.c (.int .i64 0),.c (.str []),.c (.int .i64 0),.c (.int .i64 0)]))),.s 4 5 11]) (.reg [.m 12 3,.f 13 1 5,.l 14 13,.o 15 (.bsl 1 [.t 14]),.o 16 (.app 9 1 16 (.t 12) (.t 15)),.m 3 16]))) (.reg [.o 17 (.bin .add (.t 8) (zK 1)),.m 8 17]))))))) (.seq (.reg [.m 18 3,.m 2 18]) (.ret))))
def r336:List ResV:=[.tmp 2]
theorem k336:CodeIs Tryz.prog 336 1 Tryz.f336 c336 r336:=.auto Tryz.func336
def c289:AC:=.seq (.reg [.o 2 (.box (.k (.agg [.c (.int .i64 0),.csl [],.c (.int .i64 0),.c (.int .i64 0),.c (.str []),.c (.int .i64 0),.csl [],.c (.str []),.c (.int .i64 0),.c (.int .i64 0),.c (.int .i64 0),.c (.str []),.c (.int .i64 0),.csl [],.c (.int .i64 0),.c (.int .i64 0)])))]) (.seq (.reg [.m 5 0,.o 6 (.bsl 1 [(zK 1)]),.k 7 337 [.t 5,.t 6],.k 8 336 [.t 7],.o 9 (.build [.c (.int .i64 0),.csl [],.c (.int .i64 0),.c (.int .i64 0),.c (.str []),.c (.int .i64 0),.csl [],.c (.str []),.c (.int .i64 0),.c (.int .i64 0),.c (.int .i64 0),.c (.str []),.c (.int .i64 0),.csl [],.c (.int .i64 0),.c (.int .i64 0)] [(0,1,(zK 0)),(1,1,(.t 8))]),.o 3 (.box (.k (.agg [.c (.int .i64 0),.csl [],.c (.int .i64 0),.c (.int .i64 0),.c (.str []),.c (.int .i64 0),.csl [],.c (.str []),.c (.int .i64 0),.c (.int .i64 0),.c (.int .i64 0),.c (.str []),.c (.int .i64 0),.csl [],.c (.int .i64 0),.c (.int .i64 0)]))),.s 16 3 9]) (.seq (.block 0 (.loop (.seq (.seq (.reg [.m 10 0,.n 11 10,.f 12 3 11,.l 13 12,.o 14 (.bin .eql (.t 13) (zK 0))]) (.cond (.t 14) (.skip) (.exit 0))) (.seq (.block 1 (.seq (.seq (.reg [.m 19 0,.k 20 178 [.t 19],.o 4 (.box (.k (.agg [.c (.int .i64 0),.c (.str []),.c (.int .i64 0),.c (.int .i64 0)]))),.s 4 4 20]) (.seq (.reg [.m 21 0,.k 22 338 [.t 21,(zK 1),(.k (.c (.str [116,121,112,101])))],.o 23 (.un .not (.t 22))]) (.cond (.t 23) (.reg [.m 24 0,.f 25 3 4,.l 26 25,.k 27 339 [.t 24,(zK 100),.t 26]]) (.skip)))) (.seq (.reg [.m 28 0,.k 29 338 [.t 28,(zK 4),(.k (.c (.str [45,62])))],.o 30 (.un .not (.t 29))]) (.cond (.t 30) (.exit 0) (.skip))))) (.reg [.f 15 2 3,.l 16 15,.o 17 (.bin .add (.t 16) (zK 1)),.f 18 2 3,.s 1 18 17]))))) (.seq (.reg [.d 31 16 3,.s 16 2 31]) (.ret))))
def r289:List ResV:=[.celln 16 2]
theorem k289:CodeIs Tryz.prog 289 1 Tryz.f289 c289 r289:=.auto Tryz.func289
def c290:AC:=.seq (.reg [.o 2 (.box (.k (.agg [.c (.int .i64 0),.csl [],.c (.int .i64 0),.c (.int .i64 0),.c (.str []),.c (.int .i64 0),.csl [],.c (.str []),.c (.int .i64 0),.c (.int .i64 0),.c (.int .i64 0),.c (.str []),.c (.int .i64 0),.csl [],.c (.int .i64 0),.c (.int .i64 0)])))]) (.seq (.reg [.m 8 0,.o 9 (.bsl 1 [(zK 1),(zK 4)]),.k 10 337 [.t 8,.t 9],.k 11 336 [.t 10],.o 12 (.build [.c (.int .i64 0),.csl [],.c (.int .i64 0),.c (.int .i64 0),.c (.str []),.c (.int .i64 0),.csl [],.c (.str []),.c (.int .i64 0),.c (.int .i64 0),.c (.int .i64 0),.c (.str []),.c (.int .i64 0),.csl [],.c (.int .i64 0),.c (.int .i64 0)] [(0,1,(zK 1)),(1,1,(.t 11))]),.o 3 (.box (.k (.agg [.c (.int .i64 0),.csl [],.c (.int .i64 0),.c (.int .i64 0),.c (.str []),.c (.int .i64 0),.csl [],.c (.str []),.c (.int .i64 0),.c (.int .i64 0),.c (.int .i64 0),.c (.str []),.c (.int .i64 0),.csl [],.c (.int .i64 0),.c (.int .i64 0)]))),.s 16 3 12]) (.seq (.seq (.reg [.m 13 0,.n 14 13,.f 15 3 14,.l 16 15,.o 17 (.bin .neq (.t 16) (zK 0))]) (.cond (.t 17) (.seq (.reg [.d 18 16 3,.s 16 2 18]) (.ret)) (.skip))) (.seq (.dreg [.m 20 0,.n 21 20,.f 22 0 21,.l 23 22,.m 24 0,.n 25 24,.f 26 1 25,.l 27 26,.k 28 340 [.t 23,.t 27],.m 19 28,.x 29 19 0,.x 30 19 1,.x 31 19 2,.x 32 19 3,.o 4 (.box (.k (.agg zS4))),.s 4 4 29,.m 5 30,.m 6 31,.m 7 32] [⟨.o 4 (.box (.k (.agg zS4))),true,0⟩,.q (.m 20 0),.q (.n 21 20),.q (.f 22 0 21),.q (.l 23 22),.q (.m 24 0),.q (.n 25 24),.q (.f 26 1 25),.q (.l 27 26),.q (.k 28 340 [.t 23,.t 27]),.q (.m 19 28),.q (.x 29 19 0),⟨.s 4 4 29,true,1⟩,.q (.x 30 19 1),.q (.x 31 19 2),.q (.x 32 19 3),⟨.m 5 30,false,2⟩,⟨.m 6 31,false,2⟩,⟨.m 7 32,false,2⟩]) (.seq (.seq (.reg [.m 33 6,.o 34 (.bin .neq (.t 33) (zK 0))]) (.cond (.t 34) (.reg [.m 35 0,.m 36 6,.m 37 7,.k 38 339 [.t 35,.t 36,.t 37]]) (.skip))) (.seq (.reg [.m 39 0,.d 40 4 4,.m 41 5,.f 42 3 3,.s 4 42 40,.n 43 39,.f 44 1 43,.s 1 44 41]) (.seq (.reg [.d 45 16 3,.s 16 2 45]) (.ret)))))))
def r290:List ResV:=[.celln 16 2]
theorem k290:CodeIs Tryz.prog 290 1 Tryz.f290 c290 r290:=.auto Tryz.func290
def c293:AC:=.seq (.reg [.m 2 0,.n 3 2,.f 4 3 3,.l 5 4,.o 6 (.bin .eql (.t 5) (zK 0))]) (.cond (.t 6) (.reg [.m 7 0,.o 8 (.bsl 1 [(zK 7)]),.k 9 341 [.t 7,(zK 101),.t 8]]) (.skip))
def r293:List ResV:=[]
theorem k293:CodeIs Tryz.prog 293 1 Tryz.f293 c293 r293:=.auto Tryz.func293
def c230:AC:=.seq (.reg [.o 2 (.box (.k (.agg [.c (.int .i64 0),.csl [],.c (.int .i64 0),.c (.int .i64 0),.c (.str []),.c (.int .i64 0),.csl [],.c (.str []),.c (.int .i64 0),.c (.int .i64 0),.c (.int .i64 0),.c (.str []),.c (.int .i64 0),.csl [],.c (.int .i64 0),.c (.int .i64 0)])))]) (.seq (.reg [.m 6 0,.k 7 178 [.t 6],.o 3 (.box (.k (.agg [.c (.int .i64 0),.c (.str []),.c (.int .i64 0),.c (.int .i64 0)]))),.s 4 3 7]) (.seq (.reg [.o 4 (.mov (.k (.c (.str []))))]) (.seq (.seq (.dreg [.f 8 0 3,.l 9 8,.o 10 (.bin .eql (.t 9) (zK 1)),.m 11 10,.y 12 (.call (.k (.fn 288 [])) []) 11,.y 13 (.fadd 1 (.t 3)) 11,.y 14 (.load1 (.t 13)) 11,.y 15 (.call (.k (.fn 67 [])) [.t 12,.t 14]) 11,.o 16 (.pick (.t 11) (.t 15) zF)] [.q (.f 8 0 3),.q (.l 9 8),.q (.o 10 (.bin .eql (.t 9) (zK 1))),.q (.m 11 10),⟨.y 12 (.call (.k (.fn 288 [])) []) 11,true,0⟩,.q (.y 13 (.fadd 1 (.t 3)) 11),.q (.y 14 (.load1 (.t 13)) 11),⟨.y 15 (.call (.k (.fn 67 [])) [.t 12,.t 14]) 11,true,1⟩,⟨.o 16 (.pick (.t 11) (.t 15) zF),false,2⟩]) (.cond (.t 16) (.seq (.reg [.f 17 1 3,.l 18 17,.m 4 18]) (.reg [.m 19 0,.n 20 19,.f 21 1 20,.l 22 21,.o 23 (.bin .add (.t 22) (zK 1)),.n 24 19,.f 25 1 24,.s 1 25 23])) (.skip))) (.seq (.reg [.o 5 (.box (.k (.agg [.c (.int .i64 0),.csl [],.c (.int .i64 0),.c (.int .i64 0),.c (.str []),.c (.int .i64 0),.csl [],.c (.str []),.c (.int .i64 0),.c (.int .i64 0),.c (.int .i64 0),.c (.str []),.c (.int .i64 0),.csl [],.c (.int .i64 0),.c (.int .i64 0)])))]) (.seq (.seq (.reg [.m 26 4]) (.block 0 (.seq (.reg [.o 30 (.bin .eql (.t 26) (.k (.c (.str [107,105,110,100])))),.m 29 30]) (.cond (.t 29) (.reg [.m 31 0,.k 32 289 [.t 31],.s 16 5 32]) (.seq (.reg [.o 34 (.bin .eql (.t 26) (.k (.c (.str [116,121,112,101])))),.m 33 34]) (.cond (.t 33) (.reg [.m 35 0,.k 36 290 [.t 35],.s 16 5 36]) (.seq (.reg [.o 38 (.bin .eql (.t 26) (.k (.c (.str [105,110,102,105,120])))),.m 37 38]) (.cond (.t 37) (.reg [.m 39 0,.k 40 291 [.t 39,(zK 0)],.s 16 5 40]) (.seq (.reg [.o 42 (.bin .eql (.t 26) (.k (.c (.str [105,110,102,105,120,108])))),.m 41 42]) (.cond (.t 41) (.reg [.m 43 0,.k 44 291 [.t 43,(zK 1)],.s 16 5 44]) (.seq (.reg [.o 46 (.bin .eql (.t 26) (.k (.c (.str [105,110,102,105,120,114])))),.m 45 46]) (.cond (.t 45) (.reg [.m 47 0,.k 48 291 [.t 47,(zK 2)],.s 16 5 48]) (.reg [.m 27 0,.k 28 292 [.t 27],.s 16 5 28]))))))))))))) (.seq (.seq (.reg [.f 49 0 5,.l 50 49,.o 51 (.bin .neq (.t 50) (zK 2))]) (.cond (.t 51) (.reg [.m 52 0,.k 53 293 [.t 52]]) (.skip))) (.seq (.reg [.f 54 3 3,.l 55 54,.f 56 15 5,.s 1 56 55]) (.seq (.reg [.d 57 16 5,.s 16 2 57]) (.ret)))))))))
def r230:List ResV:=[.celln 16 2]
theorem k230:CodeIs Tryz.prog 230 1 Tryz.f230 c230 r230:=.auto Tryz.func230
def c141:AC:=.seq (.reg [.o 2 (.mov (.k (.csl []))),.o 3 (.mov (.k (.csl []))),.o 4 (.mov (zK 0)),.o 5 (.mov (zK 0))]) (.seq (.reg [.m 12 0,.k 13 176 [.t 12],.m 11 13,.x 14 11 0,.x 15 11 1,.x 16 11 2,.m 6 14,.m 7 15,.m 8 16]) (.seq (.seq (.reg [.m 17 7,.o 18 (.bin .neq (.t 17) (zK 0))]) (.cond (.t 18) (.seq (.reg [.m 19 7,.m 20 8,.o 2 (.mov (.k (.csl []))),.o 3 (.mov (.k (.csl []))),.m 4 19,.m 5 20]) (.ret)) (.skip))) (.seq (.reg [.m 21 6,.k 22 229 [],.o 23 (.build [.csl [],.c (.int .i64 0),.csl [],.c (.int .i64 0),.c (.int .i64 0)] [(0,1,(.t 21)),(2,1,(.t 22))]),.o 24 (.box (.t 23)),.m 9 24]) (.seq (.reg [.o 10 (.mov (.k (.csl [])))]) (.seq (.block 0 (.loop (.seq (.seq (.reg [.m 25 9,.n 26 25,.f 27 3 26,.l 28 27,.o 29 (.bin .eql (.t 28) (zK 0)),.m 30 29,.y 31 (.mov (.t 9)) 30,.y 32 (.call (.k (.fn 178 [])) [.t 31]) 30,.y 33 (.field1 0 (.t 32)) 30,.y 34 (.bin .neq (.t 33) (zK 0)) 30,.o 35 (.pick (.t 30) (.t 34) zF)]) (.cond (.t 35) (.skip) (.exit 0))) (.block 1 (.reg [.m 36 10,.m 37 9,.k 38 230 [.t 37],.o 39 (.bsl 16 [.t 38]),.o 40 (.app 77 16 200 (.t 36) (.t 39)),.m 10 40]))))) (.seq (.seq (.reg [.m 41 9,.n 42 41,.f 43 3 42,.l 44 43,.o 45 (.bin .neq (.t 44) (zK 0))]) (.cond (.t 45) (.seq (.dreg [.m 46 9,.n 47 46,.f 48 3 47,.l 49 48,.m 50 9,.n 51 50,.f 52 4 51,.l 53 52,.o 2 (.mov (.k (.csl []))),.o 3 (.mov (.k (.csl []))),.m 4 49,.m 5 53] [.q (.m 46 9),.q (.n 47 46),.q (.f 48 3 47),.q (.l 49 48),.q (.m 50 9),.q (.n 51 50),.q (.f 52 4 51),.q (.l 53 52),.q (.o 2 (.mov (.k (.csl [])))),.q (.o 3 (.mov (.k (.csl [])))),.q (.m 4 49),.q (.m 5 53)]) (.ret)) (.skip))) (.seq (.dreg [.m 54 10,.m 55 9,.n 56 55,.f 57 2 56,.l 58 57,.m 2 54,.m 3 58,.o 4 (.mov (zK 0)),.o 5 (.mov (zK 0))] [.q (.m 54 10),.q (.m 55 9),.q (.n 56 55),.q (.f 57 2 56),.q (.l 58 57),.q (.m 2 54),.q (.m 3 58),.q (.o 4 (.mov (zK 0))),.q (.o 5 (.mov (zK 0)))]) (.ret))))))))
def r141:List ResV:=[.tmp 2,.tmp 3,.tmp 4,.tmp 5]
theorem k141:CodeIs Tryz.prog 141 1 Tryz.f141 c141 r141:=.auto Tryz.func141
def c89:AC:=.seq (.reg [.o 4 (.box (.k (.agg [.c (.int .i64 0),.c (.str []),.c (.int .i64 0),.csl [],.c (.int .i64 0)]))),.o 5 (.mov (zK 0)),.o 6 (.mov (zK 0))]) (.seq (.reg [.m 16 1,.k 17 176 [.t 16],.m 15 17,.x 18 15 0,.x 19 15 1,.x 20 15 2,.m 7 18,.m 8 19,.m 9 20]) (.seq (.seq (.reg [.m 21 8,.o 22 (.bin .neq (.t 21) (zK 0))]) (.cond (.t 22) (.seq (.reg [.o 23 (.build [.c (.int .i64 0),.c (.str []),.c (.int .i64 0),.csl [],.c (.int .i64 0)] []),.m 24 8,.m 25 9,.s 5 4 23,.m 5 24,.m 6 25]) (.ret)) (.skip))) (.seq (.reg [.m 27 0,.m 28 7,.k 29 177 [.t 27,.t 28,(zK 0)],.m 26 29,.x 30 26 0,.x 31 26 1,.x 32 26 2,.x 33 26 3,.o 10 (.box (.k (.agg [.c (.int .i64 0),.c (.str []),.c (.int .i64 0),.csl [],.c (.int .i64 0)]))),.s 5 10 30,.m 11 31,.m 8 32,.m 12 33]) (.seq (.seq (.reg [.m 34 8,.o 35 (.bin .neq (.t 34) (zK 0))]) (.cond (.t 35) (.seq (.reg [.o 36 (.build [.c (.int .i64 0),.c (.str []),.c (.int .i64 0),.csl [],.c (.int .i64 0)] []),.m 37 8,.m 38 12,.s 5 4 36,.m 5 37,.m 6 38]) (.ret)) (.skip))) (.seq (.reg [.m 39 7,.m 40 11,.o 41 (.build [.csl [],.c (.int .i64 0),.csl [],.c (.int .i64 0),.c (.int .i64 0)] [(0,1,(.t 39)),(1,1,(.t 40))]),.o 42 (.box (.t 41)),.m 13 42]) (.seq (.seq (.reg [.m 43 13,.k 44 178 [.t 43],.o 45 (.field1 0 (.t 44)),.o 46 (.bin .eql (.t 45) (zK 7))]) (.cond (.t 46) (.reg [.m 47 13,.n 48 47,.f 49 1 48,.l 50 49,.o 51 (.bin .add (.t 50) (zK 1)),.n 52 47,.f 53 1 52,.s 1 53 51]) (.skip))) (.seq (.seq (.reg [.m 54 13,.k 55 178 [.t 54],.o 14 (.box (.k (.agg [.c (.int .i64 0),.c (.str []),.c (.int .i64 0),.c (.int .i64 0)]))),.s 4 14 55]) (.seq (.reg [.f 56 0 14,.l 57 56,.o 58 (.bin .neq (.t 57) (zK 0))]) (.cond (.t 58) (.seq (.dreg [.o 59 (.build [.c (.int .i64 0),.c (.str []),.c (.int .i64 0),.csl [],.c (.int .i64 0)] []),.f 60 3 14,.l 61 60,.s 5 4 59,.o 5 (.mov (zK 101)),.m 6 61] [.q (.o 59 (.build [.c (.int .i64 0),.c (.str []),.c (.int .i64 0),.csl [],.c (.int .i64 0)] [])),⟨.s 5 4 59,true,0⟩,.q (.f 60 3 14),.q (.l 61 60),⟨.o 5 (.mov (zK 101)),false,1⟩,⟨.m 6 61,false,1⟩]) (.ret)) (.skip)))) (.seq (.reg [.d 62 5 10,.s 5 4 62,.o 5 (.mov (zK 0)),.o 6 (.mov (zK 0))]) (.ret)))))))))
def r89:List ResV:=[.celln 5 4,.tmp 5,.tmp 6]
theorem k89:CodeIs Tryz.prog 89 2 Tryz.f89 c89 r89:=.auto Tryz.func89
def c67:AC:=.seq (.reg [.o 4 (.mov zF)]) (.seq (.reg [.m 5 0,.m 6 1,.k 7 161 [.t 5,.t 6],.o 8 (.bin .geq (.t 7) (zK 0)),.m 4 8]) (.ret))
def r67:List ResV:=[.tmp 4]
theorem k67:CodeIs Tryz.prog 67 2 Tryz.f67 c67 r67:=.auto Tryz.func67
def c376:AC:=.seq (.reg [.o 4 (.mov zF)]) (.seq (.reg [.m 5 0,.m 6 1,.k 7 397 [.t 5,.t 6],.o 8 (.bin .geq (.t 7) (zK 0)),.m 4 8]) (.ret))
def r376:List ResV:=[.tmp 4]
theorem k376:CodeIs Tryz.prog 376 2 Tryz.f376 c376 r376:=.auto Tryz.func376
def c397:AC:=.seq (.reg [.o 4 (.mov (zK 0))]) (.seq (.seq (.reg [.m 6 0,.o 7 (.lenr (.t 6)),.o 8 (.mov (zK 0))]) (.block 0 (.loop (.seq (.reg [.o 9 (.bin .lss (.t 8) (.t 7))]) (.seq (.cond (.t 9) (.skip) (.exit 0)) (.seq (.block 1 (.seq (.reg [.m 10 8,.m 5 10]) (.seq (.reg [.m 11 1,.m 12 0,.m 13 5,.o 14 (.iadd 1 (.t 12) (.t 13)),.l 15 14,.o 16 (.bin .eql (.t 11) (.t 15))]) (.cond (.t 16) (.seq (.reg [.m 17 5,.m 4 17]) (.ret)) (.skip))))) (.reg [.o 18 (.bin .add (.t 8) (zK 1)),.m 8 18]))))))) (.seq (.reg [.o 4 (.mov (.k (.c (.int .i64 (-1)))))]) (.ret)))
def r397:List ResV:=[.tmp 4]
theorem k397:CodeIs Tryz.prog 397 2 Tryz.f397 c397 r397:=.auto Tryz.func397
def c210:AC:=.seq (.reg [.o 2 (.mov (.k (.csl [])))]) (.seq (.seq (.reg [.m 3 0,.o 4 (.eqz false (.t 3))]) (.cond (.t 4) (.seq (.reg [.o 2 (.mov (.k (.csl [])))]) (.ret)) (.skip))) (.seq (.reg [.o 5 (.bsl 3 []),.m 6 0,.o 7 (.app 75 3 32 (.t 5) (.t 6)),.m 2 7]) (.ret)))
def r210:List ResV:=[.tmp 2]
theorem k210:CodeIs Tryz.prog 210 1 Tryz.f210 c210 r210:=.auto Tryz.func210
end
section

theorem sz_text {s:List UInt8} {args:List V} (h:∀ y ∈ args,V.Sz y) (hx:S s ∈ args):s.length ≤ maxLen:=by
 have:=h _ hx
 rwa [S,sz_c,sz_str] at this
theorem DC.of_text {w0:World} {f:FuncId} {s:List UInt8} {b:Bool} {σ:H} (hen:Enters Tryz.prog f) (h:∀ w,s.length ≤ maxLen → Calls Tryz.prog f #[.string (bs s)] w (Ret (.bool b) w)):DC Tryz.prog w0 f [S s] σ (Same (B b) σ):=by
 refine DC.of_calls hen fun κ w vs hrep hfit=>?_
 obtain ⟨v,ys,rfl,hv,hfit⟩:=hfit.cons_inv
 have:=hfit.nil_inv
 subst this
 cases hv with
 | c hv=>
   cases hv with
   | str _ hl=>
     refine ⟨.bool b,.c (.bool b),(h w hl).mono ?_⟩;rintro e w' ⟨rfl,rfl⟩;exact ⟨rfl,Below.refl _ _⟩
theorem lex_IsNameD (w0:World) (s:List UInt8) (σ:H):DC Tryz.prog w0 75 [S s] σ (Same (B (isNameB s)) σ):=
 DC.of_text (enters_fn Tryz.func75 (by kernel_rfl) rfl) fun w hs=>lex_IsName (bs s) w hs
theorem lex_IsSymD (w0:World) (s:List UInt8) (σ:H):DC Tryz.prog w0 76 [S s] σ (Same (B (isSymB s)) σ):=
 DC.of_text (enters_fn Tryz.func76 (by kernel_rfl) rfl) fun w hs=>lex_IsSym (bs s) w hs
end
section
attribute [local go_sem] Typ.v Typ.cs_eq tk_mk tname_mk tn_mk tl_mk tysC

theorem sz_row_len {α:Type} {f:α → List C} {l:List α} {x:V} {args:List V} (h:∀ y ∈ args,V.Sz y) (hx:x ∈ args) (e:x = .c (.sl (l.map f))):l.length ≤ 9223372036854775807:=by
 subst e
 exact sz_rows (h _ hx)
theorem IndexFunc_ty (w0:World) (l:List Typ) (f:FuncId) (caps:List V) (p:Typ → Bool) (σ:H) (hp:∀ o ∈ l,DC Tryz.prog w0 f (o.v :: caps) σ (Same (B (p o)) σ)):DC Tryz.prog w0 254 [.c (.sl (l.map Typ.cs)),.fn f caps] σ (Same (I (idxI p l)) σ):=by
 refine k254.go rfl (fun hok hsz=>?_)
 have hlen:=sz_row_len hsz (List.mem_cons_self ..) rfl
 (refine W.a ?_;simp only [go_sem,seval,c254])
 refine W.loopP (fun i=>i ≤ l.length ∧ UpTo p l i) (fun i=>⟨((((base.put (some 0) (.c (.sl (l.map Typ.cs)))).put (some 1) (.fn f caps)).put (some 7) (I l.length)).put (some 8) (I i)),σ⟩) (fun i=>l.length - i) 0 ⟨Nat.zero_le _,upTo_zero⟩ ?_ (fun i hi=>?_)
 ·(refine Lew.env ?_;exact lee_here)
 ·obtain ⟨hi,hinv⟩:=hi
  by_cases hlt:i < l.length
  ·have h1:((i:Int) < (l.length:Int)):=by omega
   have hx:l[i]? = some l[i]:=List.getElem?_eq_getElem hlt
   (refine W.a ?_;simp only [go_sem,seval,h1])
   refine W.yes rfl (W.a ?_);simp only [go_sem,seval,h1,nat0,hx]
   (refine W.c1 (hp l[i] (List.getElem_mem hlt)) ?_;simp only [go_sem,seval])
   refine W.test rfl (fun h=>?_) (fun h=>?_)
   ·(refine W.a ?_;simp only [go_sem,seval])
    (refine W.ret (Fin.same hok (by simp only [resEval,r254,go_sem,seval];rfl) ?_ (by first | exact .c _ | (simp only [go_sem,seval];done)) (by first | exact ⟨[],(List.append_nil _).symm⟩ | exact ⟨_,rfl⟩));simp only [resV])
    rw [idxI_at hinv hlt h]
   ·have hw:=wrap_next hlt hlen
    (refine W.a ?_;simp only [go_sem,seval,hw])
    refine .inv ⟨i + 1,⟨hlt,upTo_next hinv hlt h⟩,by omega,?_⟩
    (refine Lew.env ?_;exact lee_here)
  ·have h1:¬ ((i:Int) < (l.length:Int)):=by omega
   (refine W.a ?_;simp only [go_sem,seval,h1])
   refine W.no rfl (W.a ?_);simp only [go_sem,seval]
   (refine W.ret (Fin.same hok (by simp only [resEval,r254,go_sem,seval];rfl) ?_ (by first | exact .c _ | (simp only [go_sem,seval];done)) (by first | exact ⟨[],(List.append_nil _).symm⟩ | exact ⟨_,rfl⟩));simp only [resV])
   rw [idxI_none (fun j hj=>hinv j hj (by omega))]
theorem idxI_geq {α:Type} (p:α → Bool) (l:List α):decide (idxI p l ≥ 0) = l.any p:=by
 rcases idxI_cases p l with ⟨h,h'⟩ | ⟨i,hi,h,h'⟩
 ·rw [h]
  rw [idxI_none_iff] at h
  have:l.any p = false:=by simpa using h
  rw [this];decide
 ·rw [h]
  have:l.any p = true:=by
   rw [List.any_eq_true];rw [List.find?_eq_some_iff_getElem] at h';exact ⟨l[i],List.getElem_mem hi,h'.1⟩
  rw [this];simp
theorem ContainsFunc_ty (w0:World) (l:List Typ) (f:FuncId) (caps:List V) (p:Typ → Bool) (σ:H) (hp:∀ o ∈ l,DC Tryz.prog w0 f (o.v :: caps) σ (Same (B (p o)) σ)):DC Tryz.prog w0 181 [.c (.sl (l.map Typ.cs)),.fn f caps] σ (Same (B (l.any p)) σ):=by
 refine k181.go rfl (fun hok hsz=>?_)
 (refine W.a ?_;simp only [go_sem,seval,c181])
 (refine W.c1 (IndexFunc_ty w0 l f caps p σ hp) ?_;simp only [go_sem,seval])
 (refine W.fs (hok) (by simp only [r181,go_sem,seval];rfl) ?_;simp only [resV];(first | exact V.wk.rfl _ | (refine wk_bool ?_;clear hsz hok;rw [idxI_geq] <;> ((try simp only [beq_iff_eq,beq_eq_false_iff_ne,ne_eq,decide_eq_true_eq,decide_eq_false_iff_not] at *);first | (exfalso;omega) | (simp [*];done) | (simp [*];omega) | (simp [*])))))
theorem any_all {α:Type} (l:List α) (p:α → Bool):(l.any fun q=>!p q) = !l.all p:=by
 induction l with
 | nil=>rfl
 | cons x l ih=>simp only [List.any_cons,List.all_cons,ih];cases p x <;> simp
theorem len_ne {n:Nat} (k:Nat):((n:Int) == (k:Int)) = (n == k):=by
 rw [Bool.eq_iff_iff];simp;omega
theorem ty_arrow (w0:World) (p:Typ) (σ:H):DC Tryz.prog w0 180 [p.v] σ (Same (B (arrowT p)) σ):=by
 refine k180.go rfl (fun hok hsz=>?_)
 have l2:=len_ne (n:=p.l.length) 2
 simp only [natCast2] at l2
 unfold arrowT
 ((refine W.a ?_;(try simp only [bne,go_sem,seval,c180,l2, *]));(repeat' (first | (refine W.yes rfl ?_;(refine W.a ?_;simp only [bne,go_sem,seval,c180,l2, *])) | (refine W.no rfl ?_;(refine W.a ?_;simp only [bne,go_sem,seval,c180,l2, *])) | (refine W.testn rfl (fun hT=>?_) (fun hT=>?_) <;> (refine W.a ?_;simp only [bne,go_sem,seval,c180,l2, *])) | (refine W.test rfl (fun hT=>?_) (fun hT=>?_) <;> (refine W.a ?_;simp only [bne,go_sem,seval,c180,l2, *])) | (refine advG_ifn _ _ _ _ (fun hT=>?_) (fun hT=>?_) <;> simp only [bne,go_sem,seval,c180,l2, *]) | (refine advG_if _ _ _ _ (fun hT=>?_) (fun hT=>?_) <;> simp only [bne,go_sem,seval,c180,l2, *]))))
 all_goals (refine W.fs (hok) (by simp only [r180,go_sem,seval];rfl) ?_;simp only [resV];(first | exact V.wk.rfl _ | (refine wk_bool ?_;clear hsz hok;((try simp only [beq_iff_eq,beq_eq_false_iff_ne,ne_eq,decide_eq_true_eq,decide_eq_false_iff_not] at *);first | (exfalso;omega) | (simp [*];done) | (simp [*];omega) | (simp [*])))))
theorem nodeT_eq (p:Typ):nodeT p = if p.k = 0 then isNameB p.name && p.n == 0 else if p.k = 1 then p.name == [] && decide (0 ≤ p.n) && decide (p.n ≤ 4611686018427387904) && p.l.length == 0 else if p.k = 2 then p.name == [] && p.n == 0 && arrowT p else false:=by
 unfold nodeT arrowT
 by_cases h2:p.k = 2
 ·simp [h2]
 ·simp [h2]
theorem ty_Valid1 (w0:World) (p:Typ) (b:Bool) (σ:H) (hp:∀ τ,DC Tryz.prog w0 93 [p.v] τ (Same (B b) τ)):DC Tryz.prog w0 182 [p.v] σ (Same (B (!b)) σ):=by
 refine k182.go rfl (fun hok hsz=>?_)
 (refine W.a ?_;simp only [go_sem,seval,c182])
 (refine W.c1 (hp _) ?_;simp only [go_sem,seval])
 (refine W.fs (hok) (by simp only [r182,go_sem,seval];rfl) ?_;simp only [resV];try exact V.wk.rfl _)
theorem ty_Valid (w0:World) (p:Typ):∀ (σ:H),DC Tryz.prog w0 93 [p.v] σ (Same (B (validT p)) σ):=by
 refine Typ.ind (P:=fun p=>∀ (σ:H),DC Tryz.prog w0 93 [p.v] σ (Same (B (validT p)) σ)) (fun p ih σ=>?_) p
 refine k93.go rfl (fun hok hsz=>?_)
 have hC:=fun σ=>ContainsFunc_ty w0 p.l 182 [] (fun q=>!validT q) σ (fun q hq=>ty_Valid1 w0 q _ _ (fun τ=>ih q hq τ))
 have l0:=len_ne (n:=p.l.length) 0
 have l2:=len_ne (n:=p.l.length) 2
 simp only [natCast0,natCast2] at l0 l2
 ((refine W.a ?_;(try simp only [bne,go_sem,seval,c93,l0,l2, *]));(repeat' (first | (refine W.yes rfl ?_;(refine W.a ?_;simp only [bne,go_sem,seval,c93,l0,l2, *])) | (refine W.no rfl ?_;(refine W.a ?_;simp only [bne,go_sem,seval,c93,l0,l2, *])) | (refine W.c1 (lex_IsNameD w0 p.name _) ?_;simp only [bne,go_sem,seval,c93,l0,l2, *]) | (refine W.c1 (ty_arrow w0 p _) ?_;simp only [bne,go_sem,seval,c93,l0,l2, *]) | (refine W.c1 (hC _) ?_;simp only [bne,go_sem,seval,c93,l0,l2, *]) | (refine W.testn rfl (fun hT=>?_) (fun hT=>?_) <;> (refine W.a ?_;simp only [bne,go_sem,seval,c93,l0,l2, *])) | (refine W.test rfl (fun hT=>?_) (fun hT=>?_) <;> (refine W.a ?_;simp only [bne,go_sem,seval,c93,l0,l2, *])) | (refine advG_ifn _ _ _ _ (fun hT=>?_) (fun hT=>?_) <;> simp only [bne,go_sem,seval,c93,l0,l2, *]) | (refine advG_if _ _ _ _ (fun hT=>?_) (fun hT=>?_) <;> simp only [bne,go_sem,seval,c93,l0,l2, *]))))
 all_goals (refine W.fs (hok) (by simp only [r93,go_sem,seval];rfl) ?_;simp only [resV];(first | exact V.wk.rfl _ | (refine wk_bool ?_;clear hsz hok;rw [validT_eq] <;> ((try simp only [beq_iff_eq,beq_eq_false_iff_ne,ne_eq,decide_eq_true_eq,decide_eq_false_iff_not] at *);first | (exfalso;omega) | (simp [nodeT_eq,any_all, *];done) | (simp [nodeT_eq,any_all, *];omega) | (simp [nodeT_eq,any_all, *])))))
end
section

def sdX (t:List Tok) (i:Int) (l:List OpT) (e p:Int):Blk:=.cells [.c (toksC t),I i,.c (opsC l),I e,I p]
attribute [local go_sem] sdX rz_len rz_g0 rz_g rz_s0 rz_s rz_sb
end
section
attribute [local go_sem] sdX rz_len rz_g0 rz_g rz_s0 rz_s rz_sb

end
section

end
section

end
section

end
section

end
section

end
section

end
section

end
section

end
section
attribute [local go_sem] strsC sdX rz_len rz_g0 rz_g rz_s0 rz_s rz_sb

def zeroB:Blk:=.cells [I 0,.csl [],I 0,I 0,S [],I 0,.csl [],S [],I 0,I 0,I 0,S [],I 0,.csl [],I 0,I 0]
attribute [local go_sem] zeroB
end
section
attribute [local go_sem] strsC sdX rz_len rz_g0 rz_g rz_s0 rz_s rz_sb zeroB Typ.v Typ.cs_eq tk_mk tname_mk tn_mk tl_mk tysC

end
section
attribute [local go_sem] strsC sdX rz_len rz_g0 rz_g rz_s0 rz_s rz_sb zeroB

end
section
attribute [local go_sem] strsC sdX rz_len rz_g0 rz_g rz_s0 rz_s rz_sb zeroB

end
section
def c287:AC:=.seq (.reg [.o 6 (.mov (.k (.csl [])))]) (.seq (.reg [.o 7 (.mov (.k (.csl [])))]) (.seq (.seq (.reg [.m 10 2,.o 11 (.lenr (.t 10)),.o 12 (.mov (zK 0))]) (.block 0 (.loop (.seq (.reg [.o 13 (.bin .lss (.t 12) (.t 11))]) (.seq (.cond (.t 13) (.skip) (.exit 0)) (.seq (.block 1 (.seq (.reg [.o 14 (.iadd 1 (.t 10) (.t 12)),.l 15 14,.m 9 15]) (.reg [.m 16 7,.m 17 9,.m 18 0,.m 19 1,.o 20 (.build [.c (.str []),.c (.int .i64 0),.c (.int .i64 0)] [(0,1,(.t 17)),(1,1,(.t 18)),(2,1,(.t 19))]),.o 21 (.bsl 3 [.t 20]),.o 22 (.app 75 3 32 (.t 16) (.t 21)),.m 7 22]))) (.reg [.o 23 (.bin .add (.t 12) (zK 1)),.m 12 23]))))))) (.seq (.reg [.m 24 7,.m 6 24]) (.ret))))
def r287:List ResV:=[.tmp 6]
theorem k287:CodeIs Tryz.prog 287 3 Tryz.f287 c287 r287:=.auto Tryz.func287
def c286:AC:=.seq (.reg [.o 2 (.mov (.k (.csl [])))]) (.seq (.reg [.o 3 (.mov (zK 0))]) (.seq (.seq (.reg [.m 9 0,.o 10 (.lenr (.t 9)),.o 11 (.mov (zK 0))]) (.block 0 (.loop (.seq (.reg [.o 12 (.bin .lss (.t 11) (.t 10))]) (.seq (.cond (.t 12) (.skip) (.exit 0)) (.seq (.block 1 (.seq (.reg [.o 13 (.iadd 1 (.t 9) (.t 11)),.l 14 13,.m 5 14]) (.seq (.reg [.m 15 3,.m 16 5,.o 17 (.lenr (.t 16)),.o 18 (.bin .add (.t 15) (.t 17)),.m 3 18]) (.seq (.reg [.m 19 3,.o 20 (.bin .lss (.t 19) (zK 0))]) (.cond (.t 20) (.reg [.o 21 (.bad),⟨none,.bad,none⟩]) (.skip)))))) (.reg [.o 22 (.bin .add (.t 11) (zK 1)),.m 11 22]))))))) (.seq (.reg [.m 23 3,.k 24 335 [(.k (.csl [])),.t 23],.m 6 24]) (.seq (.seq (.reg [.m 25 0,.o 26 (.lenr (.t 25)),.o 27 (.mov (zK 0))]) (.block 2 (.loop (.seq (.reg [.o 28 (.bin .lss (.t 27) (.t 26))]) (.seq (.cond (.t 28) (.skip) (.exit 2)) (.seq (.block 3 (.seq (.reg [.o 29 (.iadd 1 (.t 25) (.t 27)),.l 30 29,.m 8 30]) (.reg [.m 31 6,.m 32 8,.o 33 (.app 75 3 32 (.t 31) (.t 32)),.m 6 33]))) (.reg [.o 34 (.bin .add (.t 27) (zK 1)),.m 27 34]))))))) (.seq (.reg [.m 35 6,.m 2 35]) (.ret))))))
def r286:List ResV:=[.tmp 2]
theorem k286:CodeIs Tryz.prog 286 1 Tryz.f286 c286 r286:=.auto Tryz.func286
def c229:AC:=.seq (.reg [.o 0 (.mov (.k (.csl [])))]) (.seq (.reg [.o 1 (.bsl 1 [(.k (.c (.str [58,45])))]),.k 2 287 [(zK 10),(zK 0),.t 1],.o 3 (.bsl 1 [(.k (.c (.str [59])))]),.k 4 287 [(zK 20),(zK 2),.t 3],.o 5 (.bsl 1 [(.k (.c (.str [44])))]),.k 6 287 [(zK 30),(zK 2),.t 5],.o 7 (.bsl 1 [(.k (.c (.str [61,62])))]),.k 8 287 [(zK 40),(zK 2),.t 7],.o 9 (.bsl 1 [(.k (.c (.str [61]))),(.k (.c (.str [105,115]))),(.k (.c (.str [60]))),(.k (.c (.str [61,60]))),(.k (.c (.str [62]))),(.k (.c (.str [62,61])))]),.k 10 287 [(zK 60),(zK 0),.t 9],.o 11 (.bsl 1 [(.k (.c (.str [43]))),(.k (.c (.str [45])))]),.k 12 287 [(zK 80),(zK 1),.t 11],.o 13 (.bsl 1 [(.k (.c (.str [42]))),(.k (.c (.str [100,105,118]))),(.k (.c (.str [109,111,100])))]),.k 14 287 [(zK 90),(zK 1),.t 13],.o 15 (.bsl 1 [.t 2,.t 4,.t 6,.t 8,.t 10,.t 12,.t 14]),.k 16 286 [.t 15],.m 0 16]) (.ret))
def r229:List ResV:=[.tmp 0]
theorem k229:CodeIs Tryz.prog 229 0 Tryz.f229 c229 r229:=.auto Tryz.func229
end
section

end
section

theorem flat_take {α:Type} {ls:List (List α)} {i:Nat} (h:i < ls.length):(ls.take (i + 1)).flatten = (ls.take i).flatten ++ ls[i]:=by
 rw [List.take_add_one,List.getElem?_eq_getElem h,List.flatten_append]
 congr 1
 exact List.append_nil _
theorem flat_le {α:Type} {ls:List (List α)} (i:Nat):(ls.take i).flatten.length ≤ ls.flatten.length:=by
 have:ls.flatten = (ls.take i).flatten ++ (ls.drop i).flatten:=by rw [← List.flatten_append,List.take_append_drop]
 rw [this,List.length_append]
 omega
end
section

end
end Go.Proofs.YtpcmcfajfnpjeaaGreatDoor
namespace Go.Proofs.YtpcmcfajfnpjeaaGreatDoor
open Go.RowKit Go.Lamb
attribute [local go_sem] advO_skip advO_reg advO_seq advO_block advO_exit advO_endb advO_opsNil advO_ops advG_yes advG_no advG_none advS_some advS_none advO_cond advO_loop advO_dreg advO_ret advO_bad advO_inv advO_nil advO_zero wantedV Lamb.step ev_t ev_k put_some put_none argEnv popTo cellsAt V.cellsV V.rows V.sub V.toC toCs fillV bytesC byteRows appV rowsV boundV boundL binV binInt binStr eqC eqL V.isNil leaves V.leaf Ins.quiet Ins.pure List.getD_cons_zero List.getD_cons_succ List.getD_nil List.all_cons List.all_nil List.length_cons List.length_nil List.take_succ_cons List.take_zero List.drop_succ_cons List.drop_zero List.cons_append List.nil_append List.append_nil List.append_assoc List.map_cons List.map_nil List.getElem?_cons_zero List.getElem?_cons_succ List.length_append List.length_set hget0 hget hset0 hset hsets hgs0 hgs hss0 hss List.set_cons_zero List.set_cons_succ List.forall_mem_cons List.not_mem_nil false_implies implies_true Option.map_some Bool.and_true Bool.true_and Bool.not_not Bool.not_true Bool.not_false Bool.and_self Bool.or_true Bool.true_or Bool.or_false Bool.false_or Bool.and_false Bool.false_and Bool.false_eq_true beq_self_eq_true and_self and_true true_and if_true if_false Nat.zero_add Nat.add_zero Nat.le_refl Int.toNat_natCast decide_true decide_false beq_t beq_f List.length_map List.getElem?_map I S B opsC toksC OpT.v OpT.cs OpT.zero Tok.v Tok.cs Pre.v Pre.cs_eq k_mk name_mk n_mk l_mk pos_mk Pre.app applyL natCast0 natCast1 natCast2 AOp.o AOp.m AOp.f AOp.l AOp.d AOp.n AOp.x AOp.s AOp.k AOp.y AOp.z EOp.q low_c low_void low_any low_csl low_nilf low_ptr low_osl low_agg low_tup low_fn resEval advPO_nil advPO_loud advPO_quiet pL_yes pL_no pLS_some pLS_none pQ_yes pQ_no pQS_some pQS_loud eq_self Nat.sub_zero zK zT zF zS4
section
attribute [local go_sem] strsC sdX rz_len rz_g0 rz_g rz_s0 rz_s rz_sb zeroB

end
section
attribute [local go_sem] strsC rz_len rz_g0 rz_g rz_s0 rz_s rz_sb

end
end Go.Proofs.YtpcmcfajfnpjeaaGreatDoor
namespace Go.Proofs.YtpcmcfajfnpjeaaGreatDoor
open Go.RowKit Go.Lamb
attribute [local go_sem] advO_skip advO_reg advO_seq advO_block advO_exit advO_endb advO_opsNil advO_ops advG_yes advG_no advG_none advS_some advS_none advO_cond advO_loop advO_dreg advO_ret advO_bad advO_inv advO_nil advO_zero wantedV Lamb.step ev_t ev_k put_some put_none argEnv popTo cellsAt V.cellsV V.rows V.sub V.toC toCs fillV bytesC byteRows appV rowsV boundV boundL binV binInt binStr eqC eqL V.isNil leaves V.leaf Ins.quiet Ins.pure List.getD_cons_zero List.getD_cons_succ List.getD_nil List.all_cons List.all_nil List.length_cons List.length_nil List.take_succ_cons List.take_zero List.drop_succ_cons List.drop_zero List.cons_append List.nil_append List.append_nil List.append_assoc List.map_cons List.map_nil List.getElem?_cons_zero List.getElem?_cons_succ List.length_append List.length_set hget0 hget hset0 hset hsets hgs0 hgs hss0 hss List.set_cons_zero List.set_cons_succ List.forall_mem_cons List.not_mem_nil false_implies implies_true Option.map_some Bool.and_true Bool.true_and Bool.not_not Bool.not_true Bool.not_false Bool.and_self Bool.or_true Bool.true_or Bool.or_false Bool.false_or Bool.and_false Bool.false_and Bool.false_eq_true beq_self_eq_true and_self and_true true_and if_true if_false Nat.zero_add Nat.add_zero Nat.le_refl Int.toNat_natCast decide_true decide_false beq_t beq_f List.length_map List.getElem?_map I S B opsC toksC OpT.v OpT.cs OpT.zero Tok.v Tok.cs Pre.v Pre.cs_eq k_mk name_mk n_mk l_mk pos_mk Pre.app applyL natCast0 natCast1 natCast2 AOp.o AOp.m AOp.f AOp.l AOp.d AOp.n AOp.x AOp.s AOp.k AOp.y AOp.z EOp.q low_c low_void low_any low_csl low_nilf low_ptr low_osl low_agg low_tup low_fn resEval advPO_nil advPO_loud advPO_quiet pL_yes pL_no pLS_some pLS_none pQ_yes pQ_no pQS_some pQS_loud eq_self Nat.sub_zero zK zT zF zS4
section

end
section

end
end Go.Proofs.YtpcmcfajfnpjeaaGreatDoor
namespace Go.Proofs.YtpcmcfajfnpjeaaGreatDoor
open Go.RowKit Go.Lamb
def c75:AC:=.seq (.reg [.o 2 (.mov zF)]) (.seq (.reg [.m 3 0,.k 4 163 [.t 3],.m 5 4,.y 6 (.mov (.t 0)) 5,.y 7 (.index (.t 6) (zK 0)) 5,.y 8 (.call (.k (.fn 164 [])) [.t 7]) 5,.o 9 (.pick (.t 5) (.t 8) zF),.m 10 9,.y 11 (.mov (.t 0)) 10,.y 12 (.call (.k (.fn 165 [])) [.t 11,(.k (.fn 166 []))]) 10,.y 13 (.mov (.t 0)) 10,.y 14 (.lens (.t 13)) 10,.y 15 (.bin .eql (.t 12) (.t 14)) 10,.o 16 (.pick (.t 10) (.t 15) zF),.m 2 16]) (.ret))
def c76:AC:=.seq (.reg [.o 2 (.mov zF)]) (.seq (.reg [.m 3 0,.k 4 163 [.t 3],.m 5 4,.y 6 (.mov (.t 0)) 5,.y 7 (.call (.k (.fn 165 [])) [.t 6,(.k (.fn 167 []))]) 5,.y 8 (.mov (.t 0)) 5,.y 9 (.lens (.t 8)) 5,.y 10 (.bin .eql (.t 7) (.t 9)) 5,.y 11 (.mov (.t 10)) 5,.z 12 (.mov (.t 0)) 11,.z 13 (.lens (.t 12)) 11,.z 14 (.bin .eql (.t 13) (zK 1)) 11,.z 15 (.mov (.t 14)) 11,.y 16 (.mov (.t 0)) 15,.y 17 (.call (.k (.fn 168 [])) [(.k (.c (.str [44,59,33]))),.t 16]) 15,.z 18 (.pick (.t 15) (.t 17) zF) 11,.y 19 (.pick (.t 11) zT (.t 18)) 5,.o 20 (.pick (.t 5) (.t 19) zF),.m 2 20]) (.ret))


def tqX (t:List Tok) (i:Int) (v:Nat) (vs:List Str) (e p:Int):Blk:=.cells [.c (toksC t),I i,I e,I p,.osl v (strsR vs)]
attribute [local go_sem] tqX tyY rs_len rs_g0 rs_g rs_s0 rs_s rs_sv Typ.v Typ.cs_eq tk_mk tname_mk tn_mk tl_mk tysC
end Go.Proofs.YtpcmcfajfnpjeaaGreatDoor
namespace Go.Proofs.YtpcmcfajfnpjeaaGreatDoor
open Go.RowKit Go.Lamb

attribute [local go_sem] tqX tyY rs_len rs_g0 rs_g rs_s0 rs_s rs_sv Typ.v Typ.cs_eq tk_mk tname_mk tn_mk tl_mk tysC
end Go.Proofs.YtpcmcfajfnpjeaaGreatDoor
namespace Go.Proofs.YtpcmcfajfnpjeaaGreatDoor
open Go.RowKit Go.Lamb
attribute [local go_sem] tqX tyY rs_len rs_g0 rs_g rs_s0 rs_s rs_sv Typ.v Typ.cs_eq tk_mk tname_mk tn_mk tl_mk tysC

end Go.Proofs.YtpcmcfajfnpjeaaGreatDoor
namespace Go.Proofs.YtpcmcfajfnpjeaaGreatDoor
open Go.RowKit Go.Lamb
attribute [local go_sem] advO_skip advO_reg advO_seq advO_block advO_exit advO_endb advO_opsNil advO_ops advG_yes advG_no advG_none advS_some advS_none advO_cond advO_loop advO_dreg advO_ret advO_bad advO_inv advO_nil advO_zero wantedV Lamb.step ev_t ev_k put_some put_none argEnv popTo cellsAt V.cellsV V.rows V.sub V.toC toCs fillV bytesC byteRows appV rowsV boundV boundL binV binInt binStr eqC eqL V.isNil leaves V.leaf Ins.quiet Ins.pure List.getD_cons_zero List.getD_cons_succ List.getD_nil List.all_cons List.all_nil List.length_cons List.length_nil List.take_succ_cons List.take_zero List.drop_succ_cons List.drop_zero List.cons_append List.nil_append List.append_nil List.append_assoc List.map_cons List.map_nil List.getElem?_cons_zero List.getElem?_cons_succ List.length_append List.length_set hget0 hget hset0 hset hsets hgs0 hgs hss0 hss List.set_cons_zero List.set_cons_succ List.forall_mem_cons List.not_mem_nil false_implies implies_true Option.map_some Bool.and_true Bool.true_and Bool.not_not Bool.not_true Bool.not_false Bool.and_self Bool.or_true Bool.true_or Bool.or_false Bool.false_or Bool.and_false Bool.false_and Bool.false_eq_true beq_self_eq_true and_self and_true true_and if_true if_false Nat.zero_add Nat.add_zero Nat.le_refl Int.toNat_natCast decide_true decide_false beq_t beq_f List.length_map List.getElem?_map I S B opsC toksC OpT.v OpT.cs OpT.zero Tok.v Tok.cs Pre.v Pre.cs_eq k_mk name_mk n_mk l_mk pos_mk Pre.app applyL natCast0 natCast1 natCast2 AOp.o AOp.m AOp.f AOp.l AOp.d AOp.n AOp.x AOp.s AOp.k AOp.y AOp.z EOp.q low_c low_void low_any low_csl low_nilf low_ptr low_osl low_agg low_tup low_fn resEval advPO_nil advPO_loud advPO_quiet pL_yes pL_no pLS_some pLS_none pQ_yes pQ_no pQS_some pQS_loud eq_self Nat.sub_zero zK zT zF zS4
attribute [local go_sem] tqX tyY rs_len rs_g0 rs_g rs_s0 rs_s rs_sv Typ.v Typ.cs_eq tk_mk tname_mk tn_mk tl_mk tysC

theorem typ_len {p:Typ} {args:List V} (h:∀ y ∈ args,V.Sz y) (hx:p.v ∈ args):p.l.length ≤ 9223372036854775807:=by
 have:=h _ hx
 rw [Typ.v,sz_agg] at this
 exact sz_rows (this (.c (.sl (p.l.map Typ.cs))) (by simp))
end Go.Proofs.YtpcmcfajfnpjeaaGreatDoor
namespace Go.Proofs.YtpcmcfajfnpjeaaGreatDoor
open Go.RowKit Go.Lamb

theorem pre_len {p:Pre} {args:List V} (h:∀ y ∈ args,V.Sz y) (hx:p.v ∈ args):p.l.length ≤ 9223372036854775807:=by
 have:=h _ hx
 rw [Pre.v,sz_agg] at this
 exact sz_rows (this (.c (.sl (p.l.map Pre.cs))) (by simp))
def c59:AC:=.seq (.reg [.o 2 (.mov zF)]) (.seq (.seq (.reg [.m 5 0,.o 6 (.lens (.t 5)),.o 7 (.bin .lss (.t 6) (zK 1)),.m 8 7,.z 9 (.mov (.t 0)) 8,.z 10 (.lens (.t 9)) 8,.z 11 (.bin .gtr (.t 10) (zK 32)) 8,.o 12 (.pick (.t 8) zT (.t 11)),.m 13 12,.z 14 (.mov (.t 0)) 13,.z 15 (.index (.t 14) (zK 0)) 13,.z 16 (.call (.k (.fn 148 [])) [.t 15]) 13,.z 17 (.un .not (.t 16)) 13,.o 18 (.pick (.t 13) zT (.t 17))]) (.cond (.t 18) (.seq (.reg [.o 2 (.mov zF)]) (.ret)) (.skip))) (.seq (.seq (.reg [.o 3 (.mov (zK 0))]) (.block 0 (.loop (.seq (.seq (.reg [.m 19 3,.m 20 0,.o 21 (.lens (.t 20)),.o 22 (.bin .lss (.t 19) (.t 21))]) (.cond (.t 22) (.skip) (.exit 0))) (.seq (.block 1 (.seq (.reg [.m 25 0,.m 26 3,.o 27 (.index (.t 25) (.t 26)),.k 28 149 [.t 27],.m 4 28]) (.seq (.reg [.m 29 4,.o 30 (.un .not (.t 29))]) (.cond (.t 30) (.seq (.reg [.o 2 (.mov zF)]) (.ret)) (.skip))))) (.reg [.m 23 3,.o 24 (.bin .add (.t 23) (zK 1)),.m 3 24])))))) (.seq (.reg [.o 2 (.mov zT)]) (.ret))))
def r59:List ResV:=[.tmp 2]
theorem k59:CodeIs Tryz.prog 59 1 Tryz.f59 c59 r59:=.auto Tryz.func59
def c60:AC:=.seq (.reg [.o 2 (.mov zF)]) (.seq (.seq (.reg [.m 5 0,.o 6 (.bin .eql (.t 5) (.k (.c (.str [44])))),.m 7 6,.z 8 (.mov (.t 0)) 7,.z 9 (.bin .eql (.t 8) (.k (.c (.str [59])))) 7,.o 10 (.pick (.t 7) zT (.t 9)),.m 11 10,.z 12 (.mov (.t 0)) 11,.z 13 (.bin .eql (.t 12) (.k (.c (.str [33])))) 11,.o 14 (.pick (.t 11) zT (.t 13))]) (.cond (.t 14) (.seq (.reg [.o 2 (.mov zT)]) (.ret)) (.skip))) (.seq (.seq (.reg [.o 3 (.mov (zK 0))]) (.block 0 (.loop (.seq (.seq (.reg [.m 15 3,.m 16 0,.o 17 (.lens (.t 16)),.o 18 (.bin .lss (.t 15) (.t 17))]) (.cond (.t 18) (.skip) (.exit 0))) (.seq (.block 1 (.seq (.reg [.m 21 0,.m 22 3,.o 23 (.index (.t 21) (.t 22)),.k 24 150 [.t 23],.m 4 24]) (.seq (.reg [.m 25 4,.o 26 (.un .not (.t 25))]) (.cond (.t 26) (.seq (.reg [.o 2 (.mov zF)]) (.ret)) (.skip))))) (.reg [.m 19 3,.o 20 (.bin .add (.t 19) (zK 1)),.m 3 20])))))) (.seq (.reg [.m 27 0,.o 28 (.lens (.t 27)),.o 29 (.bin .geq (.t 28) (zK 1)),.m 30 29,.y 31 (.mov (.t 0)) 30,.y 32 (.lens (.t 31)) 30,.y 33 (.bin .leq (.t 32) (zK 32)) 30,.o 34 (.pick (.t 30) (.t 33) zF),.m 2 34]) (.ret))))
def r60:List ResV:=[.tmp 2]
theorem k60:CodeIs Tryz.prog 60 1 Tryz.f60 c60 r60:=.auto Tryz.func60
attribute [local go_sem] advO_skip advO_reg advO_seq advO_block advO_exit advO_endb advO_opsNil advO_ops advG_yes advG_no advG_none advS_some advS_none advO_cond advO_loop advO_dreg advO_ret advO_bad advO_inv advO_nil advO_zero wantedV Lamb.step ev_t ev_k put_some put_none argEnv popTo cellsAt V.cellsV V.rows V.sub V.toC toCs fillV bytesC byteRows appV rowsV boundV boundL binV binInt binStr eqC eqL V.isNil leaves V.leaf Ins.quiet Ins.pure List.getD_cons_zero List.getD_cons_succ List.getD_nil List.all_cons List.all_nil List.length_cons List.length_nil List.take_succ_cons List.take_zero List.drop_succ_cons List.drop_zero List.cons_append List.nil_append List.append_nil List.append_assoc List.map_cons List.map_nil List.getElem?_cons_zero List.getElem?_cons_succ List.length_append List.length_set hget0 hget hset0 hset hsets hgs0 hgs hss0 hss List.set_cons_zero List.set_cons_succ List.forall_mem_cons List.not_mem_nil false_implies implies_true Option.map_some Bool.and_true Bool.true_and Bool.not_not Bool.not_true Bool.not_false Bool.and_self Bool.or_true Bool.true_or Bool.or_false Bool.false_or Bool.and_false Bool.false_and Bool.false_eq_true beq_self_eq_true and_self and_true true_and if_true if_false Nat.zero_add Nat.add_zero Nat.le_refl Int.toNat_natCast decide_true decide_false beq_t beq_f List.length_map List.getElem?_map I S B opsC toksC OpT.v OpT.cs OpT.zero Tok.v Tok.cs Pre.v Pre.cs_eq k_mk name_mk n_mk l_mk pos_mk Pre.app applyL natCast0 natCast1 natCast2 AOp.o AOp.m AOp.f AOp.l AOp.d AOp.n AOp.x AOp.s AOp.k AOp.y AOp.z EOp.q low_c low_void low_any low_csl low_nilf low_ptr low_osl low_agg low_tup low_fn resEval advPO_nil advPO_loud advPO_quiet pL_yes pL_no pLS_some pLS_none pQ_yes pQ_no pQS_some pQS_loud eq_self Nat.sub_zero zK zT zF zS4
section

theorem DC.of_byte {w0:World} {f:FuncId} {c:UInt8} {b:Bool} {σ:H} (hen:Enters Tryz.prog f) (h:∀ w,Calls Tryz.prog f #[.int .u8 c.toNat] w (Ret (.bool b) w)):DC Tryz.prog w0 f [.c (.int .u8 c.toNat)] σ (Same (B b) σ):=by
 refine DC.of_calls hen fun κ w vs hrep hfit=>?_
 obtain ⟨v,ys,rfl,hv,hfit⟩:=hfit.cons_inv
 have:=hfit.nil_inv
 subst this
 cases hv with
 | c hv=>
   cases hv with
   | int _=>
     refine ⟨.bool b,.c (.bool b),(h w).mono ?_⟩;rintro e w' ⟨rfl,rfl⟩;exact ⟨rfl,Below.refl _ _⟩
theorem ref01_signD (w0:World) (c:UInt8) (σ:H):DC Tryz.prog w0 150 [.c (.int .u8 c.toNat)] σ (Same (B (signB c)) σ):=
 DC.of_byte (enters_fn Tryz.func150 (by kernel_rfl) rfl) fun w=>ref_sign c w
theorem fits_no {s:List UInt8} (h:32 < s.length):fitsB s = false:=by simp [fitsB];omega
theorem ref01_IsNameD (w0:World) (s:List UInt8) (σ:H):DC Tryz.prog w0 59 [S s] σ (Same (B (isNameB s)) σ):=by
 by_cases hs:s.length ≤ 1000000
 ·exact DC.of_text (enters_fn Tryz.func59 (by kernel_rfl) rfl) fun w _=>ref_IsName s w (by omega)
 ·refine k59.go rfl (fun hok hsz=>?_)
  have h1:¬ ((s.length:Int) < 1):=by omega
  have h2:((s.length:Int) > 32):=by omega
  (refine W.a ?_;simp only [go_sem,seval,c59,h1,h2])
  refine W.yes rfl (W.a ?_);simp only [go_sem,seval]
  (refine W.fs (hok) (by simp only [r59,go_sem,seval];rfl) ?_;simp only [resV];try exact V.wk.rfl _)
  rw [isNameB,fits_no (by omega)];exact .rfl _
theorem ref01_IsSymD (w0:World) (s:List UInt8) (σ:H):DC Tryz.prog w0 60 [S s] σ (Same (B (isSymB s)) σ):=by
 by_cases hs:s.length ≤ 1000000
 ·exact DC.of_text (enters_fn Tryz.func60 (by kernel_rfl) rfl) fun w _=>ref_IsSym s w (by omega)
 ·refine k60.go rfl (fun hok hsz=>?_)
  have hlen:s.length ≤ 9223372036854775807:=by have:=sz_text hsz (List.mem_cons_self ..);unfold maxLen at this;exact this
  have hne:∀ c:UInt8,(s == [c]) = false:=fun c=>by
   rw [beq_eq_false_iff_ne];intro e;rw [e] at hs;simp at hs
  have hF:isSymB s = false:=by rw [isSymB,fits_no (by omega)];rfl
  (refine W.a ?_;simp only [go_sem,seval,c60,hne])
  refine W.no rfl (W.a ?_);simp only [go_sem,seval];refine W.loopP (fun i=>i ≤ s.length) (fun i=>⟨((base.put (some 0) (S s)).put (some 3) (I (i:Nat))),σ⟩) (fun i=>s.length - i) 0 (Nat.zero_le _) ?_ (fun i hi=>?_)
  ·(refine Lew.env ?_;exact lee_here)
  ·by_cases hlt:i < s.length
   ·have h1:((i:Int) < (s.length:Int)):=by omega
    have hx:s[i]? = some s[i]:=List.getElem?_eq_getElem hlt
    have hw:=wrap_next hlt hlen
    (refine W.a ?_;simp only [go_sem,seval,h1])
    refine W.yes rfl (W.a ?_);simp only [go_sem,seval,h1,nat0,hx]
    (refine W.c1 (ref01_signD w0 s[i] _) ?_;simp only [go_sem,seval])
    refine W.testn rfl (fun h=>?_) (fun h=>?_)
    ·(refine W.a ?_;simp only [go_sem,seval,hw])
     refine .inv ⟨i + 1,hlt,by omega,?_⟩
     (refine Lew.env ?_;exact lee_here)
    ·(refine W.a ?_;simp only [go_sem,seval])
     (refine W.fs (hok) (by simp only [r60,go_sem,seval];rfl) ?_;simp only [resV];try exact V.wk.rfl _)
     rw [hF];exact .rfl _
   ·have h1:¬ ((i:Int) < (s.length:Int)):=by omega
    have h2:((s.length:Int) ≥ 1):=by omega
    have h3:¬ ((s.length:Int) ≤ 32):=by omega
    (refine W.a ?_;simp only [go_sem,seval,h1])
    refine W.no rfl (W.a ?_);simp only [go_sem,seval,h2,h3]
    (refine W.fs (hok) (by simp only [r60,go_sem,seval];rfl) ?_;simp only [resV];try exact V.wk.rfl _)
    rw [hF];exact .rfl _

end
section
attribute [local go_sem] Typ.v Typ.cs_eq tk_mk tname_mk tn_mk tl_mk tysC KdT.v KdT.cs NmT.v NmT.cs kdsC nmsC Sg.v

def findV (o:Option NmT):V:=.tup [(o.getD .none).ty.v,B o.isSome]
theorem sig_Find1 (w0:World) (x:NmT) (name:Str) (σ:H) (b:Nat) (hb:σ[b]? = some (.cells [S name])):DC Tryz.prog w0 71 [x.v,.ptr b 0] σ (Same (B (x.name == name)) σ):=by
 refine k71.go rfl (fun hok hsz=>?_)
 (refine W.a ?_;simp only [go_sem,seval,c71,hG hb])
 (refine W.fs (hok) (by simp only [r71,go_sem,seval];rfl) ?_;simp only [resV];try exact V.wk.rfl _)
theorem sig_firstN (w0:World) (l:List NmT) (f:FuncId) (caps:List V) (p:NmT → Bool) (σ:H) (hcaps:∀ k,V.low (σ.length + k) (.fn f caps)) (hp:∀ x L,DC Tryz.prog w0 f (NmT.v x :: caps) (σ ++ L) (Same (B (p x)) (σ ++ L))) :
  DC Tryz.prog w0 70 [.c (nmsC l),.fn f caps] σ (Same (.tup [((l.find? p).getD .none).v,B (l.find? p).isSome]) σ):=by
 generalize hF:V.fn f caps = F at hcaps
 refine k70.go rfl (fun hok hsz=>?_)
 have hlen:l.length ≤ 9223372036854775807:=sz_rows (f:=NmT.cs) (hsz _ (List.mem_cons_self ..))
 (refine W.a ?_;simp only [go_sem,seval,c70])
 refine W.loopP (fun i=>i ≤ l.length ∧ UpTo p l i) (fun i=>⟨((((((base.put (some 1) (F)).put (some 4) (.ptr σ.length 0)).put (some 5) (B false)).put (some 9) (.c (nmsC l))).put (some 10) (I l.length)).put (some 11) (I (i:Nat))),σ ++ [.cells [S [],I 0,S [],I 0,.csl []]]⟩) (fun i=>l.length - i) 0 ⟨Nat.zero_le _,upTo_zero⟩ ?_ (fun i hi=>?_)
 ·(refine Lew.env ?_;exact lee_here)
 ·obtain ⟨hi,hinv⟩:=hi
  by_cases hlt:i < l.length
  ·have h1:((i:Int) < (l.length:Int)):=by omega
   have hx:l[i]? = some l[i]:=List.getElem?_eq_getElem hlt
   have hw:IntKind.i64.wrap ((i:Int) + 1) = ((i + 1:Nat):Int):=wrap_next hlt hlen
   (refine W.a ?_;simp only [go_sem,seval,h1])
   refine W.yes rfl (W.a ?_);simp only [go_sem,seval,h1,nat0,hx];refine W.c1 (hp l[i] _) ?_ (hf:=hF.symm);simp only [go_sem,seval];refine W.test rfl (fun h=>?_) (fun h=>?_)
   ·(refine W.a ?_;simp only [go_sem,seval])
    rw [find_at hinv hlt h]
    (refine W.fg (hok) (d:=.tup [l[i].v,B true]) (by simp only [r70,go_sem,seval];rfl) (by simp only [resV,go_sem,seval];exact wk_here) ?_)
    exact ⟨rfl,rfl⟩
   ·(refine W.a ?_;simp only [go_sem,seval,hw])
    refine .inv ⟨i + 1,⟨hlt,upTo_next hinv hlt h⟩,by omega,?_⟩
    (refine Lew.cutL (hok) ?_ (by simp) (by simp) ?_ ?_ ?_;exact lee_here;((try simp only [okB,wkB,go_sem,seval,hcaps]) <;> omega);(simp only [List.length_cons,List.length_nil,Nat.reduceAdd,List.take_succ_cons,List.take_zero,wkB,and_true];(repeat' (refine And.intro ?_ ?_)) <;> (first | exact Blk.wk.rfl _ | exact Blk.wk.gone _ | (refine Blk.wk_cells ?_ rfl;(exact wk_here))));(repeat' (first | exact LowE.base _ | (refine LowE.put ?_ (by first | exact .c _ | ((try simp only [okB,wkB,go_sem,seval,hcaps]) <;> omega))))))
  ·have h1:¬ ((i:Int) < (l.length:Int)):=by omega
   (refine W.a ?_;simp only [go_sem,seval,h1])
   refine W.no rfl (W.a ?_);simp only [go_sem,seval];rw [find_no hinv (by omega)]
   (refine W.fg (hok) (d:=.tup [NmT.none.v,B false]) (by simp only [r70,go_sem,seval,NmT.none,Typ.none];rfl) (by simp only [resV,go_sem,seval,NmT.none,Typ.none];exact wk_here) ?_ (hl:=by (first | exact .c _ | (simp only [go_sem,seval,NmT.none,Typ.none];done))))
   exact ⟨rfl,rfl⟩
theorem low_cap (n b f:Nat) (h:b < n) (k:Nat):V.low (n + k) (.fn f [.ptr b 0]):=(low_fn _ _ _).2 (fun x hx=>by simp only [List.mem_singleton] at hx;subst hx;exact .ptr (by omega))
theorem sig_Find (w0:World) (s:Sg) (name:Str) (σ:H):DC Tryz.prog w0 21 [s.v,S name] σ (Same (findV (findN s.types name)) σ):=by
 refine k21.go rfl (fun hok hsz=>?_)
 have hc0:=sig_firstN w0 s.types 71 [.ptr (σ.length + 1) 0] (·.name == name) (σ ++ [.cells s.v.cellsV,.cells [S name],.cells [I 0,S [],I 0,.csl []]]) (low_cap _ _ _ (by simp)) (fun x L=>sig_Find1 w0 x name _ _ (by rw [List.append_assoc,hget];rfl))
 unfold findN findV
 generalize s.types.find? (·.name == name) = r at hc0
 (refine W.a ?_;simp only [go_sem,seval,c21])
 (refine W.c1 (hc0) ?_;simp only [go_sem,seval])
 (refine W.fg (hok) (d:=.tup [(r.getD .none).ty.v,B r.isSome]) (by simp only [r21,go_sem,seval];rfl) (by simp only [resV,go_sem,seval];exact wk_here) ?_)
 exact ⟨rfl,rfl⟩
end
section
attribute [local go_sem] Typ.v Typ.cs_eq tk_mk tname_mk tn_mk tl_mk tysC KdT.v KdT.cs NmT.v NmT.cs kdsC nmsC Sg.v

def logicalB (name:Str):Bool:=logicals.any (name == ·)
theorem sig_Logical (w0:World) (name:Str) (σ:H):DC Tryz.prog w0 221 [S name] σ (Same (B (logicalB name)) σ):=by
 refine k221.go rfl (fun hok hsz=>?_)
 ((refine W.a ?_;(try simp only [bne,go_sem,seval,c221, *]));(repeat' (first | (refine W.yes rfl ?_;(refine W.a ?_;simp only [bne,go_sem,seval,c221, *])) | (refine W.no rfl ?_;(refine W.a ?_;simp only [bne,go_sem,seval,c221, *])) | (refine W.testn rfl (fun hT=>?_) (fun hT=>?_) <;> (refine W.a ?_;simp only [bne,go_sem,seval,c221, *])) | (refine W.test rfl (fun hT=>?_) (fun hT=>?_) <;> (refine W.a ?_;simp only [bne,go_sem,seval,c221, *])) | (refine advG_ifn _ _ _ _ (fun hT=>?_) (fun hT=>?_) <;> simp only [bne,go_sem,seval,c221, *]) | (refine advG_if _ _ _ _ (fun hT=>?_) (fun hT=>?_) <;> simp only [bne,go_sem,seval,c221, *]))))
 all_goals (refine W.fs (hok) (by simp only [r221,go_sem,seval];rfl) ?_;simp only [resV];(first | exact V.wk.rfl _ | (refine wk_bool ?_;clear hsz hok;rw [logicalB] <;> ((try simp only [beq_iff_eq,beq_eq_false_iff_ne,ne_eq,decide_eq_true_eq,decide_eq_false_iff_not] at *);first | (exfalso;omega) | (simp [logicals, *];done) | (simp [logicals, *];omega) | (simp [logicals, *])))))
theorem ref11_Logical (w0:World) (name:Str) (σ:H):DC Tryz.prog w0 130 [S name] σ (Same (B (logicalB name)) σ):=by
 refine k130.go rfl (fun hok hsz=>?_)
 have hl:logicals.length = 15:=rfl
 have hlr:(strsR logicals).length = 15:=rfl
 (refine W.a ?_;simp only [go_sem,seval,c130])
 refine W.loopP (fun i=>i ≤ logicals.length ∧ UpTo (name == ·) logicals i) (fun i=>⟨((((base.put (some 0) (S name)).put (some 2) (B false)).put (some 3) (.csl (strsR logicals))).put (some 4) (I (i:Nat))),σ⟩) (fun i=>logicals.length - i) 0 ⟨Nat.zero_le _,upTo_zero⟩ ?_ (fun i hi=>?_)
 ·(refine Lew.env ?_;exact lee_here)
 ·obtain ⟨hi,hinv⟩:=hi
  by_cases hlt:i < logicals.length
  ·have h1:((i:Int) < 15):=by omega
   have hx:(strsR logicals)[i]? = some [C.str logicals[i]]:=by simp [strsR,hlt]
   have hw:IntKind.i64.wrap ((i:Int) + 1) = ((i + 1:Nat):Int):=by rw [wrap_in] <;> omega
   generalize hq:logicals[i] = q at hx
   have hc:(q == name) = (name == q):=by rw [Bool.eq_iff_iff,beq_iff_eq,beq_iff_eq];exact eq_comm
   (refine W.a ?_;simp only [go_sem,seval,hlr,h1,Int.cast_ofNat_Int])
   refine W.yes rfl (W.a ?_);simp only [go_sem,seval,hlr,h1,nat0,hx,hc,Int.cast_ofNat_Int];refine W.test rfl (fun h=>?_) (fun h=>?_)
   ·(refine W.a ?_;simp only [go_sem,seval])
    have:logicalB name = true:=List.any_eq_true.2 ⟨_,List.getElem_mem hlt,by rw [hq];exact h⟩
    rw [this]
    (refine W.fs (hok) (by simp only [r130,go_sem,seval];rfl) ?_;simp only [resV];try exact V.wk.rfl _)
   ·(refine W.a ?_;simp only [go_sem,seval,hw])
    refine .inv ⟨i + 1,⟨hlt,upTo_next hinv hlt (by rw [hq];exact h)⟩,by omega,?_⟩
    (refine Lew.env ?_;exact lee_here)
  ·have h1:¬ ((i:Int) < 15):=by omega
   (refine W.a ?_;simp only [go_sem,seval,hlr,h1,Int.cast_ofNat_Int])
   refine W.no rfl (W.a ?_);simp only [go_sem,seval]
   have:logicalB name = false:=List.any_eq_false.2 fun x hx=>by
    obtain ⟨j,hj,rfl⟩:=List.getElem_of_mem hx
    have:=hinv j hj (by omega)
    simpa using this
   rw [this]
   (refine W.fs (hok) (by simp only [r130,go_sem,seval];rfl) ?_;simp only [resV];try exact V.wk.rfl _)
end
section
def c174:AC:=.seq (.reg [.o 2 (.mov (.k (.csl [])))]) (.seq (.seq (.reg [.m 3 0,.o 4 (.eqz false (.t 3))]) (.cond (.t 4) (.seq (.reg [.o 2 (.mov (.k (.csl [])))]) (.ret)) (.skip))) (.seq (.reg [.o 5 (.bsl 4 []),.m 6 0,.o 7 (.app 30 4 56 (.t 5) (.t 6)),.m 2 7]) (.ret)))
def r174:List ResV:=[.tmp 2]
theorem k174:CodeIs Tryz.prog 174 1 Tryz.f174 c174 r174:=.auto Tryz.func174
end
section
theorem clone_opR (w0:World) (l:List (List C)) (hb3:∀ r ∈ l,r.length = 3) (hn:l.length ≤ 1000000) (σ:H):DC Tryz.prog w0 210 [.c (.sl l)] σ (Same (.osl σ.length l) (σ ++ [.spare 75 3 l.length])):=by
 refine k210.goN rfl (fun hok hsz=>?_)
 have hb1:l.length * 32 ≤ 140737488355328:=by omega
 have hb2:l.length ≤ 140737488355328:=by omega
 (refine W.a ?_;simp only [go_sem,seval,c210])
 refine W.opsFork rfl rfl rfl (fun b hb=>?_)
 cases b
 ·(refine W.a ?_;simp only [go_sem,seval])
  refine W.no rfl (W.a ?_);simp only [go_sem,seval,hb1,hb2,eq_true hb3,true_or];refine W.ret ⟨_,_,rfl,.rfl _,?_⟩;exact ⟨rfl,rfl⟩
 ·have hl:l = []:=by simpa using hb rfl
  subst hl
  (refine W.a ?_;simp only [go_sem,seval])
  refine W.yes rfl (W.a ?_);simp only [go_sem,seval];refine W.own 2 75 3 rfl ?_;exact W.ret ⟨_,_,rfl,.rfl _,rfl,rfl⟩
theorem clone_kdR (w0:World) (l:List (List C)) (hb3:∀ r ∈ l,r.length = 2) (hn:l.length ≤ 1000000) (σ:H):DC Tryz.prog w0 209 [.c (.sl l)] σ (Same (.osl σ.length l) (σ ++ [.spare 164 2 l.length])):=by
 refine k209.goN rfl (fun hok hsz=>?_)
 have hb1:l.length * 24 ≤ 140737488355328:=by omega
 have hb2:l.length ≤ 140737488355328:=by omega
 (refine W.a ?_;simp only [go_sem,seval,c209])
 refine W.opsFork rfl rfl rfl (fun b hb=>?_)
 cases b
 ·(refine W.a ?_;simp only [go_sem,seval])
  refine W.no rfl (W.a ?_);simp only [go_sem,seval,hb1,hb2,eq_true hb3,true_or];refine W.ret ⟨_,_,rfl,.rfl _,?_⟩;exact ⟨rfl,rfl⟩
 ·have hl:l = []:=by simpa using hb rfl
  subst hl
  (refine W.a ?_;simp only [go_sem,seval])
  refine W.yes rfl (W.a ?_);simp only [go_sem,seval];refine W.own 2 164 2 rfl ?_;exact W.ret ⟨_,_,rfl,.rfl _,rfl,rfl⟩
theorem clone_nmR (w0:World) (l:List (List C)) (hb3:∀ r ∈ l,r.length = 5) (hn:l.length ≤ 1000000) (σ:H):DC Tryz.prog w0 196 [.c (.sl l)] σ (Same (.osl σ.length l) (σ ++ [.spare 68 5 l.length])):=by
 refine k196.goN rfl (fun hok hsz=>?_)
 have hb1:l.length * 72 ≤ 140737488355328:=by omega
 have hb2:l.length ≤ 140737488355328:=by omega
 (refine W.a ?_;simp only [go_sem,seval,c196])
 refine W.opsFork rfl rfl rfl (fun b hb=>?_)
 cases b
 ·(refine W.a ?_;simp only [go_sem,seval])
  refine W.no rfl (W.a ?_);simp only [go_sem,seval,hb1,hb2,eq_true hb3,true_or];refine W.ret ⟨_,_,rfl,.rfl _,?_⟩;exact ⟨rfl,rfl⟩
 ·have hl:l = []:=by simpa using hb rfl
  subst hl
  (refine W.a ?_;simp only [go_sem,seval])
  refine W.yes rfl (W.a ?_);simp only [go_sem,seval];refine W.own 2 68 5 rfl ?_;exact W.ret ⟨_,_,rfl,.rfl _,rfl,rfl⟩
theorem clone_tmN (w0:World) (l:List (List C)) (hl0:l = []) (σ:H):DC Tryz.prog w0 174 [.c (.sl l)] σ (Same (.osl σ.length l) (σ ++ [.spare 30 4 l.length])):=by
 refine k174.goN rfl (fun hok hsz=>?_)
 have hln:l.length = 0:=by rw [hl0];rfl
 have hb3:∀ r ∈ l,r.length = 4:=fun r hr=>by rw [hl0] at hr;cases hr
 have hb1:l.length * 56 ≤ 140737488355328:=by omega
 have hb2:l.length ≤ 140737488355328:=by omega
 (refine W.a ?_;simp only [go_sem,seval,c174])
 refine W.opsFork rfl rfl rfl (fun b hb=>?_)
 cases b
 ·(refine W.a ?_;simp only [go_sem,seval])
  refine W.no rfl (W.a ?_);simp only [go_sem,seval,hb1,hb2,eq_true hb3,true_or];refine W.ret ⟨_,_,rfl,.rfl _,?_⟩;exact ⟨rfl,rfl⟩
 ·subst hl0
  (refine W.a ?_;simp only [go_sem,seval])
  refine W.yes rfl (W.a ?_);simp only [go_sem,seval];refine W.own 2 30 4 rfl ?_;exact W.ret ⟨_,_,rfl,.rfl _,rfl,rfl⟩
theorem tmInfo:(Tryz.prog.info? 30).map (fun i=>(i.zero,i.size,i.bytes)) = some (some (.agg #[.int .i64 0,.string ⟨#[]⟩,.int .i64 0,.slice none 0 0]),4,56):=by kernel_rfl
theorem made_rowT (w:World) (n:Nat) (hn:n ≤ 30000000000) (zc:Array Value) (hz:zc.size = 4) :
  (w.alloc (.cells (Builtin.zeroCells zc n ++ Builtin.zeroCells zc (grownCap w n 0 30 - n)) 30)).drew.ownsRow w.heap.size 30 4 (.slice (some ⟨w.heap.size,0,none⟩) 0 (grownCap w n 0 30)) 0 []:=by
 have hge:=grownCap_ge w n 0 30
 refine ⟨by simp,.inr ⟨w.heap.size,_,_,rfl,Nat.le_refl _,heap_alloc_new w _,Nat.zero_le _,grownCap_le_maxLen w n 0 30 (by unfold maxLen;omega),?_,by simp⟩⟩
 simp only [Array.size_append,size_zeroCells,hz]
 omega
set_option maxHeartbeats 4000000 in
set_option maxRecDepth 100000 in
theorem grow_tm (A:Option Addr) (n:Nat) (w:World) (hn:n ≤ 30000000000):Calls Tryz.prog 219 #[.slice A 0 0,.int .i64 n] w (fun e w'=>∃ v,e = .returned v ∧ Below w.heap.size w w' ∧ Roomy w w' 30 4 v):=by
 by_cases h0:n = 0
 ·subst h0
  cases A
  ·go_enter Tryz.func219,Tryz.ntmps219
   go_wp2_with fail
   go_ret
   exact ⟨_,rfl,Below.refl _ _,.inl ⟨_,rfl⟩⟩
  ·go_enter Tryz.func219,Tryz.ntmps219
   go_wp2_with fail
   go_ret
   exact ⟨_,rfl,Below.refl _ _,.inl ⟨_,rfl⟩⟩
 ·obtain ⟨i0,hi0,hz0,hz1,hz2⟩:=info_parts tmInfo
  have h1:¬ ((n:Int) < 0):=by omega
  have h2:(n:Int) > 0:=by omega
  have hw:IntKind.i64.wrap (n:Int) = n:=by rw [wrap_in] <;> omega
  cases A
  case none=>
   have hr:=Lib.run_append_grow_zeros (P:=Tryz.prog) w 28 3 28 30 i0 _ .i64 .i64 Tryz.underlying28 Tryz.underlying3 hi0 hz0 none 0 0 [] (run_firstCells (by simp) (by simp)) n (by omega) (by rw [hz1];decide) (by omega) (by omega) (by rw [hz2];omega) (growslice_fits (by omega) (by rw [hz2];omega))
   go_enter Tryz.func219,Tryz.ntmps219
   go_wp2_with (first
    | (at_builtin;refine Lib.wpList_append_run w rfl (.tmp 20) (.tmp 21) 28 3 rfl _ _ rfl rfl _ _ hr ?_))
   go_ret
   exact ⟨_,rfl,made_below w _,.inr (made_rowT w n hn _ rfl)⟩
  case some a=>
   have hr:=Lib.run_append_grow_zeros (P:=Tryz.prog) w 28 3 28 30 i0 _ .i64 .i64 Tryz.underlying28 Tryz.underlying3 hi0 hz0 (some a) 0 0 [] (run_firstCells (by simp) (by simp)) n (by omega) (by rw [hz1];decide) (by omega) (by omega) (by rw [hz2];omega) (growslice_fits (by omega) (by rw [hz2];omega))
   go_enter Tryz.func219,Tryz.ntmps219
   go_wp2_with (first
    | (at_builtin;refine Lib.wpList_append_run w rfl (.tmp 20) (.tmp 21) 28 3 rfl _ _ rfl rfl _ _ hr ?_))
   go_ret
   exact ⟨_,rfl,made_below w _,.inr (made_rowT w n hn _ rfl)⟩
theorem slices_GrowT (w0:World) (n:Nat) (hn:n ≤ 30000000000) (σ:H):DC Tryz.prog w0 219 [.csl [],I n] σ (Same (.osl σ.length []) (σ ++ [.spare 30 4 0])):=by
 refine DC.of_room (enters_fn Tryz.func219 (by kernel_rfl) rfl) fun κ w vs hrep hfit=>?_
 obtain ⟨v,ys,rfl,hv,hfit⟩:=hfit.cons_inv
 obtain ⟨u,zs,rfl,hu,hfit⟩:=hfit.cons_inv
 have:=hfit.nil_inv
 subst this
 cases hv with
 | csl h1=>
   rename_i A
   cases hu with
   | c hu=>
     cases hu with
     | int=>exact grow_tm A n w hn
end
section
def c20:AC:=.seq (.reg [.o 2 (.box (.t 0)),.o 3 (.box (.t 1)),.o 4 (.mov (.k (.nilf)))]) (.seq (.reg [.o 5 (.box (.k (.csl [])))]) (.seq (.reg [.o 6 (.box (zK 0)),⟨none,.store 1 (.t 6) (zK 0),none⟩]) (.seq (.reg [.o 8 (.mkfn 65 [.t 2,.t 3]),.o 7 (.box (.k (.nilf))),.s 1 7 8]) (.seq (.reg [.o 9 (.mkfn 68 [.t 5,.t 6,.t 7]),.m 4 9]) (.ret)))))
def c42:AC:=.seq (.reg [.o 2 (.box (.t 0)),.o 4 (.box (.k (.agg zS4)))]) (.seq (.seq (.reg [.m 6 1,.o 7 (.lenr (.t 6)),.o 8 (.bin .eql (.t 7) (zK 0))]) (.cond (.t 8) (.seq (.reg [.d 9 4 2,.s 4 4 9]) (.ret)) (.skip))) (.seq (.reg [.d 10 4 2,.o 11 (.bsl 4 [.t 10]),.m 5 11]) (.seq (.seq (.reg [.f 12 0 2,.l 13 12,.o 14 (.bin .eql (.t 13) (zK 6)),.m 15 14,.y 16 (.fadd 3 (.t 2)) 15,.y 17 (.load1 (.t 16)) 15,.y 18 (.lenr (.t 17)) 15,.y 19 (.bin .gtr (.t 18) (zK 0)) 15,.o 20 (.pick (.t 15) (.t 19) zF)]) (.cond (.t 20) (.reg [.f 21 3 2,.l 22 21,.m 5 22]) (.skip))) (.seq (.reg [.m 23 5,.m 24 1,.o 25 (.bsl 1 [.t 23,.t 24]),.k 26 124 [.t 25],.o 27 (.build zS4 [(0,1,(zK 6)),(3,1,(.t 26))]),.s 4 4 27]) (.ret)))))
def r42:List ResV:=[.celln 4 4]
theorem k42:CodeIs Tryz.prog 42 2 Tryz.f42 c42 r42:=.auto Tryz.func42
def c44:AC:=.seq (.reg [.o 3 (.box (.t 1)),.o 4 (.box (.k (.agg zS4)))]) (.seq (.seq (.reg [.m 5 0,.o 6 (.mx (.t 5) (zK 0)),.o 7 (.mov (zK 0))]) (.block 0 (.loop (.seq (.reg [.o 8 (.bin .lss (.t 7) (.t 6))]) (.seq (.cond (.t 8) (.skip) (.exit 0)) (.seq (.block 1 (.reg [.d 9 4 3,.o 10 (.bsl 4 [.t 9]),.o 11 (.build zS4 [(0,1,(zK 5)),(3,1,(.t 10))]),.s 4 3 11])) (.reg [.o 12 (.bin .add (.t 7) (zK 1)),.m 7 12]))))))) (.seq (.reg [.d 13 4 3,.s 4 4 13]) (.ret)))
def r44:List ResV:=[.celln 4 4]
theorem k44:CodeIs Tryz.prog 44 2 Tryz.f44 c44 r44:=.auto Tryz.func44
def c80:AC:=.seq (.reg [.o 3 (.box (.t 0))]) (.seq (.reg [.f 5 0 3,.l 6 5,.o 7 (.bin .eql (.t 6) (zK 4)),.m 8 7,.y 9 (.load1 (.t 2)) 8,.y 10 (.fadd 2 (.t 3)) 8,.y 11 (.load1 (.t 10)) 8,.y 12 (.call (.k (.fn 81 [])) [.t 9,.t 11]) 8,.y 13 (.un .not (.t 12)) 8,.o 14 (.pick (.t 8) (.t 13) zF)]) (.cond (.t 14) (.reg [.l 15 2,.f 16 2 3,.l 17 16,.o 18 (.bsl 1 [.t 17]),.o 19 (.app 3 1 8 (.t 15) (.t 18)),.s 1 2 19]) (.skip)))
def c85:AC:=.seq (.reg [.o 2 (.box (.t 0)),.o 4 (.box (.k (.agg zS4)))]) (.seq (.seq (.reg [.f 9 0 2,.l 10 9,.o 11 (.bin .eql (.t 10) (zK 4))]) (.cond (.t 11) (.seq (.reg [.m 13 1,.f 14 2 2,.l 15 14,.o 16 (.look true (.i .i64) (.int .i64 0) (.t 13) (.t 15)),.m 12 16,.x 17 12 0,.x 18 12 1,.m 5 17,.m 6 18]) (.seq (.seq (.reg [.m 19 6,.o 20 (.un .not (.t 19))]) (.cond (.t 20) (.seq (.reg [.m 21 1,.o 22 (.lenm (.t 21)),.m 5 22]) (.reg [.m 23 1,.f 24 2 2,.l 25 24,.m 26 5,⟨none,.mupd (.i .i64) (.t 23) (.t 25) (.t 26),none⟩])) (.skip))) (.seq (.reg [.m 27 5,.f 28 2 2,.s 1 28 27]) (.seq (.reg [.d 29 4 2,.s 4 4 29]) (.ret))))) (.skip))) (.seq (.reg [.f 30 3 2,.l 31 30,.k 32 174 [.t 31],.m 7 32]) (.seq (.seq (.reg [.m 33 7,.o 34 (.lenr (.t 33)),.o 35 (.mov (zK 0))]) (.block 0 (.loop (.seq (.reg [.o 36 (.bin .lss (.t 35) (.t 34))]) (.seq (.cond (.t 36) (.skip) (.exit 0)) (.seq (.block 1 (.seq (.reg [.m 37 35,.m 8 37]) (.reg [.m 38 7,.m 39 8,.m 40 7,.m 41 8,.o 42 (.iadd 4 (.t 40) (.t 41)),.d 43 4 42,.m 44 1,.k 45 85 [.t 43,.t 44],.o 46 (.iadd 4 (.t 38) (.t 39)),.s 4 46 45]))) (.reg [.o 47 (.bin .add (.t 35) (zK 1)),.m 35 47]))))))) (.seq (.reg [.m 48 7,.f 49 3 2,.s 1 49 48]) (.seq (.reg [.d 50 4 2,.s 4 4 50]) (.ret))))))
def c124:AC:=.seq (.reg [.o 2 (.mov (.k (.csl [])))]) (.seq (.reg [.o 3 (.mov (zK 0))]) (.seq (.seq (.reg [.m 9 0,.o 10 (.lenr (.t 9)),.o 11 (.mov (zK 0))]) (.block 0 (.loop (.seq (.reg [.o 12 (.bin .lss (.t 11) (.t 10))]) (.seq (.cond (.t 12) (.skip) (.exit 0)) (.seq (.block 1 (.seq (.reg [.o 13 (.iadd 1 (.t 9) (.t 11)),.l 14 13,.m 5 14]) (.seq (.reg [.m 15 3,.m 16 5,.o 17 (.lenr (.t 16)),.o 18 (.bin .add (.t 15) (.t 17)),.m 3 18]) (.seq (.reg [.m 19 3,.o 20 (.bin .lss (.t 19) (zK 0))]) (.cond (.t 20) (.reg [.o 21 (.bad),⟨none,.bad,none⟩]) (.skip)))))) (.reg [.o 22 (.bin .add (.t 11) (zK 1)),.m 11 22]))))))) (.seq (.reg [.m 23 3,.k 24 219 [(.k (.csl [])),.t 23],.m 6 24]) (.seq (.seq (.reg [.m 25 0,.o 26 (.lenr (.t 25)),.o 27 (.mov (zK 0))]) (.block 2 (.loop (.seq (.reg [.o 28 (.bin .lss (.t 27) (.t 26))]) (.seq (.cond (.t 28) (.skip) (.exit 2)) (.seq (.block 3 (.seq (.reg [.o 29 (.iadd 1 (.t 25) (.t 27)),.l 30 29,.m 8 30]) (.reg [.m 31 6,.m 32 8,.o 33 (.app 30 4 56 (.t 31) (.t 32)),.m 6 33]))) (.reg [.o 34 (.bin .add (.t 27) (zK 1)),.m 27 34]))))))) (.seq (.reg [.m 35 6,.m 2 35]) (.ret))))))
def r124:List ResV:=[.tmp 2]
theorem k124:CodeIs Tryz.prog 124 1 Tryz.f124 c124 r124:=.auto Tryz.func124
def c143:AC:=.seq (.reg [.o 2 (.mov (zK 0))]) (.seq (.reg [.o 3 (.mov (zK 0))]) (.seq (.seq (.reg [.m 8 0,.o 9 (.lenr (.t 8)),.o 10 (.mov (zK 0))]) (.block 0 (.loop (.seq (.reg [.o 11 (.bin .lss (.t 10) (.t 9))]) (.seq (.cond (.t 11) (.skip) (.exit 0)) (.seq (.block 1 (.seq (.reg [.o 12 (.iadd 4 (.t 8) (.t 10)),.d 13 4 12,.o 5 (.box (.k (.agg zS4))),.s 4 5 13]) (.seq (.reg [.d 14 4 5,.k 15 24 [.t 14],.o 16 (.lenr (.t 15)),.o 17 (.mov (zK 0))]) (.block 2 (.loop (.seq (.reg [.o 18 (.bin .lss (.t 17) (.t 16))]) (.seq (.cond (.t 18) (.skip) (.exit 2)) (.seq (.block 3 (.seq (.reg [.o 19 (.iadd 1 (.t 15) (.t 17)),.l 20 19,.m 7 20]) (.reg [.m 21 3,.m 22 7,.o 23 (.bin .add (.t 22) (zK 1)),.o 24 (.mx (.t 21) (.t 23)),.m 3 24]))) (.reg [.o 25 (.bin .add (.t 17) (zK 1)),.m 17 25]))))))))) (.reg [.o 26 (.bin .add (.t 10) (zK 1)),.m 10 26]))))))) (.seq (.reg [.m 27 3,.m 2 27]) (.ret))))
end
section
def c170:AC:=.seq (.reg [.o 1 (.box (.t 0)),.o 2 (.mov (.k (.csl []))),.o 3 (.mov (zK 0))]) (.seq (.seq (.reg [.f 4 0 1,.l 5 4]) (.block 0 (.seq (.reg [.o 7 (.bin .eql (.t 5) (zK 5)),.m 6 7]) (.cond (.t 6) (.seq (.reg [.f 8 3 1,.l 9 8,.m 2 9,.o 3 (.mov (zK 1))]) (.ret)) (.seq (.reg [.o 11 (.bin .eql (.t 5) (zK 6)),.m 10 11]) (.cond (.t 10) (.seq (.reg [.f 12 3 1,.l 13 12,.m 2 13,.o 3 (.mov (zK 0))]) (.ret)) (.skip))))))) (.seq (.reg [.o 2 (.mov (.k (.csl []))),.o 3 (.mov (zK 0))]) (.ret)))
def r170:List ResV:=[.tmp 2,.tmp 3]
theorem k170:CodeIs Tryz.prog 170 1 Tryz.f170 c170 r170:=.auto Tryz.func170
end
end Go.Proofs.YtpcmcfajfnpjeaaGreatDoor
namespace Go.Proofs.YtpcmcfajfnpjeaaGreatDoor
open Go.RowKit Go.Lamb
def c145:AC:=.seq (.reg [.o 2 (.box (.k (.agg [.c (.int .i64 0),.c (.str []),.c (.int .i64 0),.csl [],.c (.int .i64 0)])))]) (.seq (.reg [.m 3 0,.o 4 (.build [.c (.int .i64 0),.c (.str []),.c (.int .i64 0),.csl [],.c (.int .i64 0)] [(0,1,(zK 0)),(1,1,(.t 3))]),.s 5 2 4]) (.ret))
def c23:AC:=.seq (.reg [.o 1 (.box (.t 0)),.o 2 (.mov zF)]) (.seq (.reg [.o 3 (.mov zF),.o 4 (.mov (zK 0))]) (.seq (.seq (.reg [.f 5 0 1,.l 6 5]) (.block 0 (.seq (.reg [.o 8 (.bin .eql (.t 6) (zK 0)),.m 7 8]) (.cond (.t 7) (.seq (.reg [.f 9 1 1,.l 10 9,.k 11 75 [.t 10],.m 12 11,.z 13 (.fadd 1 (.t 1)) 12,.z 14 (.load1 (.t 13)) 12,.z 15 (.call (.k (.fn 76 [])) [.t 14]) 12,.o 16 (.pick (.t 12) zT (.t 15)),.m 17 16,.y 18 (.fadd 2 (.t 1)) 17,.y 19 (.load1 (.t 18)) 17,.y 20 (.bin .eql (.t 19) (zK 0)) 17,.o 21 (.pick (.t 17) (.t 20) zF),.m 22 21,.y 23 (.fadd 3 (.t 1)) 22,.y 24 (.load1 (.t 23)) 22,.y 25 (.lenr (.t 24)) 22,.y 26 (.bin .eql (.t 25) (zK 0)) 22,.o 27 (.pick (.t 22) (.t 26) zF),.m 2 27]) (.ret)) (.seq (.reg [.o 29 (.bin .eql (.t 6) (zK 1)),.m 28 29]) (.cond (.t 28) (.reg [.f 30 2 1,.l 31 30,.o 32 (.bin .geq (.t 31) (zK 1)),.m 3 32]) (.seq (.reg [.o 34 (.bin .eql (.t 6) (zK 2)),.m 33 34]) (.cond (.t 33) (.reg [.o 3 (.mov zT)]) (.seq (.seq (.reg [.o 36 (.bin .eql (.t 6) (zK 3)),.m 35 36]) (.cond (.t 35) (.skip) (.reg [.o 37 (.bin .eql (.t 6) (zK 4)),.m 35 37]))) (.cond (.t 35) (.reg [.f 38 2 1,.l 39 38,.o 40 (.bin .geq (.t 39) (zK 0)),.m 41 40,.y 42 (.fadd 2 (.t 1)) 41,.y 43 (.load1 (.t 42)) 41,.y 44 (.bin .leq (.t 43) (zK 4611686018427387904)) 41,.o 45 (.pick (.t 41) (.t 44) zF),.m 3 45]) (.seq (.reg [.o 47 (.bin .eql (.t 6) (zK 5)),.m 46 47]) (.cond (.t 46) (.reg [.f 48 2 1,.l 49 48,.o 50 (.bin .eql (.t 49) (zK 0)),.m 3 50,.o 4 (.mov (zK 1))]) (.seq (.reg [.o 52 (.bin .eql (.t 6) (zK 6)),.m 51 52]) (.cond (.t 51) (.dreg [.f 53 2 1,.l 54 53,.o 55 (.bin .eql (.t 54) (zK 0)),.m 56 55,.y 57 (.fadd 3 (.t 1)) 56,.y 58 (.load1 (.t 57)) 56,.y 59 (.lenr (.t 58)) 56,.y 60 (.bin .geq (.t 59) (zK 2)) 56,.o 61 (.pick (.t 56) (.t 60) zF),.m 62 61,.y 63 (.fadd 3 (.t 1)) 62,.y 64 (.load1 (.t 63)) 62,.y 65 (.iadd 4 (.t 64) (zK 0)) 62,.y 66 (.fadd 0 (.t 65)) 62,.y 67 (.load1 (.t 66)) 62,.y 68 (.bin .neq (.t 67) (zK 6)) 62,.o 69 (.pick (.t 62) (.t 68) zF),.f 70 3 1,.l 71 70,.o 72 (.lenr (.t 71)),.m 3 69,.m 4 72] [.q (.f 53 2 1),.q (.l 54 53),.q (.o 55 (.bin .eql (.t 54) (zK 0))),.q (.m 56 55),.q (.y 57 (.fadd 3 (.t 1)) 56),.q (.y 58 (.load1 (.t 57)) 56),.q (.y 59 (.lenr (.t 58)) 56),.q (.y 60 (.bin .geq (.t 59) (zK 2)) 56),.q (.o 61 (.pick (.t 56) (.t 60) zF)),.q (.m 62 61),.q (.y 63 (.fadd 3 (.t 1)) 62),.q (.y 64 (.load1 (.t 63)) 62),.q (.y 65 (.iadd 4 (.t 64) (zK 0)) 62),.q (.y 66 (.fadd 0 (.t 65)) 62),.q (.y 67 (.load1 (.t 66)) 62),.q (.y 68 (.bin .neq (.t 67) (zK 6)) 62),.q (.o 69 (.pick (.t 62) (.t 68) zF)),.q (.f 70 3 1),.q (.l 71 70),.q (.o 72 (.lenr (.t 71))),.q (.m 3 69),.q (.m 4 72)]) (.skip))))))))))))))) (.seq (.reg [.m 73 3,.m 74 73,.y 75 (.fadd 1 (.t 1)) 74,.y 76 (.load1 (.t 75)) 74,.y 77 (.bin .eql (.t 76) (.k (.c (.str [])))) 74,.o 78 (.pick (.t 74) (.t 77) zF),.m 79 78,.y 80 (.fadd 3 (.t 1)) 79,.y 81 (.load1 (.t 80)) 79,.y 82 (.lenr (.t 81)) 79,.y 83 (.mov (.t 4)) 79,.y 84 (.bin .eql (.t 82) (.t 83)) 79,.o 85 (.pick (.t 79) (.t 84) zF),.m 86 85,.y 87 (.fadd 3 (.t 1)) 86,.y 88 (.load1 (.t 87)) 86,.y 89 (.call (.k (.fn 77 [])) [.t 88,(.k (.fn 78 []))]) 86,.y 90 (.un .not (.t 89)) 86,.o 91 (.pick (.t 86) (.t 90) zF),.m 2 91]) (.ret))))
def r23:List ResV:=[.tmp 2]
theorem k23:CodeIs Tryz.prog 23 1 Tryz.f23 c23 r23:=.auto Tryz.func23
def c78:AC:=.seq (.reg [.o 1 (.box (.t 0)),.o 2 (.mov zF)]) (.seq (.reg [.d 3 4 1,.k 4 23 [.t 3],.o 5 (.un .not (.t 4)),.m 2 5]) (.ret))
def r78:List ResV:=[.tmp 2]
theorem k78:CodeIs Tryz.prog 78 1 Tryz.f78 c78 r78:=.auto Tryz.func78
def c77:AC:=.seq (.reg [.o 4 (.mov zF)]) (.seq (.reg [.m 5 0,.m 6 1,.k 7 169 [.t 5,.t 6],.o 8 (.bin .geq (.t 7) (zK 0)),.m 4 8]) (.ret))
def r77:List ResV:=[.tmp 4]
theorem k77:CodeIs Tryz.prog 77 2 Tryz.f77 c77 r77:=.auto Tryz.func77
def c169:AC:=.seq (.reg [.o 4 (.mov (zK 0))]) (.seq (.seq (.reg [.m 6 0,.o 7 (.lenr (.t 6)),.o 8 (.mov (zK 0))]) (.block 0 (.loop (.seq (.reg [.o 9 (.bin .lss (.t 8) (.t 7))]) (.seq (.cond (.t 9) (.skip) (.exit 0)) (.seq (.block 1 (.seq (.reg [.m 10 8,.m 5 10]) (.seq (.reg [.m 11 1,.m 12 0,.m 13 5,.o 14 (.iadd 4 (.t 12) (.t 13)),.d 15 4 14,.o 16 (.call (.t 11) [.t 15])]) (.cond (.t 16) (.seq (.reg [.m 17 5,.m 4 17]) (.ret)) (.skip))))) (.reg [.o 18 (.bin .add (.t 8) (zK 1)),.m 8 18]))))))) (.seq (.reg [.o 4 (.mov (.k (.c (.int .i64 (-1)))))]) (.ret)))
def r169:List ResV:=[.tmp 4]
theorem k169:CodeIs Tryz.prog 169 2 Tryz.f169 c169 r169:=.auto Tryz.func169
def c15:AC:=.seq (.reg [.o 1 (.box (.t 0)),.o 2 (.mov zF)]) (.seq (.reg [.o 3 (.mov zF)]) (.seq (.reg [.o 4 (.mov (zK 0))]) (.seq (.seq (.reg [.f 8 0 1,.l 9 8]) (.block 0 (.seq (.reg [.o 11 (.bin .eql (.t 9) (zK 0)),.m 10 11]) (.cond (.t 10) (.seq (.reg [.f 12 1 1,.l 13 12,.k 14 59 [.t 13],.m 5 14]) (.seq (.reg [.f 15 1 1,.l 16 15,.k 17 60 [.t 16],.m 6 17]) (.seq (.reg [.m 18 5,.m 19 18,.z 20 (.mov (.t 6)) 19,.o 21 (.pick (.t 19) zT (.t 20)),.m 22 21,.y 23 (.fadd 2 (.t 1)) 22,.y 24 (.load1 (.t 23)) 22,.y 25 (.bin .eql (.t 24) (zK 0)) 22,.o 26 (.pick (.t 22) (.t 25) zF),.m 27 26,.y 28 (.fadd 3 (.t 1)) 27,.y 29 (.load1 (.t 28)) 27,.y 30 (.lenr (.t 29)) 27,.y 31 (.bin .eql (.t 30) (zK 0)) 27,.o 32 (.pick (.t 27) (.t 31) zF),.m 2 32]) (.ret)))) (.seq (.reg [.o 34 (.bin .eql (.t 9) (zK 1)),.m 33 34]) (.cond (.t 33) (.reg [.f 35 2 1,.l 36 35,.o 37 (.bin .geq (.t 36) (zK 1)),.m 3 37]) (.seq (.reg [.o 39 (.bin .eql (.t 9) (zK 2)),.m 38 39]) (.cond (.t 38) (.reg [.o 3 (.mov zT)]) (.seq (.seq (.reg [.o 41 (.bin .eql (.t 9) (zK 3)),.m 40 41]) (.cond (.t 40) (.skip) (.reg [.o 42 (.bin .eql (.t 9) (zK 4)),.m 40 42]))) (.cond (.t 40) (.reg [.f 43 2 1,.l 44 43,.o 45 (.bin .geq (.t 44) (zK 0)),.m 46 45,.y 47 (.fadd 2 (.t 1)) 46,.y 48 (.load1 (.t 47)) 46,.y 49 (.bin .leq (.t 48) (zK 4611686018427387904)) 46,.o 50 (.pick (.t 46) (.t 49) zF),.m 3 50]) (.seq (.reg [.o 52 (.bin .eql (.t 9) (zK 5)),.m 51 52]) (.cond (.t 51) (.seq (.reg [.f 53 2 1,.l 54 53,.o 55 (.bin .eql (.t 54) (zK 0)),.m 3 55]) (.reg [.o 4 (.mov (zK 1))])) (.seq (.reg [.o 57 (.bin .eql (.t 9) (zK 6)),.m 56 57]) (.cond (.t 56) (.seq (.reg [.f 58 2 1,.l 59 58,.o 60 (.bin .eql (.t 59) (zK 0)),.m 61 60,.y 62 (.fadd 3 (.t 1)) 61,.y 63 (.load1 (.t 62)) 61,.y 64 (.lenr (.t 63)) 61,.y 65 (.bin .geq (.t 64) (zK 2)) 61,.o 66 (.pick (.t 61) (.t 65) zF),.m 67 66,.y 68 (.fadd 3 (.t 1)) 67,.y 69 (.load1 (.t 68)) 67,.y 70 (.iadd 4 (.t 69) (zK 0)) 67,.y 71 (.fadd 0 (.t 70)) 67,.y 72 (.load1 (.t 71)) 67,.y 73 (.bin .neq (.t 72) (zK 6)) 67,.o 74 (.pick (.t 67) (.t 73) zF),.m 3 74]) (.reg [.f 75 3 1,.l 76 75,.o 77 (.lenr (.t 76)),.m 4 77])) (.skip))))))))))))))) (.seq (.reg [.m 78 3,.m 79 78,.y 80 (.fadd 1 (.t 1)) 79,.y 81 (.load1 (.t 80)) 79,.y 82 (.bin .eql (.t 81) (.k (.c (.str [])))) 79,.o 83 (.pick (.t 79) (.t 82) zF),.m 84 83,.y 85 (.fadd 3 (.t 1)) 84,.y 86 (.load1 (.t 85)) 84,.y 87 (.lenr (.t 86)) 84,.y 88 (.mov (.t 4)) 84,.y 89 (.bin .eql (.t 87) (.t 88)) 84,.o 90 (.pick (.t 84) (.t 89) zF),.m 3 90]) (.seq (.seq (.reg [.o 7 (.mov (zK 0))]) (.block 1 (.loop (.seq (.seq (.reg [.m 91 7,.f 92 3 1,.l 93 92,.o 94 (.lenr (.t 93)),.o 95 (.bin .lss (.t 91) (.t 94)),.m 96 95,.y 97 (.mov (.t 3)) 96,.o 98 (.pick (.t 96) (.t 97) zF)]) (.cond (.t 98) (.skip) (.exit 1))) (.seq (.block 2 (.reg [.f 101 3 1,.l 102 101,.m 103 7,.o 104 (.iadd 4 (.t 102) (.t 103)),.d 105 4 104,.k 106 15 [.t 105],.m 3 106])) (.reg [.m 99 7,.o 100 (.bin .add (.t 99) (zK 1)),.m 7 100])))))) (.seq (.reg [.m 107 3,.m 2 107]) (.ret)))))))
def r15:List ResV:=[.tmp 2]
theorem k15:CodeIs Tryz.prog 15 1 Tryz.f15 c15 r15:=.auto Tryz.func15
def c53:AC:=.seq (.reg [.o 2 (.box (.t 0)),.o 4 (.mov zF)]) (.seq (.seq (.reg [.f 7 0 2,.l 8 7,.o 9 (.bin .neq (.t 8) (zK 2)),.m 10 9,.y 11 (.fadd 2 (.t 2)) 10,.y 12 (.load1 (.t 11)) 10,.y 13 (.mov (.t 1)) 10,.y 14 (.bin .gtr (.t 12) (.t 13)) 10,.y 15 (.mov (.t 14)) 10,.z 16 (.fadd 2 (.t 2)) 15,.z 17 (.load1 (.t 16)) 15,.z 18 (.mov (.t 1)) 15,.z 19 (.un .neg (.t 18)) 15,.z 20 (.bin .lss (.t 17) (.t 19)) 15,.y 21 (.pick (.t 15) zT (.t 20)) 10,.o 22 (.pick (.t 10) (.t 21) zF)]) (.cond (.t 22) (.seq (.reg [.o 4 (.mov zF)]) (.ret)) (.skip))) (.seq (.seq (.reg [.o 5 (.mov (zK 0))]) (.block 0 (.loop (.seq (.seq (.reg [.m 23 5,.f 24 3 2,.l 25 24,.o 26 (.lenr (.t 25)),.o 27 (.bin .lss (.t 23) (.t 26))]) (.cond (.t 27) (.skip) (.exit 0))) (.seq (.block 1 (.seq (.reg [.f 30 3 2,.l 31 30,.m 32 5,.o 33 (.iadd 4 (.t 31) (.t 32)),.d 34 4 33,.m 35 1,.k 36 53 [.t 34,.t 35],.m 6 36]) (.seq (.reg [.m 37 6,.o 38 (.un .not (.t 37))]) (.cond (.t 38) (.seq (.reg [.o 4 (.mov zF)]) (.ret)) (.skip))))) (.reg [.m 28 5,.o 29 (.bin .add (.t 28) (zK 1)),.m 5 29])))))) (.seq (.reg [.o 4 (.mov zT)]) (.ret))))
def r53:List ResV:=[.tmp 4]
theorem k53:CodeIs Tryz.prog 53 2 Tryz.f53 c53 r53:=.auto Tryz.func53
def c52:AC:=.seq (.reg [.o 2 (.box (.t 0)),.o 4 (.mov zF)]) (.seq (.reg [.d 6 4 2,.m 7 1,.k 8 134 [.t 6,.t 7],.m 5 8]) (.seq (.reg [.m 9 5,.o 10 (.bin .lss (.t 9) (zK 0)),.m 4 10]) (.ret)))
def r52:List ResV:=[.tmp 4]
theorem k52:CodeIs Tryz.prog 52 2 Tryz.f52 c52 r52:=.auto Tryz.func52
def c134:AC:=.seq (.reg [.o 2 (.box (.t 0)),.o 4 (.mov (zK 0))]) (.seq (.reg [.m 7 1,.o 8 (.bin .sub (.t 7) (zK 1)),.m 5 8]) (.seq (.seq (.reg [.o 6 (.mov (zK 0))]) (.block 0 (.loop (.seq (.seq (.reg [.m 9 6,.f 10 3 2,.l 11 10,.o 12 (.lenr (.t 11)),.o 13 (.bin .lss (.t 9) (.t 12)),.m 14 13,.y 15 (.mov (.t 5)) 14,.y 16 (.bin .geq (.t 15) (zK 0)) 14,.o 17 (.pick (.t 14) (.t 16) zF)]) (.cond (.t 17) (.skip) (.exit 0))) (.seq (.block 1 (.reg [.f 20 3 2,.l 21 20,.m 22 6,.o 23 (.iadd 4 (.t 21) (.t 22)),.d 24 4 23,.m 25 5,.k 26 134 [.t 24,.t 25],.m 5 26])) (.reg [.m 18 6,.o 19 (.bin .add (.t 18) (zK 1)),.m 6 19])))))) (.seq (.reg [.m 27 5,.m 4 27]) (.ret))))
def r134:List ResV:=[.tmp 4]
theorem k134:CodeIs Tryz.prog 134 2 Tryz.f134 c134 r134:=.auto Tryz.func134
attribute [local go_sem] advO_skip advO_reg advO_seq advO_block advO_exit advO_endb advO_opsNil advO_ops advG_yes advG_no advG_none advS_some advS_none advO_cond advO_loop advO_dreg advO_ret advO_bad advO_inv advO_nil advO_zero wantedV Lamb.step ev_t ev_k put_some put_none argEnv popTo cellsAt V.cellsV V.rows V.sub V.toC toCs fillV bytesC byteRows appV rowsV boundV boundL binV binInt binStr eqC eqL V.isNil leaves V.leaf Ins.quiet Ins.pure List.getD_cons_zero List.getD_cons_succ List.getD_nil List.all_cons List.all_nil List.length_cons List.length_nil List.take_succ_cons List.take_zero List.drop_succ_cons List.drop_zero List.cons_append List.nil_append List.append_nil List.append_assoc List.map_cons List.map_nil List.getElem?_cons_zero List.getElem?_cons_succ List.length_append List.length_set hget0 hget hset0 hset hsets hgs0 hgs hss0 hss List.set_cons_zero List.set_cons_succ List.forall_mem_cons List.not_mem_nil false_implies implies_true Option.map_some Bool.and_true Bool.true_and Bool.not_not Bool.not_true Bool.not_false Bool.and_self Bool.or_true Bool.true_or Bool.or_false Bool.false_or Bool.and_false Bool.false_and Bool.false_eq_true beq_self_eq_true and_self and_true true_and if_true if_false Nat.zero_add Nat.add_zero Nat.le_refl Int.toNat_natCast decide_true decide_false beq_t beq_f List.length_map List.getElem?_map I S B opsC toksC OpT.v OpT.cs OpT.zero Tok.v Tok.cs Pre.v Pre.cs_eq k_mk name_mk n_mk l_mk pos_mk Pre.app applyL natCast0 natCast1 natCast2 AOp.o AOp.m AOp.f AOp.l AOp.d AOp.n AOp.x AOp.s AOp.k AOp.y AOp.z EOp.q low_c low_void low_any low_csl low_nilf low_ptr low_osl low_agg low_tup low_fn resEval advPO_nil advPO_loud advPO_quiet pL_yes pL_no pLS_some pLS_none pQ_yes pQ_no pQS_some pQS_loud eq_self Nat.sub_zero zK zT zF zS4
attribute [local go_sem] Typ.v Typ.cs_eq tk_mk tname_mk tn_mk tl_mk tysC

theorem IndexFunc_term (w0:World) (l:List Typ) (f:FuncId) (caps:List V) (p:Typ → Bool) (σ:H) (hp:∀ o ∈ l,DC Tryz.prog w0 f (o.v :: caps) σ (Same (B (p o)) σ)):DC Tryz.prog w0 169 [.c (.sl (l.map Typ.cs)),.fn f caps] σ (Same (I (idxI p l)) σ):=by
 refine k169.go rfl (fun hok hsz=>?_)
 have hlen:=sz_row_len hsz (List.mem_cons_self ..) rfl
 (refine W.a ?_;simp only [go_sem,seval,c169])
 refine W.loopP (fun i=>i ≤ l.length ∧ UpTo p l i) (fun i=>⟨((((base.put (some 0) (.c (.sl (l.map Typ.cs)))).put (some 1) (.fn f caps)).put (some 7) (I l.length)).put (some 8) (I i)),σ⟩) (fun i=>l.length - i) 0 ⟨Nat.zero_le _,upTo_zero⟩ ?_ (fun i hi=>?_)
 ·(refine Lew.env ?_;exact lee_here)
 ·obtain ⟨hi,hinv⟩:=hi
  by_cases hlt:i < l.length
  ·have h1:((i:Int) < (l.length:Int)):=by omega
   have hx:l[i]? = some l[i]:=List.getElem?_eq_getElem hlt
   (refine W.a ?_;simp only [go_sem,seval,h1])
   refine W.yes rfl (W.a ?_);simp only [go_sem,seval,h1,nat0,hx]
   (refine W.c1 (hp l[i] (List.getElem_mem hlt)) ?_;simp only [go_sem,seval])
   refine W.test rfl (fun h=>?_) (fun h=>?_)
   ·(refine W.a ?_;simp only [go_sem,seval])
    (refine W.ret (Fin.same hok (by simp only [resEval,r169,go_sem,seval];rfl) ?_ (by first | exact .c _ | (simp only [go_sem,seval];done)) (by first | exact ⟨[],(List.append_nil _).symm⟩ | exact ⟨_,rfl⟩));simp only [resV])
    rw [idxI_at hinv hlt h]
   ·have hw:=wrap_next hlt hlen
    (refine W.a ?_;simp only [go_sem,seval,hw])
    refine .inv ⟨i + 1,⟨hlt,upTo_next hinv hlt h⟩,by omega,?_⟩
    (refine Lew.env ?_;exact lee_here)
  ·have h1:¬ ((i:Int) < (l.length:Int)):=by omega
   (refine W.a ?_;simp only [go_sem,seval,h1])
   refine W.no rfl (W.a ?_);simp only [go_sem,seval]
   (refine W.ret (Fin.same hok (by simp only [resEval,r169,go_sem,seval];rfl) ?_ (by first | exact .c _ | (simp only [go_sem,seval];done)) (by first | exact ⟨[],(List.append_nil _).symm⟩ | exact ⟨_,rfl⟩));simp only [resV])
   rw [idxI_none (fun j hj=>hinv j hj (by omega))]
theorem ContainsFunc_term (w0:World) (l:List Typ) (f:FuncId) (caps:List V) (p:Typ → Bool) (σ:H) (hp:∀ o ∈ l,DC Tryz.prog w0 f (o.v :: caps) σ (Same (B (p o)) σ)):DC Tryz.prog w0 77 [.c (.sl (l.map Typ.cs)),.fn f caps] σ (Same (B (l.any p)) σ):=by
 refine k77.go rfl (fun hok hsz=>?_)
 (refine W.a ?_;simp only [go_sem,seval,c77])
 (refine W.c1 (IndexFunc_term w0 l f caps p σ hp) ?_;simp only [go_sem,seval])
 (refine W.fs (hok) (by simp only [r77,go_sem,seval];rfl) ?_;simp only [resV];(first | exact V.wk.rfl _ | (refine wk_bool ?_;clear hsz hok;rw [idxI_geq] <;> ((try simp only [beq_iff_eq,beq_eq_false_iff_ne,ne_eq,decide_eq_true_eq,decide_eq_false_iff_not] at *);first | (exfalso;omega) | (simp [*];done) | (simp [*];omega) | (simp [*])))))
theorem term_Valid1 (w0:World) (p:Typ) (b:Bool) (σ:H) (hp:∀ τ,DC Tryz.prog w0 23 [p.v] τ (Same (B b) τ)):DC Tryz.prog w0 78 [p.v] σ (Same (B (!b)) σ):=by
 refine k78.go rfl (fun hok hsz=>?_)
 (refine W.a ?_;simp only [go_sem,seval,c78])
 (refine W.c1 (hp _) ?_;simp only [go_sem,seval])
 (refine W.fs (hok) (by simp only [r78,go_sem,seval];rfl) ?_;simp only [resV];try exact V.wk.rfl _)
theorem ref07_left (w0:World) (p:Typ):∀ (n:Int),0 ≤ n → n ≤ 1000000 → ∀ (σ:H),DC Tryz.prog w0 134 [p.v,I n] σ (Same (I (leftT p n)) σ):=by
 refine Typ.ind (P:=fun p=>∀ (n:Int),0 ≤ n → n ≤ 1000000 → ∀ (σ:H),DC Tryz.prog w0 134 [p.v,I n] σ (Same (I (leftT p n)) σ)) (fun p ih n hn hn' σ=>?_) p
 refine k134.go rfl (fun hok hsz=>?_)
 have hlen:=typ_len hsz (List.mem_cons_self ..)
 have hw0:IntKind.i64.wrap (n - 1) = n - 1:=by rw [wrap_in] <;> omega
 (refine W.a ?_;simp only [go_sem,seval,c134,hw0])
 refine W.loopP (α:=Nat × Int) (fun x=>x.1 ≤ p.l.length ∧ -1 ≤ x.2 ∧ x.2 ≤ 1000000 ∧ leftTs (p.l.drop x.1) x.2 = leftT p n) (fun x=>⟨((((base.put (some 2) (.ptr σ.length 0)).put (some 4) (I 0)).put (some 5) (I x.2)).put (some 6) (I (x.1:Nat))),σ ++ [.cells p.v.cellsV]⟩) (fun x=>p.l.length - x.1) (0,n - 1) ⟨Nat.zero_le _,by simp only;omega,by simp only;omega,by rw [leftT_eq];rfl⟩ ?_ (fun x hi=>?_)
 ·(refine Lew.env ?_;exact lee_here)
 ·obtain ⟨i,m⟩:=x
  obtain ⟨hi,hm,hm',hinv⟩:=hi;simp only at hi hm hm' hinv
  by_cases hlt:i < p.l.length
  ·have h1:((i:Int) < (p.l.length:Int)):=by omega
   have hx:p.l[i]? = some p.l[i]:=List.getElem?_eq_getElem hlt
   have hw:IntKind.i64.wrap ((i:Int) + 1) = ((i + 1:Nat):Int):=wrap_next hlt hlen
   by_cases h0:0 ≤ m
   ·have h0':m ≥ 0:=h0
    (refine W.a ?_;simp only [go_sem,seval,h1,h0'])
    refine W.yes rfl (W.a ?_);simp only [go_sem,seval,h1,nat0,hx]
    (refine W.c1 (ih p.l[i] (List.getElem_mem hlt) m h0 hm' _) ?_;simp only [go_sem,seval,hw])
    have:=leftT_le p.l[i] m h0
    refine .inv ⟨(i + 1,leftT p.l[i] m),⟨hlt,this.1,by simp only;omega,by rw [← hinv,leftTs_step hlt h0]⟩,by simp only;omega,?_⟩
    (refine Lew.env ?_;exact lee_here)
   ·have h0':¬ m ≥ 0:=h0
    (refine W.a ?_;simp only [go_sem,seval,h1,h0'])
    refine W.no rfl (W.a ?_);simp only [go_sem,seval]
    (refine W.fs (hok) (by simp only [r134,go_sem,seval];rfl) ?_;simp only [resV];try exact V.wk.rfl _)
    rw [← hinv,leftTs_neg h0];exact .rfl _
  ·have h1:¬ ((i:Int) < (p.l.length:Int)):=by omega
   (refine W.a ?_;simp only [go_sem,seval,h1])
   refine W.no rfl (W.a ?_);simp only [go_sem,seval]
   (refine W.fs (hok) (by simp only [r134,go_sem,seval];rfl) ?_;simp only [resV];try exact V.wk.rfl _)
   rw [← hinv,leftTs_end (by omega)]
   exact .rfl _
theorem ref07_Large (w0:World) (p:Typ) (n:Int) (hn:0 ≤ n) (hn':n ≤ 1000000) (σ:H):DC Tryz.prog w0 52 [p.v,I n] σ (Same (B (decide (leftT p n < 0))) σ):=by
 refine k52.go rfl (fun hok hsz=>?_)
 (refine W.a ?_;simp only [go_sem,seval,c52])
 (refine W.c1 (ref07_left w0 p n hn hn' _) ?_;simp only [go_sem,seval])
 (refine W.fs (hok) (by simp only [r52,go_sem,seval];rfl) ?_;simp only [resV];try exact V.wk.rfl _)
end Go.Proofs.YtpcmcfajfnpjeaaGreatDoor
