/-
  The code of some functions, without addresses.
  The code of some functions, without addresses.
  The code of some functions, without addresses.
  The code of some functions, without addresses.
  Walks: operators are found by their names.
  The code of some functions, without addresses.
  Walks: the reader's small functions.
  Walks: the type reader's small functions.
  Walks: operators are declared.
  Walks: a type one deeper; an atom.
  Walks: a type: what is behind its first part.
  Walks: ty.Read.
-/
import Derived.Test.YtplgnfciipceiaaGreatDoorChecked
import Derived.Test.YtplgnfciipceiaaGreatDoorQJ11
import Derived.Test.YtplgnfciipceiaaGreatDoorQJ13
import Derived.Test.YtplgnfciipceiaaGreatDoorQJ14
import Derived.Test.YtplgnfciipceiaaGreatDoorQJ10
import Derived.Test.YtplgnfciipceiaaGreatDoorQLexC
import Derived.Test.YtplgnfciipceiaaGreatDoorQTyA2
set_option linter.unusedSimpArgs false
set_option linter.unusedVariables false
set_option maxHeartbeats 8000000
set_option maxRecDepth 20000
namespace Go.Proofs.YtplgnfciipceiaaGreatDoor
open Go.RowKit Go.Lamb
def c11 : AC :=
  .seq (.reg [.o 3 (.box (.t 1)), .o 4 (.mov (.k (.c (.str []))))])
  (.seq (.reg [.o 5 (.mov (.k (.c (.str []))))])
  (.seq (.seq (.reg [.o 6 (.mov (.k (.c (.int .i64 0))))])
  (.block 0 (.loop (.seq (.seq (.reg [.m 10 6, .f 11 1 3, .l 12 11, .o 13 (.lenr (.t 12)), .o 14 (.bin .lss (.t 10) (.t 13))])
  (.cond (.t 14)
  (.skip)
  (.exit 0)))
  (.seq (.block 1 (.seq (.seq (.reg [.m 17 6, .o 18 (.bin .gtr (.t 17) (.k (.c (.int .i64 0))))])
  (.cond (.t 18)
  (.reg [.m 19 5, .o 20 (.bin .add (.t 19) (.k (.c (.str [32, 44, 32])))), .m 5 20])
  (.skip)))
  (.reg [.m 21 5, .f 22 1 3, .l 23 22, .m 24 6, .o 25 (.iadd 1 (.t 23) (.t 24)), .l 26 25, .o 27 (.bin .add (.t 21) (.t 26)), .m 5 27])))
  (.reg [.m 15 6, .o 16 (.bin .add (.t 15) (.k (.c (.int .i64 1)))), .m 6 16]))))))
  (.seq (.seq (.reg [.f 28 0 3, .l 29 28])
  (.block 2 (.seq (.reg [.o 31 (.bin .eql (.t 29) (.k (.c (.int .i64 0)))), .m 30 31])
  (.cond (.t 30)
  (.seq (.reg [.m 32 5, .o 33 (.bin .add (.k (.c (.str [107, 105, 110, 100, 32]))) (.t 32)), .o 34 (.bin .add (.t 33) (.k (.c (.str [32, 116, 121, 112, 101])))), .m 7 34])
  (.seq (.seq (.reg [.o 8 (.mov (.k (.c (.int .i64 0))))])
  (.block 3 (.loop (.seq (.seq (.reg [.m 35 8, .f 36 2 3, .l 37 36, .o 38 (.bin .lss (.t 35) (.t 37))])
  (.cond (.t 38)
  (.skip)
  (.exit 3)))
  (.seq (.block 4 (.reg [.m 41 7, .o 42 (.bin .add (.t 41) (.k (.c (.str [32, 45, 62, 32, 116, 121, 112, 101])))), .m 7 42]))
  (.reg [.m 39 8, .o 40 (.bin .add (.t 39) (.k (.c (.int .i64 1)))), .m 8 40]))))))
  (.seq (.reg [.m 43 7, .o 44 (.bin .add (.t 43) (.k (.c (.str [46])))), .m 4 44])
  (.ret))))
  (.seq (.reg [.o 46 (.bin .eql (.t 29) (.k (.c (.int .i64 1)))), .m 45 46])
  (.cond (.t 45)
  (.seq (.reg [.m 47 5, .o 48 (.bin .add (.k (.c (.str [116, 121, 112, 101, 32]))) (.t 47)), .o 49 (.bin .add (.t 48) (.k (.c (.str [32])))), .f 50 3 3, .d 51 4 50, .k 52 39 [(.t 51)], .o 53 (.bin .add (.t 49) (.t 52)), .o 54 (.bin .add (.t 53) (.k (.c (.str [46])))), .m 4 54])
  (.ret))
  (.seq (.reg [.o 56 (.bin .eql (.t 29) (.k (.c (.int .i64 2)))), .m 55 56])
  (.cond (.t 55)
  (.seq (.reg [.f 57 7 3, .d 58 3 57, .o 9 (.box (.k (.agg [.c (.str []), .c (.int .i64 0), .c (.int .i64 0)]))), .s 3 9 58])
  (.seq (.reg [.m 59 5, .f 60 0 9, .s 1 60 59])
  (.seq (.reg [.d 61 3 9, .k 62 40 [(.t 61)], .m 4 62])
  (.ret))))
  (.skip)))))))))
  (.seq (.reg [.m 63 0, .f 64 10 3, .d 65 5 64, .k 66 41 [(.t 63), (.t 65)], .o 67 (.bin .add (.t 66) (.k (.c (.str [32, 46])))), .m 4 67])
  (.ret)))))
def r11 : List ResV := [.tmp 4]
theorem k11 : CodeIs Tryz.prog 11 2 Tryz.f11 c11 r11 := ⟨by kernel_rfl, Tryz.func11, rfl, by kernel_rfl, by kernel_rfl, by decide, enters_fn Tryz.func11 (by kernel_rfl) rfl⟩
def c12 : AC :=
  .seq (.reg [.o 2 (.mov (.k (.c (.bool false))))])
  (.seq (.reg [.m 9 0, .k 10 33 [(.t 9)], .m 8 10, .x 11 8 0, .x 12 8 1, .x 13 8 2, .m 3 11, .m 4 12, .m 5 13])
  (.seq (.reg [.k 14 32 [], .m 6 14])
  (.seq (.seq (.reg [.o 7 (.mov (.k (.c (.int .i64 0))))])
  (.block 0 (.loop (.seq (.seq (.reg [.m 15 7, .m 16 6, .o 17 (.lenr (.t 16)), .o 18 (.bin .lss (.t 15) (.t 17)), .m 19 18, .y 20 (.mov (.t 3)) 19, .y 21 (.lenr (.t 20)) 19, .y 22 (.bin .gtr (.t 21) (.k (.c (.int .i64 0)))) 19, .o 23 (.pick (.t 19) (.t 22) (.k (.c (.bool false))))])
  (.cond (.t 23)
  (.skip)
  (.exit 0)))
  (.seq (.block 1 (.seq (.dreg [.m 26 3, .o 27 (.iadd 4 (.t 26) (.k (.c (.int .i64 0)))), .f 28 0 27, .l 29 28, .o 30 (.bin .eql (.t 29) (.k (.c (.int .i64 1)))), .m 31 30, .y 32 (.mov (.t 3)) 31, .y 33 (.iadd 4 (.t 32) (.k (.c (.int .i64 0)))) 31, .y 34 (.fadd 1 (.t 33)) 31, .y 35 (.load1 (.t 34)) 31, .y 36 (.mov (.t 6)) 31, .y 37 (.mov (.t 7)) 31, .y 38 (.iadd 1 (.t 36) (.t 37)) 31, .y 39 (.load1 (.t 38)) 31, .y 40 (.bin .eql (.t 35) (.t 39)) 31, .o 41 (.pick (.t 31) (.t 40) (.k (.c (.bool false))))]
    [.q (.m 26 3), .q (.o 27 (.iadd 4 (.t 26) (.k (.c (.int .i64 0))))), .q (.f 28 0 27), .q (.l 29 28), .q (.o 30 (.bin .eql (.t 29) (.k (.c (.int .i64 1))))), .q (.m 31 30), .q (.y 32 (.mov (.t 3)) 31), .q (.y 33 (.iadd 4 (.t 32) (.k (.c (.int .i64 0)))) 31), .q (.y 34 (.fadd 1 (.t 33)) 31), .q (.y 35 (.load1 (.t 34)) 31), .q (.y 36 (.mov (.t 6)) 31), .q (.y 37 (.mov (.t 7)) 31), .q (.y 38 (.iadd 1 (.t 36) (.t 37)) 31), .q (.y 39 (.load1 (.t 38)) 31), .q (.y 40 (.bin .eql (.t 35) (.t 39)) 31), .q (.o 41 (.pick (.t 31) (.t 40) (.k (.c (.bool false)))))])
  (.cond (.t 41)
  (.seq (.reg [.o 2 (.mov (.k (.c (.bool true))))])
  (.ret))
  (.skip))))
  (.reg [.m 24 7, .o 25 (.bin .add (.t 24) (.k (.c (.int .i64 1)))), .m 7 25]))))))
  (.seq (.reg [.o 2 (.mov (.k (.c (.bool false))))])
  (.ret)))))
def r12 : List ResV := [.tmp 2]
theorem k12 : CodeIs Tryz.prog 12 1 Tryz.f12 c12 r12 := ⟨by kernel_rfl, Tryz.func12, rfl, by kernel_rfl, by kernel_rfl, by decide, enters_fn Tryz.func12 (by kernel_rfl) rfl⟩
def c3 : AC :=
  .seq (.reg [.o 2 (.mov (.k (.c (.bool false))))])
  (.seq (.reg [.k 26 7 [], .m 3 26])
  (.seq (.seq (.reg [.m 27 3, .o 28 (.un .not (.t 27))])
  (.cond (.t 28)
  (.seq (.reg [.o 2 (.mov (.k (.c (.bool false))))])
  (.ret))
  (.skip)))
  (.seq (.seq (.reg [.m 29 0, .o 30 (.lens (.t 29)), .o 31 (.bin .gtr (.t 30) (.k (.c (.int .i64 600))))])
  (.cond (.t 31)
  (.seq (.reg [.m 32 3, .m 2 32])
  (.ret))
  (.skip)))
  (.seq (.reg [.m 34 0, .k 35 8 [(.t 34)], .m 33 35, .x 36 33 0, .x 37 33 1, .x 38 33 2, .x 39 33 3, .m 4 36, .m 5 37, .m 6 38, .m 7 39])
  (.seq (.seq (.reg [.m 40 6, .o 41 (.bin .neq (.t 40) (.k (.c (.int .i64 0))))])
  (.cond (.t 41)
  (.seq (.reg [.m 42 3, .m 2 42])
  (.ret))
  (.skip)))
  (.seq (.reg [.k 43 9 [], .m 8 43])
  (.seq (.reg [.o 9 (.mov (.k (.c (.str []))))])
  (.seq (.seq (.reg [.o 10 (.mov (.k (.c (.int .i64 0))))])
  (.block 0 (.loop (.seq (.seq (.reg [.m 44 10, .m 45 4, .o 46 (.lenr (.t 45)), .o 47 (.bin .lss (.t 44) (.t 46))])
  (.cond (.t 47)
  (.skip)
  (.exit 0)))
  (.seq (.block 1 (.seq (.reg [.m 50 4, .m 51 10, .o 52 (.iadd 16 (.t 50) (.t 51)), .f 53 10 52, .d 54 5 53, .k 55 10 [(.t 54), (.k (.c (.int .i64 150)))], .m 11 55])
  (.seq (.seq (.reg [.m 56 11])
  (.cond (.t 56)
  (.seq (.reg [.m 57 3, .m 2 57])
  (.ret))
  (.skip)))
  (.seq (.reg [.m 58 8, .m 59 4, .m 60 10, .o 61 (.iadd 16 (.t 59) (.t 60)), .d 62 16 61, .k 63 11 [(.t 58), (.t 62)], .m 12 63])
  (.seq (.reg [.m 64 4, .m 65 10, .o 66 (.iadd 16 (.t 64) (.t 65)), .f 67 0 66, .l 68 67, .o 69 (.bin .eql (.t 68) (.k (.c (.int .i64 3)))), .m 70 69, .y 71 (.mov (.t 12)) 70, .y 72 (.call (.k (.fn 12 [])) [(.t 71)]) 70, .o 73 (.pick (.t 70) (.t 72) (.k (.c (.bool false)))), .m 13 73])
  (.seq (.seq (.reg [.m 74 13])
  (.cond (.t 74)
  (.seq (.reg [.m 75 3, .m 2 75])
  (.ret))
  (.skip)))
  (.seq (.reg [.m 76 9, .m 77 12, .o 78 (.bin .add (.t 76) (.t 77)), .o 79 (.bin .add (.t 78) (.k (.c (.str [10])))), .m 9 79])
  (.seq (.seq (.reg [.m 80 4, .m 81 10, .o 82 (.iadd 16 (.t 80) (.t 81)), .f 83 0 82, .l 84 83, .o 85 (.bin .neq (.t 84) (.k (.c (.int .i64 2))))])
  (.cond (.t 85)
  (.exit 1)
  (.skip)))
  (.seq (.reg [.o 14 (.mov (.k (.c (.int .i64 0))))])
  (.block 2 (.loop (.seq (.seq (.reg [.m 86 14, .m 87 4, .m 88 10, .o 89 (.iadd 16 (.t 87) (.t 88)), .f 90 1 89, .l 91 90, .o 92 (.lenr (.t 91)), .o 93 (.bin .lss (.t 86) (.t 92))])
  (.cond (.t 93)
  (.skip)
  (.exit 2)))
  (.seq (.block 3 (.seq (.reg [.m 96 4, .m 97 10, .o 98 (.iadd 16 (.t 96) (.t 97)), .f 99 7 98, .d 100 3 99, .o 15 (.box (.k (.agg [.c (.str []), .c (.int .i64 0), .c (.int .i64 0)]))), .s 3 15 100])
  (.seq (.reg [.m 101 4, .m 102 10, .o 103 (.iadd 16 (.t 101) (.t 102)), .f 104 1 103, .l 105 104, .m 106 14, .o 107 (.iadd 1 (.t 105) (.t 106)), .l 108 107, .f 109 0 15, .s 1 109 108])
  (.seq (.reg [.m 111 8, .d 112 3 15, .k 113 13 [(.t 111), (.t 112)], .m 110 113, .x 114 110 0, .x 115 110 1, .m 16 114, .m 17 115])
  (.seq (.seq (.reg [.m 116 17, .o 117 (.bin .neq (.t 116) (.k (.c (.int .i64 0))))])
  (.cond (.t 117)
  (.seq (.reg [.o 2 (.mov (.k (.c (.bool false))))])
  (.ret))
  (.skip)))
  (.reg [.m 118 16, .m 8 118]))))))
  (.reg [.m 94 14, .o 95 (.bin .add (.t 94) (.k (.c (.int .i64 1)))), .m 14 95]))))))))))))))
  (.reg [.m 48 10, .o 49 (.bin .add (.t 48) (.k (.c (.int .i64 1)))), .m 10 49]))))))
  (.seq (.reg [.m 120 9, .k 121 8 [(.t 120)], .m 119 121, .x 122 119 0, .x 123 119 1, .x 124 119 2, .x 125 119 3, .m 18 122, .m 19 123, .m 20 124, .m 21 125])
  (.seq (.seq (.reg [.m 126 20, .o 127 (.bin .neq (.t 126) (.k (.c (.int .i64 0)))), .m 128 127, .z 129 (.mov (.t 4)) 128, .z 130 (.lenr (.t 129)) 128, .z 131 (.mov (.t 18)) 128, .z 132 (.lenr (.t 131)) 128, .z 133 (.bin .neq (.t 130) (.t 132)) 128, .o 134 (.pick (.t 128) (.k (.c (.bool true))) (.t 133))])
  (.cond (.t 134)
  (.seq (.reg [.o 2 (.mov (.k (.c (.bool false))))])
  (.ret))
  (.skip)))
  (.seq (.seq (.reg [.o 22 (.mov (.k (.c (.int .i64 0))))])
  (.block 4 (.loop (.seq (.seq (.reg [.m 135 22, .m 136 4, .o 137 (.lenr (.t 136)), .o 138 (.bin .lss (.t 135) (.t 137))])
  (.cond (.t 138)
  (.skip)
  (.exit 4)))
  (.seq (.block 5 (.seq (.dreg [.m 141 4, .m 142 22, .o 143 (.iadd 16 (.t 141) (.t 142)), .d 144 16 143, .m 145 18, .m 146 22, .o 147 (.iadd 16 (.t 145) (.t 146)), .d 148 16 147, .k 149 14 [(.t 144), (.t 148)], .m 23 149]
    [.q (.m 141 4), .q (.m 142 22), .q (.o 143 (.iadd 16 (.t 141) (.t 142))), .q (.d 144 16 143), .q (.m 145 18), .q (.m 146 22), .q (.o 147 (.iadd 16 (.t 145) (.t 146))), .q (.d 148 16 147), ⟨.k 149 14 [(.t 144), (.t 148)], true, 0⟩, ⟨.m 23 149, false, 1⟩])
  (.seq (.reg [.m 150 23, .o 151 (.un .not (.t 150))])
  (.cond (.t 151)
  (.seq (.reg [.o 2 (.mov (.k (.c (.bool false))))])
  (.ret))
  (.skip)))))
  (.reg [.m 139 22, .o 140 (.bin .add (.t 139) (.k (.c (.int .i64 1)))), .m 22 140]))))))
  (.seq (.reg [.m 152 5, .m 153 19, .k 154 15 [(.t 152), (.t 153)], .m 24 154])
  (.seq (.reg [.m 155 5, .m 156 8, .k 157 15 [(.t 155), (.t 156)], .m 25 157])
  (.seq (.reg [.m 158 3, .m 159 158, .y 160 (.mov (.t 24)) 159, .o 161 (.pick (.t 159) (.t 160) (.k (.c (.bool false)))), .m 162 161, .y 163 (.mov (.t 25)) 162, .o 164 (.pick (.t 162) (.t 163) (.k (.c (.bool false)))), .m 2 164])
  (.ret)))))))))))))))
def r3 : List ResV := [.tmp 2]
theorem k3 : CodeIs Tryz.prog 3 1 Tryz.f3 c3 r3 := ⟨by kernel_rfl, Tryz.func3, rfl, by kernel_rfl, by kernel_rfl, by decide, enters_fn Tryz.func3 (by kernel_rfl) rfl⟩
def c40 : AC :=
  .seq (.reg [.o 1 (.box (.t 0)), .o 2 (.mov (.k (.c (.str []))))])
  (.seq (.reg [.o 3 (.mov (.k (.c (.str [105, 110, 102, 105, 120]))))])
  (.seq (.seq (.reg [.f 4 2 1, .l 5 4])
  (.block 0 (.seq (.reg [.o 7 (.bin .eql (.t 5) (.k (.c (.int .i64 1)))), .m 6 7])
  (.cond (.t 6)
  (.reg [.o 3 (.mov (.k (.c (.str [105, 110, 102, 105, 120, 108]))))])
  (.seq (.reg [.o 9 (.bin .eql (.t 5) (.k (.c (.int .i64 2)))), .m 8 9])
  (.cond (.t 8)
  (.reg [.o 3 (.mov (.k (.c (.str [105, 110, 102, 105, 120, 114]))))])
  (.skip)))))))
  (.seq (.dreg [.m 10 3, .o 11 (.bin .add (.t 10) (.k (.c (.str [32])))), .f 12 0 1, .l 13 12, .o 14 (.bin .add (.t 11) (.t 13)), .o 15 (.bin .add (.t 14) (.k (.c (.str [32])))), .f 16 1 1, .l 17 16, .o 18 (.mx (.t 17) (.k (.c (.int .i64 0)))), .k 19 62 [(.t 18)], .o 20 (.bin .add (.t 15) (.t 19)), .o 21 (.bin .add (.t 20) (.k (.c (.str [46])))), .m 2 21]
    [.q (.f 16 1 1), .q (.l 17 16), .q (.o 18 (.mx (.t 17) (.k (.c (.int .i64 0))))), ⟨.k 19 62 [(.t 18)], true, 0⟩, .q (.m 10 3), .q (.o 11 (.bin .add (.t 10) (.k (.c (.str [32]))))), .q (.f 12 0 1), .q (.l 13 12), .q (.o 14 (.bin .add (.t 11) (.t 13))), .q (.o 15 (.bin .add (.t 14) (.k (.c (.str [32]))))), ⟨.o 20 (.bin .add (.t 15) (.t 19)), false, 1⟩, ⟨.o 21 (.bin .add (.t 20) (.k (.c (.str [46])))), false, 1⟩, ⟨.m 2 21, false, 1⟩])
  (.ret))))
def r40 : List ResV := [.tmp 2]
theorem k40 : CodeIs Tryz.prog 40 1 Tryz.f40 c40 r40 := ⟨by kernel_rfl, Tryz.func40, rfl, by kernel_rfl, by kernel_rfl, by decide, enters_fn Tryz.func40 (by kernel_rfl) rfl⟩
end Go.Proofs.YtplgnfciipceiaaGreatDoor
namespace Go.Proofs.YtplgnfciipceiaaGreatDoor
open Go.RowKit Go.Lamb
def c32 : AC :=
  .seq (.reg [.o 0 (.mov (.k (.csl [])))])
  (.seq (.reg [.o 1 (.bsl 1 [(.k (.c (.str [107, 105, 110, 100]))), (.k (.c (.str [116, 121, 112, 101]))), (.k (.c (.str [105, 110, 102, 105, 120]))), (.k (.c (.str [105, 110, 102, 105, 120, 108]))), (.k (.c (.str [105, 110, 102, 105, 120, 114])))]), .m 0 1])
  (.ret))
def r32 : List ResV := [.tmp 0]
theorem k32 : CodeIs Tryz.prog 32 0 Tryz.f32 c32 r32 := ⟨by kernel_rfl, Tryz.func32, rfl, by kernel_rfl, by kernel_rfl, by decide, enters_fn Tryz.func32 (by kernel_rfl) rfl⟩
def c34 : AC :=
  .seq (.reg [.o 2 (.box (.k (.agg [.c (.int .i64 0), .c (.str []), .c (.int .i64 0), .c (.int .i64 0)])))])
  (.seq (.dreg [.m 3 0, .n 4 3, .f 5 0 4, .l 6 5, .m 7 0, .n 8 7, .f 9 1 8, .l 10 9, .m 11 0, .n 12 11, .f 13 0 12, .l 14 13, .o 15 (.lenr (.t 14)), .o 16 (.bin .sub (.t 15) (.k (.c (.int .i64 1)))), .o 17 (.mn (.t 10) (.t 16)), .o 18 (.iadd 4 (.t 6) (.t 17)), .d 19 4 18, .s 4 2 19]
    [.q (.m 3 0), .q (.n 4 3), .q (.f 5 0 4), .q (.l 6 5), .q (.m 7 0), .q (.n 8 7), .q (.f 9 1 8), .q (.l 10 9), .q (.m 11 0), .q (.n 12 11), .q (.f 13 0 12), .q (.l 14 13), .q (.o 15 (.lenr (.t 14))), .q (.o 16 (.bin .sub (.t 15) (.k (.c (.int .i64 1))))), .q (.o 17 (.mn (.t 10) (.t 16))), .q (.o 18 (.iadd 4 (.t 6) (.t 17))), .q (.d 19 4 18), ⟨.s 4 2 19, true, 0⟩])
  (.ret))
def r34 : List ResV := [.celln 4 2]
theorem k34 : CodeIs Tryz.prog 34 1 Tryz.f34 c34 r34 := ⟨by kernel_rfl, Tryz.func34, rfl, by kernel_rfl, by kernel_rfl, by decide, enters_fn Tryz.func34 (by kernel_rfl) rfl⟩
def c144 : AC :=
  .seq (.reg [.m 6 0, .n 7 6, .f 8 3 7, .l 9 8, .o 10 (.bin .eql (.t 9) (.k (.c (.int .i64 0))))])
  (.cond (.t 10)
  (.reg [.m 11 0, .m 12 0, .m 13 1, .m 14 2, .n 15 11, .f 16 3 15, .s 1 16 13, .n 17 12, .f 18 4 17, .s 1 18 14])
  (.skip))
def r144 : List ResV := []
theorem k144 : CodeIs Tryz.prog 144 3 Tryz.f144 c144 r144 := ⟨by kernel_rfl, Tryz.func144, rfl, by kernel_rfl, by kernel_rfl, by decide, enters_fn Tryz.func144 (by kernel_rfl) rfl⟩
def c143 : AC :=
  .seq (.reg [.o 6 (.mov (.k (.c (.bool false))))])
  (.seq (.reg [.m 9 0, .k 10 34 [(.t 9)], .o 7 (.box (.k (.agg [.c (.int .i64 0), .c (.str []), .c (.int .i64 0), .c (.int .i64 0)]))), .s 4 7 10])
  (.seq (.reg [.f 11 0 7, .l 12 11, .m 13 1, .o 14 (.bin .eql (.t 12) (.t 13)), .m 15 14, .y 16 (.fadd 1 (.t 7)) 15, .y 17 (.load1 (.t 16)) 15, .y 18 (.mov (.t 2)) 15, .y 19 (.bin .eql (.t 17) (.t 18)) 15, .o 20 (.pick (.t 15) (.t 19) (.k (.c (.bool false)))), .m 8 20])
  (.seq (.seq (.reg [.m 21 8])
  (.cond (.t 21)
  (.reg [.m 22 0, .n 23 22, .f 24 1 23, .l 25 24, .o 26 (.bin .add (.t 25) (.k (.c (.int .i64 1)))), .n 27 22, .f 28 1 27, .s 1 28 26])
  (.skip)))
  (.seq (.reg [.m 29 8, .m 6 29])
  (.ret)))))
def r143 : List ResV := [.tmp 6]
theorem k143 : CodeIs Tryz.prog 143 3 Tryz.f143 c143 r143 := ⟨by kernel_rfl, Tryz.func143, rfl, by kernel_rfl, by kernel_rfl, by decide, enters_fn Tryz.func143 (by kernel_rfl) rfl⟩
def c146 : AC :=
  .seq (.reg [.o 6 (.box (.k (.agg [.c (.int .i64 0), .c (.str []), .c (.int .i64 0), .c (.int .i64 0)])))])
  (.seq (.reg [.m 8 0, .k 9 34 [(.t 8)], .o 7 (.box (.k (.agg [.c (.int .i64 0), .c (.str []), .c (.int .i64 0), .c (.int .i64 0)]))), .s 4 7 9])
  (.seq (.seq (.reg [.m 10 2, .f 11 0 7, .l 12 11, .k 13 185 [(.t 10), (.t 12)], .o 14 (.un .not (.t 13))])
  (.cond (.t 14)
  (.reg [.m 15 0, .m 16 1, .f 17 3 7, .l 18 17, .k 19 144 [(.t 15), (.t 16), (.t 18)]])
  (.skip)))
  (.seq (.reg [.m 20 0, .n 21 20, .f 22 1 21, .l 23 22, .o 24 (.bin .add (.t 23) (.k (.c (.int .i64 1)))), .n 25 20, .f 26 1 25, .s 1 26 24])
  (.seq (.reg [.d 27 4 7, .s 4 6 27])
  (.ret)))))
def r146 : List ResV := [.celln 4 6]
theorem k146 : CodeIs Tryz.prog 146 3 Tryz.f146 c146 r146 := ⟨by kernel_rfl, Tryz.func146, rfl, by kernel_rfl, by kernel_rfl, by decide, enters_fn Tryz.func146 (by kernel_rfl) rfl⟩
def c142 : AC :=
  .seq (.reg [.o 4 (.mov (.k (.csl [])))])
  (.seq (.reg [.m 6 0, .m 7 1, .k 8 146 [(.t 6), (.k (.c (.int .i64 100))), (.t 7)], .o 9 (.bsl 4 [(.t 8)]), .m 5 9])
  (.seq (.block 0 (.loop (.seq (.seq (.reg [.m 10 0, .n 11 10, .f 12 3 11, .l 13 12, .o 14 (.bin .eql (.t 13) (.k (.c (.int .i64 0)))), .m 15 14, .y 16 (.mov (.t 0)) 15, .y 17 (.call (.k (.fn 143 [])) [(.t 16), (.k (.c (.int .i64 4))), (.k (.c (.str [44])))]) 15, .o 18 (.pick (.t 15) (.t 17) (.k (.c (.bool false))))])
  (.cond (.t 18)
  (.skip)
  (.exit 0)))
  (.block 1 (.reg [.m 19 5, .m 20 0, .m 21 1, .k 22 146 [(.t 20), (.k (.c (.int .i64 100))), (.t 21)], .o 23 (.bsl 4 [(.t 22)]), .o 24 (.app 87 4 40 (.t 19) (.t 23)), .m 5 24])))))
  (.seq (.reg [.m 25 5, .m 4 25])
  (.ret))))
def r142 : List ResV := [.tmp 4]
theorem k142 : CodeIs Tryz.prog 142 2 Tryz.f142 c142 r142 := ⟨by kernel_rfl, Tryz.func142, rfl, by kernel_rfl, by kernel_rfl, by decide, enters_fn Tryz.func142 (by kernel_rfl) rfl⟩
def c141 : AC :=
  .seq (.reg [.o 2 (.mov (.k (.csl [])))])
  (.seq (.reg [.o 3 (.mov (.k (.csl [])))])
  (.seq (.seq (.reg [.m 6 0, .o 7 (.lenr (.t 6)), .o 8 (.mov (.k (.c (.int .i64 0))))])
  (.block 0 (.loop (.seq (.reg [.o 9 (.bin .lss (.t 8) (.t 7))])
  (.seq (.cond (.t 9)
  (.skip)
  (.exit 0))
  (.seq (.block 1 (.seq (.reg [.o 10 (.iadd 4 (.t 6) (.t 8)), .d 11 4 10, .o 5 (.box (.k (.agg [.c (.int .i64 0), .c (.str []), .c (.int .i64 0), .c (.int .i64 0)]))), .s 4 5 11])
  (.reg [.m 12 3, .f 13 1 5, .l 14 13, .o 15 (.bsl 1 [(.t 14)]), .o 16 (.app 9 1 16 (.t 12) (.t 15)), .m 3 16])))
  (.reg [.o 17 (.bin .add (.t 8) (.k (.c (.int .i64 1)))), .m 8 17])))))))
  (.seq (.reg [.m 18 3, .m 2 18])
  (.ret))))
def r141 : List ResV := [.tmp 2]
theorem k141 : CodeIs Tryz.prog 141 1 Tryz.f141 c141 r141 := ⟨by kernel_rfl, Tryz.func141, rfl, by kernel_rfl, by kernel_rfl, by decide, enters_fn Tryz.func141 (by kernel_rfl) rfl⟩
def c84 : AC :=
  .seq (.reg [.o 2 (.box (.k (.agg [.c (.int .i64 0), .csl [], .c (.int .i64 0), .c (.int .i64 0), .c (.str []), .c (.int .i64 0), .csl [], .c (.str []), .c (.int .i64 0), .c (.int .i64 0), .c (.int .i64 0), .c (.str []), .c (.int .i64 0), .csl [], .c (.int .i64 0), .c (.int .i64 0)])))])
  (.seq (.reg [.m 5 0, .o 6 (.bsl 1 [(.k (.c (.int .i64 1)))]), .k 7 142 [(.t 5), (.t 6)], .k 8 141 [(.t 7)], .o 9 (.build [.c (.int .i64 0), .csl [], .c (.int .i64 0), .c (.int .i64 0), .c (.str []), .c (.int .i64 0), .csl [], .c (.str []), .c (.int .i64 0), .c (.int .i64 0), .c (.int .i64 0), .c (.str []), .c (.int .i64 0), .csl [], .c (.int .i64 0), .c (.int .i64 0)] [(0, 1, (.k (.c (.int .i64 0)))), (1, 1, (.t 8))]), .o 3 (.box (.k (.agg [.c (.int .i64 0), .csl [], .c (.int .i64 0), .c (.int .i64 0), .c (.str []), .c (.int .i64 0), .csl [], .c (.str []), .c (.int .i64 0), .c (.int .i64 0), .c (.int .i64 0), .c (.str []), .c (.int .i64 0), .csl [], .c (.int .i64 0), .c (.int .i64 0)]))), .s 16 3 9])
  (.seq (.block 0 (.loop (.seq (.seq (.reg [.m 10 0, .n 11 10, .f 12 3 11, .l 13 12, .o 14 (.bin .eql (.t 13) (.k (.c (.int .i64 0))))])
  (.cond (.t 14)
  (.skip)
  (.exit 0)))
  (.seq (.block 1 (.seq (.seq (.reg [.m 19 0, .k 20 34 [(.t 19)], .o 4 (.box (.k (.agg [.c (.int .i64 0), .c (.str []), .c (.int .i64 0), .c (.int .i64 0)]))), .s 4 4 20])
  (.seq (.reg [.m 21 0, .k 22 143 [(.t 21), (.k (.c (.int .i64 1))), (.k (.c (.str [116, 121, 112, 101])))], .o 23 (.un .not (.t 22))])
  (.cond (.t 23)
  (.reg [.m 24 0, .f 25 3 4, .l 26 25, .k 27 144 [(.t 24), (.k (.c (.int .i64 100))), (.t 26)]])
  (.skip))))
  (.seq (.reg [.m 28 0, .k 29 143 [(.t 28), (.k (.c (.int .i64 4))), (.k (.c (.str [45, 62])))], .o 30 (.un .not (.t 29))])
  (.cond (.t 30)
  (.exit 0)
  (.skip)))))
  (.reg [.f 15 2 3, .l 16 15, .o 17 (.bin .add (.t 16) (.k (.c (.int .i64 1)))), .f 18 2 3, .s 1 18 17])))))
  (.seq (.reg [.d 31 16 3, .s 16 2 31])
  (.ret))))
def r84 : List ResV := [.celln 16 2]
theorem k84 : CodeIs Tryz.prog 84 1 Tryz.f84 c84 r84 := ⟨by kernel_rfl, Tryz.func84, rfl, by kernel_rfl, by kernel_rfl, by decide, enters_fn Tryz.func84 (by kernel_rfl) rfl⟩
def c85 : AC :=
  .seq (.reg [.o 2 (.box (.k (.agg [.c (.int .i64 0), .csl [], .c (.int .i64 0), .c (.int .i64 0), .c (.str []), .c (.int .i64 0), .csl [], .c (.str []), .c (.int .i64 0), .c (.int .i64 0), .c (.int .i64 0), .c (.str []), .c (.int .i64 0), .csl [], .c (.int .i64 0), .c (.int .i64 0)])))])
  (.seq (.reg [.m 8 0, .o 9 (.bsl 1 [(.k (.c (.int .i64 1))), (.k (.c (.int .i64 4)))]), .k 10 142 [(.t 8), (.t 9)], .k 11 141 [(.t 10)], .o 12 (.build [.c (.int .i64 0), .csl [], .c (.int .i64 0), .c (.int .i64 0), .c (.str []), .c (.int .i64 0), .csl [], .c (.str []), .c (.int .i64 0), .c (.int .i64 0), .c (.int .i64 0), .c (.str []), .c (.int .i64 0), .csl [], .c (.int .i64 0), .c (.int .i64 0)] [(0, 1, (.k (.c (.int .i64 1)))), (1, 1, (.t 11))]), .o 3 (.box (.k (.agg [.c (.int .i64 0), .csl [], .c (.int .i64 0), .c (.int .i64 0), .c (.str []), .c (.int .i64 0), .csl [], .c (.str []), .c (.int .i64 0), .c (.int .i64 0), .c (.int .i64 0), .c (.str []), .c (.int .i64 0), .csl [], .c (.int .i64 0), .c (.int .i64 0)]))), .s 16 3 12])
  (.seq (.seq (.reg [.m 13 0, .n 14 13, .f 15 3 14, .l 16 15, .o 17 (.bin .neq (.t 16) (.k (.c (.int .i64 0))))])
  (.cond (.t 17)
  (.seq (.reg [.d 18 16 3, .s 16 2 18])
  (.ret))
  (.skip)))
  (.seq (.dreg [.m 20 0, .n 21 20, .f 22 0 21, .l 23 22, .m 24 0, .n 25 24, .f 26 1 25, .l 27 26, .k 28 145 [(.t 23), (.t 27)], .m 19 28, .x 29 19 0, .x 30 19 1, .x 31 19 2, .x 32 19 3, .o 4 (.box (.k (.agg [.c (.int .i64 0), .c (.str []), .c (.int .i64 0), .csl []]))), .s 4 4 29, .m 5 30, .m 6 31, .m 7 32]
    [⟨.o 4 (.box (.k (.agg [.c (.int .i64 0), .c (.str []), .c (.int .i64 0), .csl []]))), true, 0⟩, .q (.m 20 0), .q (.n 21 20), .q (.f 22 0 21), .q (.l 23 22), .q (.m 24 0), .q (.n 25 24), .q (.f 26 1 25), .q (.l 27 26), .q (.k 28 145 [(.t 23), (.t 27)]), .q (.m 19 28), .q (.x 29 19 0), ⟨.s 4 4 29, true, 1⟩, .q (.x 30 19 1), .q (.x 31 19 2), .q (.x 32 19 3), ⟨.m 5 30, false, 2⟩, ⟨.m 6 31, false, 2⟩, ⟨.m 7 32, false, 2⟩])
  (.seq (.seq (.reg [.m 33 6, .o 34 (.bin .neq (.t 33) (.k (.c (.int .i64 0))))])
  (.cond (.t 34)
  (.reg [.m 35 0, .m 36 6, .m 37 7, .k 38 144 [(.t 35), (.t 36), (.t 37)]])
  (.skip)))
  (.seq (.reg [.m 39 0, .d 40 4 4, .m 41 5, .f 42 3 3, .s 4 42 40, .n 43 39, .f 44 1 43, .s 1 44 41])
  (.seq (.reg [.d 45 16 3, .s 16 2 45])
  (.ret)))))))
def r85 : List ResV := [.celln 16 2]
theorem k85 : CodeIs Tryz.prog 85 1 Tryz.f85 c85 r85 := ⟨by kernel_rfl, Tryz.func85, rfl, by kernel_rfl, by kernel_rfl, by decide, enters_fn Tryz.func85 (by kernel_rfl) rfl⟩
def c86 : AC :=
  .seq (.reg [.o 4 (.box (.k (.agg [.c (.int .i64 0), .csl [], .c (.int .i64 0), .c (.int .i64 0), .c (.str []), .c (.int .i64 0), .csl [], .c (.str []), .c (.int .i64 0), .c (.int .i64 0), .c (.int .i64 0), .c (.str []), .c (.int .i64 0), .csl [], .c (.int .i64 0), .c (.int .i64 0)])))])
  (.seq (.reg [.m 12 0, .o 13 (.bsl 1 [(.k (.c (.int .i64 1))), (.k (.c (.int .i64 4)))]), .k 14 142 [(.t 12), (.t 13)], .m 5 14])
  (.seq (.reg [.m 15 5, .k 16 141 [(.t 15)], .m 17 1, .o 18 (.build [.c (.str []), .c (.int .i64 0), .c (.int .i64 0)] [(2, 1, (.t 17))]), .o 19 (.build [.c (.int .i64 0), .csl [], .c (.int .i64 0), .c (.int .i64 0), .c (.str []), .c (.int .i64 0), .csl [], .c (.str []), .c (.int .i64 0), .c (.int .i64 0), .c (.int .i64 0), .c (.str []), .c (.int .i64 0), .csl [], .c (.int .i64 0), .c (.int .i64 0)] [(0, 1, (.k (.c (.int .i64 2)))), (1, 1, (.t 16)), (7, 3, (.t 18))]), .o 6 (.box (.k (.agg [.c (.int .i64 0), .csl [], .c (.int .i64 0), .c (.int .i64 0), .c (.str []), .c (.int .i64 0), .csl [], .c (.str []), .c (.int .i64 0), .c (.int .i64 0), .c (.int .i64 0), .c (.str []), .c (.int .i64 0), .csl [], .c (.int .i64 0), .c (.int .i64 0)]))), .s 16 6 19])
  (.seq (.seq (.reg [.m 20 0, .n 21 20, .f 22 3 21, .l 23 22, .o 24 (.bin .neq (.t 23) (.k (.c (.int .i64 0))))])
  (.cond (.t 24)
  (.seq (.reg [.d 25 16 6, .s 16 4 25])
  (.ret))
  (.skip)))
  (.seq (.reg [.m 26 0, .o 27 (.bsl 1 [(.k (.c (.int .i64 3)))]), .k 28 146 [(.t 26), (.k (.c (.int .i64 100))), (.t 27)], .o 29 (.field1 2 (.t 28)), .f 30 7 6, .f 31 1 30, .s 1 31 29])
  (.seq (.reg [.m 32 0, .k 33 88 [(.t 32)]])
  (.seq (.skip)
  (.seq (.seq (.reg [.m 34 5, .o 35 (.lenr (.t 34)), .o 36 (.mov (.k (.c (.int .i64 0))))])
  (.block 0 (.loop (.seq (.reg [.o 37 (.bin .lss (.t 36) (.t 35))])
  (.seq (.cond (.t 37)
  (.skip)
  (.exit 0))
  (.seq (.block 1 (.seq (.reg [.o 38 (.iadd 4 (.t 34) (.t 36)), .d 39 4 38, .o 8 (.box (.k (.agg [.c (.int .i64 0), .c (.str []), .c (.int .i64 0), .c (.int .i64 0)]))), .s 4 8 39])
  (.seq (.seq (.reg [.m 40 0, .n 41 40, .f 42 3 41, .l 43 42, .o 44 (.bin .neq (.t 43) (.k (.c (.int .i64 0))))])
  (.cond (.t 44)
  (.exit 0)
  (.skip)))
  (.seq (.reg [.f 45 7 6, .d 46 3 45, .o 9 (.box (.k (.agg [.c (.str []), .c (.int .i64 0), .c (.int .i64 0)]))), .s 3 9 46])
  (.seq (.reg [.f 47 1 8, .l 48 47, .f 49 0 9, .s 1 49 48])
  (.seq (.dreg [.m 51 0, .n 52 51, .f 53 2 52, .l 54 53, .d 55 3 9, .k 56 13 [(.t 54), (.t 55)], .m 50 56, .x 57 50 0, .x 58 50 1, .m 10 57, .m 11 58]
    [.q (.m 51 0), .q (.n 52 51), .q (.f 53 2 52), .q (.l 54 53), .q (.d 55 3 9), ⟨.k 56 13 [(.t 54), (.t 55)], true, 0⟩, ⟨.m 50 56, false, 1⟩, ⟨.x 57 50 0, false, 1⟩, ⟨.x 58 50 1, false, 1⟩, ⟨.m 10 57, false, 1⟩, ⟨.m 11 58, false, 1⟩])
  (.seq (.seq (.reg [.m 59 11, .o 60 (.bin .neq (.t 59) (.k (.c (.int .i64 0))))])
  (.cond (.t 60)
  (.reg [.m 61 0, .m 62 11, .f 63 3 8, .l 64 63, .k 65 144 [(.t 61), (.t 62), (.t 64)]])
  (.skip)))
  (.reg [.m 66 0, .m 67 10, .n 68 66, .f 69 2 68, .s 1 69 67]))))))))
  (.reg [.o 70 (.bin .add (.t 36) (.k (.c (.int .i64 1)))), .m 36 70])))))))
  (.seq (.reg [.d 71 16 6, .s 16 4 71])
  (.ret)))))))))
def r86 : List ResV := [.celln 16 4]
theorem k86 : CodeIs Tryz.prog 86 2 Tryz.f86 c86 r86 := ⟨by kernel_rfl, Tryz.func86, rfl, by kernel_rfl, by kernel_rfl, by decide, enters_fn Tryz.func86 (by kernel_rfl) rfl⟩
def c87 : AC :=
  .seq (.reg [.o 2 (.box (.k (.agg [.c (.int .i64 0), .csl [], .c (.int .i64 0), .c (.int .i64 0), .c (.str []), .c (.int .i64 0), .csl [], .c (.str []), .c (.int .i64 0), .c (.int .i64 0), .c (.int .i64 0), .c (.str []), .c (.int .i64 0), .csl [], .c (.int .i64 0), .c (.int .i64 0)])))])
  (.seq (.dreg [.m 8 0, .n 9 8, .f 10 2 9, .l 11 10, .m 12 0, .n 13 12, .f 14 0 13, .l 15 14, .m 16 0, .n 17 16, .f 18 1 17, .l 19 18, .k 20 81 [(.t 11), (.t 15), (.t 19)], .m 7 20, .x 21 7 0, .x 22 7 1, .x 23 7 2, .x 24 7 3, .o 3 (.box (.k (.agg [.c (.int .i64 0), .c (.str []), .c (.int .i64 0), .csl [], .c (.int .i64 0)]))), .s 5 3 21, .m 4 22, .m 5 23, .m 6 24]
    [⟨.o 3 (.box (.k (.agg [.c (.int .i64 0), .c (.str []), .c (.int .i64 0), .csl [], .c (.int .i64 0)]))), true, 0⟩, .q (.m 8 0), .q (.n 9 8), .q (.f 10 2 9), .q (.l 11 10), .q (.m 12 0), .q (.n 13 12), .q (.f 14 0 13), .q (.l 15 14), .q (.m 16 0), .q (.n 17 16), .q (.f 18 1 17), .q (.l 19 18), .q (.k 20 81 [(.t 11), (.t 15), (.t 19)]), .q (.m 7 20), .q (.x 21 7 0), ⟨.s 5 3 21, true, 1⟩, .q (.x 22 7 1), .q (.x 23 7 2), .q (.x 24 7 3), ⟨.m 4 22, false, 2⟩, ⟨.m 5 23, false, 2⟩, ⟨.m 6 24, false, 2⟩])
  (.seq (.seq (.reg [.m 25 5, .o 26 (.bin .neq (.t 25) (.k (.c (.int .i64 0))))])
  (.cond (.t 26)
  (.reg [.m 27 0, .m 28 5, .m 29 6, .k 30 144 [(.t 27), (.t 28), (.t 29)]])
  (.skip)))
  (.seq (.reg [.m 31 0, .m 32 4, .n 33 31, .f 34 1 33, .s 1 34 32])
  (.seq (.reg [.d 35 5 3, .o 36 (.build [.c (.int .i64 0), .csl [], .c (.int .i64 0), .c (.int .i64 0), .c (.str []), .c (.int .i64 0), .csl [], .c (.str []), .c (.int .i64 0), .c (.int .i64 0), .c (.int .i64 0), .c (.str []), .c (.int .i64 0), .csl [], .c (.int .i64 0), .c (.int .i64 0)] [(0, 1, (.k (.c (.int .i64 3)))), (10, 5, (.t 35))]), .s 16 2 36])
  (.ret)))))
def r87 : List ResV := [.celln 16 2]
theorem k87 : CodeIs Tryz.prog 87 1 Tryz.f87 c87 r87 := ⟨by kernel_rfl, Tryz.func87, rfl, by kernel_rfl, by kernel_rfl, by decide, enters_fn Tryz.func87 (by kernel_rfl) rfl⟩
def c88 : AC :=
  .seq (.reg [.m 2 0, .n 3 2, .f 4 3 3, .l 5 4, .o 6 (.bin .eql (.t 5) (.k (.c (.int .i64 0))))])
  (.cond (.t 6)
  (.reg [.m 7 0, .o 8 (.bsl 1 [(.k (.c (.int .i64 7)))]), .k 9 146 [(.t 7), (.k (.c (.int .i64 101))), (.t 8)]])
  (.skip))
def r88 : List ResV := []
theorem k88 : CodeIs Tryz.prog 88 1 Tryz.f88 c88 r88 := ⟨by kernel_rfl, Tryz.func88, rfl, by kernel_rfl, by kernel_rfl, by decide, enters_fn Tryz.func88 (by kernel_rfl) rfl⟩
def c35 : AC :=
  .seq (.reg [.o 2 (.box (.k (.agg [.c (.int .i64 0), .csl [], .c (.int .i64 0), .c (.int .i64 0), .c (.str []), .c (.int .i64 0), .csl [], .c (.str []), .c (.int .i64 0), .c (.int .i64 0), .c (.int .i64 0), .c (.str []), .c (.int .i64 0), .csl [], .c (.int .i64 0), .c (.int .i64 0)])))])
  (.seq (.reg [.m 6 0, .k 7 34 [(.t 6)], .o 3 (.box (.k (.agg [.c (.int .i64 0), .c (.str []), .c (.int .i64 0), .c (.int .i64 0)]))), .s 4 3 7])
  (.seq (.reg [.o 4 (.mov (.k (.c (.str []))))])
  (.seq (.seq (.dreg [.f 8 0 3, .l 9 8, .o 10 (.bin .eql (.t 9) (.k (.c (.int .i64 1)))), .m 11 10, .y 12 (.call (.k (.fn 32 [])) []) 11, .y 13 (.fadd 1 (.t 3)) 11, .y 14 (.load1 (.t 13)) 11, .y 15 (.call (.k (.fn 60 [])) [(.t 12), (.t 14)]) 11, .o 16 (.pick (.t 11) (.t 15) (.k (.c (.bool false))))]
    [.q (.f 8 0 3), .q (.l 9 8), .q (.o 10 (.bin .eql (.t 9) (.k (.c (.int .i64 1))))), .q (.m 11 10), ⟨.y 12 (.call (.k (.fn 32 [])) []) 11, true, 0⟩, .q (.y 13 (.fadd 1 (.t 3)) 11), .q (.y 14 (.load1 (.t 13)) 11), ⟨.y 15 (.call (.k (.fn 60 [])) [(.t 12), (.t 14)]) 11, true, 1⟩, ⟨.o 16 (.pick (.t 11) (.t 15) (.k (.c (.bool false)))), false, 2⟩])
  (.cond (.t 16)
  (.seq (.reg [.f 17 1 3, .l 18 17, .m 4 18])
  (.reg [.m 19 0, .n 20 19, .f 21 1 20, .l 22 21, .o 23 (.bin .add (.t 22) (.k (.c (.int .i64 1)))), .n 24 19, .f 25 1 24, .s 1 25 23]))
  (.skip)))
  (.seq (.reg [.o 5 (.box (.k (.agg [.c (.int .i64 0), .csl [], .c (.int .i64 0), .c (.int .i64 0), .c (.str []), .c (.int .i64 0), .csl [], .c (.str []), .c (.int .i64 0), .c (.int .i64 0), .c (.int .i64 0), .c (.str []), .c (.int .i64 0), .csl [], .c (.int .i64 0), .c (.int .i64 0)])))])
  (.seq (.seq (.reg [.m 26 4])
  (.block 0 (.seq (.reg [.o 30 (.bin .eql (.t 26) (.k (.c (.str [107, 105, 110, 100])))), .m 29 30])
  (.cond (.t 29)
  (.reg [.m 31 0, .k 32 84 [(.t 31)], .s 16 5 32])
  (.seq (.reg [.o 34 (.bin .eql (.t 26) (.k (.c (.str [116, 121, 112, 101])))), .m 33 34])
  (.cond (.t 33)
  (.reg [.m 35 0, .k 36 85 [(.t 35)], .s 16 5 36])
  (.seq (.reg [.o 38 (.bin .eql (.t 26) (.k (.c (.str [105, 110, 102, 105, 120])))), .m 37 38])
  (.cond (.t 37)
  (.reg [.m 39 0, .k 40 86 [(.t 39), (.k (.c (.int .i64 0)))], .s 16 5 40])
  (.seq (.reg [.o 42 (.bin .eql (.t 26) (.k (.c (.str [105, 110, 102, 105, 120, 108])))), .m 41 42])
  (.cond (.t 41)
  (.reg [.m 43 0, .k 44 86 [(.t 43), (.k (.c (.int .i64 1)))], .s 16 5 44])
  (.seq (.reg [.o 46 (.bin .eql (.t 26) (.k (.c (.str [105, 110, 102, 105, 120, 114])))), .m 45 46])
  (.cond (.t 45)
  (.reg [.m 47 0, .k 48 86 [(.t 47), (.k (.c (.int .i64 2)))], .s 16 5 48])
  (.reg [.m 27 0, .k 28 87 [(.t 27)], .s 16 5 28])))))))))))))
  (.seq (.seq (.reg [.f 49 0 5, .l 50 49, .o 51 (.bin .neq (.t 50) (.k (.c (.int .i64 2))))])
  (.cond (.t 51)
  (.reg [.m 52 0, .k 53 88 [(.t 52)]])
  (.skip)))
  (.seq (.reg [.f 54 3 3, .l 55 54, .f 56 15 5, .s 1 56 55])
  (.seq (.reg [.d 57 16 5, .s 16 2 57])
  (.ret)))))))))
def r35 : List ResV := [.celln 16 2]
theorem k35 : CodeIs Tryz.prog 35 1 Tryz.f35 c35 r35 := ⟨by kernel_rfl, Tryz.func35, rfl, by kernel_rfl, by kernel_rfl, by decide, enters_fn Tryz.func35 (by kernel_rfl) rfl⟩
def c8 : AC :=
  .seq (.reg [.o 2 (.mov (.k (.csl []))), .o 3 (.mov (.k (.csl []))), .o 4 (.mov (.k (.c (.int .i64 0)))), .o 5 (.mov (.k (.c (.int .i64 0))))])
  (.seq (.reg [.m 12 0, .k 13 33 [(.t 12)], .m 11 13, .x 14 11 0, .x 15 11 1, .x 16 11 2, .m 6 14, .m 7 15, .m 8 16])
  (.seq (.seq (.reg [.m 17 7, .o 18 (.bin .neq (.t 17) (.k (.c (.int .i64 0))))])
  (.cond (.t 18)
  (.seq (.reg [.m 19 7, .m 20 8, .o 2 (.mov (.k (.csl []))), .o 3 (.mov (.k (.csl []))), .m 4 19, .m 5 20])
  (.ret))
  (.skip)))
  (.seq (.reg [.m 21 6, .k 22 9 [], .o 23 (.build [.csl [], .c (.int .i64 0), .csl [], .c (.int .i64 0), .c (.int .i64 0)] [(0, 1, (.t 21)), (2, 1, (.t 22))]), .o 24 (.box (.t 23)), .m 9 24])
  (.seq (.reg [.o 10 (.mov (.k (.csl [])))])
  (.seq (.block 0 (.loop (.seq (.seq (.reg [.m 25 9, .n 26 25, .f 27 3 26, .l 28 27, .o 29 (.bin .eql (.t 28) (.k (.c (.int .i64 0)))), .m 30 29, .y 31 (.mov (.t 9)) 30, .y 32 (.call (.k (.fn 34 [])) [(.t 31)]) 30, .y 33 (.field1 0 (.t 32)) 30, .y 34 (.bin .neq (.t 33) (.k (.c (.int .i64 0)))) 30, .o 35 (.pick (.t 30) (.t 34) (.k (.c (.bool false))))])
  (.cond (.t 35)
  (.skip)
  (.exit 0)))
  (.block 1 (.reg [.m 36 10, .m 37 9, .k 38 35 [(.t 37)], .o 39 (.bsl 16 [(.t 38)]), .o 40 (.app 44 16 200 (.t 36) (.t 39)), .m 10 40])))))
  (.seq (.seq (.reg [.m 41 9, .n 42 41, .f 43 3 42, .l 44 43, .o 45 (.bin .neq (.t 44) (.k (.c (.int .i64 0))))])
  (.cond (.t 45)
  (.seq (.dreg [.m 46 9, .n 47 46, .f 48 3 47, .l 49 48, .m 50 9, .n 51 50, .f 52 4 51, .l 53 52, .o 2 (.mov (.k (.csl []))), .o 3 (.mov (.k (.csl []))), .m 4 49, .m 5 53]
    [.q (.m 46 9), .q (.n 47 46), .q (.f 48 3 47), .q (.l 49 48), .q (.m 50 9), .q (.n 51 50), .q (.f 52 4 51), .q (.l 53 52), .q (.o 2 (.mov (.k (.csl [])))), .q (.o 3 (.mov (.k (.csl [])))), .q (.m 4 49), .q (.m 5 53)])
  (.ret))
  (.skip)))
  (.seq (.dreg [.m 54 10, .m 55 9, .n 56 55, .f 57 2 56, .l 58 57, .m 2 54, .m 3 58, .o 4 (.mov (.k (.c (.int .i64 0)))), .o 5 (.mov (.k (.c (.int .i64 0))))]
    [.q (.m 54 10), .q (.m 55 9), .q (.n 56 55), .q (.f 57 2 56), .q (.l 58 57), .q (.m 2 54), .q (.m 3 58), .q (.o 4 (.mov (.k (.c (.int .i64 0))))), .q (.o 5 (.mov (.k (.c (.int .i64 0)))))])
  (.ret))))))))
def r8 : List ResV := [.tmp 2, .tmp 3, .tmp 4, .tmp 5]
theorem k8 : CodeIs Tryz.prog 8 1 Tryz.f8 c8 r8 := ⟨by kernel_rfl, Tryz.func8, rfl, by kernel_rfl, by kernel_rfl, by decide, enters_fn Tryz.func8 (by kernel_rfl) rfl⟩
def c31 : AC :=
  .seq (.reg [.o 4 (.box (.k (.agg [.c (.int .i64 0), .c (.str []), .c (.int .i64 0), .csl [], .c (.int .i64 0)]))), .o 5 (.mov (.k (.c (.int .i64 0)))), .o 6 (.mov (.k (.c (.int .i64 0))))])
  (.seq (.reg [.m 16 1, .k 17 33 [(.t 16)], .m 15 17, .x 18 15 0, .x 19 15 1, .x 20 15 2, .m 7 18, .m 8 19, .m 9 20])
  (.seq (.seq (.reg [.m 21 8, .o 22 (.bin .neq (.t 21) (.k (.c (.int .i64 0))))])
  (.cond (.t 22)
  (.seq (.reg [.o 23 (.build [.c (.int .i64 0), .c (.str []), .c (.int .i64 0), .csl [], .c (.int .i64 0)] []), .m 24 8, .m 25 9, .s 5 4 23, .m 5 24, .m 6 25])
  (.ret))
  (.skip)))
  (.seq (.reg [.m 27 0, .m 28 7, .k 29 81 [(.t 27), (.t 28), (.k (.c (.int .i64 0)))], .m 26 29, .x 30 26 0, .x 31 26 1, .x 32 26 2, .x 33 26 3, .o 10 (.box (.k (.agg [.c (.int .i64 0), .c (.str []), .c (.int .i64 0), .csl [], .c (.int .i64 0)]))), .s 5 10 30, .m 11 31, .m 8 32, .m 12 33])
  (.seq (.seq (.reg [.m 34 8, .o 35 (.bin .neq (.t 34) (.k (.c (.int .i64 0))))])
  (.cond (.t 35)
  (.seq (.reg [.o 36 (.build [.c (.int .i64 0), .c (.str []), .c (.int .i64 0), .csl [], .c (.int .i64 0)] []), .m 37 8, .m 38 12, .s 5 4 36, .m 5 37, .m 6 38])
  (.ret))
  (.skip)))
  (.seq (.reg [.m 39 7, .m 40 11, .o 41 (.build [.csl [], .c (.int .i64 0), .csl [], .c (.int .i64 0), .c (.int .i64 0)] [(0, 1, (.t 39)), (1, 1, (.t 40))]), .o 42 (.box (.t 41)), .m 13 42])
  (.seq (.seq (.reg [.m 43 13, .k 44 34 [(.t 43)], .o 45 (.field1 0 (.t 44)), .o 46 (.bin .eql (.t 45) (.k (.c (.int .i64 7))))])
  (.cond (.t 46)
  (.reg [.m 47 13, .n 48 47, .f 49 1 48, .l 50 49, .o 51 (.bin .add (.t 50) (.k (.c (.int .i64 1)))), .n 52 47, .f 53 1 52, .s 1 53 51])
  (.skip)))
  (.seq (.seq (.reg [.m 54 13, .k 55 34 [(.t 54)], .o 14 (.box (.k (.agg [.c (.int .i64 0), .c (.str []), .c (.int .i64 0), .c (.int .i64 0)]))), .s 4 14 55])
  (.seq (.reg [.f 56 0 14, .l 57 56, .o 58 (.bin .neq (.t 57) (.k (.c (.int .i64 0))))])
  (.cond (.t 58)
  (.seq (.dreg [.o 59 (.build [.c (.int .i64 0), .c (.str []), .c (.int .i64 0), .csl [], .c (.int .i64 0)] []), .f 60 3 14, .l 61 60, .s 5 4 59, .o 5 (.mov (.k (.c (.int .i64 101)))), .m 6 61]
    [.q (.o 59 (.build [.c (.int .i64 0), .c (.str []), .c (.int .i64 0), .csl [], .c (.int .i64 0)] [])), ⟨.s 5 4 59, true, 0⟩, .q (.f 60 3 14), .q (.l 61 60), ⟨.o 5 (.mov (.k (.c (.int .i64 101)))), false, 1⟩, ⟨.m 6 61, false, 1⟩])
  (.ret))
  (.skip))))
  (.seq (.reg [.d 62 5 10, .s 5 4 62, .o 5 (.mov (.k (.c (.int .i64 0)))), .o 6 (.mov (.k (.c (.int .i64 0))))])
  (.ret)))))))))
def r31 : List ResV := [.celln 5 4, .tmp 5, .tmp 6]
theorem k31 : CodeIs Tryz.prog 31 2 Tryz.f31 c31 r31 := ⟨by kernel_rfl, Tryz.func31, rfl, by kernel_rfl, by kernel_rfl, by decide, enters_fn Tryz.func31 (by kernel_rfl) rfl⟩
def c60 : AC :=
  .seq (.reg [.o 4 (.mov (.k (.c (.bool false))))])
  (.seq (.reg [.m 5 0, .m 6 1, .k 7 116 [(.t 5), (.t 6)], .o 8 (.bin .geq (.t 7) (.k (.c (.int .i64 0)))), .m 4 8])
  (.ret))
def r60 : List ResV := [.tmp 4]
theorem k60 : CodeIs Tryz.prog 60 2 Tryz.f60 c60 r60 := ⟨by kernel_rfl, Tryz.func60, rfl, by kernel_rfl, by kernel_rfl, by decide, enters_fn Tryz.func60 (by kernel_rfl) rfl⟩
def c185 : AC :=
  .seq (.reg [.o 4 (.mov (.k (.c (.bool false))))])
  (.seq (.reg [.m 5 0, .m 6 1, .k 7 219 [(.t 5), (.t 6)], .o 8 (.bin .geq (.t 7) (.k (.c (.int .i64 0)))), .m 4 8])
  (.ret))
def r185 : List ResV := [.tmp 4]
theorem k185 : CodeIs Tryz.prog 185 2 Tryz.f185 c185 r185 := ⟨by kernel_rfl, Tryz.func185, rfl, by kernel_rfl, by kernel_rfl, by decide, enters_fn Tryz.func185 (by kernel_rfl) rfl⟩
def c219 : AC :=
  .seq (.reg [.o 4 (.mov (.k (.c (.int .i64 0))))])
  (.seq (.seq (.reg [.m 6 0, .o 7 (.lenr (.t 6)), .o 8 (.mov (.k (.c (.int .i64 0))))])
  (.block 0 (.loop (.seq (.reg [.o 9 (.bin .lss (.t 8) (.t 7))])
  (.seq (.cond (.t 9)
  (.skip)
  (.exit 0))
  (.seq (.block 1 (.seq (.reg [.m 10 8, .m 5 10])
  (.seq (.reg [.m 11 1, .m 12 0, .m 13 5, .o 14 (.iadd 1 (.t 12) (.t 13)), .l 15 14, .o 16 (.bin .eql (.t 11) (.t 15))])
  (.cond (.t 16)
  (.seq (.reg [.m 17 5, .m 4 17])
  (.ret))
  (.skip)))))
  (.reg [.o 18 (.bin .add (.t 8) (.k (.c (.int .i64 1)))), .m 8 18])))))))
  (.seq (.reg [.o 4 (.mov (.k (.c (.int .i64 (-1)))))])
  (.ret)))
def r219 : List ResV := [.tmp 4]
theorem k219 : CodeIs Tryz.prog 219 2 Tryz.f219 c219 r219 := ⟨by kernel_rfl, Tryz.func219, rfl, by kernel_rfl, by kernel_rfl, by decide, enters_fn Tryz.func219 (by kernel_rfl) rfl⟩
def c13 : AC :=
  .seq (.reg [.o 3 (.box (.t 1)), .o 4 (.mov (.k (.csl []))), .o 5 (.mov (.k (.c (.int .i64 0))))])
  (.seq (.reg [.m 7 0, .d 8 3 3, .k 9 42 [(.t 7), (.t 8)], .m 6 9])
  (.seq (.seq (.reg [.m 10 6, .o 11 (.bin .neq (.t 10) (.k (.c (.int .i64 0))))])
  (.cond (.t 11)
  (.seq (.reg [.m 12 0, .k 13 43 [(.t 12)], .m 14 6, .m 4 13, .m 5 14])
  (.ret))
  (.skip)))
  (.seq (.dreg [.m 15 0, .k 16 43 [(.t 15)], .d 17 3 3, .o 18 (.bsl 3 [(.t 17)]), .o 19 (.app 38 3 32 (.t 16) (.t 18)), .m 4 19, .o 5 (.mov (.k (.c (.int .i64 0))))]
    [.q (.m 15 0), ⟨.k 16 43 [(.t 15)], true, 0⟩, .q (.d 17 3 3), .q (.o 18 (.bsl 3 [(.t 17)])), ⟨.o 19 (.app 38 3 32 (.t 16) (.t 18)), true, 1⟩, ⟨.m 4 19, false, 2⟩, ⟨.o 5 (.mov (.k (.c (.int .i64 0)))), false, 2⟩])
  (.ret))))
def r13 : List ResV := [.tmp 4, .tmp 5]
theorem k13 : CodeIs Tryz.prog 13 2 Tryz.f13 c13 r13 := ⟨by kernel_rfl, Tryz.func13, rfl, by kernel_rfl, by kernel_rfl, by decide, enters_fn Tryz.func13 (by kernel_rfl) rfl⟩
def c42 : AC :=
  .seq (.reg [.o 3 (.box (.t 1)), .o 4 (.mov (.k (.c (.int .i64 0))))])
  (.seq (.reg [.m 8 0, .f 9 0 3, .l 10 9, .k 11 59 [(.t 8), (.t 10)], .m 7 11, .x 12 7 0, .x 13 7 1, .o 5 (.box (.k (.agg [.c (.str []), .c (.int .i64 0), .c (.int .i64 0)]))), .s 3 5 12, .m 6 13])
  (.seq (.block 0 (.seq (.reg [.f 15 2 3, .l 16 15, .o 17 (.bin .lss (.t 16) (.k (.c (.int .i64 0)))), .m 18 17, .z 19 (.fadd 2 (.t 3)) 18, .z 20 (.load1 (.t 19)) 18, .z 21 (.bin .gtr (.t 20) (.k (.c (.int .i64 2)))) 18, .o 22 (.pick (.t 18) (.k (.c (.bool true))) (.t 21)), .m 14 22])
  (.cond (.t 14)
  (.seq (.reg [.o 4 (.mov (.k (.c (.int .i64 1))))])
  (.ret))
  (.seq (.reg [.f 24 0 3, .l 25 24, .k 26 68 [(.t 25)], .o 27 (.un .not (.t 26)), .m 28 27, .y 29 (.fadd 0 (.t 3)) 28, .y 30 (.load1 (.t 29)) 28, .y 31 (.call (.k (.fn 69 [])) [(.t 30)]) 28, .y 32 (.un .not (.t 31)) 28, .o 33 (.pick (.t 28) (.t 32) (.k (.c (.bool false)))), .m 34 33, .z 35 (.fadd 0 (.t 3)) 34, .z 36 (.load1 (.t 35)) 34, .z 37 (.call (.k (.fn 94 [])) [(.t 36)]) 34, .o 38 (.pick (.t 34) (.k (.c (.bool true))) (.t 37)), .m 23 38])
  (.cond (.t 23)
  (.seq (.reg [.o 4 (.mov (.k (.c (.int .i64 20))))])
  (.ret))
  (.seq (.reg [.f 40 1 3, .l 41 40, .o 42 (.bin .lss (.t 41) (.k (.c (.int .i64 1)))), .m 43 42, .z 44 (.fadd 1 (.t 3)) 43, .z 45 (.load1 (.t 44)) 43, .z 46 (.bin .gtr (.t 45) (.k (.c (.int .i64 200)))) 43, .o 47 (.pick (.t 43) (.k (.c (.bool true))) (.t 46)), .m 39 47])
  (.cond (.t 39)
  (.seq (.reg [.o 4 (.mov (.k (.c (.int .i64 21))))])
  (.ret))
  (.seq (.reg [.m 49 6, .m 48 49])
  (.cond (.t 48)
  (.seq (.reg [.o 4 (.mov (.k (.c (.int .i64 22))))])
  (.ret))
  (.seq (.reg [.m 51 0, .o 52 (.lenr (.t 51)), .o 53 (.bin .geq (.t 52) (.k (.c (.int .i64 64)))), .m 50 53])
  (.cond (.t 50)
  (.seq (.reg [.o 4 (.mov (.k (.c (.int .i64 23))))])
  (.ret))
  (.skip))))))))))))
  (.seq (.reg [.o 4 (.mov (.k (.c (.int .i64 0))))])
  (.ret))))
def r42 : List ResV := [.tmp 4]
theorem k42 : CodeIs Tryz.prog 42 2 Tryz.f42 c42 r42 := ⟨by kernel_rfl, Tryz.func42, rfl, by kernel_rfl, by kernel_rfl, by decide, enters_fn Tryz.func42 (by kernel_rfl) rfl⟩
def c94 : AC :=
  .seq (.reg [.o 2 (.mov (.k (.c (.bool false))))])
  (.seq (.seq (.reg [.m 3 0])
  (.block 0 (.seq (.seq (.reg [.o 5 (.bin .eql (.t 3) (.k (.c (.str [33])))), .m 4 5])
  (.cond (.t 4)
  (.skip)
  (.seq (.reg [.o 6 (.bin .eql (.t 3) (.k (.c (.str [45, 62])))), .m 4 6])
  (.cond (.t 4)
  (.skip)
  (.seq (.reg [.o 7 (.bin .eql (.t 3) (.k (.c (.str [107, 105, 110, 100])))), .m 4 7])
  (.cond (.t 4)
  (.skip)
  (.seq (.reg [.o 8 (.bin .eql (.t 3) (.k (.c (.str [116, 121, 112, 101])))), .m 4 8])
  (.cond (.t 4)
  (.skip)
  (.seq (.reg [.o 9 (.bin .eql (.t 3) (.k (.c (.str [105, 110, 102, 105, 120])))), .m 4 9])
  (.cond (.t 4)
  (.skip)
  (.seq (.reg [.o 10 (.bin .eql (.t 3) (.k (.c (.str [105, 110, 102, 105, 120, 108])))), .m 4 10])
  (.cond (.t 4)
  (.skip)
  (.reg [.o 11 (.bin .eql (.t 3) (.k (.c (.str [105, 110, 102, 105, 120, 114])))), .m 4 11])))))))))))))
  (.cond (.t 4)
  (.seq (.reg [.o 2 (.mov (.k (.c (.bool true))))])
  (.ret))
  (.skip)))))
  (.seq (.reg [.o 2 (.mov (.k (.c (.bool false))))])
  (.ret)))
def r94 : List ResV := [.tmp 2]
theorem k94 : CodeIs Tryz.prog 94 1 Tryz.f94 c94 r94 := ⟨by kernel_rfl, Tryz.func94, rfl, by kernel_rfl, by kernel_rfl, by decide, enters_fn Tryz.func94 (by kernel_rfl) rfl⟩
def c43 : AC :=
  .seq (.reg [.o 2 (.mov (.k (.csl [])))])
  (.seq (.seq (.reg [.m 3 0, .o 4 (.eqz false (.t 3))])
  (.cond (.t 4)
  (.seq (.reg [.o 2 (.mov (.k (.csl [])))])
  (.ret))
  (.skip)))
  (.seq (.reg [.o 5 (.bsl 3 []), .m 6 0, .o 7 (.app 38 3 32 (.t 5) (.t 6)), .m 2 7])
  (.ret)))
def r43 : List ResV := [.tmp 2]
theorem k43 : CodeIs Tryz.prog 43 1 Tryz.f43 c43 r43 := ⟨by kernel_rfl, Tryz.func43, rfl, by kernel_rfl, by kernel_rfl, by decide, enters_fn Tryz.func43 (by kernel_rfl) rfl⟩
end Go.Proofs.YtplgnfciipceiaaGreatDoor
namespace Go.Proofs.YtplgnfciipceiaaGreatDoor
open Go.RowKit Go.Lamb
def c215 : AC :=
  .seq (.reg [.o 2 (.box (.k (.agg [.c (.int .i64 0), .c (.str []), .c (.int .i64 0), .c (.int .i64 0)])))])
  (.seq (.seq (.dreg [.m 3 0, .n 4 3, .f 5 1 4, .l 6 5, .o 7 (.bin .leq (.k (.c (.int .i64 0))) (.t 6)), .m 8 7, .y 9 (.mov (.t 0)) 8, .y 10 (.nilck (.t 9)) 8, .y 11 (.fadd 1 (.t 10)) 8, .y 12 (.load1 (.t 11)) 8, .y 13 (.mov (.t 0)) 8, .y 14 (.nilck (.t 13)) 8, .y 15 (.fadd 0 (.t 14)) 8, .y 16 (.load1 (.t 15)) 8, .y 17 (.lenr (.t 16)) 8, .y 18 (.bin .lss (.t 12) (.t 17)) 8, .o 19 (.pick (.t 8) (.t 18) (.k (.c (.bool false))))]
    [.q (.m 3 0), .q (.n 4 3), .q (.f 5 1 4), .q (.l 6 5), .q (.o 7 (.bin .leq (.k (.c (.int .i64 0))) (.t 6))), .q (.m 8 7), .q (.y 9 (.mov (.t 0)) 8), .q (.y 10 (.nilck (.t 9)) 8), .q (.y 11 (.fadd 1 (.t 10)) 8), .q (.y 12 (.load1 (.t 11)) 8), .q (.y 13 (.mov (.t 0)) 8), .q (.y 14 (.nilck (.t 13)) 8), .q (.y 15 (.fadd 0 (.t 14)) 8), .q (.y 16 (.load1 (.t 15)) 8), .q (.y 17 (.lenr (.t 16)) 8), .q (.y 18 (.bin .lss (.t 12) (.t 17)) 8), .q (.o 19 (.pick (.t 8) (.t 18) (.k (.c (.bool false)))))])
  (.cond (.t 19)
  (.seq (.dreg [.m 20 0, .n 21 20, .f 22 0 21, .l 23 22, .m 24 0, .n 25 24, .f 26 1 25, .l 27 26, .o 28 (.iadd 4 (.t 23) (.t 27)), .d 29 4 28, .s 4 2 29]
    [.q (.m 20 0), .q (.n 21 20), .q (.f 22 0 21), .q (.l 23 22), .q (.m 24 0), .q (.n 25 24), .q (.f 26 1 25), .q (.l 27 26), .q (.o 28 (.iadd 4 (.t 23) (.t 27))), .q (.d 29 4 28), ⟨.s 4 2 29, true, 0⟩])
  (.ret))
  (.skip)))
  (.seq (.seq (.reg [.m 30 0, .n 31 30, .f 32 0 31, .l 33 32, .o 34 (.lenr (.t 33)), .o 35 (.bin .gtr (.t 34) (.k (.c (.int .i64 0))))])
  (.cond (.t 35)
  (.seq (.dreg [.m 36 0, .n 37 36, .f 38 0 37, .l 39 38, .m 40 0, .n 41 40, .f 42 0 41, .l 43 42, .o 44 (.lenr (.t 43)), .o 45 (.bin .sub (.t 44) (.k (.c (.int .i64 1)))), .o 46 (.iadd 4 (.t 39) (.t 45)), .f 47 3 46, .l 48 47, .o 49 (.build [.c (.int .i64 0), .c (.str []), .c (.int .i64 0), .c (.int .i64 0)] [(3, 1, (.t 48))]), .s 4 2 49]
    [.q (.m 36 0), .q (.n 37 36), .q (.f 38 0 37), .q (.l 39 38), .q (.m 40 0), .q (.n 41 40), .q (.f 42 0 41), .q (.l 43 42), .q (.o 44 (.lenr (.t 43))), .q (.o 45 (.bin .sub (.t 44) (.k (.c (.int .i64 1))))), .q (.o 46 (.iadd 4 (.t 39) (.t 45))), .q (.f 47 3 46), .q (.l 48 47), .q (.o 49 (.build [.c (.int .i64 0), .c (.str []), .c (.int .i64 0), .c (.int .i64 0)] [(3, 1, (.t 48))])), ⟨.s 4 2 49, true, 0⟩])
  (.ret))
  (.skip)))
  (.seq (.reg [.o 50 (.build [.c (.int .i64 0), .c (.str []), .c (.int .i64 0), .c (.int .i64 0)] []), .s 4 2 50])
  (.ret))))
def r215 : List ResV := [.celln 4 2]
theorem k215 : CodeIs Tryz.prog 215 1 Tryz.f215 c215 r215 := ⟨by kernel_rfl, Tryz.func215, rfl, by kernel_rfl, by kernel_rfl, by decide, enters_fn Tryz.func215 (by kernel_rfl) rfl⟩
def c245 : AC :=
  .seq (.reg [.m 6 0, .n 7 6, .f 8 3 7, .l 9 8, .o 10 (.bin .eql (.t 9) (.k (.c (.int .i64 0))))])
  (.cond (.t 10)
  (.reg [.m 11 0, .m 12 0, .m 13 1, .m 14 2, .n 15 11, .f 16 3 15, .s 1 16 13, .n 17 12, .f 18 4 17, .s 1 18 14])
  (.skip))
def r245 : List ResV := []
theorem k245 : CodeIs Tryz.prog 245 3 Tryz.f245 c245 r245 := ⟨by kernel_rfl, Tryz.func245, rfl, by kernel_rfl, by kernel_rfl, by decide, enters_fn Tryz.func245 (by kernel_rfl) rfl⟩
def c217 : AC :=
  .seq (.reg [.o 2 (.mov (.k (.c (.bool false))))])
  (.seq (.seq (.reg [.m 3 0, .k 4 215 [(.t 3)], .o 5 (.field1 0 (.t 4))])
  (.block 0 (.seq (.seq (.reg [.o 7 (.bin .eql (.t 5) (.k (.c (.int .i64 1)))), .m 6 7])
  (.cond (.t 6)
  (.skip)
  (.seq (.reg [.o 8 (.bin .eql (.t 5) (.k (.c (.int .i64 2)))), .m 6 8])
  (.cond (.t 6)
  (.skip)
  (.reg [.o 9 (.bin .eql (.t 5) (.k (.c (.int .i64 5)))), .m 6 9])))))
  (.cond (.t 6)
  (.seq (.reg [.o 2 (.mov (.k (.c (.bool true))))])
  (.ret))
  (.skip)))))
  (.seq (.reg [.o 2 (.mov (.k (.c (.bool false))))])
  (.ret)))
def r217 : List ResV := [.tmp 2]
theorem k217 : CodeIs Tryz.prog 217 1 Tryz.f217 c217 r217 := ⟨by kernel_rfl, Tryz.func217, rfl, by kernel_rfl, by kernel_rfl, by decide, enters_fn Tryz.func217 (by kernel_rfl) rfl⟩
def c116 : AC :=
  .seq (.reg [.o 4 (.mov (.k (.c (.int .i64 0))))])
  (.seq (.seq (.reg [.m 6 0, .o 7 (.lenr (.t 6)), .o 8 (.mov (.k (.c (.int .i64 0))))])
  (.block 0 (.loop (.seq (.reg [.o 9 (.bin .lss (.t 8) (.t 7))])
  (.seq (.cond (.t 9)
  (.skip)
  (.exit 0))
  (.seq (.block 1 (.seq (.reg [.m 10 8, .m 5 10])
  (.seq (.reg [.m 11 1, .m 12 0, .m 13 5, .o 14 (.iadd 1 (.t 12) (.t 13)), .l 15 14, .o 16 (.bin .eql (.t 11) (.t 15))])
  (.cond (.t 16)
  (.seq (.reg [.m 17 5, .m 4 17])
  (.ret))
  (.skip)))))
  (.reg [.o 18 (.bin .add (.t 8) (.k (.c (.int .i64 1)))), .m 8 18])))))))
  (.seq (.reg [.o 4 (.mov (.k (.c (.int .i64 (-1)))))])
  (.ret)))
def r116 : List ResV := [.tmp 4]
theorem k116 : CodeIs Tryz.prog 116 2 Tryz.f116 c116 r116 := ⟨by kernel_rfl, Tryz.func116, rfl, by kernel_rfl, by kernel_rfl, by decide, enters_fn Tryz.func116 (by kernel_rfl) rfl⟩
def c259 : AC :=
  .seq (.reg [.o 2 (.box (.k (.agg [.c (.int .i64 0), .c (.str []), .c (.int .i64 0), .csl []])))])
  (.seq (.reg [.m 3 0, .o 4 (.build [.c (.int .i64 0), .c (.str []), .c (.int .i64 0), .csl []] [(0, 1, (.k (.c (.int .i64 1)))), (2, 1, (.t 3))]), .s 4 2 4])
  (.ret))
def r259 : List ResV := [.celln 4 2]
theorem k259 : CodeIs Tryz.prog 259 1 Tryz.f259 c259 r259 := ⟨by kernel_rfl, Tryz.func259, rfl, by kernel_rfl, by kernel_rfl, by decide, enters_fn Tryz.func259 (by kernel_rfl) rfl⟩
def c246 : AC :=
  .seq (.reg [.o 4 (.box (.k (.agg [.c (.int .i64 0), .c (.str []), .c (.int .i64 0), .csl []])))])
  (.seq (.reg [.m 6 0, .n 7 6, .f 8 2 7, .l 9 8, .m 10 1, .k 11 116 [(.t 9), (.t 10)], .m 5 11])
  (.seq (.seq (.reg [.m 12 5, .o 13 (.bin .lss (.t 12) (.k (.c (.int .i64 0))))])
  (.cond (.t 13)
  (.seq (.reg [.m 14 0, .n 15 14, .f 16 2 15, .l 17 16, .o 18 (.lenr (.t 17)), .m 5 18])
  (.reg [.m 19 0, .m 20 0, .n 21 20, .f 22 2 21, .l 23 22, .m 24 1, .o 25 (.bsl 1 [(.t 24)]), .o 26 (.app 9 1 16 (.t 23) (.t 25)), .n 27 19, .f 28 2 27, .s 1 28 26]))
  (.skip)))
  (.seq (.reg [.m 29 5, .k 30 259 [(.t 29)], .s 4 4 30])
  (.ret))))
def r246 : List ResV := [.celln 4 4]
theorem k246 : CodeIs Tryz.prog 246 2 Tryz.f246 c246 r246 := ⟨by kernel_rfl, Tryz.func246, rfl, by kernel_rfl, by kernel_rfl, by decide, enters_fn Tryz.func246 (by kernel_rfl) rfl⟩
def c218 : AC :=
  .seq (.reg [.o 5 (.box (.t 2)), .o 6 (.box (.k (.agg [.c (.int .i64 0), .c (.str []), .c (.int .i64 0), .csl []])))])
  (.seq (.seq (.reg [.m 7 1, .o 8 (.bin .geq (.t 7) (.k (.c (.int .i64 200))))])
  (.cond (.t 8)
  (.seq (.reg [.m 9 0, .f 10 3 5, .l 11 10, .k 12 245 [(.t 9), (.k (.c (.int .i64 31))), (.t 11)]])
  (.seq (.reg [.o 13 (.build [.c (.int .i64 0), .c (.str []), .c (.int .i64 0), .csl []] []), .s 4 6 13])
  (.ret)))
  (.skip)))
  (.seq (.reg [.m 14 0, .m 15 1, .o 16 (.bin .add (.t 15) (.k (.c (.int .i64 1)))), .k 17 184 [(.t 14), (.t 16)], .s 4 6 17])
  (.ret)))
def r218 : List ResV := [.celln 4 6]
theorem k218 : CodeIs Tryz.prog 218 3 Tryz.f218 c218 r218 := ⟨by kernel_rfl, Tryz.func218, rfl, by kernel_rfl, by kernel_rfl, by decide, enters_fn Tryz.func218 (by kernel_rfl) rfl⟩
def c216 : AC :=
  .seq (.reg [.o 4 (.box (.k (.agg [.c (.int .i64 0), .c (.str []), .c (.int .i64 0), .csl []])))])
  (.seq (.reg [.m 8 0, .k 9 215 [(.t 8)], .o 5 (.box (.k (.agg [.c (.int .i64 0), .c (.str []), .c (.int .i64 0), .c (.int .i64 0)]))), .s 4 5 9])
  (.seq (.seq (.reg [.m 10 0, .k 11 217 [(.t 10)], .o 12 (.un .not (.t 11))])
  (.cond (.t 12)
  (.seq (.reg [.m 13 0, .f 14 3 5, .l 15 14, .k 16 245 [(.t 13), (.k (.c (.int .i64 50))), (.t 15)]])
  (.seq (.reg [.o 17 (.build [.c (.int .i64 0), .c (.str []), .c (.int .i64 0), .csl []] []), .s 4 4 17])
  (.ret)))
  (.skip)))
  (.seq (.reg [.m 18 0, .n 19 18, .f 20 1 19, .l 21 20, .o 22 (.bin .add (.t 21) (.k (.c (.int .i64 1)))), .n 23 18, .f 24 1 23, .s 1 24 22])
  (.seq (.seq (.reg [.f 25 0 5, .l 26 25])
  (.block 0 (.seq (.reg [.o 28 (.bin .eql (.t 26) (.k (.c (.int .i64 1)))), .m 27 28])
  (.cond (.t 27)
  (.seq (.reg [.f 29 1 5, .l 30 29, .o 31 (.build [.c (.int .i64 0), .c (.str []), .c (.int .i64 0), .csl []] [(0, 1, (.k (.c (.int .i64 0)))), (1, 1, (.t 30))]), .s 4 4 31])
  (.ret))
  (.seq (.reg [.o 33 (.bin .eql (.t 26) (.k (.c (.int .i64 2)))), .m 32 33])
  (.cond (.t 32)
  (.seq (.reg [.m 34 0, .f 35 1 5, .l 36 35, .k 37 246 [(.t 34), (.t 36)], .s 4 4 37])
  (.ret))
  (.skip)))))))
  (.seq (.reg [.m 38 0, .m 39 1, .d 40 4 5, .k 41 218 [(.t 38), (.t 39), (.t 40)], .o 6 (.box (.k (.agg [.c (.int .i64 0), .c (.str []), .c (.int .i64 0), .csl []]))), .s 4 6 41])
  (.seq (.seq (.reg [.m 42 0, .k 43 215 [(.t 42)], .o 7 (.box (.k (.agg [.c (.int .i64 0), .c (.str []), .c (.int .i64 0), .c (.int .i64 0)]))), .s 4 7 43])
  (.seq (.reg [.f 44 0 7, .l 45 44, .o 46 (.bin .neq (.t 45) (.k (.c (.int .i64 6))))])
  (.cond (.t 46)
  (.reg [.m 47 0, .f 48 3 7, .l 49 48, .k 50 245 [(.t 47), (.k (.c (.int .i64 50))), (.t 49)]])
  (.skip))))
  (.seq (.reg [.m 51 0, .n 52 51, .f 53 1 52, .l 54 53, .o 55 (.bin .add (.t 54) (.k (.c (.int .i64 1)))), .n 56 51, .f 57 1 56, .s 1 57 55])
  (.seq (.reg [.d 58 4 6, .s 4 4 58])
  (.ret)))))))))
def r216 : List ResV := [.celln 4 4]
theorem k216 : CodeIs Tryz.prog 216 2 Tryz.f216 c216 r216 := ⟨by kernel_rfl, Tryz.func216, rfl, by kernel_rfl, by kernel_rfl, by decide, enters_fn Tryz.func216 (by kernel_rfl) rfl⟩
def c184 : AC :=
  .seq (.reg [.o 4 (.box (.k (.agg [.c (.int .i64 0), .c (.str []), .c (.int .i64 0), .csl []])))])
  (.seq (.reg [.m 8 0, .k 9 215 [(.t 8)], .o 10 (.field1 0 (.t 9)), .o 11 (.bin .eql (.t 10) (.k (.c (.int .i64 1)))), .m 5 11])
  (.seq (.reg [.m 12 0, .m 13 1, .k 14 216 [(.t 12), (.t 13)], .o 6 (.box (.k (.agg [.c (.int .i64 0), .c (.str []), .c (.int .i64 0), .csl []]))), .s 4 6 14])
  (.seq (.block 0 (.loop (.seq (.seq (.reg [.m 15 5, .m 16 15, .y 17 (.mov (.t 0)) 16, .y 18 (.nilck (.t 17)) 16, .y 19 (.fadd 3 (.t 18)) 16, .y 20 (.load1 (.t 19)) 16, .y 21 (.bin .eql (.t 20) (.k (.c (.int .i64 0)))) 16, .o 22 (.pick (.t 16) (.t 21) (.k (.c (.bool false)))), .m 23 22, .y 24 (.mov (.t 0)) 23, .y 25 (.call (.k (.fn 217 [])) [(.t 24)]) 23, .o 26 (.pick (.t 23) (.t 25) (.k (.c (.bool false))))])
  (.cond (.t 26)
  (.skip)
  (.exit 0)))
  (.block 1 (.dreg [.f 27 3 6, .l 28 27, .m 29 0, .m 30 1, .k 31 216 [(.t 29), (.t 30)], .o 32 (.bsl 4 [(.t 31)]), .o 33 (.app 35 4 56 (.t 28) (.t 32)), .f 34 3 6, .s 1 34 33]
    [.q (.m 29 0), .q (.m 30 1), ⟨.k 31 216 [(.t 29), (.t 30)], true, 0⟩, .q (.f 27 3 6), .q (.l 28 27), ⟨.o 32 (.bsl 4 [(.t 31)]), false, 1⟩, ⟨.o 33 (.app 35 4 56 (.t 28) (.t 32)), true, 1⟩, ⟨.f 34 3 6, false, 2⟩, ⟨.s 1 34 33, true, 2⟩])))))
  (.seq (.reg [.m 35 0, .k 36 215 [(.t 35)], .o 7 (.box (.k (.agg [.c (.int .i64 0), .c (.str []), .c (.int .i64 0), .c (.int .i64 0)]))), .s 4 7 36])
  (.seq (.seq (.reg [.m 37 0, .n 38 37, .f 39 3 38, .l 40 39, .o 41 (.bin .neq (.t 40) (.k (.c (.int .i64 0)))), .m 42 41, .z 43 (.fadd 0 (.t 7)) 42, .z 44 (.load1 (.t 43)) 42, .z 45 (.bin .neq (.t 44) (.k (.c (.int .i64 4)))) 42, .o 46 (.pick (.t 42) (.k (.c (.bool true))) (.t 45)), .m 47 46, .z 48 (.fadd 1 (.t 7)) 47, .z 49 (.load1 (.t 48)) 47, .z 50 (.bin .neq (.t 49) (.k (.c (.str [45, 62])))) 47, .o 51 (.pick (.t 47) (.k (.c (.bool true))) (.t 50))])
  (.cond (.t 51)
  (.seq (.reg [.d 52 4 6, .s 4 4 52])
  (.ret))
  (.skip)))
  (.seq (.reg [.m 53 0, .n 54 53, .f 55 1 54, .l 56 55, .o 57 (.bin .add (.t 56) (.k (.c (.int .i64 1)))), .n 58 53, .f 59 1 58, .s 1 59 57])
  (.seq (.dreg [.m 60 0, .m 61 1, .d 62 4 7, .k 63 218 [(.t 60), (.t 61), (.t 62)], .d 64 4 6, .o 65 (.bsl 4 [(.t 64)]), .k 66 191 [(.t 63), (.t 65)], .s 4 4 66]
    [.q (.m 60 0), .q (.m 61 1), .q (.d 62 4 7), ⟨.k 63 218 [(.t 60), (.t 61), (.t 62)], true, 0⟩, .q (.d 64 4 6), .q (.o 65 (.bsl 4 [(.t 64)])), ⟨.k 66 191 [(.t 63), (.t 65)], true, 1⟩, ⟨.s 4 4 66, true, 2⟩])
  (.ret))))))))
def r184 : List ResV := [.celln 4 4]
theorem k184 : CodeIs Tryz.prog 184 2 Tryz.f184 c184 r184 := ⟨by kernel_rfl, Tryz.func184, rfl, by kernel_rfl, by kernel_rfl, by decide, enters_fn Tryz.func184 (by kernel_rfl) rfl⟩
def c145 : AC :=
  .seq (.reg [.o 4 (.box (.k (.agg [.c (.int .i64 0), .c (.str []), .c (.int .i64 0), .csl []]))), .o 5 (.mov (.k (.c (.int .i64 0)))), .o 6 (.mov (.k (.c (.int .i64 0)))), .o 7 (.mov (.k (.c (.int .i64 0))))])
  (.seq (.reg [.m 10 0, .m 11 1, .o 12 (.build [.csl [], .c (.int .i64 0), .csl [], .c (.int .i64 0), .c (.int .i64 0)] [(0, 1, (.t 10)), (1, 1, (.t 11))]), .o 13 (.box (.t 12)), .m 8 13])
  (.seq (.reg [.m 14 8, .k 15 184 [(.t 14), (.k (.c (.int .i64 0)))], .o 9 (.box (.k (.agg [.c (.int .i64 0), .c (.str []), .c (.int .i64 0), .csl []]))), .s 4 9 15])
  (.seq (.seq (.reg [.m 16 8, .n 17 16, .f 18 3 17, .l 19 18, .o 20 (.bin .neq (.t 19) (.k (.c (.int .i64 0))))])
  (.cond (.t 20)
  (.seq (.dreg [.o 21 (.build [.c (.int .i64 0), .c (.str []), .c (.int .i64 0), .csl []] []), .m 22 1, .m 23 8, .n 24 23, .f 25 3 24, .l 26 25, .m 27 8, .n 28 27, .f 29 4 28, .l 30 29, .s 4 4 21, .m 5 22, .m 6 26, .m 7 30]
    [.q (.o 21 (.build [.c (.int .i64 0), .c (.str []), .c (.int .i64 0), .csl []] [])), ⟨.s 4 4 21, true, 0⟩, .q (.m 22 1), .q (.m 23 8), .q (.n 24 23), .q (.f 25 3 24), .q (.l 26 25), .q (.m 27 8), .q (.n 28 27), .q (.f 29 4 28), .q (.l 30 29), ⟨.m 5 22, false, 1⟩, ⟨.m 6 26, false, 1⟩, ⟨.m 7 30, false, 1⟩])
  (.ret))
  (.skip)))
  (.seq (.dreg [.d 31 4 9, .m 32 8, .n 33 32, .f 34 1 33, .l 35 34, .s 4 4 31, .m 5 35, .o 6 (.mov (.k (.c (.int .i64 0)))), .o 7 (.mov (.k (.c (.int .i64 0))))]
    [.q (.d 31 4 9), ⟨.s 4 4 31, true, 0⟩, .q (.m 32 8), .q (.n 33 32), .q (.f 34 1 33), .q (.l 35 34), ⟨.m 5 35, false, 1⟩, ⟨.o 6 (.mov (.k (.c (.int .i64 0)))), false, 1⟩, ⟨.o 7 (.mov (.k (.c (.int .i64 0)))), false, 1⟩])
  (.ret)))))
def r145 : List ResV := [.celln 4 4, .tmp 5, .tmp 6, .tmp 7]
theorem k145 : CodeIs Tryz.prog 145 2 Tryz.f145 c145 r145 := ⟨by kernel_rfl, Tryz.func145, rfl, by kernel_rfl, by kernel_rfl, by decide, enters_fn Tryz.func145 (by kernel_rfl) rfl⟩
end Go.Proofs.YtplgnfciipceiaaGreatDoor
namespace Go.Proofs.YtplgnfciipceiaaGreatDoor
open Go.RowKit Go.Lamb
def c115 : AC :=
  .seq (.reg [.o 2 (.box (.t 0)), .o 3 (.mov (.k (.c (.bool false))))])
  (.seq (.reg [.f 4 0 2, .l 5 4, .l 6 1, .o 7 (.bin .eql (.t 5) (.t 6)), .m 3 7])
  (.ret))
def r115 : List ResV := [.tmp 3]
theorem k115 : CodeIs Tryz.prog 115 2 Tryz.f115 c115 r115 := ⟨by kernel_rfl, Tryz.func115, rfl, by kernel_rfl, by kernel_rfl, by decide, enters_fn Tryz.func115 (by kernel_rfl) rfl⟩
def c114 : AC :=
  .seq (.reg [.o 4 (.mov (.k (.c (.int .i64 0))))])
  (.seq (.seq (.reg [.m 6 0, .o 7 (.lenr (.t 6)), .o 8 (.mov (.k (.c (.int .i64 0))))])
  (.block 0 (.loop (.seq (.reg [.o 9 (.bin .lss (.t 8) (.t 7))])
  (.seq (.cond (.t 9)
  (.skip)
  (.exit 0))
  (.seq (.block 1 (.seq (.reg [.m 10 8, .m 5 10])
  (.seq (.reg [.m 11 1, .m 12 0, .m 13 5, .o 14 (.iadd 3 (.t 12) (.t 13)), .d 15 3 14, .o 16 (.call (.t 11) [(.t 15)])])
  (.cond (.t 16)
  (.seq (.reg [.m 17 5, .m 4 17])
  (.ret))
  (.skip)))))
  (.reg [.o 18 (.bin .add (.t 8) (.k (.c (.int .i64 1)))), .m 8 18])))))))
  (.seq (.reg [.o 4 (.mov (.k (.c (.int .i64 (-1)))))])
  (.ret)))
def r114 : List ResV := [.tmp 4]
theorem k114 : CodeIs Tryz.prog 114 2 Tryz.f114 c114 r114 := ⟨by kernel_rfl, Tryz.func114, rfl, by kernel_rfl, by kernel_rfl, by decide, enters_fn Tryz.func114 (by kernel_rfl) rfl⟩
def c59 : AC :=
  .seq (.reg [.o 3 (.box (.t 1)), .o 4 (.box (.k (.agg [.c (.str []), .c (.int .i64 0), .c (.int .i64 0)]))), .o 5 (.mov (.k (.c (.bool false))))])
  (.seq (.reg [.m 7 0, .o 8 (.mkfn 115 [(.t 3)]), .k 9 114 [(.t 7), (.t 8)], .m 6 9])
  (.seq (.seq (.reg [.m 10 6, .o 11 (.bin .lss (.t 10) (.k (.c (.int .i64 0))))])
  (.cond (.t 11)
  (.seq (.reg [.o 12 (.build [.c (.str []), .c (.int .i64 0), .c (.int .i64 0)] []), .s 3 4 12, .o 5 (.mov (.k (.c (.bool false))))])
  (.ret))
  (.skip)))
  (.seq (.reg [.m 13 0, .m 14 6, .o 15 (.iadd 3 (.t 13) (.t 14)), .d 16 3 15, .s 3 4 16, .o 5 (.mov (.k (.c (.bool true))))])
  (.ret))))
def r59 : List ResV := [.celln 3 4, .tmp 5]
theorem k59 : CodeIs Tryz.prog 59 2 Tryz.f59 c59 r59 := ⟨by kernel_rfl, Tryz.func59, rfl, by kernel_rfl, by kernel_rfl, by decide, enters_fn Tryz.func59 (by kernel_rfl) rfl⟩
def c205 : AC :=
  .seq (.reg [.o 3 (.box (.t 1)), .o 4 (.box (.k (.agg [.c (.str []), .c (.int .i64 0), .c (.int .i64 0)]))), .o 5 (.mov (.k (.c (.bool false))))])
  (.seq (.seq (.reg [.f 6 0 3, .l 7 6])
  (.block 0 (.seq (.seq (.reg [.o 9 (.bin .eql (.t 7) (.k (.c (.int .i64 1)))), .m 8 9])
  (.cond (.t 8)
  (.skip)
  (.reg [.o 10 (.bin .eql (.t 7) (.k (.c (.int .i64 4)))), .m 8 10])))
  (.cond (.t 8)
  (.seq (.reg [.m 11 0, .f 12 1 3, .l 13 12, .k 14 59 [(.t 11), (.t 13)], .x 15 14 0, .x 16 14 1, .s 3 4 15, .m 5 16])
  (.ret))
  (.skip)))))
  (.seq (.reg [.o 17 (.build [.c (.str []), .c (.int .i64 0), .c (.int .i64 0)] []), .s 3 4 17, .o 5 (.mov (.k (.c (.bool false))))])
  (.ret)))
def r205 : List ResV := [.celln 3 4, .tmp 5]
theorem k205 : CodeIs Tryz.prog 205 2 Tryz.f205 c205 r205 := ⟨by kernel_rfl, Tryz.func205, rfl, by kernel_rfl, by kernel_rfl, by decide, enters_fn Tryz.func205 (by kernel_rfl) rfl⟩
--absent /-- ref02.Is -/
def c187 : AC :=
  .seq (.reg [.o 3 (.box (.t 0)), .o 4 (.box (.t 1)), .o 6 (.mov (.k (.c (.bool false))))])
  (.seq (.reg [.f 7 1 4, .l 8 7, .f 9 1 3, .l 10 9, .o 11 (.bin .gtr (.t 8) (.t 10)), .m 12 11, .z 13 (.fadd 1 (.t 4)) 12, .z 14 (.load1 (.t 13)) 12, .z 15 (.fadd 1 (.t 3)) 12, .z 16 (.load1 (.t 15)) 12, .z 17 (.bin .eql (.t 14) (.t 16)) 12, .z 18 (.mov (.t 17)) 12, .y 19 (.fadd 2 (.t 3)) 18, .y 20 (.load1 (.t 19)) 18, .y 21 (.mov (.t 2)) 18, .y 22 (.bin .eql (.t 20) (.t 21)) 18, .z 23 (.pick (.t 18) (.t 22) (.k (.c (.bool false)))) 12, .z 24 (.mov (.t 23)) 12, .y 25 (.fadd 2 (.t 4)) 24, .y 26 (.load1 (.t 25)) 24, .y 27 (.mov (.t 2)) 24, .y 28 (.bin .eql (.t 26) (.t 27)) 24, .z 29 (.pick (.t 24) (.t 28) (.k (.c (.bool false)))) 12, .o 30 (.pick (.t 12) (.k (.c (.bool true))) (.t 29)), .m 6 30])
  (.ret))
def r187 : List ResV := [.tmp 6]
theorem k187 : CodeIs Tryz.prog 187 3 Tryz.f187 c187 r187 := ⟨by kernel_rfl, Tryz.func187, rfl, by kernel_rfl, by kernel_rfl, by decide, enters_fn Tryz.func187 (by kernel_rfl) rfl⟩
def c151 : AC :=
  .seq (.reg [.o 2 (.box (.t 0)), .o 3 (.box (.t 1)), .o 4 (.mov (.k (.c (.bool false))))])
  (.seq (.reg [.d 5 3 2, .d 6 3 3, .k 7 187 [(.t 5), (.t 6), (.k (.c (.int .i64 1)))], .m 4 7])
  (.ret))
def r151 : List ResV := [.tmp 4]
theorem k151 : CodeIs Tryz.prog 151 2 Tryz.f151 c151 r151 := ⟨by kernel_rfl, Tryz.func151, rfl, by kernel_rfl, by kernel_rfl, by decide, enters_fn Tryz.func151 (by kernel_rfl) rfl⟩
def c153 : AC :=
  .seq (.reg [.o 2 (.box (.t 0)), .o 3 (.box (.t 1)), .o 4 (.mov (.k (.c (.bool false))))])
  (.seq (.reg [.d 5 3 2, .d 6 3 3, .k 7 187 [(.t 5), (.t 6), (.k (.c (.int .i64 2)))], .m 4 7])
  (.ret))
def r153 : List ResV := [.tmp 4]
theorem k153 : CodeIs Tryz.prog 153 2 Tryz.f153 c153 r153 := ⟨by kernel_rfl, Tryz.func153, rfl, by kernel_rfl, by kernel_rfl, by decide, enters_fn Tryz.func153 (by kernel_rfl) rfl⟩
end Go.Proofs.YtplgnfciipceiaaGreatDoor
namespace Go.Proofs.YtplgnfciipceiaaGreatDoor
open Go.RowKit Go.Lamb
attribute [local go_sem] advO_skip advO_reg advO_seq advO_block advO_exit advO_endb advO_opsNil advO_ops advG_yes advG_no advG_none advS_some advS_none advO_cond advO_loop advO_dreg advO_ret advO_bad advO_inv advO_nil advO_zero wantedV Lamb.step ev_t ev_k put_some put_none argEnv popTo cellsAt V.cellsV V.rows V.toC toCs fillV bytesC byteRows appV rowsV boundV boundL binV binInt binStr eqC eqL V.isNil leaves V.leaf Ins.quiet Ins.pure List.getD_cons_zero List.getD_cons_succ List.getD_nil List.all_cons List.all_nil List.length_cons List.length_nil List.take_succ_cons List.take_zero List.drop_succ_cons List.drop_zero List.cons_append List.nil_append List.append_nil List.append_assoc List.map_cons List.map_nil List.getElem?_cons_zero List.getElem?_cons_succ List.length_append List.length_set hget0 hget hset0 hset hsets hgs0 hgs hss0 hss List.set_cons_zero List.set_cons_succ List.forall_mem_cons List.not_mem_nil false_implies implies_true Option.map_some Bool.and_true Bool.true_and Bool.not_not Bool.not_true Bool.not_false Bool.and_self Bool.or_true Bool.true_or Bool.or_false Bool.false_or Bool.and_false Bool.false_and Bool.false_eq_true beq_self_eq_true and_self and_true true_and if_true if_false Nat.zero_add Nat.add_zero Nat.le_refl Int.toNat_natCast decide_true decide_false beq_t beq_f List.length_map List.getElem?_map I S B opsC toksC OpT.v OpT.cs OpT.zero Tok.v Tok.cs Pre.v Pre.cs_eq k_mk name_mk n_mk l_mk pos_mk Pre.app applyL natCast0 natCast1 natCast2 AOp.o AOp.m AOp.f AOp.l AOp.d AOp.n AOp.x AOp.s AOp.k AOp.y AOp.z EOp.q low_c low_void low_any low_csl low_nilf low_ptr low_osl low_agg low_tup low_fn resEval advPO_nil advPO_loud advPO_quiet pL_yes pL_no pLS_some pLS_none pQ_yes pQ_no pQS_some pQS_loud eq_self Nat.sub_zero
section

theorem ops_Find1 (w0 : World) (o : OpT) (name : List UInt8) (σ : H) (b : Nat) (hb : σ[b]? = some (.cells [S name])) : DC Tryz.prog w0 115 [o.v, .ptr b 0] σ (Same (B (o.name == name)) σ) := by
  have hlt := (List.getElem?_eq_some_iff.1 hb).1
  have hg := fun L => hgetb (σ := σ) L hlt
  refine k115.go rfl (fun hok hsz => ?_)
  ((try refine W.a ?_); simp only [go_sem, seval, reduceCtorEq, c115, OpT.v, hg, hb, S])
  (refine W.ret (Fin.same hok (by simp only [resEval, r115, go_sem, seval, reduceCtorEq]; rfl) ?_ (by first | exact .c _ | (simp only [go_sem, seval, reduceCtorEq]; done)) (by first | exact ⟨[], (List.append_nil _).symm⟩ | exact ⟨_, rfl⟩)); simp only [resV])
theorem IndexFunc_op (w0 : World) (l : List OpT) (f : FuncId) (caps : List V) (p : OpT → Bool) (σ : H) (hp : ∀ o ∈ l, DC Tryz.prog w0 f (o.v :: caps) σ (Same (B (p o)) σ)) : DC Tryz.prog w0 114 [.c (opsC l), .fn f caps] σ (Same (I (idxI p l)) σ) := by
  refine k114.go rfl (fun hok hsz => ?_)
  have hlen : l.length ≤ maxLen := by
    have := hsz _ (List.mem_cons_self ..)
    rw [opsC, sz_c, sz_sl] at this
    simpa using this.1
  unfold maxLen at hlen
  ((try refine W.a ?_); simp only [go_sem, seval, reduceCtorEq, c114, opsC])
  refine W.loopP (fun i => i ≤ l.length ∧ UpTo p l i) (fun i => ⟨((((base.put (some 0) (.c (.sl (l.map OpT.cs)))).put (some 1) (.fn f caps)).put (some 7) (I l.length)).put (some 8) (I i)), σ⟩) (fun i => l.length - i) 0 ⟨Nat.zero_le _, upTo_zero⟩ ?_ (fun i hi => ?_)
  · (refine Lew.env ?_; exact lee_here)
  · obtain ⟨hi, hinv⟩ := hi
    by_cases hlt : i < l.length
    · have h1 : ((i : Int) < (l.length : Int)) := by omega
      ((try refine W.a ?_); simp only [go_sem, seval, reduceCtorEq, I, h1])
      refine W.yes rfl ?_
      have hx : l[i]? = some l[i] := List.getElem?_eq_getElem hlt
      have h0 : (0 : Int) ≤ (i : Int) := by omega
      ((try refine W.a ?_); simp only [go_sem, seval, reduceCtorEq, I, h1, h0, hx, OpT.cs])
      (refine W.c1 (hp l[i] (List.getElem_mem hlt)) ?_; simp only [go_sem, seval, reduceCtorEq])
      refine W.test rfl (fun h => ?_) (fun h => ?_)
      · ((try refine W.a ?_); simp only [go_sem, seval, reduceCtorEq, I])
        (refine W.ret (Fin.same hok (by simp only [resEval, r114, go_sem, seval, reduceCtorEq]; rfl) ?_ (by first | exact .c _ | (simp only [go_sem, seval, reduceCtorEq]; done)) (by first | exact ⟨[], (List.append_nil _).symm⟩ | exact ⟨_, rfl⟩)); simp only [resV])
        rw [idxI_at hinv hlt h]
      · have hw : IntKind.i64.wrap (((i : Nat) : Int) + 1) = ((i + 1 : Nat) : Int) := by rw [wrap_in] <;> omega
        ((try refine W.a ?_); simp only [go_sem, seval, reduceCtorEq, I, hw])
        refine .inv ⟨i + 1, ⟨hlt, upTo_next hinv hlt h⟩, by omega, ?_⟩
        (refine Lew.env ?_; exact lee_here)
    · have h1 : ¬ ((i : Int) < (l.length : Int)) := by omega
      ((try refine W.a ?_); simp only [go_sem, seval, reduceCtorEq, I, h1])
      refine W.no rfl ?_
      ((try refine W.a ?_); simp only [go_sem, seval, reduceCtorEq, I])
      (refine W.ret (Fin.same hok (by simp only [resEval, r114, go_sem, seval, reduceCtorEq]; rfl) ?_ (by first | exact .c _ | (simp only [go_sem, seval, reduceCtorEq]; done)) (by first | exact ⟨[], (List.append_nil _).symm⟩ | exact ⟨_, rfl⟩)); simp only [resV])
      rw [idxI_none (fun j hj => hinv j hj (by omega))]
theorem ops_Find (w0 : World) (l : List OpT) (name : List UInt8) (σ : H) : DC Tryz.prog w0 59 [.c (opsC l), S name] σ (Same (foundV (findL l name)) σ) := by
  refine k59.go rfl (fun hok hsz => ?_)
  ((try refine W.a ?_); simp only [go_sem, seval, reduceCtorEq, c59, opsC])
  have hc := fun n (h : idxI (fun o : OpT => o.name == name) l = n) L => (h ▸ IndexFunc_op w0 l 115 [.ptr σ.length 0] (fun o => o.name == name) (σ ++ Blk.cells [S name] :: L) (fun o _ => ops_Find1 w0 o name _ _ (hget0 σ _)) : DC _ _ _ _ _ (Same (I n) (σ ++ Blk.cells [S name] :: L)))
  rcases idxI_cases (fun o => o.name == name) l with ⟨h, h'⟩ | ⟨i, hi, h, h'⟩
  · (refine W.c1 (hc _ h _) ?_; simp only [go_sem, seval, reduceCtorEq, show ((-1 : Int) < 0) = True from by decide])
    refine W.yes rfl ?_
    ((try refine W.a ?_); simp only [go_sem, seval, reduceCtorEq])
    (refine W.ret (Fin.same hok (by simp only [resEval, r59, go_sem, seval, reduceCtorEq]; rfl) ?_ (by first | exact .c _ | (simp only [go_sem, seval, reduceCtorEq, foundV, OpT.v]; done)) (by first | exact ⟨[], (List.append_nil _).symm⟩ | exact ⟨_, rfl⟩)); simp only [resV, foundV, OpT.v])
    simp only [findL, h']; rfl
  · have h1 : ¬ ((i : Int) < 0) := by omega
    have h2 : (i : Int) < (l.length : Int) := by omega
    have h0 : (0 : Int) ≤ (i : Int) := by omega
    have hx : l[i]? = some l[i] := List.getElem?_eq_getElem hi
    (refine W.c1 (hc _ h _) ?_; simp only [go_sem, seval, reduceCtorEq, h1])
    refine W.no rfl ?_
    ((try refine W.a ?_); simp only [go_sem, seval, reduceCtorEq, h0, h2, hx, OpT.cs])
    (refine W.ret (Fin.same hok (by simp only [resEval, r59, go_sem, seval, reduceCtorEq]; rfl) ?_ (by first | exact .c _ | (simp only [go_sem, seval, reduceCtorEq, foundV, OpT.v]; done)) (by first | exact ⟨[], (List.append_nil _).symm⟩ | exact ⟨_, rfl⟩)); simp only [resV, foundV, OpT.v])
    simp only [findL, h']; rfl
theorem opOf_yes {l : List OpT} {t : Tok} (h : t.kind = 1 ∨ t.kind = 4) : opOf l t = findL l t.text := by rw [opOf, if_pos h]
theorem opOf_no {l : List OpT} {t : Tok} (h : ¬ (t.kind = 1 ∨ t.kind = 4)) : opOf l t = none := by rw [opOf, if_neg h]
theorem ops_Is (w0 : World) (l : List OpT) (t : Tok) (σ : H) : DC Tryz.prog w0 205 [.c (opsC l), t.v] σ (Same (foundV (opOf l t)) σ) := by
  refine k205.go rfl (fun hok hsz => ?_)
  cases h1 : (t.kind == 1)
  · cases h2 : (t.kind == 4)
    · have hk : ¬ (t.kind = 1 ∨ t.kind = 4) := by
        simp only [beq_eq_false_iff_ne] at h1 h2
        rintro (h | h)
        · exact h1 h
        · exact h2 h
      ((try refine W.a ?_); simp only [go_sem, seval, reduceCtorEq, c205, h1])
      refine W.no rfl ?_
      ((try refine W.a ?_); simp only [go_sem, seval, reduceCtorEq, h2])
      refine W.no rfl ?_
      ((try refine W.a ?_); simp only [go_sem, seval, reduceCtorEq])
      (refine W.ret (Fin.same hok (by simp only [resEval, r205, go_sem, seval, reduceCtorEq]; rfl) ?_ (by first | exact .c _ | (simp only [go_sem, seval, reduceCtorEq, foundV, OpT.v]; done)) (by first | exact ⟨[], (List.append_nil _).symm⟩ | exact ⟨_, rfl⟩)); simp only [resV, foundV, OpT.v])
      rw [opOf_no hk]; rfl
    · have hk : t.kind = 1 ∨ t.kind = 4 := .inr (by simpa using h2)
      ((try refine W.a ?_); simp only [go_sem, seval, reduceCtorEq, c205, h1])
      refine W.no rfl ?_
      ((try refine W.a ?_); simp only [go_sem, seval, reduceCtorEq, h2])
      refine W.yes rfl ?_
      ((try refine W.a ?_); simp only [go_sem, seval, reduceCtorEq])
      (refine W.c1 (ops_Find w0 l t.text _) ?_; simp only [go_sem, seval, reduceCtorEq, foundV])
      (refine W.ret (Fin.same hok (by simp only [resEval, r205, go_sem, seval, reduceCtorEq]; rfl) ?_ (by first | exact .c _ | (simp only [go_sem, seval, reduceCtorEq, foundV, OpT.v]; done)) (by first | exact ⟨[], (List.append_nil _).symm⟩ | exact ⟨_, rfl⟩)); simp only [resV, foundV, OpT.v])
      rw [opOf_yes hk]
  · have hk : t.kind = 1 ∨ t.kind = 4 := .inl (by simpa using h1)
    ((try refine W.a ?_); simp only [go_sem, seval, reduceCtorEq, c205, h1])
    refine W.yes rfl ?_
    ((try refine W.a ?_); simp only [go_sem, seval, reduceCtorEq])
    refine W.yes rfl ?_
    ((try refine W.a ?_); simp only [go_sem, seval, reduceCtorEq])
    (refine W.c1 (ops_Find w0 l t.text _) ?_; simp only [go_sem, seval, reduceCtorEq, foundV])
    (refine W.ret (Fin.same hok (by simp only [resEval, r205, go_sem, seval, reduceCtorEq]; rfl) ?_ (by first | exact .c _ | (simp only [go_sem, seval, reduceCtorEq, foundV, OpT.v]; done)) (by first | exact ⟨[], (List.append_nil _).symm⟩ | exact ⟨_, rfl⟩)); simp only [resV, foundV, OpT.v])
    rw [opOf_yes hk]
theorem ops_beside (w0 : World) (a b : OpT) (fix : Int) (σ : H) : DC Tryz.prog w0 187 [a.v, b.v, I fix] σ (Same (B (besideL a b fix)) σ) := by
  refine k187.go rfl (fun hok hsz => ?_)
  cases h1 : decide (b.prec > a.prec) <;> cases h2 : (b.prec == a.prec) <;> cases h3 : (a.fix == fix) <;> cases h4 : (b.fix == fix)
  all_goals
    ((try refine W.a ?_); simp only [go_sem, seval, reduceCtorEq, c187, h1, h2, h3, h4])
    (refine W.ret (Fin.same hok (by simp only [resEval, r187, go_sem, seval, reduceCtorEq]; rfl) ?_ (by first | exact .c _ | (simp only [go_sem, seval, reduceCtorEq]; done)) (by first | exact ⟨[], (List.append_nil _).symm⟩ | exact ⟨_, rfl⟩)); simp only [resV])
    simp_all [besideL]
theorem ops_Left (w0 : World) (a b : OpT) (σ : H) : DC Tryz.prog w0 151 [a.v, b.v] σ (Same (B (besideL a b 1)) σ) := by
  refine k151.go rfl (fun hok hsz => ?_)
  ((try refine W.a ?_); simp only [go_sem, seval, reduceCtorEq, c151])
  (refine W.c1 (ops_beside w0 a b 1 _) ?_; simp only [go_sem, seval, reduceCtorEq])
  (refine W.ret (Fin.same hok (by simp only [resEval, r151, go_sem, seval, reduceCtorEq]; rfl) ?_ (by first | exact .c _ | (simp only [go_sem, seval, reduceCtorEq]; done)) (by first | exact ⟨[], (List.append_nil _).symm⟩ | exact ⟨_, rfl⟩)); simp only [resV])
theorem ops_Right (w0 : World) (a b : OpT) (σ : H) : DC Tryz.prog w0 153 [a.v, b.v] σ (Same (B (besideL a b 2)) σ) := by
  refine k153.go rfl (fun hok hsz => ?_)
  ((try refine W.a ?_); simp only [go_sem, seval, reduceCtorEq, c153])
  (refine W.c1 (ops_beside w0 a b 2 _) ?_; simp only [go_sem, seval, reduceCtorEq])
  (refine W.ret (Fin.same hok (by simp only [resEval, r153, go_sem, seval, reduceCtorEq]; rfl) ?_ (by first | exact .c _ | (simp only [go_sem, seval, reduceCtorEq]; done)) (by first | exact ⟨[], (List.append_nil _).symm⟩ | exact ⟨_, rfl⟩)); simp only [resV])
end
section
def c171 : AC :=
  .seq (.reg [.o 4 (.box (.k (.agg [.c (.int .i64 0), .c (.str []), .c (.int .i64 0), .c (.int .i64 0)])))])
  (.seq (.seq (.reg [.m 6 0, .n 7 6, .f 8 2 7, .l 9 8, .m 10 1, .o 11 (.bin .add (.t 9) (.t 10)), .m 5 11])
  (.seq (.reg [.m 12 5, .o 13 (.bin .leq (.k (.c (.int .i64 0))) (.t 12)), .m 14 13, .y 15 (.mov (.t 5)) 14, .y 16 (.mov (.t 0)) 14, .y 17 (.nilck (.t 16)) 14, .y 18 (.fadd 1 (.t 17)) 14, .y 19 (.load1 (.t 18)) 14, .y 20 (.lenr (.t 19)) 14, .y 21 (.bin .lss (.t 15) (.t 20)) 14, .o 22 (.pick (.t 14) (.t 21) (.k (.c (.bool false))))])
  (.cond (.t 22)
  (.seq (.reg [.m 23 0, .n 24 23, .f 25 1 24, .l 26 25, .m 27 5, .o 28 (.iadd 4 (.t 26) (.t 27)), .d 29 4 28, .s 4 4 29])
  (.ret))
  (.skip))))
  (.seq (.seq (.reg [.m 30 0, .n 31 30, .f 32 1 31, .l 33 32, .o 34 (.lenr (.t 33)), .o 35 (.bin .gtr (.t 34) (.k (.c (.int .i64 0))))])
  (.cond (.t 35)
  (.seq (.dreg [.m 36 0, .n 37 36, .f 38 1 37, .l 39 38, .m 40 0, .n 41 40, .f 42 1 41, .l 43 42, .o 44 (.lenr (.t 43)), .o 45 (.bin .sub (.t 44) (.k (.c (.int .i64 1)))), .o 46 (.iadd 4 (.t 39) (.t 45)), .f 47 3 46, .l 48 47, .o 49 (.build [.c (.int .i64 0), .c (.str []), .c (.int .i64 0), .c (.int .i64 0)] [(3, 1, (.t 48))]), .s 4 4 49]
    [.q (.m 36 0), .q (.n 37 36), .q (.f 38 1 37), .q (.l 39 38), .q (.m 40 0), .q (.n 41 40), .q (.f 42 1 41), .q (.l 43 42), .q (.o 44 (.lenr (.t 43))), .q (.o 45 (.bin .sub (.t 44) (.k (.c (.int .i64 1))))), .q (.o 46 (.iadd 4 (.t 39) (.t 45))), .q (.f 47 3 46), .q (.l 48 47), .q (.o 49 (.build [.c (.int .i64 0), .c (.str []), .c (.int .i64 0), .c (.int .i64 0)] [(3, 1, (.t 48))])), ⟨.s 4 4 49, true, 0⟩])
  (.ret))
  (.skip)))
  (.seq (.reg [.o 50 (.build [.c (.int .i64 0), .c (.str []), .c (.int .i64 0), .c (.int .i64 0)] []), .s 4 4 50])
  (.ret))))
def r171 : List ResV := [.celln 4 4]
theorem k171 : CodeIs Tryz.prog 171 2 Tryz.f171 c171 r171 := ⟨by kernel_rfl, Tryz.func171, rfl, by kernel_rfl, by kernel_rfl, by decide, enters_fn Tryz.func171 (by kernel_rfl) rfl⟩
def c172 : AC :=
  .seq (.reg [.o 3 (.box (.t 1)), .o 4 (.box (.k (.agg [.c (.str []), .c (.int .i64 0), .c (.int .i64 0)]))), .o 5 (.mov (.k (.c (.bool false))))])
  (.seq (.dreg [.m 6 0, .n 7 6, .f 8 0 7, .l 9 8, .d 10 4 3, .k 11 205 [(.t 9), (.t 10)], .x 12 11 0, .x 13 11 1, .s 3 4 12, .m 5 13]
    [.q (.m 6 0), .q (.n 7 6), .q (.f 8 0 7), .q (.l 9 8), .q (.d 10 4 3), ⟨.k 11 205 [(.t 9), (.t 10)], true, 0⟩, ⟨.x 12 11 0, false, 1⟩, ⟨.x 13 11 1, false, 1⟩, ⟨.s 3 4 12, true, 1⟩, ⟨.m 5 13, false, 2⟩])
  (.ret))
def r172 : List ResV := [.celln 3 4, .tmp 5]
theorem k172 : CodeIs Tryz.prog 172 2 Tryz.f172 c172 r172 := ⟨by kernel_rfl, Tryz.func172, rfl, by kernel_rfl, by kernel_rfl, by decide, enters_fn Tryz.func172 (by kernel_rfl) rfl⟩
def c204 : AC :=
  .seq (.reg [.o 2 (.mov (.k (.c (.bool false))))])
  (.seq (.seq (.reg [.m 6 0, .k 7 171 [(.t 6), (.k (.c (.int .i64 0)))], .o 3 (.box (.k (.agg [.c (.int .i64 0), .c (.str []), .c (.int .i64 0), .c (.int .i64 0)]))), .s 4 3 7])
  (.seq (.reg [.f 8 0 3, .l 9 8])
  (.block 0 (.seq (.seq (.reg [.o 11 (.bin .eql (.t 9) (.k (.c (.int .i64 1)))), .m 10 11])
  (.cond (.t 10)
  (.skip)
  (.reg [.o 12 (.bin .eql (.t 9) (.k (.c (.int .i64 4)))), .m 10 12])))
  (.cond (.t 10)
  (.seq (.reg [.m 14 0, .d 15 4 3, .k 16 172 [(.t 14), (.t 15)], .m 13 16, .x 17 13 0, .x 18 13 1, .o 4 (.box (.k (.agg [.c (.str []), .c (.int .i64 0), .c (.int .i64 0)]))), .s 3 4 17, .m 5 18])
  (.seq (.reg [.m 19 5, .o 20 (.un .not (.t 19)), .m 2 20])
  (.ret)))
  (.seq (.seq (.reg [.o 22 (.bin .eql (.t 9) (.k (.c (.int .i64 2)))), .m 21 22])
  (.cond (.t 21)
  (.skip)
  (.seq (.reg [.o 23 (.bin .eql (.t 9) (.k (.c (.int .i64 3)))), .m 21 23])
  (.cond (.t 21)
  (.skip)
  (.reg [.o 24 (.bin .eql (.t 9) (.k (.c (.int .i64 5)))), .m 21 24])))))
  (.cond (.t 21)
  (.seq (.reg [.o 2 (.mov (.k (.c (.bool true))))])
  (.ret))
  (.skip))))))))
  (.seq (.reg [.o 2 (.mov (.k (.c (.bool false))))])
  (.ret)))
def r204 : List ResV := [.tmp 2]
theorem k204 : CodeIs Tryz.prog 204 1 Tryz.f204 c204 r204 := ⟨by kernel_rfl, Tryz.func204, rfl, by kernel_rfl, by kernel_rfl, by decide, enters_fn Tryz.func204 (by kernel_rfl) rfl⟩
def c202 : AC :=
  .seq (.reg [.o 2 (.mov (.k (.c (.bool false))))])
  (.seq (.reg [.m 4 0, .k 5 171 [(.t 4), (.k (.c (.int .i64 0)))], .o 6 (.field1 0 (.t 5)), .m 3 6])
  (.seq (.reg [.m 7 3, .o 8 (.bin .eql (.t 7) (.k (.c (.int .i64 1)))), .m 9 8, .z 10 (.mov (.t 3)) 9, .z 11 (.bin .eql (.t 10) (.k (.c (.int .i64 2)))) 9, .o 12 (.pick (.t 9) (.k (.c (.bool true))) (.t 11)), .m 13 12, .y 14 (.mov (.t 0)) 13, .y 15 (.call (.k (.fn 171 [])) [(.t 14), (.k (.c (.int .i64 1)))]) 13, .y 16 (.field1 0 (.t 15)) 13, .y 17 (.bin .eql (.t 16) (.k (.c (.int .i64 8)))) 13, .o 18 (.pick (.t 13) (.t 17) (.k (.c (.bool false)))), .m 2 18])
  (.ret)))
def r202 : List ResV := [.tmp 2]
theorem k202 : CodeIs Tryz.prog 202 1 Tryz.f202 c202 r202 := ⟨by kernel_rfl, Tryz.func202, rfl, by kernel_rfl, by kernel_rfl, by decide, enters_fn Tryz.func202 (by kernel_rfl) rfl⟩
def c132 : AC :=
  .seq (.reg [.o 1 (.box (.t 0)), .o 2 (.mov (.k (.c (.bool false))))])
  (.seq (.reg [.f 3 0 1, .l 4 3, .o 5 (.bin .eql (.t 4) (.k (.c (.int .i64 0)))), .m 2 5])
  (.ret))
def r132 : List ResV := [.tmp 2]
theorem k132 : CodeIs Tryz.prog 132 1 Tryz.f132 c132 r132 := ⟨by kernel_rfl, Tryz.func132, rfl, by kernel_rfl, by kernel_rfl, by decide, enters_fn Tryz.func132 (by kernel_rfl) rfl⟩
def c174 : AC :=
  .seq (.reg [.o 4 (.box (.t 0)), .o 6 (.box (.t 2)), .o 7 (.box (.t 3)), .o 8 (.box (.k (.agg [.c (.int .i64 0), .c (.str []), .c (.int .i64 0), .csl [], .c (.int .i64 0)])))])
  (.seq (.reg [.f 12 0 4, .l 13 12, .m 14 1, .o 15 (.build [.c (.int .i64 0), .c (.str []), .c (.int .i64 0), .csl [], .c (.int .i64 0)] [(0, 1, (.k (.c (.int .i64 0)))), (1, 1, (.t 13)), (4, 1, (.t 14))]), .o 9 (.box (.k (.agg [.c (.int .i64 0), .c (.str []), .c (.int .i64 0), .csl [], .c (.int .i64 0)]))), .s 5 9 15])
  (.seq (.seq (.reg [.d 16 5 6, .d 17 5 7, .o 18 (.bsl 5 [(.t 16), (.t 17)]), .o 19 (.lenr (.t 18)), .o 20 (.mov (.k (.c (.int .i64 0))))])
  (.block 0 (.loop (.seq (.reg [.o 21 (.bin .lss (.t 20) (.t 19))])
  (.seq (.cond (.t 21)
  (.skip)
  (.exit 0))
  (.seq (.block 1 (.seq (.reg [.o 22 (.iadd 5 (.t 18) (.t 20)), .d 23 5 22, .o 11 (.box (.k (.agg [.c (.int .i64 0), .c (.str []), .c (.int .i64 0), .csl [], .c (.int .i64 0)]))), .s 5 11 23])
  (.reg [.d 24 5 9, .d 25 5 11, .o 26 (.bsl 5 [(.t 24), (.t 25)]), .m 27 1, .o 28 (.build [.c (.int .i64 0), .c (.str []), .c (.int .i64 0), .csl [], .c (.int .i64 0)] [(0, 1, (.k (.c (.int .i64 3)))), (3, 1, (.t 26)), (4, 1, (.t 27))]), .s 5 9 28])))
  (.reg [.o 29 (.bin .add (.t 20) (.k (.c (.int .i64 1)))), .m 20 29])))))))
  (.seq (.reg [.d 30 5 9, .s 5 8 30])
  (.ret))))
def r174 : List ResV := [.celln 5 8]
theorem k174 : CodeIs Tryz.prog 174 4 Tryz.f174 c174 r174 := ⟨by kernel_rfl, Tryz.func174, rfl, by kernel_rfl, by kernel_rfl, by decide, enters_fn Tryz.func174 (by kernel_rfl) rfl⟩
def c173 : AC :=
  .seq (.reg [.o 7 (.box (.t 3)), .o 8 (.box (.k (.agg [.c (.int .i64 0), .c (.str []), .c (.int .i64 0), .csl [], .c (.int .i64 0), .c (.nilp), .c (.int .i64 0), .c (.str []), .c (.int .i64 0), .c (.int .i64 0)]))), .o 9 (.box (.k (.agg [.c (.int .i64 0), .c (.int .i64 0)])))])
  (.seq (.seq (.reg [.m 10 2, .o 11 (.bin .geq (.t 10) (.k (.c (.int .i64 200))))])
  (.cond (.t 11)
  (.seq (.dreg [.o 12 (.build [.c (.int .i64 0), .c (.str []), .c (.int .i64 0), .csl [], .c (.int .i64 0), .c (.nilp), .c (.int .i64 0), .c (.str []), .c (.int .i64 0), .c (.int .i64 0)] []), .f 13 3 7, .l 14 13, .o 15 (.build [.c (.int .i64 0), .c (.int .i64 0)] [(0, 1, (.k (.c (.int .i64 31)))), (1, 1, (.t 14))]), .s 10 8 12, .s 2 9 15]
    [.q (.o 12 (.build [.c (.int .i64 0), .c (.str []), .c (.int .i64 0), .csl [], .c (.int .i64 0), .c (.nilp), .c (.int .i64 0), .c (.str []), .c (.int .i64 0), .c (.int .i64 0)] [])), ⟨.s 10 8 12, true, 0⟩, .q (.f 13 3 7), .q (.l 14 13), .q (.o 15 (.build [.c (.int .i64 0), .c (.int .i64 0)] [(0, 1, (.k (.c (.int .i64 31)))), (1, 1, (.t 14))])), ⟨.s 2 9 15, true, 1⟩])
  (.ret))
  (.skip)))
  (.seq (.reg [.m 16 0, .m 17 1, .m 18 2, .o 19 (.bin .add (.t 18) (.k (.c (.int .i64 1)))), .k 20 131 [(.t 16), (.t 17), (.t 19)], .x 21 20 0, .x 22 20 1, .s 10 8 21, .s 2 9 22])
  (.ret)))
def r173 : List ResV := [.celln 10 8, .celln 2 9]
theorem k173 : CodeIs Tryz.prog 173 4 Tryz.f173 c173 r173 := ⟨by kernel_rfl, Tryz.func173, rfl, by kernel_rfl, by kernel_rfl, by decide, enters_fn Tryz.func173 (by kernel_rfl) rfl⟩
def c239 : AC :=
  .seq (.reg [.o 4 (.box (.k (.agg [.c (.int .i64 0), .c (.str []), .c (.int .i64 0), .csl [], .c (.int .i64 0)]))), .o 5 (.box (.k (.agg [.c (.int .i64 0), .c (.int .i64 0)])))])
  (.seq (.reg [.m 13 0, .k 14 171 [(.t 13), (.k (.c (.int .i64 0)))], .m 15 0, .k 16 171 [(.t 15), (.k (.c (.int .i64 1)))], .o 6 (.box (.k (.agg [.c (.int .i64 0), .c (.str []), .c (.int .i64 0), .c (.int .i64 0)]))), .o 7 (.box (.k (.agg [.c (.int .i64 0), .c (.str []), .c (.int .i64 0), .c (.int .i64 0)]))), .s 4 6 14, .s 4 7 16])
  (.seq (.seq (.reg [.m 18 0, .d 19 4 7, .k 20 172 [(.t 18), (.t 19)], .m 17 20, .x 21 17 0, .x 22 17 1, .o 8 (.box (.k (.agg [.c (.str []), .c (.int .i64 0), .c (.int .i64 0)]))), .s 3 8 21, .m 9 22])
  (.seq (.reg [.m 23 9, .m 24 23, .y 25 (.mov (.t 0)) 24, .y 26 (.call (.k (.fn 171 [])) [(.t 25), (.k (.c (.int .i64 2)))]) 24, .y 27 (.field1 0 (.t 26)) 24, .y 28 (.bin .eql (.t 27) (.k (.c (.int .i64 6)))) 24, .o 29 (.pick (.t 24) (.t 28) (.k (.c (.bool false))))])
  (.cond (.t 29)
  (.seq (.reg [.m 30 0, .n 31 30, .f 32 2 31, .l 33 32, .o 34 (.bin .add (.t 33) (.k (.c (.int .i64 3)))), .n 35 30, .f 36 2 35, .s 1 36 34])
  (.seq (.reg [.f 37 1 7, .l 38 37, .f 39 3 7, .l 40 39, .o 41 (.build [.c (.int .i64 0), .c (.str []), .c (.int .i64 0), .csl [], .c (.int .i64 0)] [(0, 1, (.k (.c (.int .i64 0)))), (1, 1, (.t 38)), (4, 1, (.t 40))]), .o 42 (.build [.c (.int .i64 0), .c (.int .i64 0)] []), .s 5 4 41, .s 2 5 42])
  (.ret)))
  (.skip))))
  (.seq (.reg [.m 43 0, .n 44 43, .f 45 2 44, .l 46 45, .o 47 (.bin .add (.t 46) (.k (.c (.int .i64 1)))), .n 48 43, .f 49 2 48, .s 1 49 47])
  (.seq (.reg [.m 51 0, .m 52 1, .d 53 4 6, .k 54 173 [(.t 51), (.k (.c (.int .i64 0))), (.t 52), (.t 53)], .m 50 54, .x 55 50 0, .x 56 50 1, .o 10 (.box (.k (.agg [.c (.int .i64 0), .c (.str []), .c (.int .i64 0), .csl [], .c (.int .i64 0), .c (.nilp), .c (.int .i64 0), .c (.str []), .c (.int .i64 0), .c (.int .i64 0)]))), .o 11 (.box (.k (.agg [.c (.int .i64 0), .c (.int .i64 0)]))), .s 10 10 55, .s 2 11 56])
  (.seq (.seq (.reg [.d 57 2 11, .k 58 132 [(.t 57)], .o 59 (.un .not (.t 58))])
  (.cond (.t 59)
  (.seq (.dreg [.o 60 (.build [.c (.int .i64 0), .c (.str []), .c (.int .i64 0), .csl [], .c (.int .i64 0)] []), .d 61 2 11, .s 5 4 60, .s 2 5 61]
    [.q (.o 60 (.build [.c (.int .i64 0), .c (.str []), .c (.int .i64 0), .csl [], .c (.int .i64 0)] [])), ⟨.s 5 4 60, true, 0⟩, .q (.d 61 2 11), ⟨.s 2 5 61, true, 1⟩])
  (.ret))
  (.skip)))
  (.seq (.seq (.reg [.m 62 0, .k 63 171 [(.t 62), (.k (.c (.int .i64 0)))], .o 12 (.box (.k (.agg [.c (.int .i64 0), .c (.str []), .c (.int .i64 0), .c (.int .i64 0)]))), .s 4 12 63])
  (.seq (.reg [.f 64 0 12, .l 65 64, .o 66 (.bin .neq (.t 65) (.k (.c (.int .i64 6))))])
  (.cond (.t 66)
  (.seq (.dreg [.o 67 (.build [.c (.int .i64 0), .c (.str []), .c (.int .i64 0), .csl [], .c (.int .i64 0)] []), .f 68 3 12, .l 69 68, .o 70 (.build [.c (.int .i64 0), .c (.int .i64 0)] [(0, 1, (.k (.c (.int .i64 30)))), (1, 1, (.t 69))]), .s 5 4 67, .s 2 5 70]
    [.q (.o 67 (.build [.c (.int .i64 0), .c (.str []), .c (.int .i64 0), .csl [], .c (.int .i64 0)] [])), ⟨.s 5 4 67, true, 0⟩, .q (.f 68 3 12), .q (.l 69 68), .q (.o 70 (.build [.c (.int .i64 0), .c (.int .i64 0)] [(0, 1, (.k (.c (.int .i64 30)))), (1, 1, (.t 69))])), ⟨.s 2 5 70, true, 1⟩])
  (.ret))
  (.skip))))
  (.seq (.reg [.m 71 0, .n 72 71, .f 73 2 72, .l 74 73, .o 75 (.bin .add (.t 74) (.k (.c (.int .i64 1)))), .n 76 71, .f 77 2 76, .s 1 77 75])
  (.seq (.reg [.f 78 0 10, .d 79 5 78, .o 80 (.build [.c (.int .i64 0), .c (.int .i64 0)] []), .s 5 4 79, .s 2 5 80])
  (.ret)))))))))
def r239 : List ResV := [.celln 5 4, .celln 2 5]
theorem k239 : CodeIs Tryz.prog 239 2 Tryz.f239 c239 r239 := ⟨by kernel_rfl, Tryz.func239, rfl, by kernel_rfl, by kernel_rfl, by decide, enters_fn Tryz.func239 (by kernel_rfl) rfl⟩
def c203 : AC :=
  .seq (.reg [.o 4 (.box (.k (.agg [.c (.int .i64 0), .c (.str []), .c (.int .i64 0), .csl [], .c (.int .i64 0)]))), .o 5 (.box (.k (.agg [.c (.int .i64 0), .c (.int .i64 0)])))])
  (.seq (.reg [.m 10 0, .k 11 171 [(.t 10), (.k (.c (.int .i64 0)))], .o 6 (.box (.k (.agg [.c (.int .i64 0), .c (.str []), .c (.int .i64 0), .c (.int .i64 0)]))), .s 4 6 11])
  (.seq (.reg [.f 12 1 6, .l 13 12, .f 14 3 6, .l 15 14, .o 16 (.build [.c (.int .i64 0), .c (.str []), .c (.int .i64 0), .csl [], .c (.int .i64 0)] [(0, 1, (.k (.c (.int .i64 0)))), (1, 1, (.t 13)), (4, 1, (.t 15))]), .o 7 (.box (.k (.agg [.c (.int .i64 0), .c (.str []), .c (.int .i64 0), .csl [], .c (.int .i64 0)]))), .s 5 7 16])
  (.seq (.block 0 (.seq (.reg [.m 18 0, .k 19 204 [(.t 18)], .o 20 (.un .not (.t 19)), .m 17 20])
  (.cond (.t 17)
  (.seq (.dreg [.o 21 (.build [.c (.int .i64 0), .c (.str []), .c (.int .i64 0), .csl [], .c (.int .i64 0)] []), .f 22 3 6, .l 23 22, .o 24 (.build [.c (.int .i64 0), .c (.int .i64 0)] [(0, 1, (.k (.c (.int .i64 30)))), (1, 1, (.t 23))]), .s 5 4 21, .s 2 5 24]
    [.q (.o 21 (.build [.c (.int .i64 0), .c (.str []), .c (.int .i64 0), .csl [], .c (.int .i64 0)] [])), ⟨.s 5 4 21, true, 0⟩, .q (.f 22 3 6), .q (.l 23 22), .q (.o 24 (.build [.c (.int .i64 0), .c (.int .i64 0)] [(0, 1, (.k (.c (.int .i64 30)))), (1, 1, (.t 23))])), ⟨.s 2 5 24, true, 1⟩])
  (.ret))
  (.seq (.reg [.f 26 0 6, .l 27 26, .o 28 (.bin .eql (.t 27) (.k (.c (.int .i64 5)))), .m 25 28])
  (.cond (.t 25)
  (.seq (.reg [.m 29 0, .m 30 1, .k 31 239 [(.t 29), (.t 30)], .x 32 31 0, .x 33 31 1, .s 5 4 32, .s 2 5 33])
  (.ret))
  (.seq (.reg [.f 35 0 6, .l 36 35, .o 37 (.bin .eql (.t 36) (.k (.c (.int .i64 3)))), .m 34 37])
  (.cond (.t 34)
  (.reg [.f 38 2 6, .l 39 38, .f 40 3 6, .l 41 40, .o 42 (.build [.c (.int .i64 0), .c (.str []), .c (.int .i64 0), .csl [], .c (.int .i64 0)] [(0, 1, (.k (.c (.int .i64 2)))), (2, 1, (.t 39)), (4, 1, (.t 41))]), .s 5 7 42])
  (.seq (.reg [.f 44 0 6, .l 45 44, .o 46 (.bin .neq (.t 45) (.k (.c (.int .i64 4)))), .m 47 46, .y 48 (.mov (.t 0)) 47, .y 49 (.call (.k (.fn 171 [])) [(.t 48), (.k (.c (.int .i64 1)))]) 47, .y 50 (.field1 0 (.t 49)) 47, .y 51 (.bin .eql (.t 50) (.k (.c (.int .i64 8)))) 47, .o 52 (.pick (.t 47) (.t 51) (.k (.c (.bool false)))), .m 43 52])
  (.cond (.t 43)
  (.seq (.reg [.m 53 0, .n 54 53, .f 55 2 54, .l 56 55, .o 57 (.bin .add (.t 56) (.k (.c (.int .i64 2)))), .n 58 53, .f 59 2 58, .s 1 59 57])
  (.seq (.reg [.m 61 0, .m 62 1, .d 63 4 6, .k 64 173 [(.t 61), (.k (.c (.int .i64 0))), (.t 62), (.t 63)], .m 60 64, .x 65 60 0, .x 66 60 1, .o 8 (.box (.k (.agg [.c (.int .i64 0), .c (.str []), .c (.int .i64 0), .csl [], .c (.int .i64 0), .c (.nilp), .c (.int .i64 0), .c (.str []), .c (.int .i64 0), .c (.int .i64 0)]))), .o 9 (.box (.k (.agg [.c (.int .i64 0), .c (.int .i64 0)]))), .s 10 8 65, .s 2 9 66])
  (.seq (.dreg [.f 67 1 6, .l 68 67, .f 69 0 8, .d 70 5 69, .o 71 (.bsl 5 [(.t 70)]), .f 72 3 6, .l 73 72, .o 74 (.build [.c (.int .i64 0), .c (.str []), .c (.int .i64 0), .csl [], .c (.int .i64 0)] [(0, 1, (.k (.c (.int .i64 4)))), (1, 1, (.t 68)), (3, 1, (.t 71)), (4, 1, (.t 73))]), .d 75 2 9, .s 5 4 74, .s 2 5 75]
    [.q (.f 67 1 6), .q (.l 68 67), .q (.f 69 0 8), .q (.d 70 5 69), .q (.o 71 (.bsl 5 [(.t 70)])), .q (.f 72 3 6), .q (.l 73 72), .q (.o 74 (.build [.c (.int .i64 0), .c (.str []), .c (.int .i64 0), .csl [], .c (.int .i64 0)] [(0, 1, (.k (.c (.int .i64 4)))), (1, 1, (.t 68)), (3, 1, (.t 71)), (4, 1, (.t 73))])), ⟨.s 5 4 74, true, 0⟩, .q (.d 75 2 9), ⟨.s 2 5 75, true, 1⟩])
  (.ret))))
  (.seq (.reg [.f 77 0 6, .l 78 77, .o 79 (.bin .eql (.t 78) (.k (.c (.int .i64 2)))), .m 76 79])
  (.cond (.t 76)
  (.reg [.f 80 0 7, ⟨none, .store 1 (.t 80) (.k (.c (.int .i64 1))), none⟩])
  (.skip))))))))))))
  (.seq (.reg [.m 81 0, .n 82 81, .f 83 2 82, .l 84 83, .o 85 (.bin .add (.t 84) (.k (.c (.int .i64 1)))), .n 86 81, .f 87 2 86, .s 1 87 85])
  (.seq (.reg [.d 88 5 7, .o 89 (.build [.c (.int .i64 0), .c (.int .i64 0)] []), .s 5 4 88, .s 2 5 89])
  (.ret))))))
def r203 : List ResV := [.celln 5 4, .celln 2 5]
theorem k203 : CodeIs Tryz.prog 203 2 Tryz.f203 c203 r203 := ⟨by kernel_rfl, Tryz.func203, rfl, by kernel_rfl, by kernel_rfl, by decide, enters_fn Tryz.func203 (by kernel_rfl) rfl⟩
def c170 : AC :=
  .seq (.reg [.o 4 (.box (.k (.agg [.c (.int .i64 0), .c (.str []), .c (.int .i64 0), .csl [], .c (.int .i64 0)]))), .o 5 (.box (.k (.agg [.c (.int .i64 0), .c (.int .i64 0)])))])
  (.seq (.reg [.m 11 0, .k 12 202 [(.t 11)], .m 6 12])
  (.seq (.reg [.m 14 0, .m 15 1, .k 16 203 [(.t 14), (.t 15)], .m 13 16, .x 17 13 0, .x 18 13 1, .o 7 (.box (.k (.agg [.c (.int .i64 0), .c (.str []), .c (.int .i64 0), .csl [], .c (.int .i64 0)]))), .o 8 (.box (.k (.agg [.c (.int .i64 0), .c (.int .i64 0)]))), .s 5 7 17, .s 2 8 18])
  (.seq (.reg [.f 19 4 7, .l 20 19, .m 9 20])
  (.seq (.block 0 (.loop (.seq (.seq (.reg [.d 21 2 8, .k 22 132 [(.t 21)], .m 23 22, .y 24 (.mov (.t 6)) 23, .y 25 (.un .not (.t 24)) 23, .o 26 (.pick (.t 23) (.t 25) (.k (.c (.bool false)))), .m 27 26, .y 28 (.mov (.t 0)) 27, .y 29 (.call (.k (.fn 204 [])) [(.t 28)]) 27, .o 30 (.pick (.t 27) (.t 29) (.k (.c (.bool false))))])
  (.cond (.t 30)
  (.skip)
  (.exit 0)))
  (.block 1 (.seq (.reg [.m 31 0, .k 32 202 [(.t 31)], .m 6 32])
  (.seq (.reg [.o 10 (.box (.k (.agg [.c (.int .i64 0), .c (.str []), .c (.int .i64 0), .csl [], .c (.int .i64 0)])))])
  (.seq (.reg [.m 34 0, .m 35 1, .k 36 203 [(.t 34), (.t 35)], .m 33 36, .x 37 33 0, .x 38 33 1, .s 5 10 37, .s 2 8 38])
  (.reg [.d 39 5 7, .d 40 5 10, .o 41 (.bsl 5 [(.t 39), (.t 40)]), .m 42 9, .o 43 (.build [.c (.int .i64 0), .c (.str []), .c (.int .i64 0), .csl [], .c (.int .i64 0)] [(0, 1, (.k (.c (.int .i64 3)))), (3, 1, (.t 41)), (4, 1, (.t 42))]), .s 5 7 43]))))))))
  (.seq (.dreg [.d 44 5 7, .d 45 2 8, .s 5 4 44, .s 2 5 45]
    [.q (.d 44 5 7), ⟨.s 5 4 44, true, 0⟩, .q (.d 45 2 8), ⟨.s 2 5 45, true, 1⟩])
  (.ret))))))
def r170 : List ResV := [.celln 5 4, .celln 2 5]
theorem k170 : CodeIs Tryz.prog 170 2 Tryz.f170 c170 r170 := ⟨by kernel_rfl, Tryz.func170, rfl, by kernel_rfl, by kernel_rfl, by decide, enters_fn Tryz.func170 (by kernel_rfl) rfl⟩
def c131 : AC :=
  .seq (.reg [.o 6 (.box (.k (.agg [.c (.int .i64 0), .c (.str []), .c (.int .i64 0), .csl [], .c (.int .i64 0), .c (.nilp), .c (.int .i64 0), .c (.str []), .c (.int .i64 0), .c (.int .i64 0)]))), .o 7 (.box (.k (.agg [.c (.int .i64 0), .c (.int .i64 0)])))])
  (.seq (.reg [.m 17 0, .m 18 2, .k 19 170 [(.t 17), (.t 18)], .m 16 19, .x 20 16 0, .x 21 16 1, .o 8 (.box (.k (.agg [.c (.int .i64 0), .c (.str []), .c (.int .i64 0), .csl [], .c (.int .i64 0)]))), .o 9 (.box (.k (.agg [.c (.int .i64 0), .c (.int .i64 0)]))), .s 5 8 20, .s 2 9 21])
  (.seq (.reg [.d 22 5 8, .o 23 (.build [.c (.int .i64 0), .c (.str []), .c (.int .i64 0), .csl [], .c (.int .i64 0), .c (.nilp), .c (.int .i64 0), .c (.str []), .c (.int .i64 0), .c (.int .i64 0)] [(0, 5, (.t 22))]), .o 10 (.box (.k (.agg [.c (.int .i64 0), .c (.str []), .c (.int .i64 0), .csl [], .c (.int .i64 0), .c (.nilp), .c (.int .i64 0), .c (.str []), .c (.int .i64 0), .c (.int .i64 0)]))), .s 10 10 23])
  (.seq (.skip)
  (.seq (.block 0 (.loop (.seq (.seq (.reg [.d 24 2 9, .k 25 132 [(.t 24)]])
  (.cond (.t 25)
  (.skip)
  (.exit 0)))
  (.block 1 (.seq (.reg [.m 26 0, .k 27 171 [(.t 26), (.k (.c (.int .i64 0)))], .o 11 (.box (.k (.agg [.c (.int .i64 0), .c (.str []), .c (.int .i64 0), .c (.int .i64 0)]))), .s 4 11 27])
  (.seq (.reg [.m 29 0, .d 30 4 11, .k 31 172 [(.t 29), (.t 30)], .m 28 31, .x 32 28 0, .x 33 28 1, .o 12 (.box (.k (.agg [.c (.str []), .c (.int .i64 0), .c (.int .i64 0)]))), .s 3 12 32, .m 13 33])
  (.seq (.block 2 (.seq (.reg [.m 35 13, .o 36 (.un .not (.t 35)), .m 37 36, .z 38 (.fadd 1 (.t 12)) 37, .z 39 (.load1 (.t 38)) 37, .z 40 (.mov (.t 1)) 37, .z 41 (.bin .lss (.t 39) (.t 40)) 37, .o 42 (.pick (.t 37) (.k (.c (.bool true))) (.t 41)), .m 34 42])
  (.cond (.t 34)
  (.exit 0)
  (.seq (.dreg [.f 44 5 10, .l 45 44, .o 46 (.eqn true 0 (.t 45)), .m 47 46, .y 48 (.loadn 3 (.t 12)) 47, .y 49 (.fadd 5 (.t 10)) 47, .y 50 (.load1 (.t 49)) 47, .y 51 (.nilck (.t 50)) 47, .y 52 (.loadn 3 (.t 51)) 47, .y 53 (.call (.k (.fn 151 [])) [(.t 48), (.t 52)]) 47, .y 54 (.un .not (.t 53)) 47, .o 55 (.pick (.t 47) (.t 54) (.k (.c (.bool false)))), .m 43 55]
    [.q (.f 44 5 10), .q (.l 45 44), .q (.o 46 (.eqn true 0 (.t 45))), .q (.m 47 46), .q (.y 48 (.loadn 3 (.t 12)) 47), .q (.y 49 (.fadd 5 (.t 10)) 47), .q (.y 50 (.load1 (.t 49)) 47), .q (.y 51 (.nilck (.t 50)) 47), .q (.y 52 (.loadn 3 (.t 51)) 47), ⟨.y 53 (.call (.k (.fn 151 [])) [(.t 48), (.t 52)]) 47, true, 0⟩, ⟨.y 54 (.un .not (.t 53)) 47, false, 1⟩, ⟨.o 55 (.pick (.t 47) (.t 54) (.k (.c (.bool false)))), false, 1⟩, ⟨.m 43 55, false, 1⟩])
  (.cond (.t 43)
  (.seq (.dreg [.o 56 (.build [.c (.int .i64 0), .c (.str []), .c (.int .i64 0), .csl [], .c (.int .i64 0), .c (.nilp), .c (.int .i64 0), .c (.str []), .c (.int .i64 0), .c (.int .i64 0)] []), .f 57 3 11, .l 58 57, .o 59 (.build [.c (.int .i64 0), .c (.int .i64 0)] [(0, 1, (.k (.c (.int .i64 32)))), (1, 1, (.t 58))]), .s 10 6 56, .s 2 7 59]
    [.q (.o 56 (.build [.c (.int .i64 0), .c (.str []), .c (.int .i64 0), .csl [], .c (.int .i64 0), .c (.nilp), .c (.int .i64 0), .c (.str []), .c (.int .i64 0), .c (.int .i64 0)] [])), ⟨.s 10 6 56, true, 0⟩, .q (.f 57 3 11), .q (.l 58 57), .q (.o 59 (.build [.c (.int .i64 0), .c (.int .i64 0)] [(0, 1, (.k (.c (.int .i64 32)))), (1, 1, (.t 58))])), ⟨.s 2 7 59, true, 1⟩])
  (.ret))
  (.skip))))))
  (.seq (.reg [.m 60 0, .n 61 60, .f 62 2 61, .l 63 62, .o 64 (.bin .add (.t 63) (.k (.c (.int .i64 1)))), .n 65 60, .f 66 2 65, .s 1 66 64])
  (.seq (.reg [.f 67 1 12, .l 68 67, .o 69 (.bin .add (.t 68) (.k (.c (.int .i64 1)))), .m 14 69])
  (.seq (.seq (.reg [.f 70 2 12, .l 71 70, .o 72 (.bin .eql (.t 71) (.k (.c (.int .i64 2))))])
  (.cond (.t 72)
  (.reg [.f 73 1 12, .l 74 73, .m 14 74])
  (.skip)))
  (.seq (.reg [.o 15 (.box (.k (.agg [.c (.int .i64 0), .c (.str []), .c (.int .i64 0), .csl [], .c (.int .i64 0), .c (.nilp), .c (.int .i64 0), .c (.str []), .c (.int .i64 0), .c (.int .i64 0)])))])
  (.seq (.reg [.m 76 0, .m 77 14, .m 78 2, .d 79 4 11, .k 80 173 [(.t 76), (.t 77), (.t 78), (.t 79)], .m 75 80, .x 81 75 0, .x 82 75 1, .s 10 15 81, .s 2 9 82])
  (.seq (.seq (.dreg [.d 83 2 9, .k 84 132 [(.t 83)], .m 85 84, .y 86 (.fadd 5 (.t 15)) 85, .y 87 (.load1 (.t 86)) 85, .y 88 (.eqn true 0 (.t 87)) 85, .o 89 (.pick (.t 85) (.t 88) (.k (.c (.bool false)))), .m 90 89, .y 91 (.loadn 3 (.t 12)) 90, .y 92 (.fadd 5 (.t 15)) 90, .y 93 (.load1 (.t 92)) 90, .y 94 (.nilck (.t 93)) 90, .y 95 (.loadn 3 (.t 94)) 90, .y 96 (.call (.k (.fn 153 [])) [(.t 91), (.t 95)]) 90, .y 97 (.un .not (.t 96)) 90, .o 98 (.pick (.t 90) (.t 97) (.k (.c (.bool false))))]
    [.q (.d 83 2 9), ⟨.k 84 132 [(.t 83)], true, 0⟩, ⟨.m 85 84, false, 1⟩, ⟨.y 86 (.fadd 5 (.t 15)) 85, false, 1⟩, ⟨.y 87 (.load1 (.t 86)) 85, false, 1⟩, ⟨.y 88 (.eqn true 0 (.t 87)) 85, false, 1⟩, ⟨.o 89 (.pick (.t 85) (.t 88) (.k (.c (.bool false)))), false, 1⟩, ⟨.m 90 89, false, 1⟩, ⟨.y 91 (.loadn 3 (.t 12)) 90, false, 1⟩, ⟨.y 92 (.fadd 5 (.t 15)) 90, false, 1⟩, ⟨.y 93 (.load1 (.t 92)) 90, false, 1⟩, ⟨.y 94 (.nilck (.t 93)) 90, false, 1⟩, ⟨.y 95 (.loadn 3 (.t 94)) 90, false, 1⟩, ⟨.y 96 (.call (.k (.fn 153 [])) [(.t 91), (.t 95)]) 90, true, 1⟩, ⟨.y 97 (.un .not (.t 96)) 90, false, 2⟩, ⟨.o 98 (.pick (.t 90) (.t 97) (.k (.c (.bool false)))), false, 2⟩])
  (.cond (.t 98)
  (.reg [.f 99 6 15, .f 100 3 99, .l 101 100, .o 102 (.build [.c (.int .i64 0), .c (.int .i64 0)] [(0, 1, (.k (.c (.int .i64 32)))), (1, 1, (.t 101))]), .s 2 9 102])
  (.skip)))
  (.dreg [.d 103 3 12, .f 104 3 11, .l 105 104, .f 106 0 10, .d 107 5 106, .f 108 0 15, .d 109 5 108, .k 110 174 [(.t 103), (.t 105), (.t 107), (.t 109)], .d 111 4 11, .o 112 (.build [.c (.int .i64 0), .c (.str []), .c (.int .i64 0), .csl [], .c (.int .i64 0), .c (.nilp), .c (.int .i64 0), .c (.str []), .c (.int .i64 0), .c (.int .i64 0)] [(0, 5, (.t 110)), (5, 1, (.t 12)), (6, 4, (.t 111))]), .s 10 10 112]
    [.q (.d 103 3 12), .q (.f 104 3 11), .q (.l 105 104), .q (.f 106 0 10), .q (.d 107 5 106), .q (.f 108 0 15), .q (.d 109 5 108), ⟨.k 110 174 [(.t 103), (.t 105), (.t 107), (.t 109)], true, 0⟩, .q (.d 111 4 11), ⟨.o 112 (.build [.c (.int .i64 0), .c (.str []), .c (.int .i64 0), .csl [], .c (.int .i64 0), .c (.nilp), .c (.int .i64 0), .c (.str []), .c (.int .i64 0), .c (.int .i64 0)] [(0, 5, (.t 110)), (5, 1, (.t 12)), (6, 4, (.t 111))]), false, 1⟩, ⟨.s 10 10 112, true, 1⟩]))))))))))))))
  (.seq (.dreg [.d 113 10 10, .d 114 2 9, .s 10 6 113, .s 2 7 114]
    [.q (.d 113 10 10), ⟨.s 10 6 113, true, 0⟩, .q (.d 114 2 9), ⟨.s 2 7 114, true, 1⟩])
  (.ret))))))
def r131 : List ResV := [.celln 10 6, .celln 2 7]
theorem k131 : CodeIs Tryz.prog 131 3 Tryz.f131 c131 r131 := ⟨by kernel_rfl, Tryz.func131, rfl, by kernel_rfl, by kernel_rfl, by decide, enters_fn Tryz.func131 (by kernel_rfl) rfl⟩
def c81 : AC :=
  .seq (.reg [.o 6 (.box (.k (.agg [.c (.int .i64 0), .c (.str []), .c (.int .i64 0), .csl [], .c (.int .i64 0)]))), .o 7 (.mov (.k (.c (.int .i64 0)))), .o 8 (.mov (.k (.c (.int .i64 0)))), .o 9 (.mov (.k (.c (.int .i64 0))))])
  (.seq (.reg [.m 13 0, .m 14 1, .m 15 2, .o 16 (.build [.csl [], .csl [], .c (.int .i64 0)] [(0, 1, (.t 13)), (1, 1, (.t 14)), (2, 1, (.t 15))]), .o 17 (.box (.t 16)), .m 10 17])
  (.seq (.reg [.m 19 10, .k 20 131 [(.t 19), (.k (.c (.int .i64 0))), (.k (.c (.int .i64 0)))], .m 18 20, .x 21 18 0, .x 22 18 1, .o 11 (.box (.k (.agg [.c (.int .i64 0), .c (.str []), .c (.int .i64 0), .csl [], .c (.int .i64 0), .c (.nilp), .c (.int .i64 0), .c (.str []), .c (.int .i64 0), .c (.int .i64 0)]))), .o 12 (.box (.k (.agg [.c (.int .i64 0), .c (.int .i64 0)]))), .s 10 11 21, .s 2 12 22])
  (.seq (.seq (.reg [.d 23 2 12, .k 24 132 [(.t 23)], .o 25 (.un .not (.t 24))])
  (.cond (.t 25)
  (.seq (.dreg [.o 26 (.build [.c (.int .i64 0), .c (.str []), .c (.int .i64 0), .csl [], .c (.int .i64 0)] []), .m 27 2, .f 28 0 12, .l 29 28, .f 30 1 12, .l 31 30, .s 5 6 26, .m 7 27, .m 8 29, .m 9 31]
    [.q (.o 26 (.build [.c (.int .i64 0), .c (.str []), .c (.int .i64 0), .csl [], .c (.int .i64 0)] [])), ⟨.s 5 6 26, true, 0⟩, .q (.m 27 2), .q (.f 28 0 12), .q (.l 29 28), .q (.f 30 1 12), .q (.l 31 30), ⟨.m 7 27, false, 1⟩, ⟨.m 8 29, false, 1⟩, ⟨.m 9 31, false, 1⟩])
  (.ret))
  (.skip)))
  (.seq (.dreg [.f 32 0 11, .d 33 5 32, .m 34 10, .n 35 34, .f 36 2 35, .l 37 36, .s 5 6 33, .m 7 37, .o 8 (.mov (.k (.c (.int .i64 0)))), .o 9 (.mov (.k (.c (.int .i64 0))))]
    [.q (.f 32 0 11), .q (.d 33 5 32), ⟨.s 5 6 33, true, 0⟩, .q (.m 34 10), .q (.n 35 34), .q (.f 36 2 35), .q (.l 37 36), ⟨.m 7 37, false, 1⟩, ⟨.o 8 (.mov (.k (.c (.int .i64 0)))), false, 1⟩, ⟨.o 9 (.mov (.k (.c (.int .i64 0)))), false, 1⟩])
  (.ret)))))
def r81 : List ResV := [.celln 5 6, .tmp 7, .tmp 8, .tmp 9]
theorem k81 : CodeIs Tryz.prog 81 3 Tryz.f81 c81 r81 := ⟨by kernel_rfl, Tryz.func81, rfl, by kernel_rfl, by kernel_rfl, by decide, enters_fn Tryz.func81 (by kernel_rfl) rfl⟩
end
section

def rdr (l : List OpT) (t : List Tok) (i : Nat) : Blk := .cells [.c (opsC l), .c (toksC t), I i]
theorem wrap_nat {n : Nat} (h : n ≤ 9223372036854775807) : IntKind.i64.wrap (n : Int) = (n : Int) := wrap_in (by omega) (by omega)
theorem wrap_add {a b : Nat} (h : a + b ≤ 9223372036854775807) : IntKind.i64.wrap ((a : Int) + (b : Int)) = ((a + b : Nat) : Int) := by rw [← Int.natCast_add]; exact wrap_nat h
theorem tokL_in {t : List Tok} {i : Nat} (h : i < t.length) : tokL t i = t[i] := by rw [tokL, List.getElem?_eq_getElem h]; rfl
theorem tokL_out {t : List Tok} {i : Nat} (h : t.length ≤ i) : tokL t i = ⟨0, [], 0, lastPos t⟩ := by rw [tokL, List.getElem?_eq_none h]; rfl
theorem lastPos_at {t : List Tok} (h : 0 < t.length) : ∃ x, t[t.length - 1]? = some x ∧ lastPos t = x.pos := by
  refine ⟨t[t.length - 1], List.getElem?_eq_getElem (by omega), ?_⟩
  rw [lastPos, List.getLast?_eq_getElem?, List.getElem?_eq_getElem (by omega)]
  rfl
theorem read_tok (w0 : World) (l : List OpT) (t : List Tok) (i k : Nat) (σ : H) (b : Nat) (hb : σ[b]? = some (rdr l t i)) (hk : i + k ≤ 4000000) (ht : t.length ≤ 1000000) :
    DC Tryz.prog w0 171 [.ptr b 0, I k] σ (Same (tokL t (i + k)).v σ) := by
  have hlt := (List.getElem?_eq_some_iff.1 hb).1
  have hg := fun L => hgetb (σ := σ) L hlt
  refine k171.go rfl (fun hok hsz => ?_)
  rw [rdr] at hb
  have hw : IntKind.i64.wrap ((i : Int) + (k : Int)) = ((i + k : Nat) : Int) := wrap_add (by omega)
  by_cases h : i + k < t.length
  · have h1 : (((i + k : Nat) : Int) < (t.length : Int)) := by omega
    have hx : t[i + k]? = some t[i + k] := List.getElem?_eq_getElem h
    ((try refine W.a ?_); simp only [go_sem, seval, reduceCtorEq, c171, hg, hb, toksC, hw, nat0, h1, hx])
    refine W.yes rfl ?_
    ((try refine W.a ?_); simp only [go_sem, seval, reduceCtorEq, hg, hb, nat0, h1, hx])
    (refine W.ret (Fin.same hok (by simp only [resEval, r171, go_sem, seval, reduceCtorEq]; rfl) ?_ (by first | exact .c _ | (simp only [go_sem, seval, reduceCtorEq]; done)) (by first | exact ⟨[], (List.append_nil _).symm⟩ | exact ⟨_, rfl⟩)); simp only [resV])
    rw [tokL_in h]
  · have h1 : ¬ (((i + k : Nat) : Int) < (t.length : Int)) := by omega
    ((try refine W.a ?_); simp only [go_sem, seval, reduceCtorEq, c171, hg, hb, toksC, hw, nat0, h1])
    refine W.no rfl ?_
    ((try refine W.a ?_); simp only [go_sem, seval, reduceCtorEq, hg, hb])
    by_cases h0 : 0 < t.length
    · have h2 : ((t.length : Int) > 0) := by omega
      have hw2 : IntKind.i64.wrap ((t.length : Int) - 1) = ((t.length - 1 : Nat) : Int) := by rw [wrap_in] <;> omega
      obtain ⟨x, hx, hp⟩ := lastPos_at h0
      have h3 : (((t.length - 1 : Nat) : Int) < (t.length : Int)) := by omega
      ((try refine W.a ?_); simp only [go_sem, seval, reduceCtorEq, h2])
      refine W.yes rfl ?_
      ((try refine W.a ?_); simp only [go_sem, seval, reduceCtorEq])
      (apply W.dregE (List.cons_ne_nil _ _); case hc => ((apply CanonE.advPO; simp only [go_sem, seval, reduceCtorEq, hg, hb, hw2, nat0, h3, hx]); exact CanonE.nil))
      ((try refine W.a ?_); simp only [go_sem, seval, reduceCtorEq])
      (refine W.ret (Fin.same hok (by simp only [resEval, r171, go_sem, seval, reduceCtorEq]; rfl) ?_ (by first | exact .c _ | (simp only [go_sem, seval, reduceCtorEq]; done)) (by first | exact ⟨[], (List.append_nil _).symm⟩ | exact ⟨_, rfl⟩)); simp only [resV])
      rw [tokL_out (by omega), hp]
    · have h2 : ¬ ((t.length : Int) > 0) := by omega
      ((try refine W.a ?_); simp only [go_sem, seval, reduceCtorEq, h2])
      refine W.no rfl ?_
      ((try refine W.a ?_); simp only [go_sem, seval, reduceCtorEq])
      (refine W.ret (Fin.same hok (by simp only [resEval, r171, go_sem, seval, reduceCtorEq]; rfl) ?_ (by first | exact .c _ | (simp only [go_sem, seval, reduceCtorEq]; done)) (by first | exact ⟨[], (List.append_nil _).symm⟩ | exact ⟨_, rfl⟩)); simp only [resV])
      have : t = [] := List.eq_nil_of_length_eq_zero (by omega)
      subst this
      rw [tokL_out (by omega)]; rfl
end
section

def strsR (l : List Str) : List (List C) := l.map fun s => [C.str s]
def tyX (t : List Tok) (i : Int) (v : Nat) (vs : List Str) (e p : Int) : Blk := .cells [.c (toksC t), I i, .osl v (strsR vs), I e, I p]
def tyY (vs : List Str) : Blk := .spare 9 1 vs.length
abbrev tys (σ : H) (b v : Nat) (t : List Tok) (i : Int) (vs : List Str) (e p : Int) : H := rs σ b v (tyX t i v vs e p) (tyY vs)
theorem tys_ok {σ : H} {b v : Nat} (D : Two σ b v) {X Y : Blk} (h : H.ok (rs σ b v X Y)) (t : List Tok) (i : Int) (vs : List Str) (e p : Int) : H.ok (tys σ b v t i vs e p) :=
  rs_ok D h (fun cs tg hc x hx => by
    unfold tyX at hc
    injection hc with hc _
    subst hc
    simp only [List.mem_cons, List.not_mem_nil, or_false] at hx
    rcases hx with rfl | rfl | rfl | rfl | rfl
    · exact .c _
    · exact .c _
    · exact .osl D.lv
    · exact .c _
    · exact .c _) (fun cs tg hc => by unfold tyY at hc; cases hc)
attribute [local go_sem] tyX tyY rs_len rs_g0 rs_g rs_s0 rs_s rs_sv Typ.v Typ.cs_eq tk_mk tname_mk tn_mk tl_mk tysC
theorem ty_tok (w0 : World) (t : List Tok) (i : Int) (vs : List Str) (e p : Int) (σ : H) (b v : Nat) (D : Two σ b v) (hl : t.length ≤ 1000000) :
    DC Tryz.prog w0 215 [.ptr b 0] (tys σ b v t i vs e p) (Same (tokI t i).v (tys σ b v t i vs e p)) := by
  refine k215.go rfl (fun hok hsz => ?_)
  by_cases h : 0 ≤ i ∧ i < t.length
  · obtain ⟨h0, h1⟩ := h
    obtain ⟨n, rfl⟩ := Int.eq_ofNat_of_zero_le h0
    rw [tokI_nat]
    have h1' : n < t.length := by omega
    have hx : t[n]? = some t[n] := List.getElem?_eq_getElem h1'
    ((try refine W.a ?_); simp only [go_sem, seval, reduceCtorEq, c215, rsA D])
    (apply W.dregE (List.cons_ne_nil _ _); case hc => ((apply CanonE.advPO; simp only [go_sem, seval, reduceCtorEq, rsA D, h0, h1]); exact CanonE.nil))
    ((try refine W.a ?_); simp only [go_sem, seval, reduceCtorEq])
    refine W.yes rfl ?_
    ((try refine W.a ?_); simp only [go_sem, seval, reduceCtorEq])
    (apply W.dregE (List.cons_ne_nil _ _); case hc => ((apply CanonE.advPO; simp only [go_sem, seval, reduceCtorEq, rsA D, h0, h1, hx]); exact CanonE.nil))
    ((try refine W.a ?_); simp only [go_sem, seval, reduceCtorEq])
    (refine W.fs (hok) (by simp only [r215, go_sem, seval, reduceCtorEq, rsA D]; rfl) ?_ (hl := by (first | exact .c _ | (simp only [go_sem, seval, reduceCtorEq, rsA D]; done))); simp only [resV, rsA D]; try exact V.wk.rfl _)
    rw [tokL_in h1']
    (all_goals exact wk_here)
  · have ht : tokI t i = ⟨0, [], 0, lastPos t⟩ := by
      unfold tokI
      split
      · rw [tokL_out (by omega)]
      · rfl
    rw [ht]
    have two : (¬ 0 ≤ i) ∨ (0 ≤ i ∧ ¬ i < (t.length : Int)) := by
      by_cases h0 : 0 ≤ i
      · exact .inr ⟨h0, fun h1 => h ⟨h0, h1⟩⟩
      · exact .inl h0
    rcases two with h0 | ⟨h0, h1⟩
    all_goals
      ((try refine W.a ?_); simp only [go_sem, seval, reduceCtorEq, c215, rsA D])
      first
        | ((apply W.dregE (List.cons_ne_nil _ _); case hc => ((apply CanonE.advPO; simp only [go_sem, seval, reduceCtorEq, rsA D, h0, h1]); exact CanonE.nil)))
        | ((apply W.dregE (List.cons_ne_nil _ _); case hc => ((apply CanonE.advPO; simp only [go_sem, seval, reduceCtorEq, rsA D, h0]); exact CanonE.nil)))
      ((try refine W.a ?_); simp only [go_sem, seval, reduceCtorEq])
      refine W.no rfl ?_
      ((try refine W.a ?_); simp only [go_sem, seval, reduceCtorEq, rsA D])
      by_cases hz : 0 < t.length
      · have h2 : ((t.length : Int) > 0) := by omega
        have hw2 : IntKind.i64.wrap ((t.length : Int) - 1) = ((t.length - 1 : Nat) : Int) := by rw [wrap_in] <;> omega
        obtain ⟨x, hx, hp⟩ := lastPos_at hz
        have h3 : (((t.length - 1 : Nat) : Int) < (t.length : Int)) := by omega
        ((try refine W.a ?_); simp only [go_sem, seval, reduceCtorEq, h2])
        refine W.yes rfl ?_
        ((try refine W.a ?_); simp only [go_sem, seval, reduceCtorEq])
        (apply W.dregE (List.cons_ne_nil _ _); case hc => ((apply CanonE.advPO; simp only [go_sem, seval, reduceCtorEq, rsA D, hw2, nat0, h3, hx]); exact CanonE.nil))
        ((try refine W.a ?_); simp only [go_sem, seval, reduceCtorEq])
        (refine W.fs (hok) (by simp only [r215, go_sem, seval, reduceCtorEq, rsA D]; rfl) ?_ (hl := by (first | exact .c _ | (simp only [go_sem, seval, reduceCtorEq, rsA D]; done))); simp only [resV, rsA D]; try exact V.wk.rfl _)
        rw [hp]
        (all_goals exact wk_here)
      · have h2 : ¬ ((t.length : Int) > 0) := by omega
        have : t = [] := List.eq_nil_of_length_eq_zero (by omega)
        ((try refine W.a ?_); simp only [go_sem, seval, reduceCtorEq, h2])
        refine W.no rfl ?_
        ((try refine W.a ?_); simp only [go_sem, seval, reduceCtorEq, rsA D])
        (refine W.fs (hok) (by simp only [r215, go_sem, seval, reduceCtorEq, rsA D]; rfl) ?_ (hl := by (first | exact .c _ | (simp only [go_sem, seval, reduceCtorEq, rsA D]; done))); simp only [resV, rsA D]; try exact V.wk.rfl _)
        subst this
        (all_goals exact wk_here)
theorem ty_fail (w0 : World) (t : List Tok) (i : Int) (vs : List Str) (e p e' p' : Int) (σ : H) (b v : Nat) (D : Two σ b v) :
    DC Tryz.prog w0 245 [.ptr b 0, I e', I p'] (tys σ b v t i vs e p) (Same (.tup []) (tys σ b v t i vs (if e = 0 then e' else e) (if e = 0 then p' else p))) := by
  refine k245.go rfl (fun hok hsz => ?_)
  by_cases he : e = 0
  · subst he
    ((try refine W.a ?_); simp only [go_sem, seval, reduceCtorEq, c245, rsA D])
    refine W.yes rfl ?_
    ((try refine W.a ?_); simp only [go_sem, seval, reduceCtorEq, rsA D])
    (refine W.done (Fin.sameW (tys_ok D hok t i vs e' p') (by (first | rfl | exact List.length_set .. | simp)) (by simp only [r245, go_sem, seval, reduceCtorEq]; rfl) ?_ (by (first | exact .c _ | (simp only [go_sem, seval, reduceCtorEq]; done))) (by (first | rfl | exact (List.append_nil _).symm))); simp only [resV]; try exact V.wk.rfl _)
  · have he' : (e == 0) = false := by simpa using he
    ((try refine W.a ?_); simp only [go_sem, seval, reduceCtorEq, c245, rsA D, he'])
    refine W.no rfl ?_
    ((try refine W.a ?_); simp only [go_sem, seval, reduceCtorEq])
    rw [if_neg he, if_neg he]
    (refine W.done (Fin.sameW (hok) (by (first | rfl | exact List.length_set .. | simp)) (by simp only [r245, go_sem, seval, reduceCtorEq]; rfl) ?_ (by (first | exact .c _ | (simp only [go_sem, seval, reduceCtorEq]; done))) (by (first | rfl | exact (List.append_nil _).symm))); simp only [resV]; try exact V.wk.rfl _)
theorem ty_begins (w0 : World) (t : List Tok) (i : Int) (vs : List Str) (e p : Int) (σ : H) (b v : Nat) (D : Two σ b v) (hl : t.length ≤ 1000000) :
    DC Tryz.prog w0 217 [.ptr b 0] (tys σ b v t i vs e p) (Same (B (tyBegins (tokI t i))) (tys σ b v t i vs e p)) := by
  refine k217.go rfl (fun hok hsz => ?_)
  ((try refine W.a ?_); simp only [go_sem, seval, reduceCtorEq, c217])
  (refine W.c1 (ty_tok w0 t i vs e p σ b v D hl) ?_; simp only [go_sem, seval, reduceCtorEq])
  generalize tokI t i = x
  (((try refine W.a ?_); (try simp only [bne, go_sem, seval, reduceCtorEq, *])); (repeat' (first | (refine W.yes rfl ?_; (refine W.a ?_; simp only [bne, go_sem, seval, reduceCtorEq, *])) | (refine W.no rfl ?_; (refine W.a ?_; simp only [bne, go_sem, seval, reduceCtorEq, *])) | (refine W.testn rfl (fun hT => ?_) (fun hT => ?_) <;> (refine W.a ?_; simp only [bne, go_sem, seval, reduceCtorEq, *])) | (refine W.test rfl (fun hT => ?_) (fun hT => ?_) <;> (refine W.a ?_; simp only [bne, go_sem, seval, reduceCtorEq, *])) | (refine advG_ifn _ _ _ _ (fun hT => ?_) (fun hT => ?_) <;> simp only [bne, go_sem, seval, reduceCtorEq, *]) | (refine advG_if _ _ _ _ (fun hT => ?_) (fun hT => ?_) <;> simp only [bne, go_sem, seval, reduceCtorEq, *]))))
  all_goals (refine W.fs (hok) (by simp only [r217, go_sem, seval, reduceCtorEq]; rfl) ?_; simp only [resV]; (first | exact V.wk.rfl _ | (refine wk_bool ?_; clear hsz hok; rw [tyBegins] <;> ((try simp only [beq_iff_eq, beq_eq_false_iff_ne, ne_eq, decide_eq_true_eq, decide_eq_false_iff_not] at *); first | (exfalso; omega) | (simp [beq_iff_eq, *]; done) | (simp [beq_iff_eq, *]; omega) | (simp [beq_iff_eq, *])))))
theorem slices_Index (w0 : World) (l : List Str) (s : Str) (σ : H) : DC Tryz.prog w0 116 [.c (.sl (strsR l)), S s] σ (Same (I (idxI (· == s) l)) σ) := by
  refine k116.go rfl (fun hok hsz => ?_)
  have hlen : l.length ≤ 9223372036854775807 := sz_rows (hsz _ (List.mem_cons_self ..))
  ((try refine W.a ?_); simp only [go_sem, seval, reduceCtorEq, c116, strsR])
  refine W.loopP (fun i => i ≤ l.length ∧ UpTo (· == s) l i) (fun i => ⟨((((base.put (some 0) (.c (.sl (strsR l)))).put (some 1) (S s)).put (some 7) (I l.length)).put (some 8) (I (i : Nat))), σ⟩) (fun i => l.length - i) 0 ⟨Nat.zero_le _, upTo_zero⟩ ?_ (fun i hi => ?_)
  · (refine Lew.env ?_; exact lee_here)
  · obtain ⟨hi, hinv⟩ := hi
    by_cases hlt : i < l.length
    · have h1 : ((i : Int) < (l.length : Int)) := by omega
      have hx : l[i]? = some l[i] := List.getElem?_eq_getElem hlt
      have hw : IntKind.i64.wrap ((i : Int) + 1) = ((i + 1 : Nat) : Int) := wrap_next hlt hlen
      ((try refine W.a ?_); simp only [go_sem, seval, reduceCtorEq, h1])
      refine W.yes rfl ?_
      ((try refine W.a ?_); simp only [go_sem, seval, reduceCtorEq, strsR, h1, nat0, hx])
      refine W.test rfl (fun h => ?_) (fun h => ?_)
      · ((try refine W.a ?_); simp only [go_sem, seval, reduceCtorEq])
        (refine W.ret (Fin.same hok (by simp only [resEval, r116, go_sem, seval, reduceCtorEq]; rfl) ?_ (by first | exact .c _ | (simp only [go_sem, seval, reduceCtorEq]; done)) (by first | exact ⟨[], (List.append_nil _).symm⟩ | exact ⟨_, rfl⟩)); simp only [resV])
        rw [idxI_at hinv hlt (by simp only [beq_iff_eq] at h ⊢; exact h.symm)]
      · ((try refine W.a ?_); simp only [go_sem, seval, reduceCtorEq, hw])
        refine .inv ⟨i + 1, ⟨hlt, upTo_next hinv hlt (by simp only [beq_eq_false_iff_ne] at h ⊢; exact fun e => h e.symm)⟩, by omega, ?_⟩
        (refine Lew.env ?_; exact lee_here)
    · have h1 : ¬ ((i : Int) < (l.length : Int)) := by omega
      ((try refine W.a ?_); simp only [go_sem, seval, reduceCtorEq, h1])
      refine W.no rfl ?_
      ((try refine W.a ?_); simp only [go_sem, seval, reduceCtorEq])
      (refine W.ret (Fin.same hok (by simp only [resEval, r116, go_sem, seval, reduceCtorEq]; rfl) ?_ (by first | exact .c _ | (simp only [go_sem, seval, reduceCtorEq]; done)) (by first | exact ⟨[], (List.append_nil _).symm⟩ | exact ⟨_, rfl⟩)); simp only [resV])
      rw [idxI_none (fun j hj => hinv j hj (by omega))]
theorem ty_variable1 (w0 : World) (n : Int) (σ : H) : DC Tryz.prog w0 259 [I n] σ (Same (Typ.var n).v σ) := by
  refine k259.go rfl (fun hok hsz => ?_)
  ((try refine W.a ?_); simp only [go_sem, seval, reduceCtorEq, c259])
  (refine W.fg (hok) (d := (Typ.var n).v) (by simp only [r259, go_sem, seval, reduceCtorEq, Typ.v, Typ.var, tk_mk, tname_mk, tn_mk, tl_mk]; rfl) (by simp only [resV, go_sem, seval, reduceCtorEq, Typ.v, Typ.var, tk_mk, tname_mk, tn_mk, tl_mk]; exact wk_here) ?_ (hl := by (first | exact .c _ | (simp only [go_sem, seval, reduceCtorEq, Typ.v, Typ.var, tk_mk, tname_mk, tn_mk, tl_mk]; done))))
  exact ⟨rfl, rfl⟩
theorem vnum_no {vs : List Str} {s : Str} (h : idxI (· == s) vs = -1) : vnum vs s = vs.length ∧ vadd vs s = vs ++ [s] := by
  unfold idxI at h
  unfold vnum vadd
  cases hf : vs.findIdx? (· == s) with
  | none => simp
  | some k => rw [hf] at h; simp only at h; omega
theorem vnum_yes {vs : List Str} {s : Str} {k : Nat} (h : idxI (· == s) vs = k) : vnum vs s = k ∧ vadd vs s = vs := by
  unfold idxI at h
  unfold vnum vadd
  cases hf : vs.findIdx? (· == s) with
  | none => rw [hf] at h; simp only at h; omega
  | some j => rw [hf] at h; simp only at h; simp; omega
theorem tys_push (σ : H) (b v : Nat) (t : List Tok) (i : Int) (vs : List Str) (s : Str) (e p : Int) : tys σ b v t i (vs ++ [s]) e p = rs σ b v (.cells [.c (toksC t), I i, .osl v (strsR vs ++ [[C.str s]]), I e, I p]) (.spare 9 1 (vs.length + 1)) := by
  show rs σ b v (tyX t i v (vs ++ [s]) e p) (tyY (vs ++ [s])) = _
  simp only [tyX, tyY, strsR, List.map_append, List.map_cons, List.map_nil, List.length_append, List.length_cons, List.length_nil]
theorem ty_variable (w0 : World) (t : List Tok) (i : Int) (vs : List Str) (e p : Int) (s : Str) (σ : H) (b v : Nat) (D : Two σ b v) (hv : vs.length ≤ 1000000) :
    DC Tryz.prog w0 246 [.ptr b 0, S s] (tys σ b v t i vs e p) (Same (Typ.var (vnum vs s)).v (tys σ b v t i (vadd vs s) e p)) := by
  refine k246.go rfl (fun hok hsz => ?_)
  rcases idxI_cases (· == s) vs with ⟨h, h'⟩ | ⟨k, hk, h, h'⟩
  · obtain ⟨q1, q2⟩ := vnum_no h
    have hb1 : (vs.length + 1) * 16 ≤ 140737488355328 := by omega
    have hb2 : vs.length + 1 ≤ 140737488355328 := by omega
    ((try refine W.a ?_); simp only [go_sem, seval, reduceCtorEq, c246, rsA D])
    (refine W.c1w (slices_Index w0 vs s _) ?_; simp only [go_sem, seval, reduceCtorEq, h, show ((-1 : Int) < 0) = True from by decide])
    refine W.yes rfl ?_
    ((try refine W.a ?_); simp only [go_sem, seval, reduceCtorEq, rsA D, strsR, hb1, hb2])
    rw [q1, q2, tys_push]
    have hok2 := tys_ok D hok t i (vs ++ [s]) e p
    rw [tys_push] at hok2
    (refine W.c1 (ty_variable1 w0 (vs.length : Int) _) ?_; simp only [go_sem, seval, reduceCtorEq, Typ.var])
    (refine W.fg (hok2) (d := (Typ.var (vs.length : Int)).v) (by simp only [r246, go_sem, seval, reduceCtorEq, Typ.v, Typ.var, tk_mk, tname_mk, tn_mk, tl_mk]; rfl) (by simp only [resV, go_sem, seval, reduceCtorEq, Typ.v, Typ.var, tk_mk, tname_mk, tn_mk, tl_mk]; exact wk_here) ?_ (hl := by (first | exact .c _ | (simp only [go_sem, seval, reduceCtorEq, Typ.v, Typ.var, tk_mk, tname_mk, tn_mk, tl_mk]; done))))
    exact ⟨rfl, rfl⟩
  · obtain ⟨q1, q2⟩ := vnum_yes h
    have h1 : ¬ ((k : Int) < 0) := by omega
    ((try refine W.a ?_); simp only [go_sem, seval, reduceCtorEq, c246, rsA D])
    (refine W.c1w (slices_Index w0 vs s _) ?_; simp only [go_sem, seval, reduceCtorEq, h, h1])
    refine W.no rfl ?_
    ((try refine W.a ?_); simp only [go_sem, seval, reduceCtorEq])
    rw [q1, q2]
    (refine W.c1 (ty_variable1 w0 (k : Int) _) ?_; simp only [go_sem, seval, reduceCtorEq, Typ.var])
    (refine W.fg (hok) (d := (Typ.var (k : Int)).v) (by simp only [r246, go_sem, seval, reduceCtorEq, Typ.v, Typ.var, tk_mk, tname_mk, tn_mk, tl_mk]; rfl) (by simp only [resV, go_sem, seval, reduceCtorEq, Typ.v, Typ.var, tk_mk, tname_mk, tn_mk, tl_mk]; exact wk_here) ?_ (hl := by (first | exact .c _ | (simp only [go_sem, seval, reduceCtorEq, Typ.v, Typ.var, tk_mk, tname_mk, tn_mk, tl_mk]; done))))
    exact ⟨rfl, rfl⟩
end
section

theorem sz_text {s : List UInt8} {args : List V} (h : ∀ y ∈ args, V.Sz y) (hx : S s ∈ args) : s.length ≤ maxLen := by
  have := h _ hx
  rwa [S, sz_c, sz_str] at this
theorem DC.of_text {w0 : World} {f : FuncId} {s : List UInt8} {b : Bool} {σ : H} (hen : Enters Tryz.prog f) (h : ∀ w, s.length ≤ maxLen → Calls Tryz.prog f #[.string (bs s)] w (Ret (.bool b) w)) : DC Tryz.prog w0 f [S s] σ (Same (B b) σ) := by
  refine DC.of_calls hen fun κ w vs hrep hfit => ?_
  obtain ⟨v, ys, rfl, hv, hfit⟩ := hfit.cons_inv
  have := hfit.nil_inv
  subst this
  cases hv with
  | c hv =>
    cases hv with
    | str _ hl =>
      refine ⟨.bool b, .c (.bool b), (h w hl).mono ?_⟩
      rintro e w' ⟨rfl, rfl⟩
      exact ⟨rfl, Below.refl _ _⟩
theorem lex_IsNameD (w0 : World) (s : List UInt8) (σ : H) : DC Tryz.prog w0 68 [S s] σ (Same (B (isNameB s)) σ) :=
  DC.of_text (enters_fn Tryz.func68 (by kernel_rfl) rfl) fun w hs => lex_IsName (bs s) w hs
theorem lex_IsSymD (w0 : World) (s : List UInt8) (σ : H) : DC Tryz.prog w0 69 [S s] σ (Same (B (isSymB s)) σ) :=
  DC.of_text (enters_fn Tryz.func69 (by kernel_rfl) rfl) fun w hs => lex_IsSym (bs s) w hs
theorem ops_reserved (w0 : World) (s : Str) (σ : H) : DC Tryz.prog w0 94 [S s] σ (Same (B (reservedL s)) σ) := by
  refine k94.go rfl (fun hok hsz => ?_)
  (((try refine W.a ?_); (try simp only [bne, go_sem, seval, reduceCtorEq, c94, *])); (repeat' (first | (refine W.yes rfl ?_; (refine W.a ?_; simp only [bne, go_sem, seval, reduceCtorEq, c94, *])) | (refine W.no rfl ?_; (refine W.a ?_; simp only [bne, go_sem, seval, reduceCtorEq, c94, *])) | (refine W.testn rfl (fun hT => ?_) (fun hT => ?_) <;> (refine W.a ?_; simp only [bne, go_sem, seval, reduceCtorEq, c94, *])) | (refine W.test rfl (fun hT => ?_) (fun hT => ?_) <;> (refine W.a ?_; simp only [bne, go_sem, seval, reduceCtorEq, c94, *])) | (refine advG_ifn _ _ _ _ (fun hT => ?_) (fun hT => ?_) <;> simp only [bne, go_sem, seval, reduceCtorEq, c94, *]) | (refine advG_if _ _ _ _ (fun hT => ?_) (fun hT => ?_) <;> simp only [bne, go_sem, seval, reduceCtorEq, c94, *]))))
  all_goals (refine W.fs (hok) (by simp only [r94, go_sem, seval, reduceCtorEq]; rfl) ?_; simp only [resV]; (first | exact V.wk.rfl _ | (refine wk_bool ?_; clear hsz hok; rw [reservedL] <;> ((try simp only [beq_iff_eq, beq_eq_false_iff_ne, ne_eq, decide_eq_true_eq, decide_eq_false_iff_not] at *); first | (exfalso; omega) | (simp [*]; done) | (simp [*]; omega) | (simp [*])))))
theorem clone_op (w0 : World) (l : List OpT) (hl : l ≠ []) (hn : l.length ≤ 100000) (σ : H) : DC Tryz.prog w0 43 [.c (opsC l)] σ (Same (.osl σ.length (l.map OpT.cs)) (σ ++ [.spare 38 3 l.length])) := by
  refine k43.goN rfl (fun hok hsz => ?_)
  ((try refine W.a ?_); simp only [go_sem, seval, reduceCtorEq, c43])
  refine W.opsFork rfl rfl rfl (fun b hb => ?_)
  have hbf : b = false := by
    cases b
    · rfl
    · exact absurd (by simpa using hb rfl) hl
  subst hbf
  have hne : l.map OpT.cs ≠ [] := by simpa using hl
  have hb1 : l.length * 32 ≤ 140737488355328 := by omega
  have hb2 : l.length ≤ 140737488355328 := by omega
  have hb3 : ∀ r ∈ l.map OpT.cs, r.length = 3 := fun r hr => by obtain ⟨o, _, rfl⟩ := List.mem_map.1 hr; rfl
  ((try refine W.a ?_); simp only [go_sem, seval, reduceCtorEq])
  refine W.no rfl ?_
  ((try refine W.a ?_); simp only [go_sem, seval, reduceCtorEq, hb1, hb2, eq_true hb3, hne, true_or])
  refine W.ret ⟨_, _, rfl, .rfl _, ?_⟩
  refine ⟨rfl, ?_⟩
  simp only [List.length_map]
theorem bool_idx {α : Type} [BEq α] [LawfulBEq α] (l : List α) (x : α) : decide ((0 : Int) ≤ idxI (· == x) l) = l.contains x := by
  rcases idxI_cases (· == x) l with ⟨h, h'⟩ | ⟨i, hi, h, h'⟩
  · rw [h]
    have : l.contains x = false := by
      rw [List.find?_eq_none] at h'
      cases hc : l.contains x
      · rfl
      · rw [List.contains_iff_mem] at hc
        exact absurd (h' x hc) (by simp)
    rw [this]; rfl
  · rw [h]
    have hm : (l[i] == x) = true := by
      have := List.find?_some h'
      exact this
    have : l.contains x = true := by
      rw [List.contains_iff_mem]
      have e : l[i] = x := by simpa using hm
      rw [← e]; exact List.getElem_mem hi
    rw [this]
    simp
theorem str_contains (w0 : World) (l : List Str) (s : Str) (σ : H) : DC Tryz.prog w0 60 [.c (.sl (strsR l)), S s] σ (Same (B (l.contains s)) σ) := by
  refine k60.go rfl (fun hok hsz => ?_)
  ((try refine W.a ?_); simp only [go_sem, seval, reduceCtorEq, c60])
  (refine W.c1 (slices_Index w0 l s _) ?_; simp only [go_sem, seval, reduceCtorEq])
  (refine W.fs (hok) (by simp only [r60, go_sem, seval, reduceCtorEq]; rfl) ?_; simp only [resV]; try exact V.wk.rfl _)
  rw [← bool_idx]
  exact .rfl _
theorem kind_index (w0 : World) (l : List Int) (k : Int) (σ : H) : DC Tryz.prog w0 219 [.c (.sl (l.map fun k => [C.int .i64 k])), I k] σ (Same (I (idxI (· == k) l)) σ) := by
  refine k219.go rfl (fun hok hsz => ?_)
  have hlen : l.length ≤ 9223372036854775807 := sz_rows (hsz _ (List.mem_cons_self ..))
  ((try refine W.a ?_); simp only [go_sem, seval, reduceCtorEq, c219])
  refine W.loopP (fun i => i ≤ l.length ∧ UpTo (· == k) l i) (fun i => ⟨((((base.put (some 0) (.c (.sl (l.map fun k => [C.int .i64 k])))).put (some 1) (I k)).put (some 7) (I l.length)).put (some 8) (I (i : Nat))), σ⟩) (fun i => l.length - i) 0 ⟨Nat.zero_le _, upTo_zero⟩ ?_ (fun i hi => ?_)
  · (refine Lew.env ?_; exact lee_here)
  · obtain ⟨hi, hinv⟩ := hi
    by_cases hlt : i < l.length
    · have h1 : ((i : Int) < (l.length : Int)) := by omega
      have hx : l[i]? = some l[i] := List.getElem?_eq_getElem hlt
      have hw : IntKind.i64.wrap ((i : Int) + 1) = ((i + 1 : Nat) : Int) := wrap_next hlt hlen
      ((try refine W.a ?_); simp only [go_sem, seval, reduceCtorEq, h1])
      refine W.yes rfl ?_
      ((try refine W.a ?_); simp only [go_sem, seval, reduceCtorEq, h1, nat0, hx])
      refine W.test rfl (fun h => ?_) (fun h => ?_)
      · ((try refine W.a ?_); simp only [go_sem, seval, reduceCtorEq])
        (refine W.ret (Fin.same hok (by simp only [resEval, r219, go_sem, seval, reduceCtorEq]; rfl) ?_ (by first | exact .c _ | (simp only [go_sem, seval, reduceCtorEq]; done)) (by first | exact ⟨[], (List.append_nil _).symm⟩ | exact ⟨_, rfl⟩)); simp only [resV])
        rw [idxI_at hinv hlt (by simp only [beq_iff_eq] at h ⊢; exact h.symm)]
      · ((try refine W.a ?_); simp only [go_sem, seval, reduceCtorEq, hw])
        refine .inv ⟨i + 1, ⟨hlt, upTo_next hinv hlt (by simp only [beq_eq_false_iff_ne] at h ⊢; exact fun e => h e.symm)⟩, by omega, ?_⟩
        (refine Lew.env ?_; exact lee_here)
    · have h1 : ¬ ((i : Int) < (l.length : Int)) := by omega
      ((try refine W.a ?_); simp only [go_sem, seval, reduceCtorEq, h1])
      refine W.no rfl ?_
      ((try refine W.a ?_); simp only [go_sem, seval, reduceCtorEq])
      (refine W.ret (Fin.same hok (by simp only [resEval, r219, go_sem, seval, reduceCtorEq]; rfl) ?_ (by first | exact .c _ | (simp only [go_sem, seval, reduceCtorEq]; done)) (by first | exact ⟨[], (List.append_nil _).symm⟩ | exact ⟨_, rfl⟩)); simp only [resV])
      rw [idxI_none (fun j hj => hinv j hj (by omega))]
theorem kind_contains (w0 : World) (l : List Int) (k : Int) (σ : H) : DC Tryz.prog w0 185 [.c (.sl (l.map fun k => [C.int .i64 k])), I k] σ (Same (B (l.contains k)) σ) := by
  refine k185.go rfl (fun hok hsz => ?_)
  ((try refine W.a ?_); simp only [go_sem, seval, reduceCtorEq, c185])
  (refine W.c1 (kind_index w0 l k _) ?_; simp only [go_sem, seval, reduceCtorEq])
  (refine W.fs (hok) (by simp only [r185, go_sem, seval, reduceCtorEq]; rfl) ?_; simp only [resV]; try exact V.wk.rfl _)
  rw [← bool_idx]
  exact .rfl _
theorem ops_wrong (w0 : World) (l : List OpT) (o : OpT) (σ : H) : DC Tryz.prog w0 42 [.c (opsC l), o.v] σ (Same (I (wrongL l o)) σ) := by
  refine k42.go rfl (fun hok hsz => ?_)
  ((try refine W.a ?_); simp only [go_sem, seval, reduceCtorEq, c42])
  (refine W.c1 (ops_Find w0 l o.name _) ?_; simp only [go_sem, seval, reduceCtorEq, foundV])
  generalize (findL l o.name).getD OpT.zero = z
  by_cases c1 : o.fix < 0 ∨ 2 < o.fix
  · have hr : wrongL l o = 1 := by unfold wrongL; rw [if_pos c1]
    rw [hr]
    rcases c1 with c1 | c1
    · ((try refine W.a ?_); simp only [go_sem, seval, reduceCtorEq, c1])
      refine W.yes rfl ?_
      ((try refine W.a ?_); simp only [go_sem, seval, reduceCtorEq])
      (refine W.fs (hok) (by simp only [r42, go_sem, seval, reduceCtorEq]; rfl) ?_; simp only [resV]; try exact V.wk.rfl _)
    · have c0 : ¬ o.fix < 0 := by omega
      have c1' : o.fix > 2 := c1
      ((try refine W.a ?_); simp only [go_sem, seval, reduceCtorEq, c0, c1'])
      refine W.yes rfl ?_
      ((try refine W.a ?_); simp only [go_sem, seval, reduceCtorEq])
      (refine W.fs (hok) (by simp only [r42, go_sem, seval, reduceCtorEq]; rfl) ?_; simp only [resV]; try exact V.wk.rfl _)
  · have n1 : ¬ o.fix < 0 := by omega
    have n2 : ¬ o.fix > 2 := by omega
    ((try refine W.a ?_); simp only [go_sem, seval, reduceCtorEq, n1, n2])
    refine W.no rfl ?_
    ((try refine W.a ?_); simp only [go_sem, seval, reduceCtorEq])
    have hw : wrongL l o = if (isNameB o.name = false ∧ isSymB o.name = false) ∨ reservedL o.name = true then 20 else if o.prec < 1 ∨ 200 < o.prec then 21 else if (findL l o.name).isSome = true then 22 else if 64 ≤ l.length then 23 else 0 := by unfold wrongL; rw [if_neg c1]
    have tail : ∀ (ρ : Env) (hρ : ρ 3 = .ptr σ.length 0) (h6 : ρ 6 = B (findL l o.name).isSome) (h0 : ρ 0 = .c (opsC l)), ¬ ((isNameB o.name = false ∧ isSymB o.name = false) ∨ reservedL o.name = true) → True := fun _ _ _ _ _ => trivial
    clear tail
    cases hN : isNameB o.name <;> cases hS : isSymB o.name <;> cases hR : reservedL o.name
    all_goals
      (refine W.c1 (lex_IsNameD w0 o.name _) ?_; simp only [go_sem, seval, reduceCtorEq, hN])
      try ((refine W.c1 (lex_IsSymD w0 o.name _) ?_; simp only [go_sem, seval, reduceCtorEq, hS]))
      try ((refine W.c1 (ops_reserved w0 o.name _) ?_; simp only [go_sem, seval, reduceCtorEq, hR]))
      first
        | (refine W.yes rfl ?_
           ((try refine W.a ?_); simp only [go_sem, seval, reduceCtorEq])
           (refine W.fs (hok) (by simp only [r42, go_sem, seval, reduceCtorEq]; rfl) ?_; simp only [resV]; try exact V.wk.rfl _)
           rw [hw, if_pos (by simp [hN, hS, hR])]
           exact .rfl _)
        | skip
    all_goals
      rw [hN, hS, hR] at hw
      simp only [Bool.true_eq_false, Bool.false_eq_true, and_false, false_and, and_self, or_self, or_false, false_or, if_false] at hw
      refine W.no rfl ?_
      ((try refine W.a ?_); simp only [go_sem, seval, reduceCtorEq])
      by_cases p1 : o.prec < 1
      · rw [if_pos (.inl p1)] at hw
        rw [hw]
        ((try refine W.a ?_); simp only [go_sem, seval, reduceCtorEq, p1])
        refine W.yes rfl ?_
        ((try refine W.a ?_); simp only [go_sem, seval, reduceCtorEq])
        (refine W.fs (hok) (by simp only [r42, go_sem, seval, reduceCtorEq]; rfl) ?_; simp only [resV]; try exact V.wk.rfl _)
      · by_cases p2 : o.prec > 200
        · rw [if_pos (.inr p2)] at hw
          rw [hw]
          ((try refine W.a ?_); simp only [go_sem, seval, reduceCtorEq, p1, p2])
          refine W.yes rfl ?_
          ((try refine W.a ?_); simp only [go_sem, seval, reduceCtorEq])
          (refine W.fs (hok) (by simp only [r42, go_sem, seval, reduceCtorEq]; rfl) ?_; simp only [resV]; try exact V.wk.rfl _)
        · rw [if_neg (by omega)] at hw
          ((try refine W.a ?_); simp only [go_sem, seval, reduceCtorEq, p1, p2])
          refine W.no rfl ?_
          ((try refine W.a ?_); simp only [go_sem, seval, reduceCtorEq])
          cases hf : (findL l o.name).isSome
          · rw [hf, if_neg (by decide)] at hw
            refine W.no rfl ?_
            by_cases p3 : 64 ≤ l.length
            · have p3' : (l.length : Int) ≥ 64 := by omega
              rw [if_pos p3] at hw
              rw [hw]
              ((try refine W.a ?_); simp only [go_sem, seval, reduceCtorEq, p3'])
              refine W.yes rfl ?_
              ((try refine W.a ?_); simp only [go_sem, seval, reduceCtorEq])
              (refine W.fs (hok) (by simp only [r42, go_sem, seval, reduceCtorEq]; rfl) ?_; simp only [resV]; try exact V.wk.rfl _)
            · have p3' : ¬ (l.length : Int) ≥ 64 := by omega
              rw [if_neg p3] at hw
              rw [hw]
              ((try refine W.a ?_); simp only [go_sem, seval, reduceCtorEq, p3'])
              refine W.no rfl ?_
              ((try refine W.a ?_); simp only [go_sem, seval, reduceCtorEq])
              (refine W.fs (hok) (by simp only [r42, go_sem, seval, reduceCtorEq]; rfl) ?_; simp only [resV]; try exact V.wk.rfl _)
          · rw [hf, if_pos rfl] at hw
            rw [hw]
            refine W.yes rfl ?_
            ((try refine W.a ?_); simp only [go_sem, seval, reduceCtorEq])
            (refine W.fs (hok) (by simp only [r42, go_sem, seval, reduceCtorEq]; rfl) ?_; simp only [resV]; try exact V.wk.rfl _)
theorem ops_Declare (w0 : World) (l : List OpT) (o : OpT) (hl : l ≠ []) (hn : l.length ≤ 99999) (σ : H) : DC Tryz.prog w0 13 [.c (opsC l), o.v] σ (Same (.tup [.c (opsC (if wrongL l o = 0 then l ++ [o] else l)), I (wrongL l o)]) σ) := by
  refine k13.go rfl (fun hok hsz => ?_)
  ((try refine W.a ?_); simp only [go_sem, seval, reduceCtorEq, c13])
  (refine W.c1 (ops_wrong w0 l o _) ?_; simp only [go_sem, seval, reduceCtorEq])
  by_cases hw : wrongL l o = 0
  · have hb : (wrongL l o != 0) = false := by simpa using hw
    have hb1 : (l.length + 1) * 32 ≤ 140737488355328 := by omega
    have hb2 : l.length + 1 ≤ 140737488355328 := by omega
    rw [if_pos hw]
    ((try refine W.a ?_); simp only [go_sem, seval, reduceCtorEq, hb])
    refine W.no rfl ?_
    ((try refine W.a ?_); simp only [go_sem, seval, reduceCtorEq])
    apply W.dregE (List.cons_ne_nil _ _)
    case hc =>
      (apply CanonE.advPO; simp only [go_sem, seval, reduceCtorEq])
      (apply CanonE.call (clone_op w0 l hl (by omega) _); (case hg => rfl); (case hf => rfl); (case ha => first | rfl | simp))
      (apply CanonE.advPO; simp only [go_sem, seval, reduceCtorEq, hb1, hb2])
      exact CanonE.nil
    ((try refine W.a ?_); simp only [go_sem, seval, reduceCtorEq])
    rw [hw]
    (refine W.fs (hok) (by simp only [r13, go_sem, seval, reduceCtorEq]; rfl) ?_; simp only [resV]; try exact V.wk.rfl _)
    simp only [List.map_append, List.map_cons, List.map_nil, OpT.cs]
    (all_goals exact wk_here)
  · have hb : (wrongL l o != 0) = true := by simpa using hw
    rw [if_neg hw]
    ((try refine W.a ?_); simp only [go_sem, seval, reduceCtorEq, hb])
    refine W.yes rfl ?_
    ((try refine W.a ?_); simp only [go_sem, seval, reduceCtorEq])
    (refine W.c1 (clone_op w0 l hl (by omega) _) ?_; simp only [go_sem, seval, reduceCtorEq])
    (refine W.fs (hok) (by simp only [r13, go_sem, seval, reduceCtorEq]; rfl) ?_; simp only [resV]; try exact V.wk.rfl _)
    (all_goals exact wk_here)
end
section

def atomV (nm : Bool) (u : Typ) : V := if nm then .agg [I u.k, S u.name, I u.n, .csl []] else u.v
abbrev tyo (σ : H) (b v : Nat) (t : List Tok) (o : TyO) : H := tys σ b v t o.j o.ws o.e o.p
def TyTypeOK (w0 : World) (f : Nat) : Prop := ∀ (t : List Tok) (depth i : Nat) (vs : List Str) (r : TyR) (o : TyO) (σ : H) (b v : Nat), tyTypeF f t depth i vs = some r → tyTypeG f t depth i vs = some o → Two σ b v → t.length ≤ 1000000 → vs.length ≤ i → i ≤ t.length → depth ≤ 200 →
  DC Tryz.prog w0 184 [.ptr b 0, I depth] (tys σ b v t i vs 0 0) (Same o.u.v (tyo σ b v t o))
def TyAtomOK (w0 : World) (f : Nat) : Prop := ∀ (t : List Tok) (depth i : Nat) (vs : List Str) (r : TyR) (o : TyO) (σ : H) (b v : Nat), tyAtomF f t depth i vs = some r → tyAtomG f t depth i vs = some o → Two σ b v → t.length ≤ 1000000 → vs.length ≤ i → i ≤ t.length → depth ≤ 200 →
  DC Tryz.prog w0 216 [.ptr b 0, I depth] (tys σ b v t i vs 0 0) (Same (atomV ((tokL t i).kind == 1) o.u) (tyo σ b v t o))
attribute [local go_sem] tyX tyY rs_len rs_g0 rs_g rs_s0 rs_s rs_sv Typ.v Typ.cs_eq tk_mk tname_mk tn_mk tl_mk tysC
def innerT (f : Nat) (t : List Tok) (depth i : Nat) (vs : List Str) (pos : Int) : Option TyR := if 200 ≤ depth then some (.error ⟨31, pos⟩) else tyTypeF f t (depth + 1) i vs
def innerO (f : Nat) (t : List Tok) (depth i : Nat) (vs : List Str) (pos : Int) : Option TyO := if 200 ≤ depth then some ⟨.none, (i : Nat), vs, 31, pos⟩ else tyTypeG f t (depth + 1) i vs
theorem ty_inner {w0 : World} {f : Nat} (hE : TyTypeOK w0 f) (t : List Tok) (depth i : Nat) (vs : List Str) (k : Tok) (r : TyR) (o : TyO) (σ : H) (b v : Nat) (h : innerT f t depth i vs k.pos = some r) (ho : innerO f t depth i vs k.pos = some o) (D : Two σ b v) (ht : t.length ≤ 1000000) (hv : vs.length ≤ i) (hi : i ≤ t.length) (hd : depth ≤ 200) :
    DC Tryz.prog w0 218 [.ptr b 0, I depth, k.v] (tys σ b v t i vs 0 0) (Same o.u.v (tyo σ b v t o)) := by
  refine k218.go rfl (fun hok hsz => ?_)
  rw [innerT] at h
  rw [innerO] at ho
  by_cases hc : 200 ≤ depth
  · rw [if_pos hc] at h ho
    injection ho with ho
    subst ho
    have h1 : (depth : Int) ≥ 200 := by omega
    ((try refine W.a ?_); simp only [go_sem, seval, reduceCtorEq, c218, rsA D, h1])
    refine W.yes rfl ?_
    ((try refine W.a ?_); simp only [go_sem, seval, reduceCtorEq, rsA D])
    (refine W.c1 (DC.lift D (fun D' => ty_fail w0 t i vs 0 0 31 k.pos _ b v D')) ?_; simp only [go_sem, seval, reduceCtorEq, rsA D])
    (refine W.fg (tys_ok D hok t i vs 31 k.pos) (d := Typ.none.v) (by simp only [r218, go_sem, seval, reduceCtorEq, Typ.v, Typ.none, tk_mk, tname_mk, tn_mk, tl_mk]; rfl) (by simp only [resV, go_sem, seval, reduceCtorEq, Typ.v, Typ.none, tk_mk, tname_mk, tn_mk, tl_mk]; exact wk_here) ?_ (hl := by (first | exact .c _ | (simp only [go_sem, seval, reduceCtorEq, Typ.v, Typ.none, tk_mk, tname_mk, tn_mk, tl_mk]; done))))
    exact ⟨rfl, rfl⟩
  · rw [if_neg hc] at h ho
    have h1 : ¬ (depth : Int) ≥ 200 := by omega
    have hw : IntKind.i64.wrap ((depth : Int) + 1) = ((depth + 1 : Nat) : Int) := wrap_next (n := 201) (by omega) (by omega)
    ((try refine W.a ?_); simp only [go_sem, seval, reduceCtorEq, c218, rsA D, h1])
    refine W.no rfl ?_
    ((try refine W.a ?_); simp only [go_sem, seval, reduceCtorEq, hw])
    (refine W.c1 (DC.lift D (fun D' => hE t (depth + 1) i vs r o _ b v h ho D' ht hv hi (by omega))) ?_; simp only [go_sem, seval, reduceCtorEq, rsA D])
    (refine W.fg (tys_ok D hok t o.j o.ws o.e o.p) (d := o.u.v) (by simp only [r218, go_sem, seval, reduceCtorEq, Typ.v]; rfl) (by simp only [resV, go_sem, seval, reduceCtorEq, Typ.v]; exact wk_here) ?_ (hl := by (first | exact .c _ | (simp only [go_sem, seval, reduceCtorEq, Typ.v]; done))))
    exact ⟨rfl, rfl⟩
theorem ty_pos {f : Nat} {t : List Tok} {depth i : Nat} {vs : List Str} {pos : Int} {r : TyR} {o : TyO} (h : innerT f t depth i vs pos = some r) (ho : innerO f t depth i vs pos = some o) (ht : t.length ≤ 1000000) : o.e = 0 → o.p = 0 := fun he => by
  unfold innerT at h
  unfold innerO at ho
  by_cases hc : 200 ≤ depth
  · rw [if_pos hc] at ho
    injection ho with ho
    subst ho
    exact absurd he (by show ¬ (31 : Int) = 0; decide)
  · rw [if_neg hc] at h ho
    obtain ⟨o', h1, h2⟩ := (ty_out f).2.2.2 _ _ _ _ _ ht h
    rw [ho] at h1
    injection h1 with h1
    subst h1
    cases r with
    | ok x =>
      obtain ⟨u, j, ws⟩ := x
      have : o = ⟨u, (j : Nat), ws, 0, 0⟩ := h2
      rw [this]
    | error x =>
      obtain ⟨q1, _, q3⟩ := h2
      rw [← q1, he] at q3
      cases q3
theorem tyAtomF_eq (f : Nat) (t : List Tok) (depth i : Nat) (vs : List Str) : tyAtomF (f + 1) t depth i vs =
    if (tokL t i).kind = 1 then some (.ok (.con (tokL t i).text, i + 1, vs))
    else if (tokL t i).kind = 2 then some (.ok (.var (vnum vs (tokL t i).text), i + 1, vadd vs (tokL t i).text))
    else if (tokL t i).kind = 5 then
      match innerT f t depth (i + 1) vs (tokL t i).pos with
        | none => none
        | some (.error b) => some (.error b)
        | some (.ok (u, j, ws)) => if (tokL t j).kind = 6 then some (.ok (u, j + 1, ws)) else some (.error ⟨50, (tokL t j).pos⟩)
    else some (.error ⟨50, (tokL t i).pos⟩) := by
  rw [tyAtomF]
  unfold innerT
  by_cases hd : 200 ≤ depth
  · simp only [if_pos hd]
  · simp only [if_neg hd]
    rfl
theorem ty_atom {w0 : World} {f : Nat} (hE : TyTypeOK w0 f) : TyAtomOK w0 (f + 1) := by
  intro t depth i vs r o σ b v h ho D ht hv hi hd
  rw [tyAtomF_eq] at h
  rw [tyAtomG] at ho
  refine k216.go rfl (fun hok hsz => ?_)
  have hw : IntKind.i64.wrap ((i : Int) + 1) = ((i + 1 : Nat) : Int) := by rw [wrap_in] <;> omega
  ((try refine W.a ?_); simp only [go_sem, seval, reduceCtorEq, c216, rsA D])
  (refine W.c1 (DC.lift D (fun D' => ty_tok w0 t i vs 0 0 _ b v D' ht)) ?_; simp only [go_sem, seval, reduceCtorEq, rsA D, tokI_nat])
  (refine W.c1 (DC.lift D (fun D' => ty_begins w0 t i vs 0 0 _ b v D' ht)) ?_; simp only [go_sem, seval, reduceCtorEq, rsA D, tokI_nat])
  cases hB : tyBegins (tokL t i)
  · refine W.yes rfl ?_
    simp only [tyBegins, Bool.or_eq_false_iff, decide_eq_false_iff_not] at hB
    rw [if_neg hB.1.1, if_neg hB.1.2, if_neg hB.2] at ho
    have n1 : ((tokL t i).kind == 1) = false := by simpa using hB.1.1
    injection ho with ho
    subst ho
    ((try refine W.a ?_); simp only [go_sem, seval, reduceCtorEq, rsA D, n1])
    (refine W.c1 (DC.lift D (fun D' => ty_fail w0 t i vs 0 0 50 (tokL t i).pos _ b v D')) ?_; simp only [go_sem, seval, reduceCtorEq, rsA D])
    (refine W.fg (tys_ok D hok t i vs 50 (tokL t i).pos) (d := Typ.none.v) (by simp only [r216, go_sem, seval, reduceCtorEq, Typ.v, Typ.none, tk_mk, tname_mk, tn_mk, tl_mk]; rfl) (by simp only [resV, go_sem, seval, reduceCtorEq, Typ.v, Typ.none, tk_mk, tname_mk, tn_mk, tl_mk]; exact wk_here) ?_ (hl := by (first | exact .c _ | (simp only [go_sem, seval, reduceCtorEq, Typ.v, Typ.none, tk_mk, tname_mk, tn_mk, tl_mk]; done))))
    exact ⟨rfl, rfl⟩
  · refine W.no rfl ?_
    have hil : i < t.length := tyBegins_lt (by rw [hB]; decide)
    by_cases h1 : (tokL t i).kind = 1
    · rw [if_pos h1] at ho
      injection ho with ho
      subst ho
      ((try refine W.a ?_); simp only [go_sem, seval, reduceCtorEq, rsA D, hw, h1])
      refine W.yes rfl ?_
      ((try refine W.a ?_); simp only [go_sem, seval, reduceCtorEq, rsA D])
      (refine W.fg (tys_ok D hok t ((i + 1 : Nat) : Int) vs 0 0) (d := atomV true (.con (tokL t i).text)) (by simp only [r216, go_sem, seval, reduceCtorEq, atomV, if_true, Typ.con, tk_mk, tname_mk, tn_mk, tl_mk]; rfl) (by simp only [resV, go_sem, seval, reduceCtorEq, atomV, if_true, Typ.con, tk_mk, tname_mk, tn_mk, tl_mk]; exact wk_here) ?_ (hl := by (first | exact .c _ | (simp only [go_sem, seval, reduceCtorEq, atomV, if_true, Typ.con, tk_mk, tname_mk, tn_mk, tl_mk]; done))))
      exact ⟨rfl, rfl⟩
    · rw [if_neg h1] at h ho
      have n1 : ((tokL t i).kind == 1) = false := by simpa using h1
      by_cases h2 : (tokL t i).kind = 2
      · rw [if_pos h2] at ho
        injection ho with ho
        subst ho
        ((try refine W.a ?_); simp only [go_sem, seval, reduceCtorEq, rsA D, hw, h2])
        refine W.no rfl ?_
        ((try refine W.a ?_); simp only [go_sem, seval, reduceCtorEq, rsA D])
        refine W.yes rfl ?_
        ((try refine W.a ?_); simp only [go_sem, seval, reduceCtorEq, rsA D])
        (refine W.c1 (DC.lift D (fun D' => ty_variable w0 t ((i + 1 : Nat) : Int) vs 0 0 (tokL t i).text _ b v D' (by omega))) ?_; simp only [go_sem, seval, reduceCtorEq, rsA D])
        (refine W.fg (tys_ok D hok t ((i + 1 : Nat) : Int) (vadd vs (tokL t i).text) 0 0) (d := (Typ.var (vnum vs (tokL t i).text)).v) (by simp only [r216, go_sem, seval, reduceCtorEq, Typ.v, Typ.var, tk_mk, tname_mk, tn_mk, tl_mk]; rfl) (by simp only [resV, go_sem, seval, reduceCtorEq, Typ.v, Typ.var, tk_mk, tname_mk, tn_mk, tl_mk]; exact wk_here) ?_ (hl := by (first | exact .c _ | (simp only [go_sem, seval, reduceCtorEq, Typ.v, Typ.var, tk_mk, tname_mk, tn_mk, tl_mk]; done))))
        exact ⟨rfl, rfl⟩
      · rw [if_neg h2] at h ho
        have n2 : ((tokL t i).kind == 2) = false := by simpa using h2
        have h5 : (tokL t i).kind = 5 := by
          simp only [tyBegins, Bool.or_eq_true, decide_eq_true_eq] at hB
          rcases hB with (hB | hB) | hB
          · exact absurd hB h1
          · exact absurd hB h2
          · exact hB
        rw [if_pos h5] at h ho
        ((try refine W.a ?_); simp only [go_sem, seval, reduceCtorEq, rsA D, hw, n1, n2])
        refine W.no rfl ?_
        ((try refine W.a ?_); simp only [go_sem, seval, reduceCtorEq, rsA D, n2])
        refine W.no rfl ?_
        ((try refine W.a ?_); simp only [go_sem, seval, reduceCtorEq, rsA D])
        cases hr : innerT f t depth (i + 1) vs (tokL t i).pos with
        | none => rw [hr] at h; cases h
        | some y =>
          cases hro : innerO f t depth (i + 1) vs (tokL t i).pos with
          | none =>
            unfold innerO at hro
            rw [hro] at ho; cases ho
          | some x =>
            have hro' := hro
            unfold innerO at hro'
            rw [hro'] at ho
            injection ho with ho
            subst ho
            (refine W.c1 (DC.lift D (fun D' => ty_inner hE t depth (i + 1) vs (tokL t i) y x _ b v hr hro D' ht (by omega) (by omega) hd)) ?_; simp only [go_sem, seval, reduceCtorEq, rsA D])
            (refine W.c1 (DC.lift D (fun D' => ty_tok w0 t x.j x.ws x.e x.p _ b v D' ht)) ?_; simp only [go_sem, seval, reduceCtorEq, rsA D])
            by_cases h6 : (tokI t x.j).kind = 6
            · have hcl : closeO t x = ⟨x.u, IntKind.i64.wrap (x.j + 1), x.ws, x.e, x.p⟩ ∨ (x.e = 0 ∧ closeO t x = ⟨x.u, IntKind.i64.wrap (x.j + 1), x.ws, 0, 0⟩) := by
                unfold closeO
                by_cases he : x.e = 0
                · right; simp only [if_pos he, if_pos h6]; exact ⟨he, trivial⟩
                · left; simp only [if_neg he]
              have hp : x.e = 0 → x.p = 0 := ty_pos hr hro ht
              have hcl' : closeO t x = ⟨x.u, IntKind.i64.wrap (x.j + 1), x.ws, x.e, x.p⟩ := by
                rcases hcl with hcl | ⟨he, hcl⟩
                · exact hcl
                · rw [hcl, he, hp he]
              rw [hcl']
              ((try refine W.a ?_); simp only [go_sem, seval, reduceCtorEq, rsA D, h6, show ((6 : Int) != 6) = false from rfl])
              refine W.no rfl ?_
              ((try refine W.a ?_); simp only [go_sem, seval, reduceCtorEq, rsA D])
              (refine W.fg (tys_ok D hok t (IntKind.i64.wrap (x.j + 1)) x.ws x.e x.p) (d := x.u.v) (by simp only [r216, go_sem, seval, reduceCtorEq, Typ.v]; rfl) (by simp only [resV, go_sem, seval, reduceCtorEq, Typ.v]; exact wk_here) ?_ (hl := by (first | exact .c _ | (simp only [go_sem, seval, reduceCtorEq, Typ.v]; done))))
              exact ⟨rfl, rfl⟩
            · have n6 : ((tokI t x.j).kind != 6) = true := by simpa using h6
              have hcl : closeO t x = ⟨x.u, IntKind.i64.wrap (x.j + 1), x.ws, if x.e = 0 then 50 else x.e, if x.e = 0 then (tokI t x.j).pos else x.p⟩ := by
                unfold closeO
                simp only [if_neg h6]
              rw [hcl]
              ((try refine W.a ?_); simp only [go_sem, seval, reduceCtorEq, rsA D, n6])
              refine W.yes rfl ?_
              ((try refine W.a ?_); simp only [go_sem, seval, reduceCtorEq, rsA D])
              (refine W.c1 (DC.lift D (fun D' => ty_fail w0 t x.j x.ws x.e x.p 50 (tokI t x.j).pos _ b v D')) ?_; simp only [go_sem, seval, reduceCtorEq, rsA D])
              (refine W.fg (tys_ok D hok t (IntKind.i64.wrap (x.j + 1)) x.ws (if x.e = 0 then 50 else x.e) (if x.e = 0 then (tokI t x.j).pos else x.p)) (d := x.u.v) (by simp only [r216, go_sem, seval, reduceCtorEq, Typ.v]; rfl) (by simp only [resV, go_sem, seval, reduceCtorEq, Typ.v]; exact wk_here) ?_ (hl := by (first | exact .c _ | (simp only [go_sem, seval, reduceCtorEq, Typ.v]; done))))
              exact ⟨rfl, rfl⟩
end
section
attribute [local go_sem] tyX tyY rs_len rs_g0 rs_g rs_s0 rs_s rs_sv Typ.v Typ.cs_eq tk_mk tname_mk tn_mk tl_mk tysC

theorem ty_Arrow1 (w0 : World) (to u : Typ) (σ : H) : DC Tryz.prog w0 191 [to.v, .c (.sl [[.int .i64 u.k, .str u.name, .int .i64 u.n, .sl (u.l.map Typ.cs)]])] σ (Same (Typ.arr u to).v σ) := by
  have h := ty_Arrow w0 to [u] (by simp) σ
  unfold tysC at h
  rw [List.map_cons, List.map_nil, Typ.cs_eq] at h
  exact h
def tyTailC : AC := match c184 with
  | .seq _ (.seq _ (.seq _ (.seq _ x))) => x
  | _ => .skip
theorem ty_tailW {w0 : World} {f : Nat} (hE : ∀ g, g ≤ f → TyTypeOK w0 g) {t : List Tok} {depth : Nat} {r : TyR} {o2 o : TyO} {σ : H} {b v : Nat} (D : Two σ b v) (ht : t.length ≤ 1000000) (hd : depth ≤ 200)
    (hin : (o2.e ≠ 0 ∧ o = o2) ∨ (∃ j : Nat, o2 = ⟨o2.u, (j : Nat), o2.ws, 0, 0⟩ ∧ tyTailF f t depth j o2.ws o2.u = some r ∧ tyTailG f t depth o2 = some o ∧ j ≤ t.length ∧ o2.ws.length ≤ j))
    {x3 : V} (hx : x3 = .c (tysC o2.u.l) ∨ ∃ q, x3 = .osl q (o2.u.l.map Typ.cs)) (ex : H) {ρ : Env} (e0 : ρ 0 = .ptr b 0) (e1 : ρ 1 = I depth) (e4 : ρ 4 = .ptr σ.length 0) (e6 : ρ 6 = .ptr (σ.length + 1) 0) (hok : H.ok (tys σ b v t 0 [] 0 0)) :
    W Tryz.prog w0 σ.length (Lamb.Fin r184 σ.length (Same o.u.v (tyo σ b v t o))) [.code tyTailC] ⟨ρ, tyo σ b v t o2 ++ (.cells [I 0, S [], I 0, .csl []] :: .cells [I o2.u.k, S o2.u.name, I o2.u.n, x3] :: ex)⟩ := by
  have hlen : (tyo σ b v t o2).length = σ.length := rs_len _ _
  rcases hin with ⟨hne, rfl⟩ | ⟨j, hj, hF, hG, hjl, hws⟩
  · have hb : (o.e != 0) = true := by simpa using hne
    rcases hx with rfl | ⟨q, rfl⟩
    all_goals
      ((try refine W.a ?_); simp only [go_sem, seval, reduceCtorEq, tyTailC, c184, rsA D, e0, e1, e4, e6])
      (refine W.c1 (DC.lift D (fun D' => ty_tok w0 t o.j o.ws o.e o.p _ b v D' ht)) ?_; simp only [go_sem, seval, reduceCtorEq, rsA D, hb, e0, e1, e4, e6])
      refine W.yes rfl ?_
      ((try refine W.a ?_); simp only [go_sem, seval, reduceCtorEq, rsA D, e0, e1, e4, e6])
      (refine W.fg (tys_ok D hok t o.j o.ws o.e o.p) (d := o.u.v) (by simp only [r184, go_sem, seval, reduceCtorEq, Typ.v, e4]; rfl) (by simp only [resV, go_sem, seval, reduceCtorEq, Typ.v, e4]; exact wk_here) ?_ (hl := by (first | exact .c _ | (simp only [go_sem, seval, reduceCtorEq, Typ.v, e4]; done))))
      exact ⟨rfl, rfl⟩
  · rw [hj] at hG ⊢
    generalize o2.u = u at *
    generalize o2.ws = ws at *
    obtain ⟨f', rfl⟩ : ∃ f', f = f' + 1 := by
      cases f with
      | zero => simp [tyTailF] at hF
      | succ f' => exact ⟨f', rfl⟩
    rw [tyTailF] at hF
    rw [tyTailG] at hG
    simp only [tokI_nat, true_and] at hG
    by_cases hc : (tokL t j).kind = 4 ∧ (tokL t j).text = [45, 62]
    · rw [if_pos hc] at hF hG
      have hw : IntKind.i64.wrap ((j : Int) + 1) = ((j + 1 : Nat) : Int) := by rw [wrap_in] <;> omega
      have hjl' := tokL_lt (t := t) (i := j) (by rw [hc.1]; decide)
      have et : ((j : Int) + 1).toNat = j + 1 := by omega
      have hI : ∃ ri oi, innerT f' t depth (j + 1) ws (tokL t j).pos = some ri ∧ innerO f' t depth (j + 1) ws (tokL t j).pos = some oi ∧ o = ⟨.arr u oi.u, oi.j, oi.ws, oi.e, oi.p⟩ := by
        unfold innerT innerO
        by_cases c4 : 200 ≤ depth
        · rw [if_pos c4] at hG
          injection hG with hG
          simp only [if_pos c4]
          exact ⟨_, _, rfl, rfl, by rw [← hG, hw]⟩
        · rw [if_neg c4] at hF hG
          simp only [if_neg c4]
          rw [et] at hG
          cases hy : tyTypeF f' t (depth + 1) (j + 1) ws with
          | none => rw [hy] at hF; cases hF
          | some ry =>
            cases hz : tyTypeG f' t (depth + 1) (j + 1) ws with
            | none => rw [hz] at hG; cases hG
            | some oy =>
              rw [hz] at hG
              injection hG with hG
              exact ⟨_, _, rfl, rfl, hG.symm⟩
      obtain ⟨ri, oi, hri, hoi, rfl⟩ := hI
      have k4 : ((tokL t j).kind != 4) = false := by simpa using hc.1
      have ktx : ((tokL t j).text != [45, 62]) = false := by simpa using hc.2
      have ktx2 : ((tokL t j).text == [45, 62]) = true := by simpa using hc.2
      rcases hx with rfl | ⟨q, rfl⟩
      all_goals
        ((try refine W.a ?_); simp only [go_sem, seval, reduceCtorEq, tyTailC, c184, rsA D, e0, e1, e4, e6])
        (refine W.c1 (DC.lift D (fun D' => ty_tok w0 t j ws 0 0 _ b v D' ht)) ?_; simp only [go_sem, seval, reduceCtorEq, rsA D, e0, e1, e4, e6, tokI_nat, k4, ktx, ktx2])
        refine W.no rfl ?_
        ((try refine W.a ?_); simp only [go_sem, seval, reduceCtorEq, rsA D, e0, e1, e4, e6, hw])
        apply W.dregE (List.cons_ne_nil _ _)
        case hc =>
          (apply CanonE.advPO; simp only [go_sem, seval, reduceCtorEq, rsA D, e0, e1, e4, e6])
          (apply CanonE.call (DC.lift D (fun D' => ty_inner (hE f' (by omega)) t depth (j + 1) ws (tokL t j) ri oi _ b v hri hoi D' ht (by omega) (by omega) hd)); (case hg => rfl); (case hf => rfl); (case ha => first | rfl | simp))
          (apply CanonE.advPO; simp only [go_sem, seval, reduceCtorEq, rsA D, e0, e1, e4, e6])
          (apply CanonE.callw (ty_Arrow1 w0 oi.u u _); (case hg => rfl); (case hf => rfl); (case ha => rfl); (case hw => ((exact wk_here))))
          (apply CanonE.advPO; simp only [go_sem, seval, reduceCtorEq, rsA D, e0, e1, e4, e6, Typ.arr])
          exact CanonE.nil
        ((try refine W.a ?_); simp only [go_sem, seval, reduceCtorEq, rsA D, e4])
        (refine W.fg (tys_ok D hok t oi.j oi.ws oi.e oi.p) (d := (Typ.arr u oi.u).v) (by simp only [r184, go_sem, seval, reduceCtorEq, Typ.v, Typ.arr, tk_mk, tname_mk, tn_mk, tl_mk, Typ.cs_eq, e4]; rfl) (by simp only [resV, go_sem, seval, reduceCtorEq, Typ.v, Typ.arr, tk_mk, tname_mk, tn_mk, tl_mk, Typ.cs_eq, e4]; exact wk_here) ?_ (hl := by (first | exact .c _ | (simp only [go_sem, seval, reduceCtorEq, Typ.v, Typ.arr, tk_mk, tname_mk, tn_mk, tl_mk, Typ.cs_eq, e4]; done))))
        exact ⟨rfl, rfl⟩
    · rw [if_neg hc] at hG
      injection hG with hG
      subst hG
      have two : ((tokL t j).kind != 4) = true ∨ (((tokL t j).kind != 4) = false ∧ ((tokL t j).text == [45, 62]) = false) := by
        cases ho : ((tokL t j).kind != 4)
        · refine .inr ⟨rfl, ?_⟩
          cases h6 : ((tokL t j).text == [45, 62])
          · rfl
          · exact absurd ⟨by simpa using ho, by simpa using h6⟩ hc
        · exact .inl rfl
      rcases hx with rfl | ⟨q, rfl⟩ <;> rcases two with k4 | ⟨k4, ktx⟩
      all_goals
        ((try refine W.a ?_); simp only [go_sem, seval, reduceCtorEq, tyTailC, c184, rsA D, e0, e1, e4, e6])
        first
          | ((refine W.c1 (DC.lift D (fun D' => ty_tok w0 t j ws 0 0 _ b v D' ht)) ?_; simp only [go_sem, seval, reduceCtorEq, rsA D, e0, e1, e4, e6, tokI_nat, k4, ktx])
             refine W.yes rfl ?_)
          | ((refine W.c1 (DC.lift D (fun D' => ty_tok w0 t j ws 0 0 _ b v D' ht)) ?_; simp only [go_sem, seval, reduceCtorEq, rsA D, e0, e1, e4, e6, tokI_nat, k4])
             refine W.yes rfl ?_)
        ((try refine W.a ?_); simp only [go_sem, seval, reduceCtorEq, rsA D, e0, e1, e4, e6])
        (refine W.fg (tys_ok D hok t j ws 0 0) (d := u.v) (by simp only [r184, go_sem, seval, reduceCtorEq, Typ.v, e4]; rfl) (by simp only [resV, go_sem, seval, reduceCtorEq, Typ.v, e4]; exact wk_here) ?_ (hl := by (first | exact .c _ | (simp only [go_sem, seval, reduceCtorEq, Typ.v, e4]; done))))
        exact ⟨rfl, rfl⟩
structure ArgO where
  g : Nat
  o : TyO
theorem ty_read {w0 : World} {f : Nat} (hA : ∀ g, g ≤ f → TyAtomOK w0 g) (hE : ∀ g, g ≤ f → TyTypeOK w0 g) : TyTypeOK w0 (f + 1) := by
  intro t depth i vs r o σ b v h ho D ht hv hi hd
  rw [tyTypeF] at h
  rw [tyTypeG] at ho
  refine k184.go rfl (fun hok hsz => ?_)
  have hok0 : H.ok (tys σ b v t 0 [] 0 0) := tys_ok D hok t 0 [] 0 0
  ((try refine W.a ?_); simp only [go_sem, seval, reduceCtorEq, c184, rsA D])
  (refine W.c1 (DC.lift D (fun D' => ty_tok w0 t i vs 0 0 _ b v D' ht)) ?_; simp only [go_sem, seval, reduceCtorEq, rsA D, tokI_nat])
  cases ha : tyAtomF f t depth i vs with
  | none => rw [ha] at h; cases h
  | some ra =>
    rw [ha] at h
    obtain ⟨oa, hoa, hOa⟩ := (ty_out f).1 _ _ _ _ _ ht ha
    rw [hoa] at ho
    simp only at ho
    cases hk : ((tokL t i).kind == 1)
    · have hk1 : ¬ (tokL t i).kind = 1 := by simpa using hk
      rw [if_neg hk1] at ho
      simp only at ho
      have hin : (oa.e ≠ 0 ∧ o = oa) ∨ (∃ j : Nat, oa = ⟨oa.u, (j : Nat), oa.ws, 0, 0⟩ ∧ tyTailF f t depth j oa.ws oa.u = some r ∧ tyTailG f t depth oa = some o ∧ j ≤ t.length ∧ oa.ws.length ≤ j) := by
        cases ra with
        | error x =>
          obtain ⟨q1, q2, q3⟩ := hOa
          have hne : oa.e ≠ 0 := by rw [q1]; simpa using q3
          left
          refine ⟨hne, ?_⟩
          cases f with
          | zero => simp [tyAtomF] at ha
          | succ f' => rw [tail_stop hne] at ho; injection ho with ho; exact ho.symm
        | ok x =>
          obtain ⟨u, j, ws⟩ := x
          have hO' : oa = ⟨u, (j : Nat), ws, 0, 0⟩ := hOa
          have b1 := (ty_bounds f).1 _ _ _ _ _ _ _ ha
          simp only [if_neg hk1] at h
          right
          subst hO'
          exact ⟨j, rfl, h, ho, b1.2.1, by show ws.length ≤ j; omega⟩
      (refine W.c1 (DC.lift D (fun D' => hA f (Nat.le_refl f) t depth i vs ra oa _ b v ha hoa D' ht hv hi hd)) ?_; simp only [go_sem, seval, reduceCtorEq, rsA D, hk, atomV, Bool.false_eq_true, if_false])
      refine W.loopP (fun _ : Unit => True) (fun _ => ⟨(((((base.put (some 0) (.ptr b 0)).put (some 1) (I depth)).put (some 4) (.ptr σ.length 0)).put (some 5) (B false)).put (some 6) (.ptr (σ.length + 1) 0)), tyo σ b v t oa ++ [.cells [I 0, S [], I 0, .csl []], .cells [I oa.u.k, S oa.u.name, I oa.u.n, .c (tysC oa.u.l)]]⟩) (fun _ => 0) () trivial ?_ (fun x hx => ?_)
      · (refine Lew.env ?_; exact lee_here)
      · ((try refine W.a ?_); simp only [go_sem, seval, reduceCtorEq, rsA D])
        refine W.no rfl ?_
        (refine W.advO 1 _ _ ?_; simp only [go_sem])
        refine ty_tailW hE D ht hd hin (.inl rfl) [] ?_ ?_ ?_ ?_ hok0 <;> rfl
    · have hk1 : (tokL t i).kind = 1 := by simpa using hk
      rw [if_pos hk1] at ho
      have hoa' : oa = ⟨.con (tokL t i).text, (i + 1 : Nat), vs, 0, 0⟩ := by
        cases f with
        | zero => simp [tyAtomF] at ha
        | succ f' =>
          rw [tyAtomG, if_pos hk1] at hoa
          injection hoa with hoa
          exact hoa.symm
      have hil : i < t.length := tokL_lt (by rw [hk1]; decide)
      subst hoa'
      have hraE : ra = .ok (.con (tokL t i).text, i + 1, vs) := by
        cases f with
        | zero => simp [tyAtomF] at ha
        | succ f' =>
          rw [tyAtomF, if_pos hk1] at ha
          injection ha with ha
          exact ha.symm
      subst hraE
      simp only [if_pos hk1] at h
      cases hg : tyArgsF f t depth (i + 1) vs (.con (tokL t i).text) with
      | none => rw [hg] at h; cases h
      | some r1 =>
        rw [hg] at h
        cases hgo : tyArgsG f t depth ⟨.con (tokL t i).text, (i + 1 : Nat), vs, 0, 0⟩ with
        | none => rw [hgo] at ho; cases ho
        | some o1 =>
          rw [hgo] at ho
          simp only at ho
          (refine W.c1 (DC.lift D (fun D' => hA f (Nat.le_refl f) t depth i vs _ _ _ b v ha hoa D' ht hv hi hd)) ?_; simp only [go_sem, seval, reduceCtorEq, rsA D, hk, atomV, if_true, Typ.con])
          refine W.ownCell (σ.length + 1) 3 35 4 (cs := [.c (.int .i64 0), .c (.str (tokL t i).text), .c (.int .i64 0), .csl []]) (tg := none) ?_ rfl ?_
          · simp only [rs_g, List.getElem?_cons_succ, List.getElem?_cons_zero]
          · ((try refine W.a ?_); simp only [go_sem, seval, reduceCtorEq, rsA D])
            obtain ⟨o1', ho1', hO1⟩ := (ty_out f).2.1 _ _ _ _ _ _ ht hg
            rw [hgo] at ho1'
            injection ho1' with ho1'
            subst ho1'
            have b1 := (ty_bounds f).1 _ _ _ _ _ _ _ ha
            have hf0 : 0 < f := by
              cases f with
              | zero => simp [tyAtomF] at ha
              | succ f' => omega
            have hin : (o1.e ≠ 0 ∧ o = o1) ∨ (∃ j : Nat, o1 = ⟨o1.u, (j : Nat), o1.ws, 0, 0⟩ ∧ tyTailF f t depth j o1.ws o1.u = some r ∧ tyTailG f t depth o1 = some o ∧ j ≤ t.length ∧ o1.ws.length ≤ j) := by
              cases r1 with
              | error x =>
                obtain ⟨q1, q2, q3⟩ := hO1
                have hne : o1.e ≠ 0 := by rw [q1]; simpa using q3
                left
                refine ⟨hne, ?_⟩
                obtain ⟨f', rfl⟩ : ∃ f', f = f' + 1 := ⟨f - 1, by omega⟩
                rw [tail_stop hne] at ho
                injection ho with ho
                exact ho.symm
              | ok x =>
                obtain ⟨u, j, ws⟩ := x
                have hO' : o1 = ⟨u, (j : Nat), ws, 0, 0⟩ := hO1
                have b2 := (ty_bounds f).2.1 _ _ _ _ _ _ _ _ hg b1.2.1
                right
                subst hO'
                exact ⟨j, rfl, h, ho, b2.2.1, by show ws.length ≤ j; omega⟩
            refine W.loopP (fun x : ArgO => tyArgsG x.g t depth x.o = some o1 ∧ x.g ≤ f ∧ 0 < x.g ∧ (x.o.e ≠ 0 ∨ ∃ (j : Nat) (ra : TyR), x.o.j = j ∧ x.o.e = 0 ∧ x.o.p = 0 ∧ tyArgsF x.g t depth j x.o.ws x.o.u = some ra ∧ j ≤ t.length ∧ x.o.ws.length ≤ j ∧ x.o.u.l.length ≤ j))
              (fun x => ⟨(((((base.put (some 0) (.ptr b 0)).put (some 1) (I depth)).put (some 4) (.ptr σ.length 0)).put (some 5) (B true)).put (some 6) (.ptr (σ.length + 1) 0)), tyo σ b v t x.o ++ [.cells [I 0, S [], I 0, .csl []], .cells [I x.o.u.k, S x.o.u.name, I x.o.u.n, .osl (σ.length + 2) (x.o.u.l.map Typ.cs)], .spare 35 4 x.o.u.l.length]⟩)
              (fun x => x.g) ⟨f, ⟨.con (tokL t i).text, (i + 1 : Nat), vs, 0, 0⟩⟩ ⟨hgo, Nat.le_refl f, hf0, .inr ⟨i + 1, r1, rfl, rfl, rfl, hg, by omega, by show vs.length ≤ i + 1; omega, Nat.zero_le _⟩⟩ ?_ (fun x hx => ?_)
            · (refine Lew.env ?_; exact lee_here)
            · obtain ⟨g, ⟨u, j', ws, e, p⟩⟩ := x
              obtain ⟨hG, hgf, hg0, hst⟩ := hx
              simp only at hG hgf hg0 hst
              obtain ⟨g', rfl⟩ : ∃ g', g = g' + 1 := ⟨g - 1, by omega⟩
              rcases hst with hne | ⟨j, ra', rfl, rfl, rfl, hF, hjl, hwl, hul⟩
              · rw [args_stop hne] at hG
                injection hG with hG
                subst hG
                have hb : (e == 0) = false := by simpa using hne
                ((try refine W.a ?_); simp only [go_sem, seval, reduceCtorEq, rsA D, hb])
                refine W.no rfl ?_
                (refine W.advO 1 _ _ ?_; simp only [go_sem])
                refine ty_tailW hE D ht hd hin (.inr ⟨_, rfl⟩) [_] ?_ ?_ ?_ ?_ hok0 <;> rfl
              · rw [tyArgsG] at hG
                rw [tyArgsF] at hF
                simp only [tokI_nat, true_and, Int.toNat_natCast] at hG
                ((try refine W.a ?_); simp only [go_sem, seval, reduceCtorEq, rsA D])
                (refine W.c1 (DC.lift D (fun D' => ty_begins w0 t j ws 0 0 _ b v D' ht)) ?_; simp only [go_sem, seval, reduceCtorEq, rsA D, tokI_nat])
                cases hB : tyBegins (tokL t j)
                · rw [if_neg (by rw [hB]; decide)] at hG
                  injection hG with hG
                  subst hG
                  ((try refine W.a ?_); simp only [go_sem, seval, reduceCtorEq, hB])
                  refine W.no rfl ?_
                  (refine W.advO 1 _ _ ?_; simp only [go_sem])
                  refine ty_tailW hE D ht hd hin (.inr ⟨_, rfl⟩) [_] ?_ ?_ ?_ ?_ hok0 <;> rfl
                · rw [if_neg (by rw [hB]; decide)] at hF
                  rw [if_pos hB] at hG
                  have hjl' := tyBegins_lt (t := t) (i := j) (by rw [hB]; decide)
                  cases ha' : tyAtomF g' t depth j ws with
                  | none => rw [ha'] at hF; cases hF
                  | some rb =>
                    rw [ha'] at hF
                    obtain ⟨a, hag, haO⟩ := (ty_out g').1 _ _ _ _ _ ht ha'
                    rw [hag] at hG
                    simp only at hG
                    have hgp : 0 < g' := by
                      cases g' with
                      | zero => simp [tyAtomF] at ha'
                      | succ k => omega
                    have hal : ((tokL t j).kind == 1) = true → a.u.l = [] := fun hk2 => by
                      cases g' with
                      | zero => simp [tyAtomF] at ha'
                      | succ k =>
                        rw [tyAtomG, if_pos (by simpa using hk2)] at hag
                        injection hag with hag
                        rw [← hag]; rfl
                    have hbd1 : (u.l.length + 1) * 56 ≤ 140737488355328 := by omega
                    have hbd2 : u.l.length + 1 ≤ 140737488355328 := by omega
                    have hinv : tyArgsG g' t depth ⟨u.put a.u, a.j, a.ws, a.e, a.p⟩ = some o1 ∧ g' ≤ f ∧ 0 < g' ∧ (a.e ≠ 0 ∨ ∃ (k : Nat) (rc : TyR), a.j = k ∧ a.e = 0 ∧ a.p = 0 ∧ tyArgsF g' t depth k a.ws (u.put a.u) = some rc ∧ k ≤ t.length ∧ a.ws.length ≤ k ∧ (u.put a.u).l.length ≤ k) := by
                      refine ⟨hG, by omega, hgp, ?_⟩
                      cases rb with
                      | error x =>
                        obtain ⟨q1, q2, q3⟩ := haO
                        left; rw [q1]; simpa using q3
                      | ok x =>
                        obtain ⟨ua, k, ws'⟩ := x
                        have hO' : a = ⟨ua, (k : Nat), ws', 0, 0⟩ := haO
                        have b2 := (ty_bounds g').1 _ _ _ _ _ _ _ ha'
                        subst hO'
                        right
                        refine ⟨k, _, rfl, rfl, rfl, hF, b2.2.1, by show ws'.length ≤ k; omega, ?_⟩
                        simp only [Typ.put, tl_mk, List.length_append, List.length_cons, List.length_nil]
                        omega
                    ((try refine W.a ?_); simp only [go_sem, seval, reduceCtorEq, hB])
                    refine W.yes rfl ?_
                    ((try refine W.a ?_); simp only [go_sem, seval, reduceCtorEq, rsA D])
                    cases hk2 : ((tokL t j).kind == 1)
                    · apply W.dregE (List.cons_ne_nil _ _)
                      case hc =>
                        (apply CanonE.advPO; simp only [go_sem, seval, reduceCtorEq, rsA D])
                        (apply CanonE.call (DC.lift D (fun D' => hA g' (by omega) t depth j ws rb a _ b v ha' hag D' ht hwl hjl hd)); (case hg => rfl); (case hf => rfl); (case ha => first | rfl | simp))
                        (apply CanonE.advPO; simp only [go_sem, seval, reduceCtorEq, rsA D, hk2, atomV, Bool.false_eq_true, if_false, hbd1, hbd2])
                        exact CanonE.nil
                      ((try refine W.a ?_); simp only [go_sem, seval, reduceCtorEq, rsA D])
                      refine .inv ⟨⟨g', ⟨u.put a.u, a.j, a.ws, a.e, a.p⟩⟩, hinv, by simp, ?_⟩
                      simp only [go_sem, seval, reduceCtorEq, Typ.put, tk_mk, tname_mk, tn_mk, tl_mk, List.map_append, List.length_append, rsA D]
                      (refine Lew.env ?_; exact lee_here)
                    · have hal' := hal hk2
                      apply W.dregE (List.cons_ne_nil _ _)
                      case hc =>
                        (apply CanonE.advPO; simp only [go_sem, seval, reduceCtorEq, rsA D])
                        (apply CanonE.call (DC.lift D (fun D' => hA g' (by omega) t depth j ws rb a _ b v ha' hag D' ht hwl hjl hd)); (case hg => rfl); (case hf => rfl); (case ha => first | rfl | simp))
                        (apply CanonE.advPO; simp only [go_sem, seval, reduceCtorEq, rsA D, hk2, atomV, if_true, hbd1, hbd2])
                        exact CanonE.nil
                      ((try refine W.a ?_); simp only [go_sem, seval, reduceCtorEq, rsA D])
                      refine .inv ⟨⟨g', ⟨u.put a.u, a.j, a.ws, a.e, a.p⟩⟩, hinv, by simp, ?_⟩
                      simp only [go_sem, seval, reduceCtorEq, Typ.put, tk_mk, tname_mk, tn_mk, tl_mk, hal', List.map_append, List.length_append, rsA D]
                      (refine Lew.env ?_; exact lee_here)
theorem ty_all (w0 : World) : ∀ f, (∀ g, g ≤ f → TyAtomOK w0 g) ∧ (∀ g, g ≤ f → TyTypeOK w0 g)
  | 0 => ⟨fun g hg => by
      have : g = 0 := by omega
      subst this
      intro t depth i vs r o σ b v h
      simp [tyAtomF] at h, fun g hg => by
      have : g = 0 := by omega
      subst this
      intro t depth i vs r o σ b v h
      simp [tyTypeF] at h⟩
  | f + 1 => by
    obtain ⟨h1, h2⟩ := ty_all w0 f
    refine ⟨fun g hg => ?_, fun g hg => ?_⟩
    · rcases Nat.lt_or_ge f g with h | h
      · have : g = f + 1 := by omega
        subst this
        exact ty_atom (h2 f (Nat.le_refl f))
      · exact h1 g h
    · rcases Nat.lt_or_ge f g with h | h
      · have : g = f + 1 := by omega
        subst this
        exact ty_read h1 h2
      · exact h2 g h
end
section
attribute [local go_sem] tyX tyY rs_len rs_g0 rs_g rs_s0 rs_s rs_sv Typ.v Typ.cs_eq tk_mk tname_mk tn_mk tl_mk tysC

theorem ty_atom_out (w0 : World) (t : List Tok) (depth : Nat) (i : Int) (hB : tyBegins (tokI t i) = false) (σ : H) (b v : Nat) (D : Two σ b v) (ht : t.length ≤ 1000000) :
    DC Tryz.prog w0 216 [.ptr b 0, I depth] (tys σ b v t i [] 0 0) (Same Typ.none.v (tys σ b v t i [] 50 (tokI t i).pos)) := by
  refine k216.go rfl (fun hok hsz => ?_)
  ((try refine W.a ?_); simp only [go_sem, seval, reduceCtorEq, c216, rsA D])
  (refine W.c1 (DC.lift D (fun D' => ty_tok w0 t i [] 0 0 _ b v D' ht)) ?_; simp only [go_sem, seval, reduceCtorEq, rsA D])
  (refine W.c1 (DC.lift D (fun D' => ty_begins w0 t i [] 0 0 _ b v D' ht)) ?_; simp only [go_sem, seval, reduceCtorEq, rsA D, hB])
  refine W.yes rfl ?_
  ((try refine W.a ?_); simp only [go_sem, seval, reduceCtorEq, rsA D])
  (refine W.c1 (DC.lift D (fun D' => ty_fail w0 t i [] 0 0 50 (tokI t i).pos _ b v D')) ?_; simp only [go_sem, seval, reduceCtorEq, rsA D])
  (refine W.fg (tys_ok D hok t i [] 50 (tokI t i).pos) (d := Typ.none.v) (by simp only [r216, go_sem, seval, reduceCtorEq, Typ.v, Typ.none, tk_mk, tname_mk, tn_mk, tl_mk]; rfl) (by simp only [resV, go_sem, seval, reduceCtorEq, Typ.v, Typ.none, tk_mk, tname_mk, tn_mk, tl_mk]; exact wk_here) ?_ (hl := by (first | exact .c _ | (simp only [go_sem, seval, reduceCtorEq, Typ.v, Typ.none, tk_mk, tname_mk, tn_mk, tl_mk]; done))))
  exact ⟨rfl, rfl⟩
theorem ty_read_out (w0 : World) (t : List Tok) (i : Int) (hB : tyBegins (tokI t i) = false) (σ : H) (b v : Nat) (D : Two σ b v) (ht : t.length ≤ 1000000) :
    DC Tryz.prog w0 184 [.ptr b 0, I 0] (tys σ b v t i [] 0 0) (Same Typ.none.v (tys σ b v t i [] 50 (tokI t i).pos)) := by
  refine k184.go rfl (fun hok hsz => ?_)
  have hk : ((tokI t i).kind == 1) = false := by
    simp only [tyBegins, Bool.or_eq_false_iff, decide_eq_false_iff_not] at hB
    simpa using hB.1.1
  ((try refine W.a ?_); simp only [go_sem, seval, reduceCtorEq, c184, rsA D])
  (refine W.c1 (DC.lift D (fun D' => ty_tok w0 t i [] 0 0 _ b v D' ht)) ?_; simp only [go_sem, seval, reduceCtorEq, rsA D, hk])
  (refine W.c1 (DC.lift D (fun D' => ty_atom_out w0 t 0 i hB _ b v D' ht)) ?_; simp only [go_sem, seval, reduceCtorEq, rsA D, Typ.none])
  refine W.loopP (fun _ : Unit => True) (fun _ => ⟨(((((base.put (some 0) (.ptr b 0)).put (some 1) (I (0 : Nat))).put (some 4) (.ptr σ.length 0)).put (some 5) (B false)).put (some 6) (.ptr (σ.length + 1) 0)), tyo σ b v t ⟨.none, i, [], 50, (tokI t i).pos⟩ ++ [.cells [I 0, S [], I 0, .csl []], .cells [I 0, S [], I 0, .c (tysC [])]]⟩) (fun _ => 0) () trivial ?_ (fun x hx => ?_)
  · (refine Lew.env ?_; exact lee_here)
  · ((try refine W.a ?_); simp only [go_sem, seval, reduceCtorEq, rsA D])
    refine W.no rfl ?_
    (refine W.advO 1 _ _ ?_; simp only [go_sem])
    refine ty_tailW (ty_all w0 0).2 (o2 := ⟨.none, i, [], 50, (tokI t i).pos⟩) (o := ⟨.none, i, [], 50, (tokI t i).pos⟩) (r := .error ⟨50, 0⟩) D ht (Nat.zero_le _) (.inl ⟨by show (50 : Int) ≠ 0; decide, rfl⟩) (.inl rfl) [] ?_ ?_ ?_ ?_ (tys_ok D hok t 0 [] 0 0) <;> rfl
def tyReadV (from_ : Int) : TyR → V
  | .ok (u, j, _) => .tup [u.v, I (j : Nat), I 0, I 0]
  | .error x => .tup [Typ.none.v, I from_, I x.e, I x.pos]
theorem rs_new (σ : H) (B X Y X' Y' : Blk) : rs (σ ++ [B, X, Y]) (σ.length + 1) (σ.length + 2) X' Y' = σ ++ [B, X', Y'] := by
  unfold rs
  rw [List.set_append_right _ _ (by omega), List.set_append_right _ _ (by omega)]
  simp [Nat.add_sub_cancel_left]
theorem two_new (σ : H) (B X Y : Blk) : Two (σ ++ [B, X, Y]) (σ.length + 1) (σ.length + 2) := ⟨by omega, by simp, by simp⟩
theorem ty_ReadO (w0 : World) (t : List Tok) (i : Int) (o : TyO) (r : TyR) (hO : TOut r o) (σ : H)
    (hc : ∀ (σ : H) (b v : Nat), Two σ b v → DC Tryz.prog w0 184 [.ptr b 0, I 0] (tys σ b v t i [] 0 0) (Same o.u.v (tyo σ b v t o))) :
    DC Tryz.prog w0 145 [.c (toksC t), I i] σ (Same (tyReadV i r) σ) := by
  refine k145.go rfl (fun hok hsz => ?_)
  ((try refine W.a ?_); simp only [go_sem, seval, reduceCtorEq, c145])
  refine W.ownCell (σ.length + 1) 2 9 1 (cs := [.c (toksC t), I i, .csl [], I 0, I 0]) (tg := none) ?_ rfl ?_
  · simp only [hget, List.getElem?_cons_succ, List.getElem?_cons_zero]; rfl
  · ((try refine W.a ?_); simp only [go_sem, seval, reduceCtorEq])
    have hh : ∀ X, DC Tryz.prog w0 184 [.ptr (σ.length + 1) 0, I 0] (σ ++ [X, .cells [.c (toksC t), I i, .osl (σ.length + 2) [], I 0, I 0], .spare 9 1 0]) (Same o.u.v (σ ++ [X, tyX t o.j (σ.length + 2) o.ws o.e o.p, tyY o.ws])) := fun X => by
      have := hc (σ ++ [X, X, X]) (σ.length + 1) (σ.length + 2) (two_new σ X X X)
      unfold tyo tys at this
      rw [rs_new, rs_new] at this
      exact this
    (refine W.c1 (hh _) ?_; simp only [go_sem, seval, reduceCtorEq])
    cases r with
    | ok x =>
      obtain ⟨u, j, ws⟩ := x
      have hO' : o = ⟨u, (j : Nat), ws, 0, 0⟩ := hO
      subst hO'
      ((try refine W.a ?_); simp only [go_sem, seval, reduceCtorEq])
      refine W.no rfl ?_
      ((try refine W.a ?_); simp only [go_sem, seval, reduceCtorEq])
      (apply W.dregE (List.cons_ne_nil _ _); case hc => ((apply CanonE.advPO; simp only [go_sem, seval, reduceCtorEq]); exact CanonE.nil))
      ((try refine W.a ?_); simp only [go_sem, seval, reduceCtorEq])
      (refine W.fs (hok) (by simp only [r145, go_sem, seval, reduceCtorEq, tyReadV, Typ.v]; rfl) ?_ (hl := by (first | exact .c _ | (simp only [go_sem, seval, reduceCtorEq, tyReadV, Typ.v]; done))); simp only [resV, tyReadV, Typ.v]; try exact V.wk.rfl _)
      (all_goals exact wk_here)
    | error x =>
      obtain ⟨q1, q2, q3⟩ := hO
      have hb : (o.e != 0) = true := by rw [q1, bne, q3]; rfl
      ((try refine W.a ?_); simp only [go_sem, seval, reduceCtorEq, hb])
      refine W.yes rfl ?_
      ((try refine W.a ?_); simp only [go_sem, seval, reduceCtorEq])
      (apply W.dregE (List.cons_ne_nil _ _); case hc => ((apply CanonE.advPO; simp only [go_sem, seval, reduceCtorEq]); exact CanonE.nil))
      ((try refine W.a ?_); simp only [go_sem, seval, reduceCtorEq])
      rw [q1, q2]
      (refine W.fs (hok) (by simp only [r145, go_sem, seval, reduceCtorEq, tyReadV, Typ.v, Typ.none, tk_mk, tname_mk, tn_mk, tl_mk, List.map_nil]; rfl) ?_ (hl := by (first | exact .c _ | (simp only [go_sem, seval, reduceCtorEq, tyReadV, Typ.v, Typ.none, tk_mk, tname_mk, tn_mk, tl_mk, List.map_nil]; done))); simp only [resV, tyReadV, Typ.v, Typ.none, tk_mk, tname_mk, tn_mk, tl_mk, List.map_nil]; try exact V.wk.rfl _)
      (all_goals exact wk_here)
noncomputable def tyFrom (t : List Tok) (i : Int) : TyR := if 0 ≤ i ∧ i ≤ t.length then tyT t i.toNat else .error ⟨50, lastPos t⟩
theorem tyFrom_nat {t : List Tok} {i : Nat} (h : i ≤ t.length) : tyFrom t (i : Int) = tyT t i := by
  unfold tyFrom
  rw [if_pos ⟨by omega, by omega⟩, Int.toNat_natCast]
theorem tokI_out {t : List Tok} {i : Int} (h : ¬ (0 ≤ i ∧ i ≤ t.length)) : tokI t i = ⟨0, [], 0, lastPos t⟩ := by
  unfold tokI
  split
  · rw [tokL_out (by omega)]
  · rfl
theorem ty_Read (w0 : World) (t : List Tok) (i : Int) (ht : t.length ≤ 1000000) (σ : H) : DC Tryz.prog w0 145 [.c (toksC t), I i] σ (Same (tyReadV i (tyFrom t i)) σ) := by
  by_cases h : 0 ≤ i ∧ i ≤ t.length
  · obtain ⟨n, rfl⟩ := Int.eq_ofNat_of_zero_le h.1
    rw [tyFrom_nat (by omega)]
    obtain ⟨f, hf⟩ := tyT_is t n
    obtain ⟨o, ho, hO⟩ := (ty_out f).2.2.2 _ _ _ _ _ ht hf
    exact ty_ReadO w0 t n o _ hO σ fun σ b v D => (ty_all w0 f).2 f (Nat.le_refl f) t 0 n [] _ o σ b v hf ho D ht (Nat.zero_le _) (by omega) (Nat.zero_le _)
  · have hto := tokI_out h
    have hB : tyBegins (tokI t i) = false := by rw [hto]; rfl
    unfold tyFrom
    rw [if_neg h]
    refine ty_ReadO w0 t i ⟨.none, i, [], 50, (tokI t i).pos⟩ (.error ⟨50, lastPos t⟩) ⟨rfl, by rw [hto], rfl⟩ σ fun σ b v D => ty_read_out w0 t i hB σ b v D ht
end
end Go.Proofs.YtplgnfciipceiaaGreatDoor
