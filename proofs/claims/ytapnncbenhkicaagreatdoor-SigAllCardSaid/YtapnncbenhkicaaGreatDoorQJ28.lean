/-
  The code of some functions, without addresses.
  The code of some functions, without addresses.
  The code of some functions, without addresses.
  The code of some functions, without addresses.
  The code of some functions, without addresses.
  Walks: operators are found by their names.
  The code of some functions, without addresses.
  Walks: the reader's small functions.
  Walks: the type reader's small functions.
  Walks: a type one deeper; an atom.
  Walks: a type: what is behind its first part.
  Walks: ty.Read.
-/
import Derived.Test.YtapnncbenhkicaaGreatDoorChecked
import Derived.Test.YtapnncbenhkicaaGreatDoorQJ11
import Derived.Test.YtapnncbenhkicaaGreatDoorQTyA2
set_option linter.unusedSimpArgs false
set_option linter.unusedVariables false
set_option maxHeartbeats 8000000
set_option maxRecDepth 20000
namespace Go.Proofs.YtapnncbenhkicaaGreatDoor
open Go.RowKit Go.Lamb
/-- sig.first[api.Kinded] -/
def c30 : AC :=
  .seq (.reg [.o 4 (.box (.k (.agg [.c (.str []), .c (.int .i64 0)]))), .o 5 (.mov (.k (.c (.bool false))))])
  (.seq (.seq (.reg [.m 9 0, .o 10 (.lenr (.t 9)), .o 11 (.mov (.k (.c (.int .i64 0))))])
  (.block 0 (.loop (.seq (.reg [.o 12 (.bin .lss (.t 11) (.t 10))])
  (.seq (.cond (.t 12)
  (.skip)
  (.exit 0))
  (.seq (.block 1 (.seq (.reg [.o 13 (.iadd 2 (.t 9) (.t 11)), .d 14 2 13, .o 7 (.box (.k (.agg [.c (.str []), .c (.int .i64 0)]))), .s 2 7 14])
  (.seq (.reg [.m 15 1, .d 16 2 7, .o 17 (.call (.t 15) [(.t 16)])])
  (.cond (.t 17)
  (.seq (.reg [.d 18 2 7, .s 2 4 18, .o 5 (.mov (.k (.c (.bool true))))])
  (.ret))
  (.skip)))))
  (.reg [.o 19 (.bin .add (.t 11) (.k (.c (.int .i64 1)))), .m 11 19])))))))
  (.seq (.reg [.o 8 (.box (.k (.agg [.c (.str []), .c (.int .i64 0)])))])
  (.seq (.reg [.d 20 2 8, .s 2 4 20, .o 5 (.mov (.k (.c (.bool false))))])
  (.ret))))
def r30 : List ResV := [.celln 2 4, .tmp 5]
theorem k30 : CodeIs Tryz.prog 30 2 Tryz.f30 c30 r30 := ⟨by kernel_rfl, Tryz.func30, rfl, by kernel_rfl, by kernel_rfl, by decide, enters_fn Tryz.func30 (by kernel_rfl) rfl⟩
/-- sig.Kind$1 -/
def c31 : AC :=
  .seq (.reg [.o 2 (.box (.t 0)), .o 3 (.mov (.k (.c (.bool false))))])
  (.seq (.reg [.f 4 0 2, .l 5 4, .l 6 1, .o 7 (.bin .eql (.t 5) (.t 6)), .m 3 7])
  (.ret))
def r31 : List ResV := [.tmp 3]
theorem k31 : CodeIs Tryz.prog 31 2 Tryz.f31 c31 r31 := ⟨by kernel_rfl, Tryz.func31, rfl, by kernel_rfl, by kernel_rfl, by decide, enters_fn Tryz.func31 (by kernel_rfl) rfl⟩
/-- sig.Kind -/
def c11 : AC :=
  .seq (.reg [.o 2 (.box (.t 0)), .o 3 (.box (.t 1)), .o 4 (.mov (.k (.c (.int .i64 0)))), .o 5 (.mov (.k (.c (.bool false))))])
  (.seq (.reg [.f 9 0 2, .l 10 9, .o 11 (.mkfn 31 [(.t 3)]), .k 12 30 [(.t 10), (.t 11)], .m 8 12, .x 13 8 0, .x 14 8 1, .o 6 (.box (.k (.agg [.c (.str []), .c (.int .i64 0)]))), .s 2 6 13, .m 7 14])
  (.seq (.reg [.f 15 1 6, .l 16 15, .m 17 7, .m 4 16, .m 5 17])
  (.ret)))
def r11 : List ResV := [.tmp 4, .tmp 5]
theorem k11 : CodeIs Tryz.prog 11 2 Tryz.f11 c11 r11 := ⟨by kernel_rfl, Tryz.func11, rfl, by kernel_rfl, by kernel_rfl, by decide, enters_fn Tryz.func11 (by kernel_rfl) rfl⟩
/-- sig.first[api.Named] -/
def c28 : AC :=
  .seq (.reg [.o 4 (.box (.k (.agg [.c (.str []), .c (.int .i64 0), .c (.str []), .c (.int .i64 0), .csl []]))), .o 5 (.mov (.k (.c (.bool false))))])
  (.seq (.seq (.reg [.m 9 0, .o 10 (.lenr (.t 9)), .o 11 (.mov (.k (.c (.int .i64 0))))])
  (.block 0 (.loop (.seq (.reg [.o 12 (.bin .lss (.t 11) (.t 10))])
  (.seq (.cond (.t 12)
  (.skip)
  (.exit 0))
  (.seq (.block 1 (.seq (.reg [.o 13 (.iadd 5 (.t 9) (.t 11)), .d 14 5 13, .o 7 (.box (.k (.agg [.c (.str []), .c (.int .i64 0), .c (.str []), .c (.int .i64 0), .csl []]))), .s 5 7 14])
  (.seq (.reg [.m 15 1, .d 16 5 7, .o 17 (.call (.t 15) [(.t 16)])])
  (.cond (.t 17)
  (.seq (.reg [.d 18 5 7, .s 5 4 18, .o 5 (.mov (.k (.c (.bool true))))])
  (.ret))
  (.skip)))))
  (.reg [.o 19 (.bin .add (.t 11) (.k (.c (.int .i64 1)))), .m 11 19])))))))
  (.seq (.reg [.o 8 (.box (.k (.agg [.c (.str []), .c (.int .i64 0), .c (.str []), .c (.int .i64 0), .csl []])))])
  (.seq (.reg [.d 20 5 8, .s 5 4 20, .o 5 (.mov (.k (.c (.bool false))))])
  (.ret))))
def r28 : List ResV := [.celln 5 4, .tmp 5]
theorem k28 : CodeIs Tryz.prog 28 2 Tryz.f28 c28 r28 := ⟨by kernel_rfl, Tryz.func28, rfl, by kernel_rfl, by kernel_rfl, by decide, enters_fn Tryz.func28 (by kernel_rfl) rfl⟩
/-- sig.Find$1 -/
def c29 : AC :=
  .seq (.reg [.o 2 (.box (.t 0)), .o 3 (.mov (.k (.c (.bool false))))])
  (.seq (.reg [.f 4 0 2, .l 5 4, .l 6 1, .o 7 (.bin .eql (.t 5) (.t 6)), .m 3 7])
  (.ret))
def r29 : List ResV := [.tmp 3]
theorem k29 : CodeIs Tryz.prog 29 2 Tryz.f29 c29 r29 := ⟨by kernel_rfl, Tryz.func29, rfl, by kernel_rfl, by kernel_rfl, by decide, enters_fn Tryz.func29 (by kernel_rfl) rfl⟩
/-- sig.Find -/
def c10 : AC :=
  .seq (.reg [.o 2 (.box (.t 0)), .o 3 (.box (.t 1)), .o 4 (.box (.k (.agg [.c (.int .i64 0), .c (.str []), .c (.int .i64 0), .csl []]))), .o 5 (.mov (.k (.c (.bool false))))])
  (.seq (.reg [.f 9 1 2, .l 10 9, .o 11 (.mkfn 29 [(.t 3)]), .k 12 28 [(.t 10), (.t 11)], .m 8 12, .x 13 8 0, .x 14 8 1, .o 6 (.box (.k (.agg [.c (.str []), .c (.int .i64 0), .c (.str []), .c (.int .i64 0), .csl []]))), .s 5 6 13, .m 7 14])
  (.seq (.reg [.f 15 1 6, .d 16 4 15, .m 17 7, .s 4 4 16, .m 5 17])
  (.ret)))
def r10 : List ResV := [.celln 4 4, .tmp 5]
theorem k10 : CodeIs Tryz.prog 10 2 Tryz.f10 c10 r10 := ⟨by kernel_rfl, Tryz.func10, rfl, by kernel_rfl, by kernel_rfl, by decide, enters_fn Tryz.func10 (by kernel_rfl) rfl⟩
/-- sig.Logical -/
def c15 : AC :=
  .seq (.reg [.o 2 (.mov (.k (.c (.bool false))))])
  (.seq (.seq (.reg [.m 3 0])
  (.block 0 (.seq (.seq (.reg [.o 5 (.bin .eql (.t 3) (.k (.c (.str [58, 45])))), .m 4 5])
  (.cond (.t 4)
  (.skip)
  (.seq (.reg [.o 6 (.bin .eql (.t 3) (.k (.c (.str [44])))), .m 4 6])
  (.cond (.t 4)
  (.skip)
  (.seq (.reg [.o 7 (.bin .eql (.t 3) (.k (.c (.str [59])))), .m 4 7])
  (.cond (.t 4)
  (.skip)
  (.seq (.reg [.o 8 (.bin .eql (.t 3) (.k (.c (.str [61, 62])))), .m 4 8])
  (.cond (.t 4)
  (.skip)
  (.seq (.reg [.o 9 (.bin .eql (.t 3) (.k (.c (.str [61])))), .m 4 9])
  (.cond (.t 4)
  (.skip)
  (.seq (.reg [.o 10 (.bin .eql (.t 3) (.k (.c (.str [105, 115])))), .m 4 10])
  (.cond (.t 4)
  (.skip)
  (.seq (.reg [.o 11 (.bin .eql (.t 3) (.k (.c (.str [60])))), .m 4 11])
  (.cond (.t 4)
  (.skip)
  (.seq (.reg [.o 12 (.bin .eql (.t 3) (.k (.c (.str [61, 60])))), .m 4 12])
  (.cond (.t 4)
  (.skip)
  (.seq (.reg [.o 13 (.bin .eql (.t 3) (.k (.c (.str [62])))), .m 4 13])
  (.cond (.t 4)
  (.skip)
  (.seq (.reg [.o 14 (.bin .eql (.t 3) (.k (.c (.str [62, 61])))), .m 4 14])
  (.cond (.t 4)
  (.skip)
  (.seq (.reg [.o 15 (.bin .eql (.t 3) (.k (.c (.str [116, 114, 117, 101])))), .m 4 15])
  (.cond (.t 4)
  (.skip)
  (.seq (.reg [.o 16 (.bin .eql (.t 3) (.k (.c (.str [102, 97, 105, 108])))), .m 4 16])
  (.cond (.t 4)
  (.skip)
  (.seq (.reg [.o 17 (.bin .eql (.t 3) (.k (.c (.str [33])))), .m 4 17])
  (.cond (.t 4)
  (.skip)
  (.seq (.reg [.o 18 (.bin .eql (.t 3) (.k (.c (.str [112, 105])))), .m 4 18])
  (.cond (.t 4)
  (.skip)
  (.reg [.o 19 (.bin .eql (.t 3) (.k (.c (.str [115, 105, 103, 109, 97])))), .m 4 19])))))))))))))))))))))))))))))
  (.cond (.t 4)
  (.seq (.reg [.o 2 (.mov (.k (.c (.bool true))))])
  (.ret))
  (.skip)))))
  (.seq (.reg [.o 2 (.mov (.k (.c (.bool false))))])
  (.ret)))
def r15 : List ResV := [.tmp 2]
theorem k15 : CodeIs Tryz.prog 15 1 Tryz.f15 c15 r15 := ⟨by kernel_rfl, Tryz.func15, rfl, by kernel_rfl, by kernel_rfl, by decide, enters_fn Tryz.func15 (by kernel_rfl) rfl⟩
/-- sig.known -/
def c58 : AC :=
  .seq (.reg [.o 2 (.box (.t 0)), .o 3 (.box (.t 1)), .o 4 (.mov (.k (.c (.bool false))))])
  (.seq (.seq (.reg [.d 8 3 2, .f 9 1 3, .l 10 9, .k 11 11 [(.t 8), (.t 10)], .m 7 11, .x 12 7 0, .x 13 7 1, .m 5 12, .m 6 13])
  (.seq (.reg [.f 14 0 3, .l 15 14, .o 16 (.bin .eql (.t 15) (.k (.c (.int .i64 0)))), .m 17 16, .y 18 (.mov (.t 6)) 17, .y 19 (.un .not (.t 18)) 17, .y 20 (.mov (.t 19)) 17, .z 21 (.mov (.t 5)) 20, .z 22 (.fadd 3 (.t 3)) 20, .z 23 (.load1 (.t 22)) 20, .z 24 (.lenr (.t 23)) 20, .z 25 (.bin .neq (.t 21) (.t 24)) 20, .y 26 (.pick (.t 20) (.k (.c (.bool true))) (.t 25)) 17, .o 27 (.pick (.t 17) (.t 26) (.k (.c (.bool false))))])
  (.cond (.t 27)
  (.seq (.reg [.o 4 (.mov (.k (.c (.bool false))))])
  (.ret))
  (.skip))))
  (.seq (.reg [.f 28 3 3, .l 29 28, .o 30 (.mkfn 94 [(.t 2)]), .k 31 92 [(.t 29), (.t 30)], .o 32 (.un .not (.t 31)), .m 4 32])
  (.ret)))
def r58 : List ResV := [.tmp 4]
theorem k58 : CodeIs Tryz.prog 58 2 Tryz.f58 c58 r58 := ⟨by kernel_rfl, Tryz.func58, rfl, by kernel_rfl, by kernel_rfl, by decide, enters_fn Tryz.func58 (by kernel_rfl) rfl⟩
/-- sig.known$1 -/
def c94 : AC :=
  .seq (.reg [.o 2 (.box (.t 0)), .o 3 (.mov (.k (.c (.bool false))))])
  (.seq (.reg [.d 4 3 1, .d 5 4 2, .k 6 58 [(.t 4), (.t 5)], .o 7 (.un .not (.t 6)), .m 3 7])
  (.ret))
def r94 : List ResV := [.tmp 3]
theorem k94 : CodeIs Tryz.prog 94 2 Tryz.f94 c94 r94 := ⟨by kernel_rfl, Tryz.func94, rfl, by kernel_rfl, by kernel_rfl, by decide, enters_fn Tryz.func94 (by kernel_rfl) rfl⟩
/-- sig.Fits -/
def c24 : AC :=
  .seq (.reg [.o 2 (.box (.t 0)), .o 3 (.box (.t 1)), .o 4 (.mov (.k (.c (.bool false))))])
  (.seq (.reg [.d 5 4 3, .k 6 57 [(.t 5)], .m 7 6, .y 8 (.loadn 3 (.t 2)) 7, .y 9 (.loadn 4 (.t 3)) 7, .y 10 (.call (.k (.fn 58 [])) [(.t 8), (.t 9)]) 7, .o 11 (.pick (.t 7) (.t 10) (.k (.c (.bool false)))), .m 4 11])
  (.ret))
def r24 : List ResV := [.tmp 4]
theorem k24 : CodeIs Tryz.prog 24 2 Tryz.f24 c24 r24 := ⟨by kernel_rfl, Tryz.func24, rfl, by kernel_rfl, by kernel_rfl, by decide, enters_fn Tryz.func24 (by kernel_rfl) rfl⟩
/-- sig.may -/
def c59 : AC :=
  .seq (.reg [.o 6 (.mov (.k (.c (.int .i64 0))))])
  (.seq (.block 0 (.seq (.reg [.m 8 0, .o 9 (.un .not (.t 8)), .m 7 9])
  (.cond (.t 7)
  (.seq (.reg [.o 6 (.mov (.k (.c (.int .i64 113))))])
  (.ret))
  (.seq (.reg [.m 11 1, .m 10 11])
  (.cond (.t 10)
  (.seq (.reg [.o 6 (.mov (.k (.c (.int .i64 110))))])
  (.ret))
  (.seq (.reg [.m 13 2, .o 14 (.bin .geq (.t 13) (.k (.c (.int .i64 1024)))), .m 12 14])
  (.cond (.t 12)
  (.seq (.reg [.o 6 (.mov (.k (.c (.int .i64 112))))])
  (.ret))
  (.skip))))))))
  (.seq (.reg [.o 6 (.mov (.k (.c (.int .i64 0))))])
  (.ret)))
def r59 : List ResV := [.tmp 6]
theorem k59 : CodeIs Tryz.prog 59 3 Tryz.f59 c59 r59 := ⟨by kernel_rfl, Tryz.func59, rfl, by kernel_rfl, by kernel_rfl, by decide, enters_fn Tryz.func59 (by kernel_rfl) rfl⟩
/-- sig.add -/
def c25 : AC :=
  .seq (.reg [.o 3 (.box (.t 0)), .o 4 (.box (.t 1)), .o 6 (.box (.k (.agg [.csl [], .csl [], .csl []]))), .o 7 (.mov (.k (.c (.int .i64 0))))])
  (.seq (.reg [.o 8 (.mov (.k (.c (.int .i64 0))))])
  (.seq (.seq (.reg [.f 14 0 4, .l 15 14])
  (.block 0 (.seq (.reg [.o 17 (.bin .eql (.t 15) (.k (.c (.int .i64 0)))), .m 16 17])
  (.cond (.t 16)
  (.seq (.reg [.d 19 3 3, .m 20 2, .k 21 11 [(.t 19), (.t 20)], .m 18 21, .x 22 18 0, .x 23 18 1, .m 9 22, .m 10 23])
  (.seq (.dreg [.m 24 2, .k 25 60 [(.t 24)], .m 26 25, .y 27 (.fadd 2 (.t 4)) 26, .y 28 (.load1 (.t 27)) 26, .y 29 (.bin .geq (.t 28) (.k (.c (.int .i64 0)))) 26, .o 30 (.pick (.t 26) (.t 29) (.k (.c (.bool false)))), .m 31 10, .f 32 0 3, .l 33 32, .o 34 (.lenr (.t 33)), .k 35 59 [(.t 30), (.t 31), (.t 34)], .m 8 35]
    [.q (.m 24 2), ⟨.k 25 60 [(.t 24)], true, 0⟩, ⟨.m 26 25, false, 1⟩, ⟨.y 27 (.fadd 2 (.t 4)) 26, false, 1⟩, ⟨.y 28 (.load1 (.t 27)) 26, false, 1⟩, ⟨.y 29 (.bin .geq (.t 28) (.k (.c (.int .i64 0)))) 26, false, 1⟩, ⟨.o 30 (.pick (.t 26) (.t 29) (.k (.c (.bool false)))), false, 1⟩, .q (.m 31 10), .q (.f 32 0 3), .q (.l 33 32), .q (.o 34 (.lenr (.t 33))), ⟨.k 35 59 [(.t 30), (.t 31), (.t 34)], true, 1⟩, ⟨.m 8 35, false, 2⟩])
  (.dreg [.f 36 0 3, .l 37 36, .k 38 61 [(.t 37)], .m 39 2, .f 40 2 4, .l 41 40, .o 42 (.build [.c (.str []), .c (.int .i64 0)] [(0, 1, (.t 39)), (1, 1, (.t 41))]), .o 43 (.bsl 2 [(.t 42)]), .o 44 (.app 78 2 24 (.t 38) (.t 43)), .f 45 0 3, .s 1 45 44]
    [.q (.f 36 0 3), .q (.l 37 36), ⟨.k 38 61 [(.t 37)], true, 0⟩, .q (.m 39 2), .q (.f 40 2 4), .q (.l 41 40), .q (.o 42 (.build [.c (.str []), .c (.int .i64 0)] [(0, 1, (.t 39)), (1, 1, (.t 41))])), .q (.o 43 (.bsl 2 [(.t 42)])), ⟨.o 44 (.app 78 2 24 (.t 38) (.t 43)), true, 1⟩, ⟨.f 45 0 3, false, 2⟩, ⟨.s 1 45 44, true, 2⟩])))
  (.seq (.reg [.o 47 (.bin .eql (.t 15) (.k (.c (.int .i64 1)))), .m 46 47])
  (.cond (.t 46)
  (.seq (.reg [.d 49 3 3, .m 50 2, .k 51 10 [(.t 49), (.t 50)], .m 48 51, .x 52 48 0, .x 53 48 1, .o 11 (.box (.k (.agg [.c (.int .i64 0), .c (.str []), .c (.int .i64 0), .csl []]))), .s 4 11 52, .m 12 53])
  (.seq (.dreg [.m 54 2, .k 55 60 [(.t 54)], .m 56 55, .z 57 (.mov (.t 2)) 56, .z 58 (.call (.k (.fn 62 [])) [(.t 57)]) 56, .o 59 (.pick (.t 56) (.k (.c (.bool true))) (.t 58)), .m 60 12, .f 61 1 3, .l 62 61, .o 63 (.lenr (.t 62)), .k 64 59 [(.t 59), (.t 60), (.t 63)], .m 8 64]
    [.q (.m 54 2), ⟨.k 55 60 [(.t 54)], true, 0⟩, ⟨.m 56 55, false, 1⟩, ⟨.z 57 (.mov (.t 2)) 56, false, 1⟩, ⟨.z 58 (.call (.k (.fn 62 [])) [(.t 57)]) 56, true, 1⟩, ⟨.o 59 (.pick (.t 56) (.k (.c (.bool true))) (.t 58)), false, 2⟩, .q (.m 60 12), .q (.f 61 1 3), .q (.l 62 61), .q (.o 63 (.lenr (.t 62))), ⟨.k 64 59 [(.t 59), (.t 60), (.t 63)], true, 2⟩, ⟨.m 8 64, false, 3⟩])
  (.dreg [.f 65 1 3, .l 66 65, .k 67 63 [(.t 66)], .m 68 2, .f 69 3 4, .d 70 4 69, .o 71 (.build [.c (.str []), .c (.int .i64 0), .c (.str []), .c (.int .i64 0), .csl []] [(0, 1, (.t 68)), (1, 4, (.t 70))]), .o 72 (.bsl 5 [(.t 71)]), .o 73 (.app 75 5 72 (.t 67) (.t 72)), .f 74 1 3, .s 1 74 73]
    [.q (.f 65 1 3), .q (.l 66 65), ⟨.k 67 63 [(.t 66)], true, 0⟩, .q (.m 68 2), .q (.f 69 3 4), .q (.d 70 4 69), .q (.o 71 (.build [.c (.str []), .c (.int .i64 0), .c (.str []), .c (.int .i64 0), .csl []] [(0, 1, (.t 68)), (1, 4, (.t 70))])), .q (.o 72 (.bsl 5 [(.t 71)])), ⟨.o 73 (.app 75 5 72 (.t 67) (.t 72)), true, 1⟩, ⟨.f 74 1 3, false, 2⟩, ⟨.s 1 74 73, true, 2⟩])))
  (.seq (.reg [.o 76 (.bin .eql (.t 15) (.k (.c (.int .i64 2)))), .m 75 76])
  (.cond (.t 75)
  (.seq (.reg [.f 77 7 4, .d 78 3 77, .o 13 (.box (.k (.agg [.c (.str []), .c (.int .i64 0), .c (.int .i64 0)]))), .s 3 13 78])
  (.seq (.reg [.m 79 2, .f 80 0 13, .s 1 80 79])
  (.reg [.f 82 2 3, .l 83 82, .d 84 3 13, .k 85 64 [(.t 83), (.t 84)], .m 81 85, .x 86 81 0, .x 87 81 1, .f 88 2 3, .s 1 88 86, .m 8 87])))
  (.skip)))))))))
  (.seq (.reg [.d 89 3 3, .m 90 8, .s 3 6 89, .m 7 90])
  (.ret))))
def r25 : List ResV := [.celln 3 6, .tmp 7]
theorem k25 : CodeIs Tryz.prog 25 3 Tryz.f25 c25 r25 := ⟨by kernel_rfl, Tryz.func25, rfl, by kernel_rfl, by kernel_rfl, by decide, enters_fn Tryz.func25 (by kernel_rfl) rfl⟩
/-- sig.copied -/
def c23 : AC :=
  .seq (.reg [.o 1 (.box (.t 0)), .o 2 (.box (.k (.agg [.csl [], .csl [], .csl []])))])
  (.seq (.dreg [.f 3 0 1, .l 4 3, .k 5 54 [(.t 4)], .f 6 1 1, .l 7 6, .k 8 55 [(.t 7)], .f 9 2 1, .l 10 9, .k 11 56 [(.t 10)], .o 12 (.build [.csl [], .csl [], .csl []] [(0, 1, (.t 5)), (1, 1, (.t 8)), (2, 1, (.t 11))]), .s 3 2 12]
    [.q (.f 3 0 1), .q (.l 4 3), ⟨.k 5 54 [(.t 4)], true, 0⟩, .q (.f 6 1 1), .q (.l 7 6), ⟨.k 8 55 [(.t 7)], true, 1⟩, .q (.f 9 2 1), .q (.l 10 9), ⟨.k 11 56 [(.t 10)], true, 2⟩, ⟨.o 12 (.build [.csl [], .csl [], .csl []] [(0, 1, (.t 5)), (1, 1, (.t 8)), (2, 1, (.t 11))]), false, 3⟩, ⟨.s 3 2 12, true, 3⟩])
  (.ret))
def r23 : List ResV := [.celln 3 2]
theorem k23 : CodeIs Tryz.prog 23 1 Tryz.f23 c23 r23 := ⟨by kernel_rfl, Tryz.func23, rfl, by kernel_rfl, by kernel_rfl, by decide, enters_fn Tryz.func23 (by kernel_rfl) rfl⟩
/-- sig.Add -/
def c8 : AC :=
  .seq (.reg [.o 2 (.box (.t 0)), .o 3 (.box (.t 1)), .o 4 (.box (.k (.agg [.csl [], .csl [], .csl []]))), .o 5 (.mov (.k (.c (.int .i64 0))))])
  (.seq (.block 0 (.seq (.reg [.f 12 0 3, .l 13 12, .o 14 (.bin .lss (.t 13) (.k (.c (.int .i64 0)))), .m 15 14, .z 16 (.fadd 0 (.t 3)) 15, .z 17 (.load1 (.t 16)) 15, .z 18 (.bin .gtr (.t 17) (.k (.c (.int .i64 3)))) 15, .o 19 (.pick (.t 15) (.k (.c (.bool true))) (.t 18)), .m 11 19])
  (.cond (.t 11)
  (.seq (.reg [.d 20 3 2, .k 21 23 [(.t 20)], .s 3 4 21, .o 5 (.mov (.k (.c (.int .i64 1))))])
  (.ret))
  (.seq (.reg [.f 23 0 3, .l 24 23, .o 25 (.bin .eql (.t 24) (.k (.c (.int .i64 1)))), .m 26 25, .y 27 (.loadn 3 (.t 2)) 26, .y 28 (.fadd 3 (.t 3)) 26, .y 29 (.loadn 4 (.t 28)) 26, .y 30 (.call (.k (.fn 24 [])) [(.t 27), (.t 29)]) 26, .y 31 (.un .not (.t 30)) 26, .o 32 (.pick (.t 26) (.t 31) (.k (.c (.bool false)))), .m 22 32])
  (.cond (.t 22)
  (.seq (.reg [.d 33 3 2, .k 34 23 [(.t 33)], .s 3 4 34, .o 5 (.mov (.k (.c (.int .i64 111))))])
  (.ret))
  (.skip))))))
  (.seq (.reg [.d 35 3 2, .k 36 23 [(.t 35)], .o 6 (.box (.k (.agg [.csl [], .csl [], .csl []]))), .s 3 6 36])
  (.seq (.seq (.reg [.f 37 1 3, .l 38 37, .o 39 (.lenr (.t 38)), .o 40 (.mov (.k (.c (.int .i64 0))))])
  (.block 1 (.loop (.seq (.reg [.o 41 (.bin .lss (.t 40) (.t 39))])
  (.seq (.cond (.t 41)
  (.skip)
  (.exit 1))
  (.seq (.block 2 (.seq (.reg [.o 42 (.iadd 1 (.t 38) (.t 40)), .l 43 42, .m 8 43])
  (.seq (.reg [.d 45 3 6, .d 46 16 3, .m 47 8, .k 48 25 [(.t 45), (.t 46), (.t 47)], .m 44 48, .x 49 44 0, .x 50 44 1, .o 9 (.box (.k (.agg [.csl [], .csl [], .csl []]))), .s 3 9 49, .m 10 50])
  (.seq (.seq (.reg [.m 51 10, .o 52 (.bin .neq (.t 51) (.k (.c (.int .i64 0))))])
  (.cond (.t 52)
  (.seq (.reg [.d 53 3 2, .k 54 23 [(.t 53)], .m 55 10, .s 3 4 54, .m 5 55])
  (.ret))
  (.skip)))
  (.reg [.d 56 3 9, .s 3 6 56])))))
  (.reg [.o 57 (.bin .add (.t 40) (.k (.c (.int .i64 1)))), .m 40 57])))))))
  (.seq (.reg [.d 58 3 6, .s 3 4 58, .o 5 (.mov (.k (.c (.int .i64 0))))])
  (.ret)))))
def r8 : List ResV := [.celln 3 4, .tmp 5]
theorem k8 : CodeIs Tryz.prog 8 2 Tryz.f8 c8 r8 := ⟨by kernel_rfl, Tryz.func8, rfl, by kernel_rfl, by kernel_rfl, by decide, enters_fn Tryz.func8 (by kernel_rfl) rfl⟩
/-- sig.con -/
def c20 : AC :=
  .seq (.reg [.o 2 (.box (.k (.agg [.c (.int .i64 0), .c (.str []), .c (.int .i64 0), .csl []])))])
  (.seq (.reg [.m 3 0, .o 4 (.build [.c (.int .i64 0), .c (.str []), .c (.int .i64 0), .csl []] [(1, 1, (.t 3))]), .s 4 2 4])
  (.ret))
def r20 : List ResV := [.celln 4 2]
theorem k20 : CodeIs Tryz.prog 20 1 Tryz.f20 c20 r20 := ⟨by kernel_rfl, Tryz.func20, rfl, by kernel_rfl, by kernel_rfl, by decide, enters_fn Tryz.func20 (by kernel_rfl) rfl⟩
/-- sig.row -/
def c22 : AC :=
  .seq (.reg [.o 2 (.box (.t 0)), .o 4 (.mov (.k (.csl [])))])
  (.seq (.reg [.o 5 (.mov (.k (.csl [])))])
  (.seq (.seq (.reg [.m 8 1, .o 9 (.lenr (.t 8)), .o 10 (.mov (.k (.c (.int .i64 0))))])
  (.block 0 (.loop (.seq (.reg [.o 11 (.bin .lss (.t 10) (.t 9))])
  (.seq (.cond (.t 11)
  (.skip)
  (.exit 0))
  (.seq (.block 1 (.seq (.reg [.o 12 (.iadd 1 (.t 8) (.t 10)), .l 13 12, .m 7 13])
  (.reg [.m 14 5, .m 15 7, .d 16 4 2, .o 17 (.build [.c (.str []), .c (.int .i64 0), .c (.str []), .c (.int .i64 0), .csl []] [(0, 1, (.t 15)), (1, 4, (.t 16))]), .o 18 (.bsl 5 [(.t 17)]), .o 19 (.app 75 5 72 (.t 14) (.t 18)), .m 5 19])))
  (.reg [.o 20 (.bin .add (.t 10) (.k (.c (.int .i64 1)))), .m 10 20])))))))
  (.seq (.reg [.m 21 5, .m 4 21])
  (.ret))))
def r22 : List ResV := [.tmp 4]
theorem k22 : CodeIs Tryz.prog 22 2 Tryz.f22 c22 r22 := ⟨by kernel_rfl, Tryz.func22, rfl, by kernel_rfl, by kernel_rfl, by decide, enters_fn Tryz.func22 (by kernel_rfl) rfl⟩
/-- sig.Start -/
def c7 : AC :=
  .seq (.reg [.o 0 (.box (.k (.agg [.csl [], .csl [], .csl []])))])
  (.seq (.reg [.k 5 20 [(.k (.c (.str [111])))], .k 6 20 [(.k (.c (.str [105, 110, 116])))], .o 7 (.build [.c (.int .i64 0), .c (.str []), .c (.int .i64 0), .csl []] [(0, 1, (.k (.c (.int .i64 1))))]), .o 1 (.box (.k (.agg [.c (.int .i64 0), .c (.str []), .c (.int .i64 0), .csl []]))), .o 2 (.box (.k (.agg [.c (.int .i64 0), .c (.str []), .c (.int .i64 0), .csl []]))), .o 3 (.box (.k (.agg [.c (.int .i64 0), .c (.str []), .c (.int .i64 0), .csl []]))), .s 4 1 5, .s 4 2 6, .s 4 3 7])
  (.seq (.dreg [.d 8 4 1, .d 9 4 1, .d 10 4 1, .o 11 (.bsl 4 [(.t 9), (.t 10)]), .k 12 12 [(.t 8), (.t 11)], .o 13 (.bsl 1 [(.k (.c (.str [58, 45]))), (.k (.c (.str [44]))), (.k (.c (.str [59]))), (.k (.c (.str [61, 62])))]), .k 14 22 [(.t 12), (.t 13)], .d 15 4 1, .d 16 4 3, .d 17 4 3, .o 18 (.bsl 4 [(.t 16), (.t 17)]), .k 19 12 [(.t 15), (.t 18)], .o 20 (.bsl 1 [(.k (.c (.str [61])))]), .k 21 22 [(.t 19), (.t 20)], .d 22 4 1, .d 23 4 2, .d 24 4 2, .o 25 (.bsl 4 [(.t 23), (.t 24)]), .k 26 12 [(.t 22), (.t 25)], .o 27 (.bsl 1 [(.k (.c (.str [105, 115]))), (.k (.c (.str [60]))), (.k (.c (.str [61, 60]))), (.k (.c (.str [62]))), (.k (.c (.str [62, 61])))]), .k 28 22 [(.t 26), (.t 27)], .d 29 4 2, .d 30 4 2, .d 31 4 2, .o 32 (.bsl 4 [(.t 30), (.t 31)]), .k 33 12 [(.t 29), (.t 32)], .o 34 (.bsl 1 [(.k (.c (.str [43]))), (.k (.c (.str [45]))), (.k (.c (.str [42]))), (.k (.c (.str [100, 105, 118]))), (.k (.c (.str [109, 111, 100])))]), .k 35 22 [(.t 33), (.t 34)], .d 36 4 2, .d 37 4 2, .o 38 (.bsl 4 [(.t 37)]), .k 39 12 [(.t 36), (.t 38)], .o 40 (.bsl 1 [(.k (.c (.str [126])))]), .k 41 22 [(.t 39), (.t 40)], .d 42 4 1, .o 43 (.bsl 1 [(.k (.c (.str [116, 114, 117, 101]))), (.k (.c (.str [102, 97, 105, 108]))), (.k (.c (.str [33])))]), .k 44 22 [(.t 42), (.t 43)], .d 45 4 1, .d 46 4 1, .d 47 4 3, .o 48 (.bsl 4 [(.t 47)]), .k 49 12 [(.t 46), (.t 48)], .o 50 (.bsl 4 [(.t 49)]), .k 51 12 [(.t 45), (.t 50)], .o 52 (.bsl 1 [(.k (.c (.str [112, 105]))), (.k (.c (.str [115, 105, 103, 109, 97])))]), .k 53 22 [(.t 51), (.t 52)], .o 54 (.bsl 1 [(.t 14), (.t 21), (.t 28), (.t 35), (.t 41), (.t 44), (.t 53)]), .k 55 21 [(.t 54)], .m 4 55]
    [.q (.d 8 4 1), .q (.d 9 4 1), .q (.d 10 4 1), .q (.o 11 (.bsl 4 [(.t 9), (.t 10)])), ⟨.k 12 12 [(.t 8), (.t 11)], true, 0⟩, .q (.o 13 (.bsl 1 [(.k (.c (.str [58, 45]))), (.k (.c (.str [44]))), (.k (.c (.str [59]))), (.k (.c (.str [61, 62])))])), ⟨.k 14 22 [(.t 12), (.t 13)], true, 1⟩, .q (.d 15 4 1), .q (.d 16 4 3), .q (.d 17 4 3), .q (.o 18 (.bsl 4 [(.t 16), (.t 17)])), ⟨.k 19 12 [(.t 15), (.t 18)], true, 2⟩, .q (.o 20 (.bsl 1 [(.k (.c (.str [61])))])), ⟨.k 21 22 [(.t 19), (.t 20)], true, 3⟩, .q (.d 22 4 1), .q (.d 23 4 2), .q (.d 24 4 2), .q (.o 25 (.bsl 4 [(.t 23), (.t 24)])), ⟨.k 26 12 [(.t 22), (.t 25)], true, 4⟩, .q (.o 27 (.bsl 1 [(.k (.c (.str [105, 115]))), (.k (.c (.str [60]))), (.k (.c (.str [61, 60]))), (.k (.c (.str [62]))), (.k (.c (.str [62, 61])))])), ⟨.k 28 22 [(.t 26), (.t 27)], true, 5⟩, .q (.d 29 4 2), .q (.d 30 4 2), .q (.d 31 4 2), .q (.o 32 (.bsl 4 [(.t 30), (.t 31)])), ⟨.k 33 12 [(.t 29), (.t 32)], true, 6⟩, .q (.o 34 (.bsl 1 [(.k (.c (.str [43]))), (.k (.c (.str [45]))), (.k (.c (.str [42]))), (.k (.c (.str [100, 105, 118]))), (.k (.c (.str [109, 111, 100])))])), ⟨.k 35 22 [(.t 33), (.t 34)], true, 7⟩, .q (.d 36 4 2), .q (.d 37 4 2), .q (.o 38 (.bsl 4 [(.t 37)])), ⟨.k 39 12 [(.t 36), (.t 38)], true, 8⟩, .q (.o 40 (.bsl 1 [(.k (.c (.str [126])))])), ⟨.k 41 22 [(.t 39), (.t 40)], true, 9⟩, .q (.d 42 4 1), .q (.o 43 (.bsl 1 [(.k (.c (.str [116, 114, 117, 101]))), (.k (.c (.str [102, 97, 105, 108]))), (.k (.c (.str [33])))])), ⟨.k 44 22 [(.t 42), (.t 43)], true, 10⟩, .q (.d 46 4 1), .q (.d 47 4 3), .q (.o 48 (.bsl 4 [(.t 47)])), ⟨.k 49 12 [(.t 46), (.t 48)], true, 11⟩, .q (.d 45 4 1), ⟨.o 50 (.bsl 4 [(.t 49)]), false, 12⟩, ⟨.k 51 12 [(.t 45), (.t 50)], true, 12⟩, .q (.o 52 (.bsl 1 [(.k (.c (.str [112, 105]))), (.k (.c (.str [115, 105, 103, 109, 97])))])), ⟨.k 53 22 [(.t 51), (.t 52)], true, 13⟩, ⟨.o 54 (.bsl 1 [(.t 14), (.t 21), (.t 28), (.t 35), (.t 41), (.t 44), (.t 53)]), false, 14⟩, ⟨.k 55 21 [(.t 54)], true, 14⟩, ⟨.m 4 55, false, 15⟩])
  (.seq (.reg [.o 56 (.build [.c (.str []), .c (.int .i64 0)] [(0, 1, (.k (.c (.str [111]))))]), .o 57 (.build [.c (.str []), .c (.int .i64 0)] [(0, 1, (.k (.c (.str [105, 110, 116]))))]), .o 58 (.bsl 2 [(.t 56), (.t 57)]), .m 59 4, .k 60 17 [], .o 61 (.build [.csl [], .csl [], .csl []] [(0, 1, (.t 58)), (1, 1, (.t 59)), (2, 1, (.t 60))]), .s 3 0 61])
  (.ret))))
def r7 : List ResV := [.celln 3 0]
theorem k7 : CodeIs Tryz.prog 7 0 Tryz.f7 c7 r7 := ⟨by kernel_rfl, Tryz.func7, rfl, by kernel_rfl, by kernel_rfl, by decide, enters_fn Tryz.func7 (by kernel_rfl) rfl⟩
/-- slices.Clone[[]api.Kinded,api.Kinded] -/
def c54 : AC :=
  .seq (.reg [.o 2 (.mov (.k (.csl [])))])
  (.seq (.seq (.reg [.m 3 0, .o 4 (.eqz false (.t 3))])
  (.cond (.t 4)
  (.seq (.reg [.o 2 (.mov (.k (.csl [])))])
  (.ret))
  (.skip)))
  (.seq (.reg [.o 5 (.bsl 2 []), .m 6 0, .o 7 (.app 78 2 24 (.t 5) (.t 6)), .m 2 7])
  (.ret)))
def r54 : List ResV := [.tmp 2]
theorem k54 : CodeIs Tryz.prog 54 1 Tryz.f54 c54 r54 := ⟨by kernel_rfl, Tryz.func54, rfl, by kernel_rfl, by kernel_rfl, by decide, enters_fn Tryz.func54 (by kernel_rfl) rfl⟩
/-- slices.Clone[[]api.Named,api.Named] -/
def c55 : AC :=
  .seq (.reg [.o 2 (.mov (.k (.csl [])))])
  (.seq (.seq (.reg [.m 3 0, .o 4 (.eqz false (.t 3))])
  (.cond (.t 4)
  (.seq (.reg [.o 2 (.mov (.k (.csl [])))])
  (.ret))
  (.skip)))
  (.seq (.reg [.o 5 (.bsl 5 []), .m 6 0, .o 7 (.app 75 5 72 (.t 5) (.t 6)), .m 2 7])
  (.ret)))
def r55 : List ResV := [.tmp 2]
theorem k55 : CodeIs Tryz.prog 55 1 Tryz.f55 c55 r55 := ⟨by kernel_rfl, Tryz.func55, rfl, by kernel_rfl, by kernel_rfl, by decide, enters_fn Tryz.func55 (by kernel_rfl) rfl⟩
/-- slices.Clip[[]api.Kinded,api.Kinded] -/
def c61 : AC :=
  .seq (.reg [.o 2 (.mov (.k (.csl [])))])
  (.seq (.reg [.m 3 0, .m 4 0, .o 5 (.lenr (.t 4)), .m 6 0, .o 7 (.lenr (.t 6)), .o 8 (.slr 2 (.t 3) none (some (.t 5)) (some (.t 7))), .m 2 8])
  (.ret))
def r61 : List ResV := [.tmp 2]
theorem k61 : CodeIs Tryz.prog 61 1 Tryz.f61 c61 r61 := ⟨by kernel_rfl, Tryz.func61, rfl, by kernel_rfl, by kernel_rfl, by decide, enters_fn Tryz.func61 (by kernel_rfl) rfl⟩
/-- slices.Clip[[]api.Named,api.Named] -/
def c63 : AC :=
  .seq (.reg [.o 2 (.mov (.k (.csl [])))])
  (.seq (.reg [.m 3 0, .m 4 0, .o 5 (.lenr (.t 4)), .m 6 0, .o 7 (.lenr (.t 6)), .o 8 (.slr 5 (.t 3) none (some (.t 5)) (some (.t 7))), .m 2 8])
  (.ret))
def r63 : List ResV := [.tmp 2]
theorem k63 : CodeIs Tryz.prog 63 1 Tryz.f63 c63 r63 := ⟨by kernel_rfl, Tryz.func63, rfl, by kernel_rfl, by kernel_rfl, by decide, enters_fn Tryz.func63 (by kernel_rfl) rfl⟩
end Go.Proofs.YtapnncbenhkicaaGreatDoor
namespace Go.Proofs.YtapnncbenhkicaaGreatDoor
open Go.RowKit Go.Lamb
--absent /-- ref11.Kind -/
--absent /-- ref11.Find -/
--absent /-- ref11.known -/
--absent /-- ref11.Fits -/
--absent /-- ref11.Logical -/
--absent /-- ref11.name -/
--absent /-- ref11.Add -/
/-- lambentref11.Same -/
def c9 : AC :=
  .seq (.reg [.o 2 (.box (.t 0)), .o 3 (.box (.t 1)), .o 4 (.mov (.k (.c (.bool false))))])
  (.seq (.seq (.reg [.f 8 0 2, .l 9 8, .o 10 (.lenr (.t 9)), .f 11 0 3, .l 12 11, .o 13 (.lenr (.t 12)), .o 14 (.bin .neq (.t 10) (.t 13)), .m 15 14, .z 16 (.fadd 1 (.t 2)) 15, .z 17 (.load1 (.t 16)) 15, .z 18 (.lenr (.t 17)) 15, .z 19 (.fadd 1 (.t 3)) 15, .z 20 (.load1 (.t 19)) 15, .z 21 (.lenr (.t 20)) 15, .z 22 (.bin .neq (.t 18) (.t 21)) 15, .o 23 (.pick (.t 15) (.k (.c (.bool true))) (.t 22))])
  (.cond (.t 23)
  (.seq (.reg [.o 4 (.mov (.k (.c (.bool false))))])
  (.ret))
  (.skip)))
  (.seq (.seq (.reg [.o 5 (.mov (.k (.c (.int .i64 0))))])
  (.block 0 (.loop (.seq (.seq (.reg [.m 24 5, .f 25 0 2, .l 26 25, .o 27 (.lenr (.t 26)), .o 28 (.bin .lss (.t 24) (.t 27))])
  (.cond (.t 28)
  (.skip)
  (.exit 0)))
  (.seq (.block 1 (.seq (.dreg [.f 31 0 2, .l 32 31, .m 33 5, .o 34 (.iadd 2 (.t 32) (.t 33)), .d 35 2 34, .f 36 0 3, .l 37 36, .m 38 5, .o 39 (.iadd 2 (.t 37) (.t 38)), .d 40 2 39, .o 41 (.eqs true [2, 1] (.t 35) (.t 40))]
    [.q (.f 31 0 2), .q (.l 32 31), .q (.m 33 5), .q (.o 34 (.iadd 2 (.t 32) (.t 33))), .q (.d 35 2 34), .q (.f 36 0 3), .q (.l 37 36), .q (.m 38 5), .q (.o 39 (.iadd 2 (.t 37) (.t 38))), .q (.d 40 2 39), .q (.o 41 (.eqs true [2, 1] (.t 35) (.t 40)))])
  (.cond (.t 41)
  (.seq (.reg [.o 4 (.mov (.k (.c (.bool false))))])
  (.ret))
  (.skip))))
  (.reg [.m 29 5, .o 30 (.bin .add (.t 29) (.k (.c (.int .i64 1)))), .m 5 30]))))))
  (.seq (.seq (.reg [.o 6 (.mov (.k (.c (.int .i64 0))))])
  (.block 2 (.loop (.seq (.seq (.reg [.m 42 6, .f 43 1 2, .l 44 43, .o 45 (.lenr (.t 44)), .o 46 (.bin .lss (.t 42) (.t 45))])
  (.cond (.t 46)
  (.skip)
  (.exit 2)))
  (.seq (.block 3 (.seq (.dreg [.f 49 1 2, .l 50 49, .m 51 6, .o 52 (.iadd 5 (.t 50) (.t 51)), .f 53 1 52, .d 54 4 53, .f 55 1 3, .l 56 55, .m 57 6, .o 58 (.iadd 5 (.t 56) (.t 57)), .f 59 1 58, .d 60 4 59, .k 61 26 [(.t 54), (.t 60)], .m 7 61]
    [.q (.f 49 1 2), .q (.l 50 49), .q (.m 51 6), .q (.o 52 (.iadd 5 (.t 50) (.t 51))), .q (.f 53 1 52), .q (.d 54 4 53), .q (.f 55 1 3), .q (.l 56 55), .q (.m 57 6), .q (.o 58 (.iadd 5 (.t 56) (.t 57))), .q (.f 59 1 58), .q (.d 60 4 59), ⟨.k 61 26 [(.t 54), (.t 60)], true, 0⟩, ⟨.m 7 61, false, 1⟩])
  (.seq (.dreg [.f 62 1 2, .l 63 62, .m 64 6, .o 65 (.iadd 5 (.t 63) (.t 64)), .f 66 0 65, .l 67 66, .f 68 1 3, .l 69 68, .m 70 6, .o 71 (.iadd 5 (.t 69) (.t 70)), .f 72 0 71, .l 73 72, .o 74 (.bin .neq (.t 67) (.t 73)), .m 75 74, .z 76 (.mov (.t 7)) 75, .z 77 (.un .not (.t 76)) 75, .o 78 (.pick (.t 75) (.k (.c (.bool true))) (.t 77))]
    [.q (.f 62 1 2), .q (.l 63 62), .q (.m 64 6), .q (.o 65 (.iadd 5 (.t 63) (.t 64))), .q (.f 66 0 65), .q (.l 67 66), .q (.f 68 1 3), .q (.l 69 68), .q (.m 70 6), .q (.o 71 (.iadd 5 (.t 69) (.t 70))), .q (.f 72 0 71), .q (.l 73 72), .q (.o 74 (.bin .neq (.t 67) (.t 73))), .q (.m 75 74), .q (.z 76 (.mov (.t 7)) 75), .q (.z 77 (.un .not (.t 76)) 75), .q (.o 78 (.pick (.t 75) (.k (.c (.bool true))) (.t 77)))])
  (.cond (.t 78)
  (.seq (.reg [.o 4 (.mov (.k (.c (.bool false))))])
  (.ret))
  (.skip)))))
  (.reg [.m 47 6, .o 48 (.bin .add (.t 47) (.k (.c (.int .i64 1)))), .m 6 48]))))))
  (.seq (.reg [.f 79 2 2, .l 80 79, .f 81 2 3, .l 82 81, .k 83 27 [(.t 80), (.t 82)], .m 4 83])
  (.ret)))))
def r9 : List ResV := [.tmp 4]
theorem k9 : CodeIs Tryz.prog 9 2 Tryz.f9 c9 r9 := ⟨by kernel_rfl, Tryz.func9, rfl, by kernel_rfl, by kernel_rfl, by decide, enters_fn Tryz.func9 (by kernel_rfl) rfl⟩
/-- lambentref11.Start -/
def c13 : AC :=
  .seq (.reg [.o 0 (.box (.k (.agg [.csl [], .csl [], .csl []])))])
  (.seq (.reg [.k 4 33 [(.k (.c (.str [111])))], .o 1 (.box (.k (.agg [.c (.int .i64 0), .c (.str []), .c (.int .i64 0), .csl []]))), .s 4 1 4])
  (.seq (.reg [.k 5 33 [(.k (.c (.str [105, 110, 116])))], .o 2 (.box (.k (.agg [.c (.int .i64 0), .c (.str []), .c (.int .i64 0), .csl []]))), .s 4 2 5])
  (.seq (.reg [.o 3 (.mov (.k (.csl [])))])
  (.seq (.dreg [.m 6 3, .o 7 (.bsl 1 [(.k (.c (.str [58, 45]))), (.k (.c (.str [44]))), (.k (.c (.str [59]))), (.k (.c (.str [61, 62])))]), .d 8 4 1, .d 9 4 1, .d 10 4 1, .k 11 35 [(.t 9), (.t 10)], .k 12 35 [(.t 8), (.t 11)], .k 13 34 [(.t 6), (.t 7), (.t 12)], .m 3 13]
    [.q (.d 9 4 1), .q (.d 10 4 1), ⟨.k 11 35 [(.t 9), (.t 10)], true, 0⟩, .q (.d 8 4 1), ⟨.k 12 35 [(.t 8), (.t 11)], true, 1⟩, .q (.m 6 3), .q (.o 7 (.bsl 1 [(.k (.c (.str [58, 45]))), (.k (.c (.str [44]))), (.k (.c (.str [59]))), (.k (.c (.str [61, 62])))])), ⟨.k 13 34 [(.t 6), (.t 7), (.t 12)], true, 2⟩, ⟨.m 3 13, false, 3⟩])
  (.seq (.dreg [.m 14 3, .o 15 (.bsl 1 [(.k (.c (.str [61])))]), .k 16 36 [], .k 17 36 [], .d 18 4 1, .k 19 35 [(.t 17), (.t 18)], .k 20 35 [(.t 16), (.t 19)], .k 21 34 [(.t 14), (.t 15), (.t 20)], .m 3 21]
    [⟨.k 16 36 [], true, 0⟩, ⟨.k 17 36 [], true, 1⟩, .q (.d 18 4 1), ⟨.k 19 35 [(.t 17), (.t 18)], true, 2⟩, ⟨.k 20 35 [(.t 16), (.t 19)], true, 3⟩, .q (.m 14 3), .q (.o 15 (.bsl 1 [(.k (.c (.str [61])))])), ⟨.k 21 34 [(.t 14), (.t 15), (.t 20)], true, 4⟩, ⟨.m 3 21, false, 5⟩])
  (.seq (.dreg [.m 22 3, .o 23 (.bsl 1 [(.k (.c (.str [105, 115]))), (.k (.c (.str [60]))), (.k (.c (.str [61, 60]))), (.k (.c (.str [62]))), (.k (.c (.str [62, 61])))]), .d 24 4 2, .d 25 4 2, .d 26 4 1, .k 27 35 [(.t 25), (.t 26)], .k 28 35 [(.t 24), (.t 27)], .k 29 34 [(.t 22), (.t 23), (.t 28)], .m 3 29]
    [.q (.d 25 4 2), .q (.d 26 4 1), ⟨.k 27 35 [(.t 25), (.t 26)], true, 0⟩, .q (.d 24 4 2), ⟨.k 28 35 [(.t 24), (.t 27)], true, 1⟩, .q (.m 22 3), .q (.o 23 (.bsl 1 [(.k (.c (.str [105, 115]))), (.k (.c (.str [60]))), (.k (.c (.str [61, 60]))), (.k (.c (.str [62]))), (.k (.c (.str [62, 61])))])), ⟨.k 29 34 [(.t 22), (.t 23), (.t 28)], true, 2⟩, ⟨.m 3 29, false, 3⟩])
  (.seq (.dreg [.m 30 3, .o 31 (.bsl 1 [(.k (.c (.str [43]))), (.k (.c (.str [45]))), (.k (.c (.str [42]))), (.k (.c (.str [100, 105, 118]))), (.k (.c (.str [109, 111, 100])))]), .d 32 4 2, .d 33 4 2, .d 34 4 2, .k 35 35 [(.t 33), (.t 34)], .k 36 35 [(.t 32), (.t 35)], .k 37 34 [(.t 30), (.t 31), (.t 36)], .m 3 37]
    [.q (.d 33 4 2), .q (.d 34 4 2), ⟨.k 35 35 [(.t 33), (.t 34)], true, 0⟩, .q (.d 32 4 2), ⟨.k 36 35 [(.t 32), (.t 35)], true, 1⟩, .q (.m 30 3), .q (.o 31 (.bsl 1 [(.k (.c (.str [43]))), (.k (.c (.str [45]))), (.k (.c (.str [42]))), (.k (.c (.str [100, 105, 118]))), (.k (.c (.str [109, 111, 100])))])), ⟨.k 37 34 [(.t 30), (.t 31), (.t 36)], true, 2⟩, ⟨.m 3 37, false, 3⟩])
  (.seq (.reg [.m 38 3, .o 39 (.bsl 1 [(.k (.c (.str [126])))]), .d 40 4 2, .d 41 4 2, .k 42 35 [(.t 40), (.t 41)], .k 43 34 [(.t 38), (.t 39), (.t 42)], .m 3 43])
  (.seq (.reg [.m 44 3, .o 45 (.bsl 1 [(.k (.c (.str [116, 114, 117, 101]))), (.k (.c (.str [102, 97, 105, 108]))), (.k (.c (.str [33])))]), .d 46 4 1, .k 47 34 [(.t 44), (.t 45), (.t 46)], .m 3 47])
  (.seq (.dreg [.m 48 3, .o 49 (.bsl 1 [(.k (.c (.str [112, 105]))), (.k (.c (.str [115, 105, 103, 109, 97])))]), .k 50 36 [], .d 51 4 1, .k 52 35 [(.t 50), (.t 51)], .d 53 4 1, .k 54 35 [(.t 52), (.t 53)], .k 55 34 [(.t 48), (.t 49), (.t 54)], .m 3 55]
    [⟨.k 50 36 [], true, 0⟩, .q (.d 51 4 1), ⟨.k 52 35 [(.t 50), (.t 51)], true, 1⟩, .q (.d 53 4 1), ⟨.k 54 35 [(.t 52), (.t 53)], true, 2⟩, .q (.m 48 3), .q (.o 49 (.bsl 1 [(.k (.c (.str [112, 105]))), (.k (.c (.str [115, 105, 103, 109, 97])))])), ⟨.k 55 34 [(.t 48), (.t 49), (.t 54)], true, 3⟩, ⟨.m 3 55, false, 4⟩])
  (.seq (.reg [.o 56 (.build [.c (.str []), .c (.int .i64 0)] [(0, 1, (.k (.c (.str [111]))))]), .o 57 (.build [.c (.str []), .c (.int .i64 0)] [(0, 1, (.k (.c (.str [105, 110, 116]))))]), .o 58 (.bsl 2 [(.t 56), (.t 57)]), .m 59 3, .k 60 37 [], .o 61 (.build [.csl [], .csl [], .csl []] [(0, 1, (.t 58)), (1, 1, (.t 59)), (2, 1, (.t 60))]), .s 3 0 61])
  (.ret))))))))))))
def r13 : List ResV := [.celln 3 0]
theorem k13 : CodeIs Tryz.prog 13 0 Tryz.f13 c13 r13 := ⟨by kernel_rfl, Tryz.func13, rfl, by kernel_rfl, by kernel_rfl, by decide, enters_fn Tryz.func13 (by kernel_rfl) rfl⟩
/-- lambentref11.con -/
def c33 : AC :=
  .seq (.reg [.o 2 (.box (.k (.agg [.c (.int .i64 0), .c (.str []), .c (.int .i64 0), .csl []])))])
  (.seq (.reg [.m 3 0, .o 4 (.build [.c (.int .i64 0), .c (.str []), .c (.int .i64 0), .csl []] [(1, 1, (.t 3))]), .s 4 2 4])
  (.ret))
def r33 : List ResV := [.celln 4 2]
theorem k33 : CodeIs Tryz.prog 33 1 Tryz.f33 c33 r33 := ⟨by kernel_rfl, Tryz.func33, rfl, by kernel_rfl, by kernel_rfl, by decide, enters_fn Tryz.func33 (by kernel_rfl) rfl⟩
/-- lambentref11.v -/
def c36 : AC :=
  .seq (.reg [.o 0 (.box (.k (.agg [.c (.int .i64 0), .c (.str []), .c (.int .i64 0), .csl []])))])
  (.seq (.reg [.o 1 (.build [.c (.int .i64 0), .c (.str []), .c (.int .i64 0), .csl []] [(0, 1, (.k (.c (.int .i64 1))))]), .s 4 0 1])
  (.ret))
def r36 : List ResV := [.celln 4 0]
theorem k36 : CodeIs Tryz.prog 36 0 Tryz.f36 c36 r36 := ⟨by kernel_rfl, Tryz.func36, rfl, by kernel_rfl, by kernel_rfl, by decide, enters_fn Tryz.func36 (by kernel_rfl) rfl⟩
/-- lambentref11.to -/
def c35 : AC :=
  .seq (.reg [.o 2 (.box (.t 0)), .o 3 (.box (.t 1)), .o 4 (.box (.k (.agg [.c (.int .i64 0), .c (.str []), .c (.int .i64 0), .csl []])))])
  (.seq (.reg [.d 5 4 2, .d 6 4 3, .o 7 (.bsl 4 [(.t 5), (.t 6)]), .o 8 (.build [.c (.int .i64 0), .c (.str []), .c (.int .i64 0), .csl []] [(0, 1, (.k (.c (.int .i64 2)))), (3, 1, (.t 7))]), .s 4 4 8])
  (.ret))
def r35 : List ResV := [.celln 4 4]
theorem k35 : CodeIs Tryz.prog 35 2 Tryz.f35 c35 r35 := ⟨by kernel_rfl, Tryz.func35, rfl, by kernel_rfl, by kernel_rfl, by decide, enters_fn Tryz.func35 (by kernel_rfl) rfl⟩
/-- lambentref11.all -/
def c34 : AC :=
  .seq (.reg [.o 5 (.box (.t 2)), .o 6 (.mov (.k (.csl [])))])
  (.seq (.seq (.reg [.o 7 (.mov (.k (.c (.int .i64 0))))])
  (.block 0 (.loop (.seq (.seq (.reg [.m 8 7, .m 9 1, .o 10 (.lenr (.t 9)), .o 11 (.bin .lss (.t 8) (.t 10))])
  (.cond (.t 11)
  (.skip)
  (.exit 0)))
  (.seq (.block 1 (.dreg [.m 14 0, .m 15 1, .m 16 7, .o 17 (.iadd 1 (.t 15) (.t 16)), .l 18 17, .d 19 4 5, .o 20 (.build [.c (.str []), .c (.int .i64 0), .c (.str []), .c (.int .i64 0), .csl []] [(0, 1, (.t 18)), (1, 4, (.t 19))]), .o 21 (.bsl 5 [(.t 20)]), .o 22 (.app 75 5 72 (.t 14) (.t 21)), .m 0 22]
    [.q (.m 14 0), .q (.m 15 1), .q (.m 16 7), .q (.o 17 (.iadd 1 (.t 15) (.t 16))), .q (.l 18 17), .q (.d 19 4 5), .q (.o 20 (.build [.c (.str []), .c (.int .i64 0), .c (.str []), .c (.int .i64 0), .csl []] [(0, 1, (.t 18)), (1, 4, (.t 19))])), .q (.o 21 (.bsl 5 [(.t 20)])), ⟨.o 22 (.app 75 5 72 (.t 14) (.t 21)), true, 0⟩, ⟨.m 0 22, false, 1⟩]))
  (.reg [.m 12 7, .o 13 (.bin .add (.t 12) (.k (.c (.int .i64 1)))), .m 7 13]))))))
  (.seq (.reg [.m 23 0, .m 6 23])
  (.ret)))
def r34 : List ResV := [.tmp 6]
theorem k34 : CodeIs Tryz.prog 34 3 Tryz.f34 c34 r34 := ⟨by kernel_rfl, Tryz.func34, rfl, by kernel_rfl, by kernel_rfl, by decide, enters_fn Tryz.func34 (by kernel_rfl) rfl⟩
--absent /-- ref05.Valid -/
/-- lambentlaw11.works -/
def c4 : AC :=
  .seq (.reg [.o 0 (.mov (.k (.c (.bool false))))])
  (.seq (.reg [.k 17 7 [], .o 1 (.box (.k (.agg [.csl [], .csl [], .csl []]))), .s 3 1 17])
  (.seq (.reg [.d 19 3 1, .k 20 10 [(.t 19), (.k (.c (.str [112, 105])))], .m 18 20, .x 21 18 0, .x 22 18 1, .o 2 (.box (.k (.agg [.c (.int .i64 0), .c (.str []), .c (.int .i64 0), .csl []]))), .s 4 2 21, .m 3 22])
  (.seq (.reg [.d 24 3 1, .k 25 11 [(.t 24), (.k (.c (.str [105, 110, 116])))], .m 23 25, .x 26 23 0, .x 27 23 1, .m 4 26, .m 5 27])
  (.seq (.reg [.o 28 (.build [.c (.int .i64 0), .c (.str []), .c (.int .i64 0), .csl []] [(1, 1, (.k (.c (.str [110, 97, 116]))))]), .o 6 (.box (.k (.agg [.c (.int .i64 0), .c (.str []), .c (.int .i64 0), .csl []]))), .s 4 6 28])
  (.seq (.reg [.o 29 (.bsl 1 [(.k (.c (.str [112])))]), .o 30 (.build [.c (.int .i64 0), .c (.str []), .c (.int .i64 0), .csl []] [(1, 1, (.k (.c (.str [111]))))]), .d 31 4 6, .o 32 (.bsl 4 [(.t 31)]), .k 33 12 [(.t 30), (.t 32)], .o 34 (.build [.c (.int .i64 0), .csl [], .c (.int .i64 0), .c (.int .i64 0), .c (.str []), .c (.int .i64 0), .csl [], .c (.str []), .c (.int .i64 0), .c (.int .i64 0), .c (.int .i64 0), .c (.str []), .c (.int .i64 0), .csl [], .c (.int .i64 0), .c (.int .i64 0)] [(0, 1, (.k (.c (.int .i64 1)))), (1, 1, (.t 29)), (3, 4, (.t 33))]), .o 7 (.box (.k (.agg [.c (.int .i64 0), .csl [], .c (.int .i64 0), .c (.int .i64 0), .c (.str []), .c (.int .i64 0), .csl [], .c (.str []), .c (.int .i64 0), .c (.int .i64 0), .c (.int .i64 0), .c (.str []), .c (.int .i64 0), .csl [], .c (.int .i64 0), .c (.int .i64 0)]))), .s 16 7 34])
  (.seq (.reg [.d 36 3 1, .d 37 16 7, .k 38 8 [(.t 36), (.t 37)], .m 35 38, .x 39 35 0, .x 40 35 1, .o 8 (.box (.k (.agg [.csl [], .csl [], .csl []]))), .s 3 8 39, .m 9 40])
  (.seq (.reg [.d 42 3 1, .o 43 (.bsl 1 [(.k (.c (.str [110, 97, 116])))]), .o 44 (.build [.c (.int .i64 0), .csl [], .c (.int .i64 0), .c (.int .i64 0), .c (.str []), .c (.int .i64 0), .csl [], .c (.str []), .c (.int .i64 0), .c (.int .i64 0), .c (.int .i64 0), .c (.str []), .c (.int .i64 0), .csl [], .c (.int .i64 0), .c (.int .i64 0)] [(0, 1, (.k (.c (.int .i64 0)))), (1, 1, (.t 43))]), .k 45 8 [(.t 42), (.t 44)], .m 41 45, .x 46 41 0, .x 47 41 1, .o 10 (.box (.k (.agg [.csl [], .csl [], .csl []]))), .s 3 10 46, .m 11 47])
  (.seq (.reg [.d 49 3 10, .d 50 16 7, .k 51 8 [(.t 49), (.t 50)], .m 48 51, .x 52 48 0, .x 53 48 1, .o 12 (.box (.k (.agg [.csl [], .csl [], .csl []]))), .s 3 12 52, .m 13 53])
  (.seq (.reg [.d 55 3 12, .k 56 10 [(.t 55), (.k (.c (.str [112])))], .m 54 56, .x 57 54 0, .x 58 54 1, .o 14 (.box (.k (.agg [.c (.int .i64 0), .c (.str []), .c (.int .i64 0), .csl []]))), .s 4 14 57, .m 15 58])
  (.seq (.dreg [.d 59 3 1, .k 60 13 [], .k 61 9 [(.t 59), (.t 60)], .m 16 61]
    [⟨.k 60 13 [], true, 0⟩, .q (.d 59 3 1), ⟨.k 61 9 [(.t 59), (.t 60)], true, 1⟩, ⟨.m 16 61, false, 2⟩])
  (.seq (.reg [.m 62 16, .m 63 62, .y 64 (.mov (.t 3)) 63, .o 65 (.pick (.t 63) (.t 64) (.k (.c (.bool false)))), .m 66 65, .y 67 (.loadn 4 (.t 2)) 66, .y 68 (.call (.k (.fn 14 [])) [(.t 67)]) 66, .y 69 (.bin .eql (.t 68) (.k (.c (.str [40, 65, 32, 45, 62, 32, 111, 41, 32, 45, 62, 32, 111])))) 66, .o 70 (.pick (.t 66) (.t 69) (.k (.c (.bool false)))), .m 71 70, .y 72 (.mov (.t 4)) 71, .y 73 (.bin .eql (.t 72) (.k (.c (.int .i64 0)))) 71, .o 74 (.pick (.t 71) (.t 73) (.k (.c (.bool false)))), .m 75 74, .y 76 (.mov (.t 5)) 75, .o 77 (.pick (.t 75) (.t 76) (.k (.c (.bool false)))), .m 78 77, .y 79 (.mov (.t 9)) 78, .y 80 (.bin .eql (.t 79) (.k (.c (.int .i64 111)))) 78, .o 81 (.pick (.t 78) (.t 80) (.k (.c (.bool false)))), .m 82 81, .y 83 (.mov (.t 11)) 82, .y 84 (.bin .eql (.t 83) (.k (.c (.int .i64 0)))) 82, .o 85 (.pick (.t 82) (.t 84) (.k (.c (.bool false)))), .m 86 85, .y 87 (.mov (.t 13)) 86, .y 88 (.bin .eql (.t 87) (.k (.c (.int .i64 0)))) 86, .o 89 (.pick (.t 86) (.t 88) (.k (.c (.bool false)))), .m 90 89, .y 91 (.mov (.t 15)) 90, .o 92 (.pick (.t 90) (.t 91) (.k (.c (.bool false)))), .m 93 92, .y 94 (.loadn 4 (.t 14)) 93, .y 95 (.call (.k (.fn 14 [])) [(.t 94)]) 93, .y 96 (.bin .eql (.t 95) (.k (.c (.str [110, 97, 116, 32, 45, 62, 32, 111])))) 93, .o 97 (.pick (.t 93) (.t 96) (.k (.c (.bool false)))), .m 98 97, .y 99 (.call (.k (.fn 15 [])) [(.k (.c (.str [115, 105, 103, 109, 97])))]) 98, .o 100 (.pick (.t 98) (.t 99) (.k (.c (.bool false)))), .m 101 100, .y 102 (.call (.k (.fn 15 [])) [(.k (.c (.str [112])))]) 101, .y 103 (.un .not (.t 102)) 101, .o 104 (.pick (.t 101) (.t 103) (.k (.c (.bool false)))), .m 0 104])
  (.ret))))))))))))
def r4 : List ResV := [.tmp 0]
theorem k4 : CodeIs Tryz.prog 4 0 Tryz.f4 c4 r4 := ⟨by kernel_rfl, Tryz.func4, rfl, by kernel_rfl, by kernel_rfl, by decide, enters_fn Tryz.func4 (by kernel_rfl) rfl⟩
--absent /-- law11.over -/
--absent /-- law11.SigAdds -/
--absent /-- law11.SigFinds -/
--absent /-- law11.SigKeeps -/
end Go.Proofs.YtapnncbenhkicaaGreatDoor
namespace Go.Proofs.YtapnncbenhkicaaGreatDoor
open Go.RowKit Go.Lamb
/-- ty.Text -/
def c14 : AC :=
  .seq (.reg [.o 1 (.box (.t 0)), .o 2 (.mov (.k (.c (.str []))))])
  (.seq (.block 0 (.seq (.reg [.f 9 0 1, .l 10 9, .o 11 (.bin .eql (.t 10) (.k (.c (.int .i64 1)))), .m 12 11, .y 13 (.fadd 2 (.t 1)) 12, .y 14 (.load1 (.t 13)) 12, .y 15 (.bin .lss (.t 14) (.k (.c (.int .i64 0)))) 12, .o 16 (.pick (.t 12) (.t 15) (.k (.c (.bool false)))), .m 8 16])
  (.cond (.t 8)
  (.seq (.reg [.o 2 (.mov (.k (.c (.str [63]))))])
  (.ret))
  (.seq (.reg [.f 18 0 1, .l 19 18, .o 20 (.bin .eql (.t 19) (.k (.c (.int .i64 1)))), .m 17 20])
  (.cond (.t 17)
  (.seq (.reg [.f 21 2 1, .l 22 21, .o 23 (.bin .rem (.t 22) (.k (.c (.int .i64 26)))), .o 24 (.bin .add (.k (.c (.int .i64 65))) (.t 23)), .o 25 (.conv .u8 (.t 24)), .o 26 (.bsl 1 [(.t 25)]), .o 27 (.b2s (.t 26)), .m 3 27])
  (.seq (.seq (.reg [.f 28 2 1, .l 29 28, .o 30 (.bin .quo (.t 29) (.k (.c (.int .i64 26)))), .m 4 30])
  (.seq (.reg [.m 31 4, .o 32 (.bin .gtr (.t 31) (.k (.c (.int .i64 0))))])
  (.cond (.t 32)
  (.reg [.m 33 3, .m 34 4, .k 35 38 [(.t 34)], .o 36 (.bin .add (.t 33) (.t 35)), .m 3 36])
  (.skip))))
  (.seq (.reg [.m 37 3, .m 2 37])
  (.ret))))
  (.seq (.reg [.d 39 4 1, .k 40 39 [(.t 39)], .m 38 40])
  (.cond (.t 38)
  (.seq (.dreg [.f 41 3 1, .l 42 41, .o 43 (.iadd 4 (.t 42) (.k (.c (.int .i64 0)))), .d 44 4 43, .k 45 14 [(.t 44)], .f 46 3 1, .l 47 46, .o 48 (.iadd 4 (.t 47) (.k (.c (.int .i64 0)))), .d 49 4 48, .k 50 39 [(.t 49)], .k 51 40 [(.t 45), (.t 50)], .o 52 (.bin .add (.t 51) (.k (.c (.str [32, 45, 62, 32])))), .f 53 3 1, .l 54 53, .o 55 (.iadd 4 (.t 54) (.k (.c (.int .i64 1)))), .d 56 4 55, .k 57 14 [(.t 56)], .o 58 (.bin .add (.t 52) (.t 57)), .m 2 58]
    [.q (.f 41 3 1), .q (.l 42 41), .q (.o 43 (.iadd 4 (.t 42) (.k (.c (.int .i64 0))))), .q (.d 44 4 43), ⟨.k 45 14 [(.t 44)], true, 0⟩, .q (.f 46 3 1), .q (.l 47 46), .q (.o 48 (.iadd 4 (.t 47) (.k (.c (.int .i64 0))))), .q (.d 49 4 48), ⟨.k 50 39 [(.t 49)], true, 1⟩, ⟨.k 51 40 [(.t 45), (.t 50)], true, 2⟩, .q (.f 53 3 1), .q (.l 54 53), .q (.o 55 (.iadd 4 (.t 54) (.k (.c (.int .i64 1))))), .q (.d 56 4 55), ⟨.k 57 14 [(.t 56)], true, 3⟩, ⟨.o 52 (.bin .add (.t 51) (.k (.c (.str [32, 45, 62, 32])))), false, 3⟩, ⟨.o 58 (.bin .add (.t 52) (.t 57)), false, 4⟩, ⟨.m 2 58, false, 4⟩])
  (.ret))
  (.skip))))))))
  (.seq (.reg [.f 59 1 1, .l 60 59, .o 61 (.bsl 1 [(.t 60)]), .m 5 61])
  (.seq (.seq (.reg [.f 62 3 1, .l 63 62, .o 64 (.lenr (.t 63)), .o 65 (.mov (.k (.c (.int .i64 0))))])
  (.block 1 (.loop (.seq (.reg [.o 66 (.bin .lss (.t 65) (.t 64))])
  (.seq (.cond (.t 66)
  (.skip)
  (.exit 1))
  (.seq (.block 2 (.seq (.reg [.o 67 (.iadd 4 (.t 63) (.t 65)), .d 68 4 67, .o 7 (.box (.k (.agg [.c (.int .i64 0), .c (.str []), .c (.int .i64 0), .csl []]))), .s 4 7 68])
  (.dreg [.m 69 5, .d 70 4 7, .k 71 14 [(.t 70)], .f 72 0 7, .l 73 72, .o 74 (.bin .neq (.t 73) (.k (.c (.int .i64 1)))), .m 75 74, .y 76 (.fadd 3 (.t 7)) 75, .y 77 (.load1 (.t 76)) 75, .y 78 (.lenr (.t 77)) 75, .y 79 (.bin .gtr (.t 78) (.k (.c (.int .i64 0)))) 75, .o 80 (.pick (.t 75) (.t 79) (.k (.c (.bool false)))), .k 81 40 [(.t 71), (.t 80)], .o 82 (.bsl 1 [(.t 81)]), .o 83 (.app 9 1 16 (.t 69) (.t 82)), .m 5 83]
    [.q (.d 70 4 7), ⟨.k 71 14 [(.t 70)], true, 0⟩, .q (.f 72 0 7), .q (.l 73 72), .q (.o 74 (.bin .neq (.t 73) (.k (.c (.int .i64 1))))), ⟨.m 75 74, false, 1⟩, ⟨.y 76 (.fadd 3 (.t 7)) 75, false, 1⟩, ⟨.y 77 (.load1 (.t 76)) 75, false, 1⟩, ⟨.y 78 (.lenr (.t 77)) 75, false, 1⟩, ⟨.y 79 (.bin .gtr (.t 78) (.k (.c (.int .i64 0)))) 75, false, 1⟩, ⟨.o 80 (.pick (.t 75) (.t 79) (.k (.c (.bool false)))), false, 1⟩, ⟨.k 81 40 [(.t 71), (.t 80)], true, 1⟩, .q (.m 69 5), ⟨.o 82 (.bsl 1 [(.t 81)]), false, 2⟩, ⟨.o 83 (.app 9 1 16 (.t 69) (.t 82)), true, 2⟩, ⟨.m 5 83, false, 3⟩])))
  (.reg [.o 84 (.bin .add (.t 65) (.k (.c (.int .i64 1)))), .m 65 84])))))))
  (.seq (.reg [.m 85 5, .k 86 41 [(.t 85), (.k (.c (.str [32])))], .m 2 86])
  (.ret)))))
def r14 : List ResV := [.tmp 2]
theorem k14 : CodeIs Tryz.prog 14 1 Tryz.f14 c14 r14 := ⟨by kernel_rfl, Tryz.func14, rfl, by kernel_rfl, by kernel_rfl, by decide, enters_fn Tryz.func14 (by kernel_rfl) rfl⟩
/-- ty.put -/
def c40 : AC :=
  .seq (.reg [.o 4 (.mov (.k (.c (.str []))))])
  (.seq (.seq (.reg [.m 5 1])
  (.cond (.t 5)
  (.seq (.reg [.m 6 0, .o 7 (.bin .add (.k (.c (.str [40]))) (.t 6)), .o 8 (.bin .add (.t 7) (.k (.c (.str [41])))), .m 4 8])
  (.ret))
  (.skip)))
  (.seq (.reg [.m 9 0, .m 4 9])
  (.ret)))
def r40 : List ResV := [.tmp 4]
theorem k40 : CodeIs Tryz.prog 40 2 Tryz.f40 c40 r40 := ⟨by kernel_rfl, Tryz.func40, rfl, by kernel_rfl, by kernel_rfl, by decide, enters_fn Tryz.func40 (by kernel_rfl) rfl⟩
/-- ty.arrow -/
def c39 : AC :=
  .seq (.reg [.o 1 (.box (.t 0)), .o 2 (.mov (.k (.c (.bool false))))])
  (.seq (.reg [.f 3 0 1, .l 4 3, .o 5 (.bin .eql (.t 4) (.k (.c (.int .i64 2)))), .m 6 5, .y 7 (.fadd 3 (.t 1)) 6, .y 8 (.load1 (.t 7)) 6, .y 9 (.lenr (.t 8)) 6, .y 10 (.bin .eql (.t 9) (.k (.c (.int .i64 2)))) 6, .o 11 (.pick (.t 6) (.t 10) (.k (.c (.bool false)))), .m 2 11])
  (.ret))
def r39 : List ResV := [.tmp 2]
theorem k39 : CodeIs Tryz.prog 39 1 Tryz.f39 c39 r39 := ⟨by kernel_rfl, Tryz.func39, rfl, by kernel_rfl, by kernel_rfl, by decide, enters_fn Tryz.func39 (by kernel_rfl) rfl⟩
/-- ty.Valid -/
def c57 : AC :=
  .seq (.reg [.o 1 (.box (.t 0)), .o 2 (.mov (.k (.c (.bool false))))])
  (.seq (.reg [.o 3 (.mov (.k (.c (.bool false))))])
  (.seq (.seq (.reg [.f 4 0 1, .l 5 4])
  (.block 0 (.seq (.reg [.o 7 (.bin .eql (.t 5) (.k (.c (.int .i64 0)))), .m 6 7])
  (.cond (.t 6)
  (.reg [.f 8 1 1, .l 9 8, .k 10 60 [(.t 9)], .m 11 10, .y 12 (.fadd 2 (.t 1)) 11, .y 13 (.load1 (.t 12)) 11, .y 14 (.bin .eql (.t 13) (.k (.c (.int .i64 0)))) 11, .o 15 (.pick (.t 11) (.t 14) (.k (.c (.bool false)))), .m 3 15])
  (.seq (.reg [.o 17 (.bin .eql (.t 5) (.k (.c (.int .i64 1)))), .m 16 17])
  (.cond (.t 16)
  (.reg [.f 18 1 1, .l 19 18, .o 20 (.bin .eql (.t 19) (.k (.c (.str [])))), .m 21 20, .y 22 (.fadd 2 (.t 1)) 21, .y 23 (.load1 (.t 22)) 21, .y 24 (.bin .geq (.t 23) (.k (.c (.int .i64 0)))) 21, .o 25 (.pick (.t 21) (.t 24) (.k (.c (.bool false)))), .m 26 25, .y 27 (.fadd 2 (.t 1)) 26, .y 28 (.load1 (.t 27)) 26, .y 29 (.bin .leq (.t 28) (.k (.c (.int .i64 4611686018427387904)))) 26, .o 30 (.pick (.t 26) (.t 29) (.k (.c (.bool false)))), .m 31 30, .y 32 (.fadd 3 (.t 1)) 31, .y 33 (.load1 (.t 32)) 31, .y 34 (.lenr (.t 33)) 31, .y 35 (.bin .eql (.t 34) (.k (.c (.int .i64 0)))) 31, .o 36 (.pick (.t 31) (.t 35) (.k (.c (.bool false)))), .m 3 36])
  (.seq (.reg [.o 38 (.bin .eql (.t 5) (.k (.c (.int .i64 2)))), .m 37 38])
  (.cond (.t 37)
  (.reg [.f 39 1 1, .l 40 39, .o 41 (.bin .eql (.t 40) (.k (.c (.str [])))), .m 42 41, .y 43 (.fadd 2 (.t 1)) 42, .y 44 (.load1 (.t 43)) 42, .y 45 (.bin .eql (.t 44) (.k (.c (.int .i64 0)))) 42, .o 46 (.pick (.t 42) (.t 45) (.k (.c (.bool false)))), .m 47 46, .y 48 (.loadn 4 (.t 1)) 47, .y 49 (.call (.k (.fn 39 [])) [(.t 48)]) 47, .o 50 (.pick (.t 47) (.t 49) (.k (.c (.bool false)))), .m 3 50])
  (.skip)))))))))
  (.seq (.reg [.m 51 3, .m 52 51, .y 53 (.fadd 3 (.t 1)) 52, .y 54 (.load1 (.t 53)) 52, .y 55 (.call (.k (.fn 92 [])) [(.t 54), (.k (.fn 93 []))]) 52, .y 56 (.un .not (.t 55)) 52, .o 57 (.pick (.t 52) (.t 56) (.k (.c (.bool false)))), .m 2 57])
  (.ret))))
def r57 : List ResV := [.tmp 2]
theorem k57 : CodeIs Tryz.prog 57 1 Tryz.f57 c57 r57 := ⟨by kernel_rfl, Tryz.func57, rfl, by kernel_rfl, by kernel_rfl, by decide, enters_fn Tryz.func57 (by kernel_rfl) rfl⟩
/-- ty.Valid$1 -/
def c93 : AC :=
  .seq (.reg [.o 1 (.box (.t 0)), .o 2 (.mov (.k (.c (.bool false))))])
  (.seq (.reg [.d 3 4 1, .k 4 57 [(.t 3)], .o 5 (.un .not (.t 4)), .m 2 5])
  (.ret))
def r93 : List ResV := [.tmp 2]
theorem k93 : CodeIs Tryz.prog 93 1 Tryz.f93 c93 r93 := ⟨by kernel_rfl, Tryz.func93, rfl, by kernel_rfl, by kernel_rfl, by decide, enters_fn Tryz.func93 (by kernel_rfl) rfl⟩
--absent /-- ty.Size -/
--absent /-- ty.Vars -/
--absent /-- ty.Vars$1 -/
--absent /-- ty.replace -/
--absent /-- law05.works -/
--absent /-- law05.over -/
--absent /-- law05.long -/
--absent /-- law05.TyReads -/
--absent /-- law05.TyArrows -/
/-- slices.ContainsFunc[[]api.Ty,api.Ty] -/
def c92 : AC :=
  .seq (.reg [.o 4 (.mov (.k (.c (.bool false))))])
  (.seq (.reg [.m 5 0, .m 6 1, .k 7 114 [(.t 5), (.t 6)], .o 8 (.bin .geq (.t 7) (.k (.c (.int .i64 0)))), .m 4 8])
  (.ret))
def r92 : List ResV := [.tmp 4]
theorem k92 : CodeIs Tryz.prog 92 2 Tryz.f92 c92 r92 := ⟨by kernel_rfl, Tryz.func92, rfl, by kernel_rfl, by kernel_rfl, by decide, enters_fn Tryz.func92 (by kernel_rfl) rfl⟩
/-- slices.IndexFunc[[]api.Ty,api.Ty] -/
def c114 : AC :=
  .seq (.reg [.o 4 (.mov (.k (.c (.int .i64 0))))])
  (.seq (.seq (.reg [.m 6 0, .o 7 (.lenr (.t 6)), .o 8 (.mov (.k (.c (.int .i64 0))))])
  (.block 0 (.loop (.seq (.reg [.o 9 (.bin .lss (.t 8) (.t 7))])
  (.seq (.cond (.t 9)
  (.skip)
  (.exit 0))
  (.seq (.block 1 (.seq (.reg [.m 10 8, .m 5 10])
  (.seq (.reg [.m 11 1, .m 12 0, .m 13 5, .o 14 (.iadd 4 (.t 12) (.t 13)), .d 15 4 14, .o 16 (.call (.t 11) [(.t 15)])])
  (.cond (.t 16)
  (.seq (.reg [.m 17 5, .m 4 17])
  (.ret))
  (.skip)))))
  (.reg [.o 18 (.bin .add (.t 8) (.k (.c (.int .i64 1)))), .m 8 18])))))))
  (.seq (.reg [.o 4 (.mov (.k (.c (.int .i64 (-1)))))])
  (.ret)))
def r114 : List ResV := [.tmp 4]
theorem k114 : CodeIs Tryz.prog 114 2 Tryz.f114 c114 r114 := ⟨by kernel_rfl, Tryz.func114, rfl, by kernel_rfl, by kernel_rfl, by decide, enters_fn Tryz.func114 (by kernel_rfl) rfl⟩
--absent /-- slices.EqualFunc[[]api.Ty,[]api.Ty,api.Ty,api.Ty] -/
--absent /-- ty.Same -/
end Go.Proofs.YtapnncbenhkicaaGreatDoor
namespace Go.Proofs.YtapnncbenhkicaaGreatDoor
open Go.RowKit Go.Lamb
/-- (*ty.reader).tok -/
def c134 : AC :=
  .seq (.reg [.o 2 (.box (.k (.agg [.c (.int .i64 0), .c (.str []), .c (.int .i64 0), .c (.int .i64 0)])))])
  (.seq (.seq (.dreg [.m 3 0, .n 4 3, .f 5 1 4, .l 6 5, .o 7 (.bin .leq (.k (.c (.int .i64 0))) (.t 6)), .m 8 7, .y 9 (.mov (.t 0)) 8, .y 10 (.nilck (.t 9)) 8, .y 11 (.fadd 1 (.t 10)) 8, .y 12 (.load1 (.t 11)) 8, .y 13 (.mov (.t 0)) 8, .y 14 (.nilck (.t 13)) 8, .y 15 (.fadd 0 (.t 14)) 8, .y 16 (.load1 (.t 15)) 8, .y 17 (.lenr (.t 16)) 8, .y 18 (.bin .lss (.t 12) (.t 17)) 8, .o 19 (.pick (.t 8) (.t 18) (.k (.c (.bool false))))]
    [.q (.m 3 0), .q (.n 4 3), .q (.f 5 1 4), .q (.l 6 5), .q (.o 7 (.bin .leq (.k (.c (.int .i64 0))) (.t 6))), .q (.m 8 7), .q (.y 9 (.mov (.t 0)) 8), .q (.y 10 (.nilck (.t 9)) 8), .q (.y 11 (.fadd 1 (.t 10)) 8), .q (.y 12 (.load1 (.t 11)) 8), .q (.y 13 (.mov (.t 0)) 8), .q (.y 14 (.nilck (.t 13)) 8), .q (.y 15 (.fadd 0 (.t 14)) 8), .q (.y 16 (.load1 (.t 15)) 8), .q (.y 17 (.lenr (.t 16)) 8), .q (.y 18 (.bin .lss (.t 12) (.t 17)) 8), .q (.o 19 (.pick (.t 8) (.t 18) (.k (.c (.bool false)))))])
  (.cond (.t 19)
  (.seq (.dreg [.m 20 0, .n 21 20, .f 22 0 21, .l 23 22, .m 24 0, .n 25 24, .f 26 1 25, .l 27 26, .o 28 (.iadd 4 (.t 23) (.t 27)), .d 29 4 28, .s 4 2 29]
    [.q (.m 20 0), .q (.n 21 20), .q (.f 22 0 21), .q (.l 23 22), .q (.m 24 0), .q (.n 25 24), .q (.f 26 1 25), .q (.l 27 26), .q (.o 28 (.iadd 4 (.t 23) (.t 27))), .q (.d 29 4 28), ⟨.s 4 2 29, true, 0⟩])
  (.ret))
  (.skip)))
  (.seq (.seq (.reg [.m 30 0, .n 31 30, .f 32 0 31, .l 33 32, .o 34 (.lenr (.t 33)), .o 35 (.bin .gtr (.t 34) (.k (.c (.int .i64 0))))])
  (.cond (.t 35)
  (.seq (.dreg [.m 36 0, .n 37 36, .f 38 0 37, .l 39 38, .m 40 0, .n 41 40, .f 42 0 41, .l 43 42, .o 44 (.lenr (.t 43)), .o 45 (.bin .sub (.t 44) (.k (.c (.int .i64 1)))), .o 46 (.iadd 4 (.t 39) (.t 45)), .f 47 3 46, .l 48 47, .o 49 (.build [.c (.int .i64 0), .c (.str []), .c (.int .i64 0), .c (.int .i64 0)] [(3, 1, (.t 48))]), .s 4 2 49]
    [.q (.m 36 0), .q (.n 37 36), .q (.f 38 0 37), .q (.l 39 38), .q (.m 40 0), .q (.n 41 40), .q (.f 42 0 41), .q (.l 43 42), .q (.o 44 (.lenr (.t 43))), .q (.o 45 (.bin .sub (.t 44) (.k (.c (.int .i64 1))))), .q (.o 46 (.iadd 4 (.t 39) (.t 45))), .q (.f 47 3 46), .q (.l 48 47), .q (.o 49 (.build [.c (.int .i64 0), .c (.str []), .c (.int .i64 0), .c (.int .i64 0)] [(3, 1, (.t 48))])), ⟨.s 4 2 49, true, 0⟩])
  (.ret))
  (.skip)))
  (.seq (.reg [.o 50 (.build [.c (.int .i64 0), .c (.str []), .c (.int .i64 0), .c (.int .i64 0)] []), .s 4 2 50])
  (.ret))))
def r134 : List ResV := [.celln 4 2]
theorem k134 : CodeIs Tryz.prog 134 1 Tryz.f134 c134 r134 := ⟨by kernel_rfl, Tryz.func134, rfl, by kernel_rfl, by kernel_rfl, by decide, enters_fn Tryz.func134 (by kernel_rfl) rfl⟩
/-- (*ty.reader).fail -/
def c161 : AC :=
  .seq (.reg [.m 6 0, .n 7 6, .f 8 3 7, .l 9 8, .o 10 (.bin .eql (.t 9) (.k (.c (.int .i64 0))))])
  (.cond (.t 10)
  (.reg [.m 11 0, .m 12 0, .m 13 1, .m 14 2, .n 15 11, .f 16 3 15, .s 1 16 13, .n 17 12, .f 18 4 17, .s 1 18 14])
  (.skip))
def r161 : List ResV := []
theorem k161 : CodeIs Tryz.prog 161 3 Tryz.f161 c161 r161 := ⟨by kernel_rfl, Tryz.func161, rfl, by kernel_rfl, by kernel_rfl, by decide, enters_fn Tryz.func161 (by kernel_rfl) rfl⟩
/-- (*ty.reader).begins -/
def c136 : AC :=
  .seq (.reg [.o 2 (.mov (.k (.c (.bool false))))])
  (.seq (.seq (.reg [.m 3 0, .k 4 134 [(.t 3)], .o 5 (.field1 0 (.t 4))])
  (.block 0 (.seq (.seq (.reg [.o 7 (.bin .eql (.t 5) (.k (.c (.int .i64 1)))), .m 6 7])
  (.cond (.t 6)
  (.skip)
  (.seq (.reg [.o 8 (.bin .eql (.t 5) (.k (.c (.int .i64 2)))), .m 6 8])
  (.cond (.t 6)
  (.skip)
  (.reg [.o 9 (.bin .eql (.t 5) (.k (.c (.int .i64 5)))), .m 6 9])))))
  (.cond (.t 6)
  (.seq (.reg [.o 2 (.mov (.k (.c (.bool true))))])
  (.ret))
  (.skip)))))
  (.seq (.reg [.o 2 (.mov (.k (.c (.bool false))))])
  (.ret)))
def r136 : List ResV := [.tmp 2]
theorem k136 : CodeIs Tryz.prog 136 1 Tryz.f136 c136 r136 := ⟨by kernel_rfl, Tryz.func136, rfl, by kernel_rfl, by kernel_rfl, by decide, enters_fn Tryz.func136 (by kernel_rfl) rfl⟩
/-- slices.Index[[]string,string] -/
def c84 : AC :=
  .seq (.reg [.o 4 (.mov (.k (.c (.int .i64 0))))])
  (.seq (.seq (.reg [.m 6 0, .o 7 (.lenr (.t 6)), .o 8 (.mov (.k (.c (.int .i64 0))))])
  (.block 0 (.loop (.seq (.reg [.o 9 (.bin .lss (.t 8) (.t 7))])
  (.seq (.cond (.t 9)
  (.skip)
  (.exit 0))
  (.seq (.block 1 (.seq (.reg [.m 10 8, .m 5 10])
  (.seq (.reg [.m 11 1, .m 12 0, .m 13 5, .o 14 (.iadd 1 (.t 12) (.t 13)), .l 15 14, .o 16 (.bin .eql (.t 11) (.t 15))])
  (.cond (.t 16)
  (.seq (.reg [.m 17 5, .m 4 17])
  (.ret))
  (.skip)))))
  (.reg [.o 18 (.bin .add (.t 8) (.k (.c (.int .i64 1)))), .m 8 18])))))))
  (.seq (.reg [.o 4 (.mov (.k (.c (.int .i64 (-1)))))])
  (.ret)))
def r84 : List ResV := [.tmp 4]
theorem k84 : CodeIs Tryz.prog 84 2 Tryz.f84 c84 r84 := ⟨by kernel_rfl, Tryz.func84, rfl, by kernel_rfl, by kernel_rfl, by decide, enters_fn Tryz.func84 (by kernel_rfl) rfl⟩
/-- ty.variable -/
def c174 : AC :=
  .seq (.reg [.o 2 (.box (.k (.agg [.c (.int .i64 0), .c (.str []), .c (.int .i64 0), .csl []])))])
  (.seq (.reg [.m 3 0, .o 4 (.build [.c (.int .i64 0), .c (.str []), .c (.int .i64 0), .csl []] [(0, 1, (.k (.c (.int .i64 1)))), (2, 1, (.t 3))]), .s 4 2 4])
  (.ret))
def r174 : List ResV := [.celln 4 2]
theorem k174 : CodeIs Tryz.prog 174 1 Tryz.f174 c174 r174 := ⟨by kernel_rfl, Tryz.func174, rfl, by kernel_rfl, by kernel_rfl, by decide, enters_fn Tryz.func174 (by kernel_rfl) rfl⟩
/-- (*ty.reader).variable -/
def c162 : AC :=
  .seq (.reg [.o 4 (.box (.k (.agg [.c (.int .i64 0), .c (.str []), .c (.int .i64 0), .csl []])))])
  (.seq (.reg [.m 6 0, .n 7 6, .f 8 2 7, .l 9 8, .m 10 1, .k 11 84 [(.t 9), (.t 10)], .m 5 11])
  (.seq (.seq (.reg [.m 12 5, .o 13 (.bin .lss (.t 12) (.k (.c (.int .i64 0))))])
  (.cond (.t 13)
  (.seq (.reg [.m 14 0, .n 15 14, .f 16 2 15, .l 17 16, .o 18 (.lenr (.t 17)), .m 5 18])
  (.reg [.m 19 0, .m 20 0, .n 21 20, .f 22 2 21, .l 23 22, .m 24 1, .o 25 (.bsl 1 [(.t 24)]), .o 26 (.app 9 1 16 (.t 23) (.t 25)), .n 27 19, .f 28 2 27, .s 1 28 26]))
  (.skip)))
  (.seq (.reg [.m 29 5, .k 30 174 [(.t 29)], .s 4 4 30])
  (.ret))))
def r162 : List ResV := [.celln 4 4]
theorem k162 : CodeIs Tryz.prog 162 2 Tryz.f162 c162 r162 := ⟨by kernel_rfl, Tryz.func162, rfl, by kernel_rfl, by kernel_rfl, by decide, enters_fn Tryz.func162 (by kernel_rfl) rfl⟩
/-- (*ty.reader).inner -/
def c137 : AC :=
  .seq (.reg [.o 5 (.box (.t 2)), .o 6 (.box (.k (.agg [.c (.int .i64 0), .c (.str []), .c (.int .i64 0), .csl []])))])
  (.seq (.seq (.reg [.m 7 1, .o 8 (.bin .geq (.t 7) (.k (.c (.int .i64 200))))])
  (.cond (.t 8)
  (.seq (.reg [.m 9 0, .f 10 3 5, .l 11 10, .k 12 161 [(.t 9), (.k (.c (.int .i64 31))), (.t 11)]])
  (.seq (.reg [.o 13 (.build [.c (.int .i64 0), .c (.str []), .c (.int .i64 0), .csl []] []), .s 4 6 13])
  (.ret)))
  (.skip)))
  (.seq (.reg [.m 14 0, .m 15 1, .o 16 (.bin .add (.t 15) (.k (.c (.int .i64 1)))), .k 17 110 [(.t 14), (.t 16)], .s 4 6 17])
  (.ret)))
def r137 : List ResV := [.celln 4 6]
theorem k137 : CodeIs Tryz.prog 137 3 Tryz.f137 c137 r137 := ⟨by kernel_rfl, Tryz.func137, rfl, by kernel_rfl, by kernel_rfl, by decide, enters_fn Tryz.func137 (by kernel_rfl) rfl⟩
/-- (*ty.reader).atom -/
def c135 : AC :=
  .seq (.reg [.o 4 (.box (.k (.agg [.c (.int .i64 0), .c (.str []), .c (.int .i64 0), .csl []])))])
  (.seq (.reg [.m 8 0, .k 9 134 [(.t 8)], .o 5 (.box (.k (.agg [.c (.int .i64 0), .c (.str []), .c (.int .i64 0), .c (.int .i64 0)]))), .s 4 5 9])
  (.seq (.seq (.reg [.m 10 0, .k 11 136 [(.t 10)], .o 12 (.un .not (.t 11))])
  (.cond (.t 12)
  (.seq (.reg [.m 13 0, .f 14 3 5, .l 15 14, .k 16 161 [(.t 13), (.k (.c (.int .i64 50))), (.t 15)]])
  (.seq (.reg [.o 17 (.build [.c (.int .i64 0), .c (.str []), .c (.int .i64 0), .csl []] []), .s 4 4 17])
  (.ret)))
  (.skip)))
  (.seq (.reg [.m 18 0, .n 19 18, .f 20 1 19, .l 21 20, .o 22 (.bin .add (.t 21) (.k (.c (.int .i64 1)))), .n 23 18, .f 24 1 23, .s 1 24 22])
  (.seq (.seq (.reg [.f 25 0 5, .l 26 25])
  (.block 0 (.seq (.reg [.o 28 (.bin .eql (.t 26) (.k (.c (.int .i64 1)))), .m 27 28])
  (.cond (.t 27)
  (.seq (.reg [.f 29 1 5, .l 30 29, .o 31 (.build [.c (.int .i64 0), .c (.str []), .c (.int .i64 0), .csl []] [(0, 1, (.k (.c (.int .i64 0)))), (1, 1, (.t 30))]), .s 4 4 31])
  (.ret))
  (.seq (.reg [.o 33 (.bin .eql (.t 26) (.k (.c (.int .i64 2)))), .m 32 33])
  (.cond (.t 32)
  (.seq (.reg [.m 34 0, .f 35 1 5, .l 36 35, .k 37 162 [(.t 34), (.t 36)], .s 4 4 37])
  (.ret))
  (.skip)))))))
  (.seq (.reg [.m 38 0, .m 39 1, .d 40 4 5, .k 41 137 [(.t 38), (.t 39), (.t 40)], .o 6 (.box (.k (.agg [.c (.int .i64 0), .c (.str []), .c (.int .i64 0), .csl []]))), .s 4 6 41])
  (.seq (.seq (.reg [.m 42 0, .k 43 134 [(.t 42)], .o 7 (.box (.k (.agg [.c (.int .i64 0), .c (.str []), .c (.int .i64 0), .c (.int .i64 0)]))), .s 4 7 43])
  (.seq (.reg [.f 44 0 7, .l 45 44, .o 46 (.bin .neq (.t 45) (.k (.c (.int .i64 6))))])
  (.cond (.t 46)
  (.reg [.m 47 0, .f 48 3 7, .l 49 48, .k 50 161 [(.t 47), (.k (.c (.int .i64 50))), (.t 49)]])
  (.skip))))
  (.seq (.reg [.m 51 0, .n 52 51, .f 53 1 52, .l 54 53, .o 55 (.bin .add (.t 54) (.k (.c (.int .i64 1)))), .n 56 51, .f 57 1 56, .s 1 57 55])
  (.seq (.reg [.d 58 4 6, .s 4 4 58])
  (.ret)))))))))
def r135 : List ResV := [.celln 4 4]
theorem k135 : CodeIs Tryz.prog 135 2 Tryz.f135 c135 r135 := ⟨by kernel_rfl, Tryz.func135, rfl, by kernel_rfl, by kernel_rfl, by decide, enters_fn Tryz.func135 (by kernel_rfl) rfl⟩
/-- (*ty.reader).read -/
def c110 : AC :=
  .seq (.reg [.o 4 (.box (.k (.agg [.c (.int .i64 0), .c (.str []), .c (.int .i64 0), .csl []])))])
  (.seq (.reg [.m 8 0, .k 9 134 [(.t 8)], .o 10 (.field1 0 (.t 9)), .o 11 (.bin .eql (.t 10) (.k (.c (.int .i64 1)))), .m 5 11])
  (.seq (.reg [.m 12 0, .m 13 1, .k 14 135 [(.t 12), (.t 13)], .o 6 (.box (.k (.agg [.c (.int .i64 0), .c (.str []), .c (.int .i64 0), .csl []]))), .s 4 6 14])
  (.seq (.block 0 (.loop (.seq (.seq (.reg [.m 15 5, .m 16 15, .y 17 (.mov (.t 0)) 16, .y 18 (.nilck (.t 17)) 16, .y 19 (.fadd 3 (.t 18)) 16, .y 20 (.load1 (.t 19)) 16, .y 21 (.bin .eql (.t 20) (.k (.c (.int .i64 0)))) 16, .o 22 (.pick (.t 16) (.t 21) (.k (.c (.bool false)))), .m 23 22, .y 24 (.mov (.t 0)) 23, .y 25 (.call (.k (.fn 136 [])) [(.t 24)]) 23, .o 26 (.pick (.t 23) (.t 25) (.k (.c (.bool false))))])
  (.cond (.t 26)
  (.skip)
  (.exit 0)))
  (.block 1 (.dreg [.f 27 3 6, .l 28 27, .m 29 0, .m 30 1, .k 31 135 [(.t 29), (.t 30)], .o 32 (.bsl 4 [(.t 31)]), .o 33 (.app 42 4 56 (.t 28) (.t 32)), .f 34 3 6, .s 1 34 33]
    [.q (.m 29 0), .q (.m 30 1), ⟨.k 31 135 [(.t 29), (.t 30)], true, 0⟩, .q (.f 27 3 6), .q (.l 28 27), ⟨.o 32 (.bsl 4 [(.t 31)]), false, 1⟩, ⟨.o 33 (.app 42 4 56 (.t 28) (.t 32)), true, 1⟩, ⟨.f 34 3 6, false, 2⟩, ⟨.s 1 34 33, true, 2⟩])))))
  (.seq (.reg [.m 35 0, .k 36 134 [(.t 35)], .o 7 (.box (.k (.agg [.c (.int .i64 0), .c (.str []), .c (.int .i64 0), .c (.int .i64 0)]))), .s 4 7 36])
  (.seq (.seq (.reg [.m 37 0, .n 38 37, .f 39 3 38, .l 40 39, .o 41 (.bin .neq (.t 40) (.k (.c (.int .i64 0)))), .m 42 41, .z 43 (.fadd 0 (.t 7)) 42, .z 44 (.load1 (.t 43)) 42, .z 45 (.bin .neq (.t 44) (.k (.c (.int .i64 4)))) 42, .o 46 (.pick (.t 42) (.k (.c (.bool true))) (.t 45)), .m 47 46, .z 48 (.fadd 1 (.t 7)) 47, .z 49 (.load1 (.t 48)) 47, .z 50 (.bin .neq (.t 49) (.k (.c (.str [45, 62])))) 47, .o 51 (.pick (.t 47) (.k (.c (.bool true))) (.t 50))])
  (.cond (.t 51)
  (.seq (.reg [.d 52 4 6, .s 4 4 52])
  (.ret))
  (.skip)))
  (.seq (.reg [.m 53 0, .n 54 53, .f 55 1 54, .l 56 55, .o 57 (.bin .add (.t 56) (.k (.c (.int .i64 1)))), .n 58 53, .f 59 1 58, .s 1 59 57])
  (.seq (.dreg [.m 60 0, .m 61 1, .d 62 4 7, .k 63 137 [(.t 60), (.t 61), (.t 62)], .d 64 4 6, .o 65 (.bsl 4 [(.t 64)]), .k 66 12 [(.t 63), (.t 65)], .s 4 4 66]
    [.q (.m 60 0), .q (.m 61 1), .q (.d 62 4 7), ⟨.k 63 137 [(.t 60), (.t 61), (.t 62)], true, 0⟩, .q (.d 64 4 6), .q (.o 65 (.bsl 4 [(.t 64)])), ⟨.k 66 12 [(.t 63), (.t 65)], true, 1⟩, ⟨.s 4 4 66, true, 2⟩])
  (.ret))))))))
def r110 : List ResV := [.celln 4 4]
theorem k110 : CodeIs Tryz.prog 110 2 Tryz.f110 c110 r110 := ⟨by kernel_rfl, Tryz.func110, rfl, by kernel_rfl, by kernel_rfl, by decide, enters_fn Tryz.func110 (by kernel_rfl) rfl⟩
/-- ty.Read -/
def c89 : AC :=
  .seq (.reg [.o 4 (.box (.k (.agg [.c (.int .i64 0), .c (.str []), .c (.int .i64 0), .csl []]))), .o 5 (.mov (.k (.c (.int .i64 0)))), .o 6 (.mov (.k (.c (.int .i64 0)))), .o 7 (.mov (.k (.c (.int .i64 0))))])
  (.seq (.reg [.m 10 0, .m 11 1, .o 12 (.build [.csl [], .c (.int .i64 0), .csl [], .c (.int .i64 0), .c (.int .i64 0)] [(0, 1, (.t 10)), (1, 1, (.t 11))]), .o 13 (.box (.t 12)), .m 8 13])
  (.seq (.reg [.m 14 8, .k 15 110 [(.t 14), (.k (.c (.int .i64 0)))], .o 9 (.box (.k (.agg [.c (.int .i64 0), .c (.str []), .c (.int .i64 0), .csl []]))), .s 4 9 15])
  (.seq (.seq (.reg [.m 16 8, .n 17 16, .f 18 3 17, .l 19 18, .o 20 (.bin .neq (.t 19) (.k (.c (.int .i64 0))))])
  (.cond (.t 20)
  (.seq (.dreg [.o 21 (.build [.c (.int .i64 0), .c (.str []), .c (.int .i64 0), .csl []] []), .m 22 1, .m 23 8, .n 24 23, .f 25 3 24, .l 26 25, .m 27 8, .n 28 27, .f 29 4 28, .l 30 29, .s 4 4 21, .m 5 22, .m 6 26, .m 7 30]
    [.q (.o 21 (.build [.c (.int .i64 0), .c (.str []), .c (.int .i64 0), .csl []] [])), ⟨.s 4 4 21, true, 0⟩, .q (.m 22 1), .q (.m 23 8), .q (.n 24 23), .q (.f 25 3 24), .q (.l 26 25), .q (.m 27 8), .q (.n 28 27), .q (.f 29 4 28), .q (.l 30 29), ⟨.m 5 22, false, 1⟩, ⟨.m 6 26, false, 1⟩, ⟨.m 7 30, false, 1⟩])
  (.ret))
  (.skip)))
  (.seq (.dreg [.d 31 4 9, .m 32 8, .n 33 32, .f 34 1 33, .l 35 34, .s 4 4 31, .m 5 35, .o 6 (.mov (.k (.c (.int .i64 0)))), .o 7 (.mov (.k (.c (.int .i64 0))))]
    [.q (.d 31 4 9), ⟨.s 4 4 31, true, 0⟩, .q (.m 32 8), .q (.n 33 32), .q (.f 34 1 33), .q (.l 35 34), ⟨.m 5 35, false, 1⟩, ⟨.o 6 (.mov (.k (.c (.int .i64 0)))), false, 1⟩, ⟨.o 7 (.mov (.k (.c (.int .i64 0)))), false, 1⟩])
  (.ret)))))
def r89 : List ResV := [.celln 4 4, .tmp 5, .tmp 6, .tmp 7]
theorem k89 : CodeIs Tryz.prog 89 2 Tryz.f89 c89 r89 := ⟨by kernel_rfl, Tryz.func89, rfl, by kernel_rfl, by kernel_rfl, by decide, enters_fn Tryz.func89 (by kernel_rfl) rfl⟩
end Go.Proofs.YtapnncbenhkicaaGreatDoor
namespace Go.Proofs.YtapnncbenhkicaaGreatDoor
open Go.RowKit Go.Lamb
/-- ops.Find$1 -/
def c147 : AC :=
  .seq (.reg [.o 2 (.box (.t 0)), .o 3 (.mov (.k (.c (.bool false))))])
  (.seq (.reg [.f 4 0 2, .l 5 4, .l 6 1, .o 7 (.bin .eql (.t 5) (.t 6)), .m 3 7])
  (.ret))
def r147 : List ResV := [.tmp 3]
theorem k147 : CodeIs Tryz.prog 147 2 Tryz.f147 c147 r147 := ⟨by kernel_rfl, Tryz.func147, rfl, by kernel_rfl, by kernel_rfl, by decide, enters_fn Tryz.func147 (by kernel_rfl) rfl⟩
/-- slices.IndexFunc[[]api.Op,api.Op] -/
def c146 : AC :=
  .seq (.reg [.o 4 (.mov (.k (.c (.int .i64 0))))])
  (.seq (.seq (.reg [.m 6 0, .o 7 (.lenr (.t 6)), .o 8 (.mov (.k (.c (.int .i64 0))))])
  (.block 0 (.loop (.seq (.reg [.o 9 (.bin .lss (.t 8) (.t 7))])
  (.seq (.cond (.t 9)
  (.skip)
  (.exit 0))
  (.seq (.block 1 (.seq (.reg [.m 10 8, .m 5 10])
  (.seq (.reg [.m 11 1, .m 12 0, .m 13 5, .o 14 (.iadd 3 (.t 12) (.t 13)), .d 15 3 14, .o 16 (.call (.t 11) [(.t 15)])])
  (.cond (.t 16)
  (.seq (.reg [.m 17 5, .m 4 17])
  (.ret))
  (.skip)))))
  (.reg [.o 18 (.bin .add (.t 8) (.k (.c (.int .i64 1)))), .m 8 18])))))))
  (.seq (.reg [.o 4 (.mov (.k (.c (.int .i64 (-1)))))])
  (.ret)))
def r146 : List ResV := [.tmp 4]
theorem k146 : CodeIs Tryz.prog 146 2 Tryz.f146 c146 r146 := ⟨by kernel_rfl, Tryz.func146, rfl, by kernel_rfl, by kernel_rfl, by decide, enters_fn Tryz.func146 (by kernel_rfl) rfl⟩
/-- ops.Find -/
def c116 : AC :=
  .seq (.reg [.o 3 (.box (.t 1)), .o 4 (.box (.k (.agg [.c (.str []), .c (.int .i64 0), .c (.int .i64 0)]))), .o 5 (.mov (.k (.c (.bool false))))])
  (.seq (.reg [.m 7 0, .o 8 (.mkfn 147 [(.t 3)]), .k 9 146 [(.t 7), (.t 8)], .m 6 9])
  (.seq (.seq (.reg [.m 10 6, .o 11 (.bin .lss (.t 10) (.k (.c (.int .i64 0))))])
  (.cond (.t 11)
  (.seq (.reg [.o 12 (.build [.c (.str []), .c (.int .i64 0), .c (.int .i64 0)] []), .s 3 4 12, .o 5 (.mov (.k (.c (.bool false))))])
  (.ret))
  (.skip)))
  (.seq (.reg [.m 13 0, .m 14 6, .o 15 (.iadd 3 (.t 13) (.t 14)), .d 16 3 15, .s 3 4 16, .o 5 (.mov (.k (.c (.bool true))))])
  (.ret))))
def r116 : List ResV := [.celln 3 4, .tmp 5]
theorem k116 : CodeIs Tryz.prog 116 2 Tryz.f116 c116 r116 := ⟨by kernel_rfl, Tryz.func116, rfl, by kernel_rfl, by kernel_rfl, by decide, enters_fn Tryz.func116 (by kernel_rfl) rfl⟩
--absent /-- ref02.Find -/
/-- ops.Is -/
def c166 : AC :=
  .seq (.reg [.o 3 (.box (.t 1)), .o 4 (.box (.k (.agg [.c (.str []), .c (.int .i64 0), .c (.int .i64 0)]))), .o 5 (.mov (.k (.c (.bool false))))])
  (.seq (.seq (.reg [.f 6 0 3, .l 7 6])
  (.block 0 (.seq (.seq (.reg [.o 9 (.bin .eql (.t 7) (.k (.c (.int .i64 1)))), .m 8 9])
  (.cond (.t 8)
  (.skip)
  (.reg [.o 10 (.bin .eql (.t 7) (.k (.c (.int .i64 4)))), .m 8 10])))
  (.cond (.t 8)
  (.seq (.reg [.m 11 0, .f 12 1 3, .l 13 12, .k 14 116 [(.t 11), (.t 13)], .x 15 14 0, .x 16 14 1, .s 3 4 15, .m 5 16])
  (.ret))
  (.skip)))))
  (.seq (.reg [.o 17 (.build [.c (.str []), .c (.int .i64 0), .c (.int .i64 0)] []), .s 3 4 17, .o 5 (.mov (.k (.c (.bool false))))])
  (.ret)))
def r166 : List ResV := [.celln 3 4, .tmp 5]
theorem k166 : CodeIs Tryz.prog 166 2 Tryz.f166 c166 r166 := ⟨by kernel_rfl, Tryz.func166, rfl, by kernel_rfl, by kernel_rfl, by decide, enters_fn Tryz.func166 (by kernel_rfl) rfl⟩
--absent /-- ref02.Is -/
/-- ops.beside -/
def c167 : AC :=
  .seq (.reg [.o 3 (.box (.t 0)), .o 4 (.box (.t 1)), .o 6 (.mov (.k (.c (.bool false))))])
  (.seq (.reg [.f 7 1 4, .l 8 7, .f 9 1 3, .l 10 9, .o 11 (.bin .gtr (.t 8) (.t 10)), .m 12 11, .z 13 (.fadd 1 (.t 4)) 12, .z 14 (.load1 (.t 13)) 12, .z 15 (.fadd 1 (.t 3)) 12, .z 16 (.load1 (.t 15)) 12, .z 17 (.bin .eql (.t 14) (.t 16)) 12, .z 18 (.mov (.t 17)) 12, .y 19 (.fadd 2 (.t 3)) 18, .y 20 (.load1 (.t 19)) 18, .y 21 (.mov (.t 2)) 18, .y 22 (.bin .eql (.t 20) (.t 21)) 18, .z 23 (.pick (.t 18) (.t 22) (.k (.c (.bool false)))) 12, .z 24 (.mov (.t 23)) 12, .y 25 (.fadd 2 (.t 4)) 24, .y 26 (.load1 (.t 25)) 24, .y 27 (.mov (.t 2)) 24, .y 28 (.bin .eql (.t 26) (.t 27)) 24, .z 29 (.pick (.t 24) (.t 28) (.k (.c (.bool false)))) 12, .o 30 (.pick (.t 12) (.k (.c (.bool true))) (.t 29)), .m 6 30])
  (.ret))
def r167 : List ResV := [.tmp 6]
theorem k167 : CodeIs Tryz.prog 167 3 Tryz.f167 c167 r167 := ⟨by kernel_rfl, Tryz.func167, rfl, by kernel_rfl, by kernel_rfl, by decide, enters_fn Tryz.func167 (by kernel_rfl) rfl⟩
/-- ops.Left -/
def c142 : AC :=
  .seq (.reg [.o 2 (.box (.t 0)), .o 3 (.box (.t 1)), .o 4 (.mov (.k (.c (.bool false))))])
  (.seq (.reg [.d 5 3 2, .d 6 3 3, .k 7 167 [(.t 5), (.t 6), (.k (.c (.int .i64 1)))], .m 4 7])
  (.ret))
def r142 : List ResV := [.tmp 4]
theorem k142 : CodeIs Tryz.prog 142 2 Tryz.f142 c142 r142 := ⟨by kernel_rfl, Tryz.func142, rfl, by kernel_rfl, by kernel_rfl, by decide, enters_fn Tryz.func142 (by kernel_rfl) rfl⟩
/-- ops.Right -/
def c144 : AC :=
  .seq (.reg [.o 2 (.box (.t 0)), .o 3 (.box (.t 1)), .o 4 (.mov (.k (.c (.bool false))))])
  (.seq (.reg [.d 5 3 2, .d 6 3 3, .k 7 167 [(.t 5), (.t 6), (.k (.c (.int .i64 2)))], .m 4 7])
  (.ret))
def r144 : List ResV := [.tmp 4]
theorem k144 : CodeIs Tryz.prog 144 2 Tryz.f144 c144 r144 := ⟨by kernel_rfl, Tryz.func144, rfl, by kernel_rfl, by kernel_rfl, by decide, enters_fn Tryz.func144 (by kernel_rfl) rfl⟩
--absent /-- ref02.Left -/
--absent /-- ref02.Right -/
end Go.Proofs.YtapnncbenhkicaaGreatDoor
namespace Go.Proofs.YtapnncbenhkicaaGreatDoor
open Go.RowKit Go.Lamb
attribute [local go_sem] advO_skip advO_reg advO_seq advO_block advO_exit advO_endb advO_opsNil advO_ops advG_yes advG_no advG_none advS_some advS_none advO_cond advO_loop advO_dreg advO_ret advO_bad advO_inv advO_nil advO_zero wantedV Lamb.step ev_t ev_k put_some put_none argEnv popTo cellsAt V.cellsV V.rows V.toC toCs fillV bytesC byteRows appV rowsV boundV boundL binV binInt binStr eqC eqL V.isNil leaves V.leaf Ins.quiet Ins.pure List.getD_cons_zero List.getD_cons_succ List.getD_nil List.all_cons List.all_nil List.length_cons List.length_nil List.take_succ_cons List.take_zero List.drop_succ_cons List.drop_zero List.cons_append List.nil_append List.append_nil List.append_assoc List.map_cons List.map_nil List.getElem?_cons_zero List.getElem?_cons_succ List.length_append List.length_set hget0 hget hset0 hset hsets hgs0 hgs hss0 hss List.set_cons_zero List.set_cons_succ List.forall_mem_cons List.not_mem_nil false_implies implies_true Option.map_some Bool.and_true Bool.true_and Bool.not_not Bool.not_true Bool.not_false Bool.and_self Bool.or_true Bool.true_or Bool.or_false Bool.false_or Bool.and_false Bool.false_and Bool.false_eq_true beq_self_eq_true and_self and_true true_and if_true if_false Nat.zero_add Nat.add_zero Nat.le_refl Int.toNat_natCast decide_true decide_false beq_t beq_f List.length_map List.getElem?_map I S B opsC toksC OpT.v OpT.cs OpT.zero Tok.v Tok.cs Pre.v Pre.cs_eq k_mk name_mk n_mk l_mk pos_mk Pre.app applyL natCast0 natCast1 natCast2 AOp.o AOp.m AOp.f AOp.l AOp.d AOp.n AOp.x AOp.s AOp.k AOp.y AOp.z EOp.q low_c low_void low_any low_csl low_nilf low_ptr low_osl low_agg low_tup low_fn resEval advPO_nil advPO_loud advPO_quiet pL_yes pL_no pLS_some pLS_none pQ_yes pQ_no pQS_some pQS_loud eq_self Nat.sub_zero

theorem ops_Find1 (w0 : World) (o : OpT) (name : List UInt8) (σ : H) (b : Nat) (hb : σ[b]? = some (.cells [S name])) : DC Tryz.prog w0 147 [o.v, .ptr b 0] σ (Same (B (o.name == name)) σ) := by
  have hlt := (List.getElem?_eq_some_iff.1 hb).1
  have hg := fun L => hgetb (σ := σ) L hlt
  refine k147.go rfl (fun hok hsz => ?_)
  ((try refine W.a ?_); simp only [go_sem, seval, reduceCtorEq, c147, OpT.v, hg, hb, S])
  (refine W.ret (Fin.same hok (by simp only [resEval, r147, go_sem, seval, reduceCtorEq]; rfl) ?_ (by first | exact .c _ | (simp only [go_sem, seval, reduceCtorEq]; done)) (by first | exact ⟨[], (List.append_nil _).symm⟩ | exact ⟨_, rfl⟩)); simp only [resV])
theorem IndexFunc_op (w0 : World) (l : List OpT) (f : FuncId) (caps : List V) (p : OpT → Bool) (σ : H) (hp : ∀ o ∈ l, DC Tryz.prog w0 f (o.v :: caps) σ (Same (B (p o)) σ)) : DC Tryz.prog w0 146 [.c (opsC l), .fn f caps] σ (Same (I (idxI p l)) σ) := by
  refine k146.go rfl (fun hok hsz => ?_)
  have hlen : l.length ≤ maxLen := by
    have := hsz _ (List.mem_cons_self ..)
    rw [opsC, sz_c, sz_sl] at this
    simpa using this.1
  unfold maxLen at hlen
  ((try refine W.a ?_); simp only [go_sem, seval, reduceCtorEq, c146, opsC])
  refine W.loopP (fun i => i ≤ l.length ∧ UpTo p l i) (fun i => ⟨((((base.put (some 0) (.c (.sl (l.map OpT.cs)))).put (some 1) (.fn f caps)).put (some 7) (I l.length)).put (some 8) (I i)), σ⟩) (fun i => l.length - i) 0 ⟨Nat.zero_le _, upTo_zero⟩ ?_ (fun i hi => ?_)
  · (refine Lew.env ?_; exact lee_here)
  · obtain ⟨hi, hinv⟩ := hi
    by_cases hlt : i < l.length
    · have h1 : ((i : Int) < (l.length : Int)) := by omega
      ((try refine W.a ?_); simp only [go_sem, seval, reduceCtorEq, I, h1])
      refine W.yes rfl ?_
      have hx : l[i]? = some l[i] := List.getElem?_eq_getElem hlt
      have h0 : (0 : Int) ≤ (i : Int) := by omega
      ((try refine W.a ?_); simp only [go_sem, seval, reduceCtorEq, I, h1, h0, hx, OpT.cs])
      (refine W.c1 (hp l[i] (List.getElem_mem hlt)) ?_; simp only [go_sem, seval, reduceCtorEq])
      refine W.test rfl (fun h => ?_) (fun h => ?_)
      · ((try refine W.a ?_); simp only [go_sem, seval, reduceCtorEq, I])
        (refine W.ret (Fin.same hok (by simp only [resEval, r146, go_sem, seval, reduceCtorEq]; rfl) ?_ (by first | exact .c _ | (simp only [go_sem, seval, reduceCtorEq]; done)) (by first | exact ⟨[], (List.append_nil _).symm⟩ | exact ⟨_, rfl⟩)); simp only [resV])
        rw [idxI_at hinv hlt h]
      · have hw : IntKind.i64.wrap (((i : Nat) : Int) + 1) = ((i + 1 : Nat) : Int) := by rw [wrap_in] <;> omega
        ((try refine W.a ?_); simp only [go_sem, seval, reduceCtorEq, I, hw])
        refine .inv ⟨i + 1, ⟨hlt, upTo_next hinv hlt h⟩, by omega, ?_⟩
        (refine Lew.env ?_; exact lee_here)
    · have h1 : ¬ ((i : Int) < (l.length : Int)) := by omega
      ((try refine W.a ?_); simp only [go_sem, seval, reduceCtorEq, I, h1])
      refine W.no rfl ?_
      ((try refine W.a ?_); simp only [go_sem, seval, reduceCtorEq, I])
      (refine W.ret (Fin.same hok (by simp only [resEval, r146, go_sem, seval, reduceCtorEq]; rfl) ?_ (by first | exact .c _ | (simp only [go_sem, seval, reduceCtorEq]; done)) (by first | exact ⟨[], (List.append_nil _).symm⟩ | exact ⟨_, rfl⟩)); simp only [resV])
      rw [idxI_none (fun j hj => hinv j hj (by omega))]
theorem ops_Find (w0 : World) (l : List OpT) (name : List UInt8) (σ : H) : DC Tryz.prog w0 116 [.c (opsC l), S name] σ (Same (foundV (findL l name)) σ) := by
  refine k116.go rfl (fun hok hsz => ?_)
  ((try refine W.a ?_); simp only [go_sem, seval, reduceCtorEq, c116, opsC])
  have hc := fun n (h : idxI (fun o : OpT => o.name == name) l = n) L => (h ▸ IndexFunc_op w0 l 147 [.ptr σ.length 0] (fun o => o.name == name) (σ ++ Blk.cells [S name] :: L) (fun o _ => ops_Find1 w0 o name _ _ (hget0 σ _)) : DC _ _ _ _ _ (Same (I n) (σ ++ Blk.cells [S name] :: L)))
  rcases idxI_cases (fun o => o.name == name) l with ⟨h, h'⟩ | ⟨i, hi, h, h'⟩
  · (refine W.c1 (hc _ h _) ?_; simp only [go_sem, seval, reduceCtorEq, show ((-1 : Int) < 0) = True from by decide])
    refine W.yes rfl ?_
    ((try refine W.a ?_); simp only [go_sem, seval, reduceCtorEq])
    (refine W.ret (Fin.same hok (by simp only [resEval, r116, go_sem, seval, reduceCtorEq]; rfl) ?_ (by first | exact .c _ | (simp only [go_sem, seval, reduceCtorEq, foundV, OpT.v]; done)) (by first | exact ⟨[], (List.append_nil _).symm⟩ | exact ⟨_, rfl⟩)); simp only [resV, foundV, OpT.v])
    simp only [findL, h']; rfl
  · have h1 : ¬ ((i : Int) < 0) := by omega
    have h2 : (i : Int) < (l.length : Int) := by omega
    have h0 : (0 : Int) ≤ (i : Int) := by omega
    have hx : l[i]? = some l[i] := List.getElem?_eq_getElem hi
    (refine W.c1 (hc _ h _) ?_; simp only [go_sem, seval, reduceCtorEq, h1])
    refine W.no rfl ?_
    ((try refine W.a ?_); simp only [go_sem, seval, reduceCtorEq, h0, h2, hx, OpT.cs])
    (refine W.ret (Fin.same hok (by simp only [resEval, r116, go_sem, seval, reduceCtorEq]; rfl) ?_ (by first | exact .c _ | (simp only [go_sem, seval, reduceCtorEq, foundV, OpT.v]; done)) (by first | exact ⟨[], (List.append_nil _).symm⟩ | exact ⟨_, rfl⟩)); simp only [resV, foundV, OpT.v])
    simp only [findL, h']; rfl
theorem opOf_yes {l : List OpT} {t : Tok} (h : t.kind = 1 ∨ t.kind = 4) : opOf l t = findL l t.text := by rw [opOf, if_pos h]
theorem opOf_no {l : List OpT} {t : Tok} (h : ¬ (t.kind = 1 ∨ t.kind = 4)) : opOf l t = none := by rw [opOf, if_neg h]
theorem ops_Is (w0 : World) (l : List OpT) (t : Tok) (σ : H) : DC Tryz.prog w0 166 [.c (opsC l), t.v] σ (Same (foundV (opOf l t)) σ) := by
  refine k166.go rfl (fun hok hsz => ?_)
  cases h1 : (t.kind == 1)
  · cases h2 : (t.kind == 4)
    · have hk : ¬ (t.kind = 1 ∨ t.kind = 4) := by
        simp only [beq_eq_false_iff_ne] at h1 h2
        rintro (h | h)
        · exact h1 h
        · exact h2 h
      ((try refine W.a ?_); simp only [go_sem, seval, reduceCtorEq, c166, h1])
      refine W.no rfl ?_
      ((try refine W.a ?_); simp only [go_sem, seval, reduceCtorEq, h2])
      refine W.no rfl ?_
      ((try refine W.a ?_); simp only [go_sem, seval, reduceCtorEq])
      (refine W.ret (Fin.same hok (by simp only [resEval, r166, go_sem, seval, reduceCtorEq]; rfl) ?_ (by first | exact .c _ | (simp only [go_sem, seval, reduceCtorEq, foundV, OpT.v]; done)) (by first | exact ⟨[], (List.append_nil _).symm⟩ | exact ⟨_, rfl⟩)); simp only [resV, foundV, OpT.v])
      rw [opOf_no hk]; rfl
    · have hk : t.kind = 1 ∨ t.kind = 4 := .inr (by simpa using h2)
      ((try refine W.a ?_); simp only [go_sem, seval, reduceCtorEq, c166, h1])
      refine W.no rfl ?_
      ((try refine W.a ?_); simp only [go_sem, seval, reduceCtorEq, h2])
      refine W.yes rfl ?_
      ((try refine W.a ?_); simp only [go_sem, seval, reduceCtorEq])
      (refine W.c1 (ops_Find w0 l t.text _) ?_; simp only [go_sem, seval, reduceCtorEq, foundV])
      (refine W.ret (Fin.same hok (by simp only [resEval, r166, go_sem, seval, reduceCtorEq]; rfl) ?_ (by first | exact .c _ | (simp only [go_sem, seval, reduceCtorEq, foundV, OpT.v]; done)) (by first | exact ⟨[], (List.append_nil _).symm⟩ | exact ⟨_, rfl⟩)); simp only [resV, foundV, OpT.v])
      rw [opOf_yes hk]
  · have hk : t.kind = 1 ∨ t.kind = 4 := .inl (by simpa using h1)
    ((try refine W.a ?_); simp only [go_sem, seval, reduceCtorEq, c166, h1])
    refine W.yes rfl ?_
    ((try refine W.a ?_); simp only [go_sem, seval, reduceCtorEq])
    refine W.yes rfl ?_
    ((try refine W.a ?_); simp only [go_sem, seval, reduceCtorEq])
    (refine W.c1 (ops_Find w0 l t.text _) ?_; simp only [go_sem, seval, reduceCtorEq, foundV])
    (refine W.ret (Fin.same hok (by simp only [resEval, r166, go_sem, seval, reduceCtorEq]; rfl) ?_ (by first | exact .c _ | (simp only [go_sem, seval, reduceCtorEq, foundV, OpT.v]; done)) (by first | exact ⟨[], (List.append_nil _).symm⟩ | exact ⟨_, rfl⟩)); simp only [resV, foundV, OpT.v])
    rw [opOf_yes hk]
theorem ops_beside (w0 : World) (a b : OpT) (fix : Int) (σ : H) : DC Tryz.prog w0 167 [a.v, b.v, I fix] σ (Same (B (besideL a b fix)) σ) := by
  refine k167.go rfl (fun hok hsz => ?_)
  cases h1 : decide (b.prec > a.prec) <;> cases h2 : (b.prec == a.prec) <;> cases h3 : (a.fix == fix) <;> cases h4 : (b.fix == fix)
  all_goals
    ((try refine W.a ?_); simp only [go_sem, seval, reduceCtorEq, c167, h1, h2, h3, h4])
    (refine W.ret (Fin.same hok (by simp only [resEval, r167, go_sem, seval, reduceCtorEq]; rfl) ?_ (by first | exact .c _ | (simp only [go_sem, seval, reduceCtorEq]; done)) (by first | exact ⟨[], (List.append_nil _).symm⟩ | exact ⟨_, rfl⟩)); simp only [resV])
    simp_all [besideL]
theorem ops_Left (w0 : World) (a b : OpT) (σ : H) : DC Tryz.prog w0 142 [a.v, b.v] σ (Same (B (besideL a b 1)) σ) := by
  refine k142.go rfl (fun hok hsz => ?_)
  ((try refine W.a ?_); simp only [go_sem, seval, reduceCtorEq, c142])
  (refine W.c1 (ops_beside w0 a b 1 _) ?_; simp only [go_sem, seval, reduceCtorEq])
  (refine W.ret (Fin.same hok (by simp only [resEval, r142, go_sem, seval, reduceCtorEq]; rfl) ?_ (by first | exact .c _ | (simp only [go_sem, seval, reduceCtorEq]; done)) (by first | exact ⟨[], (List.append_nil _).symm⟩ | exact ⟨_, rfl⟩)); simp only [resV])
theorem ops_Right (w0 : World) (a b : OpT) (σ : H) : DC Tryz.prog w0 144 [a.v, b.v] σ (Same (B (besideL a b 2)) σ) := by
  refine k144.go rfl (fun hok hsz => ?_)
  ((try refine W.a ?_); simp only [go_sem, seval, reduceCtorEq, c144])
  (refine W.c1 (ops_beside w0 a b 2 _) ?_; simp only [go_sem, seval, reduceCtorEq])
  (refine W.ret (Fin.same hok (by simp only [resEval, r144, go_sem, seval, reduceCtorEq]; rfl) ?_ (by first | exact .c _ | (simp only [go_sem, seval, reduceCtorEq]; done)) (by first | exact ⟨[], (List.append_nil _).symm⟩ | exact ⟨_, rfl⟩)); simp only [resV])
end Go.Proofs.YtapnncbenhkicaaGreatDoor
namespace Go.Proofs.YtapnncbenhkicaaGreatDoor
open Go.RowKit Go.Lamb
/-- (*read.reader).tok -/
def c140 : AC :=
  .seq (.reg [.o 4 (.box (.k (.agg [.c (.int .i64 0), .c (.str []), .c (.int .i64 0), .c (.int .i64 0)])))])
  (.seq (.seq (.reg [.m 6 0, .n 7 6, .f 8 2 7, .l 9 8, .m 10 1, .o 11 (.bin .add (.t 9) (.t 10)), .m 5 11])
  (.seq (.reg [.m 12 5, .o 13 (.bin .leq (.k (.c (.int .i64 0))) (.t 12)), .m 14 13, .y 15 (.mov (.t 5)) 14, .y 16 (.mov (.t 0)) 14, .y 17 (.nilck (.t 16)) 14, .y 18 (.fadd 1 (.t 17)) 14, .y 19 (.load1 (.t 18)) 14, .y 20 (.lenr (.t 19)) 14, .y 21 (.bin .lss (.t 15) (.t 20)) 14, .o 22 (.pick (.t 14) (.t 21) (.k (.c (.bool false))))])
  (.cond (.t 22)
  (.seq (.reg [.m 23 0, .n 24 23, .f 25 1 24, .l 26 25, .m 27 5, .o 28 (.iadd 4 (.t 26) (.t 27)), .d 29 4 28, .s 4 4 29])
  (.ret))
  (.skip))))
  (.seq (.seq (.reg [.m 30 0, .n 31 30, .f 32 1 31, .l 33 32, .o 34 (.lenr (.t 33)), .o 35 (.bin .gtr (.t 34) (.k (.c (.int .i64 0))))])
  (.cond (.t 35)
  (.seq (.dreg [.m 36 0, .n 37 36, .f 38 1 37, .l 39 38, .m 40 0, .n 41 40, .f 42 1 41, .l 43 42, .o 44 (.lenr (.t 43)), .o 45 (.bin .sub (.t 44) (.k (.c (.int .i64 1)))), .o 46 (.iadd 4 (.t 39) (.t 45)), .f 47 3 46, .l 48 47, .o 49 (.build [.c (.int .i64 0), .c (.str []), .c (.int .i64 0), .c (.int .i64 0)] [(3, 1, (.t 48))]), .s 4 4 49]
    [.q (.m 36 0), .q (.n 37 36), .q (.f 38 1 37), .q (.l 39 38), .q (.m 40 0), .q (.n 41 40), .q (.f 42 1 41), .q (.l 43 42), .q (.o 44 (.lenr (.t 43))), .q (.o 45 (.bin .sub (.t 44) (.k (.c (.int .i64 1))))), .q (.o 46 (.iadd 4 (.t 39) (.t 45))), .q (.f 47 3 46), .q (.l 48 47), .q (.o 49 (.build [.c (.int .i64 0), .c (.str []), .c (.int .i64 0), .c (.int .i64 0)] [(3, 1, (.t 48))])), ⟨.s 4 4 49, true, 0⟩])
  (.ret))
  (.skip)))
  (.seq (.reg [.o 50 (.build [.c (.int .i64 0), .c (.str []), .c (.int .i64 0), .c (.int .i64 0)] []), .s 4 4 50])
  (.ret))))
def r140 : List ResV := [.celln 4 4]
theorem k140 : CodeIs Tryz.prog 140 2 Tryz.f140 c140 r140 := ⟨by kernel_rfl, Tryz.func140, rfl, by kernel_rfl, by kernel_rfl, by decide, enters_fn Tryz.func140 (by kernel_rfl) rfl⟩
/-- (*read.reader).operator -/
def c141 : AC :=
  .seq (.reg [.o 3 (.box (.t 1)), .o 4 (.box (.k (.agg [.c (.str []), .c (.int .i64 0), .c (.int .i64 0)]))), .o 5 (.mov (.k (.c (.bool false))))])
  (.seq (.dreg [.m 6 0, .n 7 6, .f 8 0 7, .l 9 8, .d 10 4 3, .k 11 166 [(.t 9), (.t 10)], .x 12 11 0, .x 13 11 1, .s 3 4 12, .m 5 13]
    [.q (.m 6 0), .q (.n 7 6), .q (.f 8 0 7), .q (.l 9 8), .q (.d 10 4 3), ⟨.k 11 166 [(.t 9), (.t 10)], true, 0⟩, ⟨.x 12 11 0, false, 1⟩, ⟨.x 13 11 1, false, 1⟩, ⟨.s 3 4 12, true, 1⟩, ⟨.m 5 13, false, 2⟩])
  (.ret))
def r141 : List ResV := [.celln 3 4, .tmp 5]
theorem k141 : CodeIs Tryz.prog 141 2 Tryz.f141 c141 r141 := ⟨by kernel_rfl, Tryz.func141, rfl, by kernel_rfl, by kernel_rfl, by decide, enters_fn Tryz.func141 (by kernel_rfl) rfl⟩
/-- (*read.reader).begins -/
def c165 : AC :=
  .seq (.reg [.o 2 (.mov (.k (.c (.bool false))))])
  (.seq (.seq (.reg [.m 6 0, .k 7 140 [(.t 6), (.k (.c (.int .i64 0)))], .o 3 (.box (.k (.agg [.c (.int .i64 0), .c (.str []), .c (.int .i64 0), .c (.int .i64 0)]))), .s 4 3 7])
  (.seq (.reg [.f 8 0 3, .l 9 8])
  (.block 0 (.seq (.seq (.reg [.o 11 (.bin .eql (.t 9) (.k (.c (.int .i64 1)))), .m 10 11])
  (.cond (.t 10)
  (.skip)
  (.reg [.o 12 (.bin .eql (.t 9) (.k (.c (.int .i64 4)))), .m 10 12])))
  (.cond (.t 10)
  (.seq (.reg [.m 14 0, .d 15 4 3, .k 16 141 [(.t 14), (.t 15)], .m 13 16, .x 17 13 0, .x 18 13 1, .o 4 (.box (.k (.agg [.c (.str []), .c (.int .i64 0), .c (.int .i64 0)]))), .s 3 4 17, .m 5 18])
  (.seq (.reg [.m 19 5, .o 20 (.un .not (.t 19)), .m 2 20])
  (.ret)))
  (.seq (.seq (.reg [.o 22 (.bin .eql (.t 9) (.k (.c (.int .i64 2)))), .m 21 22])
  (.cond (.t 21)
  (.skip)
  (.seq (.reg [.o 23 (.bin .eql (.t 9) (.k (.c (.int .i64 3)))), .m 21 23])
  (.cond (.t 21)
  (.skip)
  (.reg [.o 24 (.bin .eql (.t 9) (.k (.c (.int .i64 5)))), .m 21 24])))))
  (.cond (.t 21)
  (.seq (.reg [.o 2 (.mov (.k (.c (.bool true))))])
  (.ret))
  (.skip))))))))
  (.seq (.reg [.o 2 (.mov (.k (.c (.bool false))))])
  (.ret)))
def r165 : List ResV := [.tmp 2]
theorem k165 : CodeIs Tryz.prog 165 1 Tryz.f165 c165 r165 := ⟨by kernel_rfl, Tryz.func165, rfl, by kernel_rfl, by kernel_rfl, by decide, enters_fn Tryz.func165 (by kernel_rfl) rfl⟩
/-- (*read.reader).lambda -/
def c163 : AC :=
  .seq (.reg [.o 2 (.mov (.k (.c (.bool false))))])
  (.seq (.reg [.m 4 0, .k 5 140 [(.t 4), (.k (.c (.int .i64 0)))], .o 6 (.field1 0 (.t 5)), .m 3 6])
  (.seq (.reg [.m 7 3, .o 8 (.bin .eql (.t 7) (.k (.c (.int .i64 1)))), .m 9 8, .z 10 (.mov (.t 3)) 9, .z 11 (.bin .eql (.t 10) (.k (.c (.int .i64 2)))) 9, .o 12 (.pick (.t 9) (.k (.c (.bool true))) (.t 11)), .m 13 12, .y 14 (.mov (.t 0)) 13, .y 15 (.call (.k (.fn 140 [])) [(.t 14), (.k (.c (.int .i64 1)))]) 13, .y 16 (.field1 0 (.t 15)) 13, .y 17 (.bin .eql (.t 16) (.k (.c (.int .i64 8)))) 13, .o 18 (.pick (.t 13) (.t 17) (.k (.c (.bool false)))), .m 2 18])
  (.ret)))
def r163 : List ResV := [.tmp 2]
theorem k163 : CodeIs Tryz.prog 163 1 Tryz.f163 c163 r163 := ⟨by kernel_rfl, Tryz.func163, rfl, by kernel_rfl, by kernel_rfl, by decide, enters_fn Tryz.func163 (by kernel_rfl) rfl⟩
/-- (read.wrong).ok -/
def c113 : AC :=
  .seq (.reg [.o 1 (.box (.t 0)), .o 2 (.mov (.k (.c (.bool false))))])
  (.seq (.reg [.f 3 0 1, .l 4 3, .o 5 (.bin .eql (.t 4) (.k (.c (.int .i64 0)))), .m 2 5])
  (.ret))
def r113 : List ResV := [.tmp 2]
theorem k113 : CodeIs Tryz.prog 113 1 Tryz.f113 c113 r113 := ⟨by kernel_rfl, Tryz.func113, rfl, by kernel_rfl, by kernel_rfl, by decide, enters_fn Tryz.func113 (by kernel_rfl) rfl⟩
/-- read.apply -/
def c145 : AC :=
  .seq (.reg [.o 4 (.box (.t 0)), .o 6 (.box (.t 2)), .o 7 (.box (.t 3)), .o 8 (.box (.k (.agg [.c (.int .i64 0), .c (.str []), .c (.int .i64 0), .csl [], .c (.int .i64 0)])))])
  (.seq (.reg [.f 12 0 4, .l 13 12, .m 14 1, .o 15 (.build [.c (.int .i64 0), .c (.str []), .c (.int .i64 0), .csl [], .c (.int .i64 0)] [(0, 1, (.k (.c (.int .i64 0)))), (1, 1, (.t 13)), (4, 1, (.t 14))]), .o 9 (.box (.k (.agg [.c (.int .i64 0), .c (.str []), .c (.int .i64 0), .csl [], .c (.int .i64 0)]))), .s 5 9 15])
  (.seq (.seq (.reg [.d 16 5 6, .d 17 5 7, .o 18 (.bsl 5 [(.t 16), (.t 17)]), .o 19 (.lenr (.t 18)), .o 20 (.mov (.k (.c (.int .i64 0))))])
  (.block 0 (.loop (.seq (.reg [.o 21 (.bin .lss (.t 20) (.t 19))])
  (.seq (.cond (.t 21)
  (.skip)
  (.exit 0))
  (.seq (.block 1 (.seq (.reg [.o 22 (.iadd 5 (.t 18) (.t 20)), .d 23 5 22, .o 11 (.box (.k (.agg [.c (.int .i64 0), .c (.str []), .c (.int .i64 0), .csl [], .c (.int .i64 0)]))), .s 5 11 23])
  (.reg [.d 24 5 9, .d 25 5 11, .o 26 (.bsl 5 [(.t 24), (.t 25)]), .m 27 1, .o 28 (.build [.c (.int .i64 0), .c (.str []), .c (.int .i64 0), .csl [], .c (.int .i64 0)] [(0, 1, (.k (.c (.int .i64 3)))), (3, 1, (.t 26)), (4, 1, (.t 27))]), .s 5 9 28])))
  (.reg [.o 29 (.bin .add (.t 20) (.k (.c (.int .i64 1)))), .m 20 29])))))))
  (.seq (.reg [.d 30 5 9, .s 5 8 30])
  (.ret))))
def r145 : List ResV := [.celln 5 8]
theorem k145 : CodeIs Tryz.prog 145 4 Tryz.f145 c145 r145 := ⟨by kernel_rfl, Tryz.func145, rfl, by kernel_rfl, by kernel_rfl, by decide, enters_fn Tryz.func145 (by kernel_rfl) rfl⟩
/-- (*read.reader).inner -/
def c143 : AC :=
  .seq (.reg [.o 7 (.box (.t 3)), .o 8 (.box (.k (.agg [.c (.int .i64 0), .c (.str []), .c (.int .i64 0), .csl [], .c (.int .i64 0), .c (.nilp), .c (.int .i64 0), .c (.str []), .c (.int .i64 0), .c (.int .i64 0)]))), .o 9 (.box (.k (.agg [.c (.int .i64 0), .c (.int .i64 0)])))])
  (.seq (.seq (.reg [.m 10 2, .o 11 (.bin .geq (.t 10) (.k (.c (.int .i64 200))))])
  (.cond (.t 11)
  (.seq (.dreg [.o 12 (.build [.c (.int .i64 0), .c (.str []), .c (.int .i64 0), .csl [], .c (.int .i64 0), .c (.nilp), .c (.int .i64 0), .c (.str []), .c (.int .i64 0), .c (.int .i64 0)] []), .f 13 3 7, .l 14 13, .o 15 (.build [.c (.int .i64 0), .c (.int .i64 0)] [(0, 1, (.k (.c (.int .i64 31)))), (1, 1, (.t 14))]), .s 10 8 12, .s 2 9 15]
    [.q (.o 12 (.build [.c (.int .i64 0), .c (.str []), .c (.int .i64 0), .csl [], .c (.int .i64 0), .c (.nilp), .c (.int .i64 0), .c (.str []), .c (.int .i64 0), .c (.int .i64 0)] [])), ⟨.s 10 8 12, true, 0⟩, .q (.f 13 3 7), .q (.l 14 13), .q (.o 15 (.build [.c (.int .i64 0), .c (.int .i64 0)] [(0, 1, (.k (.c (.int .i64 31)))), (1, 1, (.t 14))])), ⟨.s 2 9 15, true, 1⟩])
  (.ret))
  (.skip)))
  (.seq (.reg [.m 16 0, .m 17 1, .m 18 2, .o 19 (.bin .add (.t 18) (.k (.c (.int .i64 1)))), .k 20 112 [(.t 16), (.t 17), (.t 19)], .x 21 20 0, .x 22 20 1, .s 10 8 21, .s 2 9 22])
  (.ret)))
def r143 : List ResV := [.celln 10 8, .celln 2 9]
theorem k143 : CodeIs Tryz.prog 143 4 Tryz.f143 c143 r143 := ⟨by kernel_rfl, Tryz.func143, rfl, by kernel_rfl, by kernel_rfl, by decide, enters_fn Tryz.func143 (by kernel_rfl) rfl⟩
/-- (*read.reader).brackets -/
def c175 : AC :=
  .seq (.reg [.o 4 (.box (.k (.agg [.c (.int .i64 0), .c (.str []), .c (.int .i64 0), .csl [], .c (.int .i64 0)]))), .o 5 (.box (.k (.agg [.c (.int .i64 0), .c (.int .i64 0)])))])
  (.seq (.reg [.m 13 0, .k 14 140 [(.t 13), (.k (.c (.int .i64 0)))], .m 15 0, .k 16 140 [(.t 15), (.k (.c (.int .i64 1)))], .o 6 (.box (.k (.agg [.c (.int .i64 0), .c (.str []), .c (.int .i64 0), .c (.int .i64 0)]))), .o 7 (.box (.k (.agg [.c (.int .i64 0), .c (.str []), .c (.int .i64 0), .c (.int .i64 0)]))), .s 4 6 14, .s 4 7 16])
  (.seq (.seq (.reg [.m 18 0, .d 19 4 7, .k 20 141 [(.t 18), (.t 19)], .m 17 20, .x 21 17 0, .x 22 17 1, .o 8 (.box (.k (.agg [.c (.str []), .c (.int .i64 0), .c (.int .i64 0)]))), .s 3 8 21, .m 9 22])
  (.seq (.reg [.m 23 9, .m 24 23, .y 25 (.mov (.t 0)) 24, .y 26 (.call (.k (.fn 140 [])) [(.t 25), (.k (.c (.int .i64 2)))]) 24, .y 27 (.field1 0 (.t 26)) 24, .y 28 (.bin .eql (.t 27) (.k (.c (.int .i64 6)))) 24, .o 29 (.pick (.t 24) (.t 28) (.k (.c (.bool false))))])
  (.cond (.t 29)
  (.seq (.reg [.m 30 0, .n 31 30, .f 32 2 31, .l 33 32, .o 34 (.bin .add (.t 33) (.k (.c (.int .i64 3)))), .n 35 30, .f 36 2 35, .s 1 36 34])
  (.seq (.reg [.f 37 1 7, .l 38 37, .f 39 3 7, .l 40 39, .o 41 (.build [.c (.int .i64 0), .c (.str []), .c (.int .i64 0), .csl [], .c (.int .i64 0)] [(0, 1, (.k (.c (.int .i64 0)))), (1, 1, (.t 38)), (4, 1, (.t 40))]), .o 42 (.build [.c (.int .i64 0), .c (.int .i64 0)] []), .s 5 4 41, .s 2 5 42])
  (.ret)))
  (.skip))))
  (.seq (.reg [.m 43 0, .n 44 43, .f 45 2 44, .l 46 45, .o 47 (.bin .add (.t 46) (.k (.c (.int .i64 1)))), .n 48 43, .f 49 2 48, .s 1 49 47])
  (.seq (.reg [.m 51 0, .m 52 1, .d 53 4 6, .k 54 143 [(.t 51), (.k (.c (.int .i64 0))), (.t 52), (.t 53)], .m 50 54, .x 55 50 0, .x 56 50 1, .o 10 (.box (.k (.agg [.c (.int .i64 0), .c (.str []), .c (.int .i64 0), .csl [], .c (.int .i64 0), .c (.nilp), .c (.int .i64 0), .c (.str []), .c (.int .i64 0), .c (.int .i64 0)]))), .o 11 (.box (.k (.agg [.c (.int .i64 0), .c (.int .i64 0)]))), .s 10 10 55, .s 2 11 56])
  (.seq (.seq (.reg [.d 57 2 11, .k 58 113 [(.t 57)], .o 59 (.un .not (.t 58))])
  (.cond (.t 59)
  (.seq (.dreg [.o 60 (.build [.c (.int .i64 0), .c (.str []), .c (.int .i64 0), .csl [], .c (.int .i64 0)] []), .d 61 2 11, .s 5 4 60, .s 2 5 61]
    [.q (.o 60 (.build [.c (.int .i64 0), .c (.str []), .c (.int .i64 0), .csl [], .c (.int .i64 0)] [])), ⟨.s 5 4 60, true, 0⟩, .q (.d 61 2 11), ⟨.s 2 5 61, true, 1⟩])
  (.ret))
  (.skip)))
  (.seq (.seq (.reg [.m 62 0, .k 63 140 [(.t 62), (.k (.c (.int .i64 0)))], .o 12 (.box (.k (.agg [.c (.int .i64 0), .c (.str []), .c (.int .i64 0), .c (.int .i64 0)]))), .s 4 12 63])
  (.seq (.reg [.f 64 0 12, .l 65 64, .o 66 (.bin .neq (.t 65) (.k (.c (.int .i64 6))))])
  (.cond (.t 66)
  (.seq (.dreg [.o 67 (.build [.c (.int .i64 0), .c (.str []), .c (.int .i64 0), .csl [], .c (.int .i64 0)] []), .f 68 3 12, .l 69 68, .o 70 (.build [.c (.int .i64 0), .c (.int .i64 0)] [(0, 1, (.k (.c (.int .i64 30)))), (1, 1, (.t 69))]), .s 5 4 67, .s 2 5 70]
    [.q (.o 67 (.build [.c (.int .i64 0), .c (.str []), .c (.int .i64 0), .csl [], .c (.int .i64 0)] [])), ⟨.s 5 4 67, true, 0⟩, .q (.f 68 3 12), .q (.l 69 68), .q (.o 70 (.build [.c (.int .i64 0), .c (.int .i64 0)] [(0, 1, (.k (.c (.int .i64 30)))), (1, 1, (.t 69))])), ⟨.s 2 5 70, true, 1⟩])
  (.ret))
  (.skip))))
  (.seq (.reg [.m 71 0, .n 72 71, .f 73 2 72, .l 74 73, .o 75 (.bin .add (.t 74) (.k (.c (.int .i64 1)))), .n 76 71, .f 77 2 76, .s 1 77 75])
  (.seq (.reg [.f 78 0 10, .d 79 5 78, .o 80 (.build [.c (.int .i64 0), .c (.int .i64 0)] []), .s 5 4 79, .s 2 5 80])
  (.ret)))))))))
def r175 : List ResV := [.celln 5 4, .celln 2 5]
theorem k175 : CodeIs Tryz.prog 175 2 Tryz.f175 c175 r175 := ⟨by kernel_rfl, Tryz.func175, rfl, by kernel_rfl, by kernel_rfl, by decide, enters_fn Tryz.func175 (by kernel_rfl) rfl⟩
/-- (*read.reader).atom -/
def c164 : AC :=
  .seq (.reg [.o 4 (.box (.k (.agg [.c (.int .i64 0), .c (.str []), .c (.int .i64 0), .csl [], .c (.int .i64 0)]))), .o 5 (.box (.k (.agg [.c (.int .i64 0), .c (.int .i64 0)])))])
  (.seq (.reg [.m 10 0, .k 11 140 [(.t 10), (.k (.c (.int .i64 0)))], .o 6 (.box (.k (.agg [.c (.int .i64 0), .c (.str []), .c (.int .i64 0), .c (.int .i64 0)]))), .s 4 6 11])
  (.seq (.reg [.f 12 1 6, .l 13 12, .f 14 3 6, .l 15 14, .o 16 (.build [.c (.int .i64 0), .c (.str []), .c (.int .i64 0), .csl [], .c (.int .i64 0)] [(0, 1, (.k (.c (.int .i64 0)))), (1, 1, (.t 13)), (4, 1, (.t 15))]), .o 7 (.box (.k (.agg [.c (.int .i64 0), .c (.str []), .c (.int .i64 0), .csl [], .c (.int .i64 0)]))), .s 5 7 16])
  (.seq (.block 0 (.seq (.reg [.m 18 0, .k 19 165 [(.t 18)], .o 20 (.un .not (.t 19)), .m 17 20])
  (.cond (.t 17)
  (.seq (.dreg [.o 21 (.build [.c (.int .i64 0), .c (.str []), .c (.int .i64 0), .csl [], .c (.int .i64 0)] []), .f 22 3 6, .l 23 22, .o 24 (.build [.c (.int .i64 0), .c (.int .i64 0)] [(0, 1, (.k (.c (.int .i64 30)))), (1, 1, (.t 23))]), .s 5 4 21, .s 2 5 24]
    [.q (.o 21 (.build [.c (.int .i64 0), .c (.str []), .c (.int .i64 0), .csl [], .c (.int .i64 0)] [])), ⟨.s 5 4 21, true, 0⟩, .q (.f 22 3 6), .q (.l 23 22), .q (.o 24 (.build [.c (.int .i64 0), .c (.int .i64 0)] [(0, 1, (.k (.c (.int .i64 30)))), (1, 1, (.t 23))])), ⟨.s 2 5 24, true, 1⟩])
  (.ret))
  (.seq (.reg [.f 26 0 6, .l 27 26, .o 28 (.bin .eql (.t 27) (.k (.c (.int .i64 5)))), .m 25 28])
  (.cond (.t 25)
  (.seq (.reg [.m 29 0, .m 30 1, .k 31 175 [(.t 29), (.t 30)], .x 32 31 0, .x 33 31 1, .s 5 4 32, .s 2 5 33])
  (.ret))
  (.seq (.reg [.f 35 0 6, .l 36 35, .o 37 (.bin .eql (.t 36) (.k (.c (.int .i64 3)))), .m 34 37])
  (.cond (.t 34)
  (.reg [.f 38 2 6, .l 39 38, .f 40 3 6, .l 41 40, .o 42 (.build [.c (.int .i64 0), .c (.str []), .c (.int .i64 0), .csl [], .c (.int .i64 0)] [(0, 1, (.k (.c (.int .i64 2)))), (2, 1, (.t 39)), (4, 1, (.t 41))]), .s 5 7 42])
  (.seq (.reg [.f 44 0 6, .l 45 44, .o 46 (.bin .neq (.t 45) (.k (.c (.int .i64 4)))), .m 47 46, .y 48 (.mov (.t 0)) 47, .y 49 (.call (.k (.fn 140 [])) [(.t 48), (.k (.c (.int .i64 1)))]) 47, .y 50 (.field1 0 (.t 49)) 47, .y 51 (.bin .eql (.t 50) (.k (.c (.int .i64 8)))) 47, .o 52 (.pick (.t 47) (.t 51) (.k (.c (.bool false)))), .m 43 52])
  (.cond (.t 43)
  (.seq (.reg [.m 53 0, .n 54 53, .f 55 2 54, .l 56 55, .o 57 (.bin .add (.t 56) (.k (.c (.int .i64 2)))), .n 58 53, .f 59 2 58, .s 1 59 57])
  (.seq (.reg [.m 61 0, .m 62 1, .d 63 4 6, .k 64 143 [(.t 61), (.k (.c (.int .i64 0))), (.t 62), (.t 63)], .m 60 64, .x 65 60 0, .x 66 60 1, .o 8 (.box (.k (.agg [.c (.int .i64 0), .c (.str []), .c (.int .i64 0), .csl [], .c (.int .i64 0), .c (.nilp), .c (.int .i64 0), .c (.str []), .c (.int .i64 0), .c (.int .i64 0)]))), .o 9 (.box (.k (.agg [.c (.int .i64 0), .c (.int .i64 0)]))), .s 10 8 65, .s 2 9 66])
  (.seq (.dreg [.f 67 1 6, .l 68 67, .f 69 0 8, .d 70 5 69, .o 71 (.bsl 5 [(.t 70)]), .f 72 3 6, .l 73 72, .o 74 (.build [.c (.int .i64 0), .c (.str []), .c (.int .i64 0), .csl [], .c (.int .i64 0)] [(0, 1, (.k (.c (.int .i64 4)))), (1, 1, (.t 68)), (3, 1, (.t 71)), (4, 1, (.t 73))]), .d 75 2 9, .s 5 4 74, .s 2 5 75]
    [.q (.f 67 1 6), .q (.l 68 67), .q (.f 69 0 8), .q (.d 70 5 69), .q (.o 71 (.bsl 5 [(.t 70)])), .q (.f 72 3 6), .q (.l 73 72), .q (.o 74 (.build [.c (.int .i64 0), .c (.str []), .c (.int .i64 0), .csl [], .c (.int .i64 0)] [(0, 1, (.k (.c (.int .i64 4)))), (1, 1, (.t 68)), (3, 1, (.t 71)), (4, 1, (.t 73))])), ⟨.s 5 4 74, true, 0⟩, .q (.d 75 2 9), ⟨.s 2 5 75, true, 1⟩])
  (.ret))))
  (.seq (.reg [.f 77 0 6, .l 78 77, .o 79 (.bin .eql (.t 78) (.k (.c (.int .i64 2)))), .m 76 79])
  (.cond (.t 76)
  (.reg [.f 80 0 7, ⟨none, .store 1 (.t 80) (.k (.c (.int .i64 1))), none⟩])
  (.skip))))))))))))
  (.seq (.reg [.m 81 0, .n 82 81, .f 83 2 82, .l 84 83, .o 85 (.bin .add (.t 84) (.k (.c (.int .i64 1)))), .n 86 81, .f 87 2 86, .s 1 87 85])
  (.seq (.reg [.d 88 5 7, .o 89 (.build [.c (.int .i64 0), .c (.int .i64 0)] []), .s 5 4 88, .s 2 5 89])
  (.ret))))))
def r164 : List ResV := [.celln 5 4, .celln 2 5]
theorem k164 : CodeIs Tryz.prog 164 2 Tryz.f164 c164 r164 := ⟨by kernel_rfl, Tryz.func164, rfl, by kernel_rfl, by kernel_rfl, by decide, enters_fn Tryz.func164 (by kernel_rfl) rfl⟩
/-- (*read.reader).operand -/
def c139 : AC :=
  .seq (.reg [.o 4 (.box (.k (.agg [.c (.int .i64 0), .c (.str []), .c (.int .i64 0), .csl [], .c (.int .i64 0)]))), .o 5 (.box (.k (.agg [.c (.int .i64 0), .c (.int .i64 0)])))])
  (.seq (.reg [.m 11 0, .k 12 163 [(.t 11)], .m 6 12])
  (.seq (.reg [.m 14 0, .m 15 1, .k 16 164 [(.t 14), (.t 15)], .m 13 16, .x 17 13 0, .x 18 13 1, .o 7 (.box (.k (.agg [.c (.int .i64 0), .c (.str []), .c (.int .i64 0), .csl [], .c (.int .i64 0)]))), .o 8 (.box (.k (.agg [.c (.int .i64 0), .c (.int .i64 0)]))), .s 5 7 17, .s 2 8 18])
  (.seq (.reg [.f 19 4 7, .l 20 19, .m 9 20])
  (.seq (.block 0 (.loop (.seq (.seq (.reg [.d 21 2 8, .k 22 113 [(.t 21)], .m 23 22, .y 24 (.mov (.t 6)) 23, .y 25 (.un .not (.t 24)) 23, .o 26 (.pick (.t 23) (.t 25) (.k (.c (.bool false)))), .m 27 26, .y 28 (.mov (.t 0)) 27, .y 29 (.call (.k (.fn 165 [])) [(.t 28)]) 27, .o 30 (.pick (.t 27) (.t 29) (.k (.c (.bool false))))])
  (.cond (.t 30)
  (.skip)
  (.exit 0)))
  (.block 1 (.seq (.reg [.m 31 0, .k 32 163 [(.t 31)], .m 6 32])
  (.seq (.reg [.o 10 (.box (.k (.agg [.c (.int .i64 0), .c (.str []), .c (.int .i64 0), .csl [], .c (.int .i64 0)])))])
  (.seq (.reg [.m 34 0, .m 35 1, .k 36 164 [(.t 34), (.t 35)], .m 33 36, .x 37 33 0, .x 38 33 1, .s 5 10 37, .s 2 8 38])
  (.reg [.d 39 5 7, .d 40 5 10, .o 41 (.bsl 5 [(.t 39), (.t 40)]), .m 42 9, .o 43 (.build [.c (.int .i64 0), .c (.str []), .c (.int .i64 0), .csl [], .c (.int .i64 0)] [(0, 1, (.k (.c (.int .i64 3)))), (3, 1, (.t 41)), (4, 1, (.t 42))]), .s 5 7 43]))))))))
  (.seq (.dreg [.d 44 5 7, .d 45 2 8, .s 5 4 44, .s 2 5 45]
    [.q (.d 44 5 7), ⟨.s 5 4 44, true, 0⟩, .q (.d 45 2 8), ⟨.s 2 5 45, true, 1⟩])
  (.ret))))))
def r139 : List ResV := [.celln 5 4, .celln 2 5]
theorem k139 : CodeIs Tryz.prog 139 2 Tryz.f139 c139 r139 := ⟨by kernel_rfl, Tryz.func139, rfl, by kernel_rfl, by kernel_rfl, by decide, enters_fn Tryz.func139 (by kernel_rfl) rfl⟩
/-- (*read.reader).expr -/
def c112 : AC :=
  .seq (.reg [.o 6 (.box (.k (.agg [.c (.int .i64 0), .c (.str []), .c (.int .i64 0), .csl [], .c (.int .i64 0), .c (.nilp), .c (.int .i64 0), .c (.str []), .c (.int .i64 0), .c (.int .i64 0)]))), .o 7 (.box (.k (.agg [.c (.int .i64 0), .c (.int .i64 0)])))])
  (.seq (.reg [.m 17 0, .m 18 2, .k 19 139 [(.t 17), (.t 18)], .m 16 19, .x 20 16 0, .x 21 16 1, .o 8 (.box (.k (.agg [.c (.int .i64 0), .c (.str []), .c (.int .i64 0), .csl [], .c (.int .i64 0)]))), .o 9 (.box (.k (.agg [.c (.int .i64 0), .c (.int .i64 0)]))), .s 5 8 20, .s 2 9 21])
  (.seq (.reg [.d 22 5 8, .o 23 (.build [.c (.int .i64 0), .c (.str []), .c (.int .i64 0), .csl [], .c (.int .i64 0), .c (.nilp), .c (.int .i64 0), .c (.str []), .c (.int .i64 0), .c (.int .i64 0)] [(0, 5, (.t 22))]), .o 10 (.box (.k (.agg [.c (.int .i64 0), .c (.str []), .c (.int .i64 0), .csl [], .c (.int .i64 0), .c (.nilp), .c (.int .i64 0), .c (.str []), .c (.int .i64 0), .c (.int .i64 0)]))), .s 10 10 23])
  (.seq (.skip)
  (.seq (.block 0 (.loop (.seq (.seq (.reg [.d 24 2 9, .k 25 113 [(.t 24)]])
  (.cond (.t 25)
  (.skip)
  (.exit 0)))
  (.block 1 (.seq (.reg [.m 26 0, .k 27 140 [(.t 26), (.k (.c (.int .i64 0)))], .o 11 (.box (.k (.agg [.c (.int .i64 0), .c (.str []), .c (.int .i64 0), .c (.int .i64 0)]))), .s 4 11 27])
  (.seq (.reg [.m 29 0, .d 30 4 11, .k 31 141 [(.t 29), (.t 30)], .m 28 31, .x 32 28 0, .x 33 28 1, .o 12 (.box (.k (.agg [.c (.str []), .c (.int .i64 0), .c (.int .i64 0)]))), .s 3 12 32, .m 13 33])
  (.seq (.block 2 (.seq (.reg [.m 35 13, .o 36 (.un .not (.t 35)), .m 37 36, .z 38 (.fadd 1 (.t 12)) 37, .z 39 (.load1 (.t 38)) 37, .z 40 (.mov (.t 1)) 37, .z 41 (.bin .lss (.t 39) (.t 40)) 37, .o 42 (.pick (.t 37) (.k (.c (.bool true))) (.t 41)), .m 34 42])
  (.cond (.t 34)
  (.exit 0)
  (.seq (.dreg [.f 44 5 10, .l 45 44, .o 46 (.eqn true 0 (.t 45)), .m 47 46, .y 48 (.loadn 3 (.t 12)) 47, .y 49 (.fadd 5 (.t 10)) 47, .y 50 (.load1 (.t 49)) 47, .y 51 (.nilck (.t 50)) 47, .y 52 (.loadn 3 (.t 51)) 47, .y 53 (.call (.k (.fn 142 [])) [(.t 48), (.t 52)]) 47, .y 54 (.un .not (.t 53)) 47, .o 55 (.pick (.t 47) (.t 54) (.k (.c (.bool false)))), .m 43 55]
    [.q (.f 44 5 10), .q (.l 45 44), .q (.o 46 (.eqn true 0 (.t 45))), .q (.m 47 46), .q (.y 48 (.loadn 3 (.t 12)) 47), .q (.y 49 (.fadd 5 (.t 10)) 47), .q (.y 50 (.load1 (.t 49)) 47), .q (.y 51 (.nilck (.t 50)) 47), .q (.y 52 (.loadn 3 (.t 51)) 47), ⟨.y 53 (.call (.k (.fn 142 [])) [(.t 48), (.t 52)]) 47, true, 0⟩, ⟨.y 54 (.un .not (.t 53)) 47, false, 1⟩, ⟨.o 55 (.pick (.t 47) (.t 54) (.k (.c (.bool false)))), false, 1⟩, ⟨.m 43 55, false, 1⟩])
  (.cond (.t 43)
  (.seq (.dreg [.o 56 (.build [.c (.int .i64 0), .c (.str []), .c (.int .i64 0), .csl [], .c (.int .i64 0), .c (.nilp), .c (.int .i64 0), .c (.str []), .c (.int .i64 0), .c (.int .i64 0)] []), .f 57 3 11, .l 58 57, .o 59 (.build [.c (.int .i64 0), .c (.int .i64 0)] [(0, 1, (.k (.c (.int .i64 32)))), (1, 1, (.t 58))]), .s 10 6 56, .s 2 7 59]
    [.q (.o 56 (.build [.c (.int .i64 0), .c (.str []), .c (.int .i64 0), .csl [], .c (.int .i64 0), .c (.nilp), .c (.int .i64 0), .c (.str []), .c (.int .i64 0), .c (.int .i64 0)] [])), ⟨.s 10 6 56, true, 0⟩, .q (.f 57 3 11), .q (.l 58 57), .q (.o 59 (.build [.c (.int .i64 0), .c (.int .i64 0)] [(0, 1, (.k (.c (.int .i64 32)))), (1, 1, (.t 58))])), ⟨.s 2 7 59, true, 1⟩])
  (.ret))
  (.skip))))))
  (.seq (.reg [.m 60 0, .n 61 60, .f 62 2 61, .l 63 62, .o 64 (.bin .add (.t 63) (.k (.c (.int .i64 1)))), .n 65 60, .f 66 2 65, .s 1 66 64])
  (.seq (.reg [.f 67 1 12, .l 68 67, .o 69 (.bin .add (.t 68) (.k (.c (.int .i64 1)))), .m 14 69])
  (.seq (.seq (.reg [.f 70 2 12, .l 71 70, .o 72 (.bin .eql (.t 71) (.k (.c (.int .i64 2))))])
  (.cond (.t 72)
  (.reg [.f 73 1 12, .l 74 73, .m 14 74])
  (.skip)))
  (.seq (.reg [.o 15 (.box (.k (.agg [.c (.int .i64 0), .c (.str []), .c (.int .i64 0), .csl [], .c (.int .i64 0), .c (.nilp), .c (.int .i64 0), .c (.str []), .c (.int .i64 0), .c (.int .i64 0)])))])
  (.seq (.reg [.m 76 0, .m 77 14, .m 78 2, .d 79 4 11, .k 80 143 [(.t 76), (.t 77), (.t 78), (.t 79)], .m 75 80, .x 81 75 0, .x 82 75 1, .s 10 15 81, .s 2 9 82])
  (.seq (.seq (.dreg [.d 83 2 9, .k 84 113 [(.t 83)], .m 85 84, .y 86 (.fadd 5 (.t 15)) 85, .y 87 (.load1 (.t 86)) 85, .y 88 (.eqn true 0 (.t 87)) 85, .o 89 (.pick (.t 85) (.t 88) (.k (.c (.bool false)))), .m 90 89, .y 91 (.loadn 3 (.t 12)) 90, .y 92 (.fadd 5 (.t 15)) 90, .y 93 (.load1 (.t 92)) 90, .y 94 (.nilck (.t 93)) 90, .y 95 (.loadn 3 (.t 94)) 90, .y 96 (.call (.k (.fn 144 [])) [(.t 91), (.t 95)]) 90, .y 97 (.un .not (.t 96)) 90, .o 98 (.pick (.t 90) (.t 97) (.k (.c (.bool false))))]
    [.q (.d 83 2 9), ⟨.k 84 113 [(.t 83)], true, 0⟩, ⟨.m 85 84, false, 1⟩, ⟨.y 86 (.fadd 5 (.t 15)) 85, false, 1⟩, ⟨.y 87 (.load1 (.t 86)) 85, false, 1⟩, ⟨.y 88 (.eqn true 0 (.t 87)) 85, false, 1⟩, ⟨.o 89 (.pick (.t 85) (.t 88) (.k (.c (.bool false)))), false, 1⟩, ⟨.m 90 89, false, 1⟩, ⟨.y 91 (.loadn 3 (.t 12)) 90, false, 1⟩, ⟨.y 92 (.fadd 5 (.t 15)) 90, false, 1⟩, ⟨.y 93 (.load1 (.t 92)) 90, false, 1⟩, ⟨.y 94 (.nilck (.t 93)) 90, false, 1⟩, ⟨.y 95 (.loadn 3 (.t 94)) 90, false, 1⟩, ⟨.y 96 (.call (.k (.fn 144 [])) [(.t 91), (.t 95)]) 90, true, 1⟩, ⟨.y 97 (.un .not (.t 96)) 90, false, 2⟩, ⟨.o 98 (.pick (.t 90) (.t 97) (.k (.c (.bool false)))), false, 2⟩])
  (.cond (.t 98)
  (.reg [.f 99 6 15, .f 100 3 99, .l 101 100, .o 102 (.build [.c (.int .i64 0), .c (.int .i64 0)] [(0, 1, (.k (.c (.int .i64 32)))), (1, 1, (.t 101))]), .s 2 9 102])
  (.skip)))
  (.dreg [.d 103 3 12, .f 104 3 11, .l 105 104, .f 106 0 10, .d 107 5 106, .f 108 0 15, .d 109 5 108, .k 110 145 [(.t 103), (.t 105), (.t 107), (.t 109)], .d 111 4 11, .o 112 (.build [.c (.int .i64 0), .c (.str []), .c (.int .i64 0), .csl [], .c (.int .i64 0), .c (.nilp), .c (.int .i64 0), .c (.str []), .c (.int .i64 0), .c (.int .i64 0)] [(0, 5, (.t 110)), (5, 1, (.t 12)), (6, 4, (.t 111))]), .s 10 10 112]
    [.q (.d 103 3 12), .q (.f 104 3 11), .q (.l 105 104), .q (.f 106 0 10), .q (.d 107 5 106), .q (.f 108 0 15), .q (.d 109 5 108), ⟨.k 110 145 [(.t 103), (.t 105), (.t 107), (.t 109)], true, 0⟩, .q (.d 111 4 11), ⟨.o 112 (.build [.c (.int .i64 0), .c (.str []), .c (.int .i64 0), .csl [], .c (.int .i64 0), .c (.nilp), .c (.int .i64 0), .c (.str []), .c (.int .i64 0), .c (.int .i64 0)] [(0, 5, (.t 110)), (5, 1, (.t 12)), (6, 4, (.t 111))]), false, 1⟩, ⟨.s 10 10 112, true, 1⟩]))))))))))))))
  (.seq (.dreg [.d 113 10 10, .d 114 2 9, .s 10 6 113, .s 2 7 114]
    [.q (.d 113 10 10), ⟨.s 10 6 113, true, 0⟩, .q (.d 114 2 9), ⟨.s 2 7 114, true, 1⟩])
  (.ret))))))
def r112 : List ResV := [.celln 10 6, .celln 2 7]
theorem k112 : CodeIs Tryz.prog 112 3 Tryz.f112 c112 r112 := ⟨by kernel_rfl, Tryz.func112, rfl, by kernel_rfl, by kernel_rfl, by decide, enters_fn Tryz.func112 (by kernel_rfl) rfl⟩
/-- read.Read -/
def c91 : AC :=
  .seq (.reg [.o 6 (.box (.k (.agg [.c (.int .i64 0), .c (.str []), .c (.int .i64 0), .csl [], .c (.int .i64 0)]))), .o 7 (.mov (.k (.c (.int .i64 0)))), .o 8 (.mov (.k (.c (.int .i64 0)))), .o 9 (.mov (.k (.c (.int .i64 0))))])
  (.seq (.reg [.m 13 0, .m 14 1, .m 15 2, .o 16 (.build [.csl [], .csl [], .c (.int .i64 0)] [(0, 1, (.t 13)), (1, 1, (.t 14)), (2, 1, (.t 15))]), .o 17 (.box (.t 16)), .m 10 17])
  (.seq (.reg [.m 19 10, .k 20 112 [(.t 19), (.k (.c (.int .i64 0))), (.k (.c (.int .i64 0)))], .m 18 20, .x 21 18 0, .x 22 18 1, .o 11 (.box (.k (.agg [.c (.int .i64 0), .c (.str []), .c (.int .i64 0), .csl [], .c (.int .i64 0), .c (.nilp), .c (.int .i64 0), .c (.str []), .c (.int .i64 0), .c (.int .i64 0)]))), .o 12 (.box (.k (.agg [.c (.int .i64 0), .c (.int .i64 0)]))), .s 10 11 21, .s 2 12 22])
  (.seq (.seq (.reg [.d 23 2 12, .k 24 113 [(.t 23)], .o 25 (.un .not (.t 24))])
  (.cond (.t 25)
  (.seq (.dreg [.o 26 (.build [.c (.int .i64 0), .c (.str []), .c (.int .i64 0), .csl [], .c (.int .i64 0)] []), .m 27 2, .f 28 0 12, .l 29 28, .f 30 1 12, .l 31 30, .s 5 6 26, .m 7 27, .m 8 29, .m 9 31]
    [.q (.o 26 (.build [.c (.int .i64 0), .c (.str []), .c (.int .i64 0), .csl [], .c (.int .i64 0)] [])), ⟨.s 5 6 26, true, 0⟩, .q (.m 27 2), .q (.f 28 0 12), .q (.l 29 28), .q (.f 30 1 12), .q (.l 31 30), ⟨.m 7 27, false, 1⟩, ⟨.m 8 29, false, 1⟩, ⟨.m 9 31, false, 1⟩])
  (.ret))
  (.skip)))
  (.seq (.dreg [.f 32 0 11, .d 33 5 32, .m 34 10, .n 35 34, .f 36 2 35, .l 37 36, .s 5 6 33, .m 7 37, .o 8 (.mov (.k (.c (.int .i64 0)))), .o 9 (.mov (.k (.c (.int .i64 0))))]
    [.q (.f 32 0 11), .q (.d 33 5 32), ⟨.s 5 6 33, true, 0⟩, .q (.m 34 10), .q (.n 35 34), .q (.f 36 2 35), .q (.l 37 36), ⟨.m 7 37, false, 1⟩, ⟨.o 8 (.mov (.k (.c (.int .i64 0)))), false, 1⟩, ⟨.o 9 (.mov (.k (.c (.int .i64 0)))), false, 1⟩])
  (.ret)))))
def r91 : List ResV := [.celln 5 6, .tmp 7, .tmp 8, .tmp 9]
theorem k91 : CodeIs Tryz.prog 91 3 Tryz.f91 c91 r91 := ⟨by kernel_rfl, Tryz.func91, rfl, by kernel_rfl, by kernel_rfl, by decide, enters_fn Tryz.func91 (by kernel_rfl) rfl⟩
end Go.Proofs.YtapnncbenhkicaaGreatDoor
namespace Go.Proofs.YtapnncbenhkicaaGreatDoor
open Go.RowKit Go.Lamb
attribute [local go_sem] advO_skip advO_reg advO_seq advO_block advO_exit advO_endb advO_opsNil advO_ops advG_yes advG_no advG_none advS_some advS_none advO_cond advO_loop advO_dreg advO_ret advO_bad advO_inv advO_nil advO_zero wantedV Lamb.step ev_t ev_k put_some put_none argEnv popTo cellsAt V.cellsV V.rows V.toC toCs fillV bytesC byteRows appV rowsV boundV boundL binV binInt binStr eqC eqL V.isNil leaves V.leaf Ins.quiet Ins.pure List.getD_cons_zero List.getD_cons_succ List.getD_nil List.all_cons List.all_nil List.length_cons List.length_nil List.take_succ_cons List.take_zero List.drop_succ_cons List.drop_zero List.cons_append List.nil_append List.append_nil List.append_assoc List.map_cons List.map_nil List.getElem?_cons_zero List.getElem?_cons_succ List.length_append List.length_set hget0 hget hset0 hset hsets hgs0 hgs hss0 hss List.set_cons_zero List.set_cons_succ List.forall_mem_cons List.not_mem_nil false_implies implies_true Option.map_some Bool.and_true Bool.true_and Bool.not_not Bool.not_true Bool.not_false Bool.and_self Bool.or_true Bool.true_or Bool.or_false Bool.false_or Bool.and_false Bool.false_and Bool.false_eq_true beq_self_eq_true and_self and_true true_and if_true if_false Nat.zero_add Nat.add_zero Nat.le_refl Int.toNat_natCast decide_true decide_false beq_t beq_f List.length_map List.getElem?_map I S B opsC toksC OpT.v OpT.cs OpT.zero Tok.v Tok.cs Pre.v Pre.cs_eq k_mk name_mk n_mk l_mk pos_mk Pre.app applyL natCast0 natCast1 natCast2 AOp.o AOp.m AOp.f AOp.l AOp.d AOp.n AOp.x AOp.s AOp.k AOp.y AOp.z EOp.q low_c low_void low_any low_csl low_nilf low_ptr low_osl low_agg low_tup low_fn resEval advPO_nil advPO_loud advPO_quiet pL_yes pL_no pLS_some pLS_none pQ_yes pQ_no pQS_some pQS_loud eq_self Nat.sub_zero
section

/-- The reader's block. -/
def rdr (l : List OpT) (t : List Tok) (i : Nat) : Blk := .cells [.c (opsC l), .c (toksC t), I i]
theorem wrap_nat {n : Nat} (h : n ≤ 9223372036854775807) : IntKind.i64.wrap (n : Int) = (n : Int) := wrap_in (by omega) (by omega)
theorem wrap_add {a b : Nat} (h : a + b ≤ 9223372036854775807) : IntKind.i64.wrap ((a : Int) + (b : Int)) = ((a + b : Nat) : Int) := by rw [← Int.natCast_add]; exact wrap_nat h
theorem tokL_in {t : List Tok} {i : Nat} (h : i < t.length) : tokL t i = t[i] := by rw [tokL, List.getElem?_eq_getElem h]; rfl
theorem tokL_out {t : List Tok} {i : Nat} (h : t.length ≤ i) : tokL t i = ⟨0, [], 0, lastPos t⟩ := by rw [tokL, List.getElem?_eq_none h]; rfl
theorem lastPos_at {t : List Tok} (h : 0 < t.length) : ∃ x, t[t.length - 1]? = some x ∧ lastPos t = x.pos := by
  refine ⟨t[t.length - 1], List.getElem?_eq_getElem (by omega), ?_⟩
  rw [lastPos, List.getLast?_eq_getElem?, List.getElem?_eq_getElem (by omega)]
  rfl
theorem read_tok (w0 : World) (l : List OpT) (t : List Tok) (i k : Nat) (σ : H) (b : Nat) (hb : σ[b]? = some (rdr l t i)) (hk : i + k ≤ 4000000) (ht : t.length ≤ 1000000) :
    DC Tryz.prog w0 140 [.ptr b 0, I k] σ (Same (tokL t (i + k)).v σ) := by
  have hlt := (List.getElem?_eq_some_iff.1 hb).1
  have hg := fun L => hgetb (σ := σ) L hlt
  refine k140.go rfl (fun hok hsz => ?_)
  rw [rdr] at hb
  have hw : IntKind.i64.wrap ((i : Int) + (k : Int)) = ((i + k : Nat) : Int) := wrap_add (by omega)
  by_cases h : i + k < t.length
  · have h1 : (((i + k : Nat) : Int) < (t.length : Int)) := by omega
    have hx : t[i + k]? = some t[i + k] := List.getElem?_eq_getElem h
    ((try refine W.a ?_); simp only [go_sem, seval, reduceCtorEq, c140, hg, hb, toksC, hw, nat0, h1, hx])
    refine W.yes rfl ?_
    ((try refine W.a ?_); simp only [go_sem, seval, reduceCtorEq, hg, hb, nat0, h1, hx])
    (refine W.ret (Fin.same hok (by simp only [resEval, r140, go_sem, seval, reduceCtorEq]; rfl) ?_ (by first | exact .c _ | (simp only [go_sem, seval, reduceCtorEq]; done)) (by first | exact ⟨[], (List.append_nil _).symm⟩ | exact ⟨_, rfl⟩)); simp only [resV])
    rw [tokL_in h]
  · have h1 : ¬ (((i + k : Nat) : Int) < (t.length : Int)) := by omega
    ((try refine W.a ?_); simp only [go_sem, seval, reduceCtorEq, c140, hg, hb, toksC, hw, nat0, h1])
    refine W.no rfl ?_
    ((try refine W.a ?_); simp only [go_sem, seval, reduceCtorEq, hg, hb])
    by_cases h0 : 0 < t.length
    · have h2 : ((t.length : Int) > 0) := by omega
      have hw2 : IntKind.i64.wrap ((t.length : Int) - 1) = ((t.length - 1 : Nat) : Int) := by rw [wrap_in] <;> omega
      obtain ⟨x, hx, hp⟩ := lastPos_at h0
      have h3 : (((t.length - 1 : Nat) : Int) < (t.length : Int)) := by omega
      ((try refine W.a ?_); simp only [go_sem, seval, reduceCtorEq, h2])
      refine W.yes rfl ?_
      ((try refine W.a ?_); simp only [go_sem, seval, reduceCtorEq])
      (apply W.dregE (List.cons_ne_nil _ _); case hc => ((apply CanonE.advPO; simp only [go_sem, seval, reduceCtorEq, hg, hb, hw2, nat0, h3, hx]); exact CanonE.nil))
      ((try refine W.a ?_); simp only [go_sem, seval, reduceCtorEq])
      (refine W.ret (Fin.same hok (by simp only [resEval, r140, go_sem, seval, reduceCtorEq]; rfl) ?_ (by first | exact .c _ | (simp only [go_sem, seval, reduceCtorEq]; done)) (by first | exact ⟨[], (List.append_nil _).symm⟩ | exact ⟨_, rfl⟩)); simp only [resV])
      rw [tokL_out (by omega), hp]
    · have h2 : ¬ ((t.length : Int) > 0) := by omega
      ((try refine W.a ?_); simp only [go_sem, seval, reduceCtorEq, h2])
      refine W.no rfl ?_
      ((try refine W.a ?_); simp only [go_sem, seval, reduceCtorEq])
      (refine W.ret (Fin.same hok (by simp only [resEval, r140, go_sem, seval, reduceCtorEq]; rfl) ?_ (by first | exact .c _ | (simp only [go_sem, seval, reduceCtorEq]; done)) (by first | exact ⟨[], (List.append_nil _).symm⟩ | exact ⟨_, rfl⟩)); simp only [resV])
      have : t = [] := List.eq_nil_of_length_eq_zero (by omega)
      subst this
      rw [tokL_out (by omega)]; rfl
end
section

def strsR (l : List Str) : List (List C) := l.map fun s => [C.str s]
/-- The type reader's blocks. -/
def tyX (t : List Tok) (i : Int) (v : Nat) (vs : List Str) (e p : Int) : Blk := .cells [.c (toksC t), I i, .osl v (strsR vs), I e, I p]
def tyY (vs : List Str) : Blk := .spare 9 1 vs.length
abbrev tys (σ : H) (b v : Nat) (t : List Tok) (i : Int) (vs : List Str) (e p : Int) : H := rs σ b v (tyX t i v vs e p) (tyY vs)
theorem tys_ok {σ : H} {b v : Nat} (D : Two σ b v) {X Y : Blk} (h : H.ok (rs σ b v X Y)) (t : List Tok) (i : Int) (vs : List Str) (e p : Int) : H.ok (tys σ b v t i vs e p) :=
  rs_ok D h (fun cs tg hc x hx => by
    unfold tyX at hc
    injection hc with hc _
    subst hc
    simp only [List.mem_cons, List.not_mem_nil, or_false] at hx
    rcases hx with rfl | rfl | rfl | rfl | rfl
    · exact .c _
    · exact .c _
    · exact .osl D.lv
    · exact .c _
    · exact .c _) (fun cs tg hc => by unfold tyY at hc; cases hc)
attribute [local go_sem] tyX tyY rs_len rs_g0 rs_g rs_s0 rs_s rs_sv Typ.v Typ.cs_eq tk_mk tname_mk tn_mk tl_mk tysC
theorem ty_tok (w0 : World) (t : List Tok) (i : Int) (vs : List Str) (e p : Int) (σ : H) (b v : Nat) (D : Two σ b v) (hl : t.length ≤ 1000000) :
    DC Tryz.prog w0 134 [.ptr b 0] (tys σ b v t i vs e p) (Same (tokI t i).v (tys σ b v t i vs e p)) := by
  refine k134.go rfl (fun hok hsz => ?_)
  by_cases h : 0 ≤ i ∧ i < t.length
  · obtain ⟨h0, h1⟩ := h
    obtain ⟨n, rfl⟩ := Int.eq_ofNat_of_zero_le h0
    rw [tokI_nat]
    have h1' : n < t.length := by omega
    have hx : t[n]? = some t[n] := List.getElem?_eq_getElem h1'
    ((try refine W.a ?_); simp only [go_sem, seval, reduceCtorEq, c134, rsA D])
    (apply W.dregE (List.cons_ne_nil _ _); case hc => ((apply CanonE.advPO; simp only [go_sem, seval, reduceCtorEq, rsA D, h0, h1]); exact CanonE.nil))
    ((try refine W.a ?_); simp only [go_sem, seval, reduceCtorEq])
    refine W.yes rfl ?_
    ((try refine W.a ?_); simp only [go_sem, seval, reduceCtorEq])
    (apply W.dregE (List.cons_ne_nil _ _); case hc => ((apply CanonE.advPO; simp only [go_sem, seval, reduceCtorEq, rsA D, h0, h1, hx]); exact CanonE.nil))
    ((try refine W.a ?_); simp only [go_sem, seval, reduceCtorEq])
    (refine W.fs (hok) (by simp only [r134, go_sem, seval, reduceCtorEq, rsA D]; rfl) ?_ (hl := by (first | exact .c _ | (simp only [go_sem, seval, reduceCtorEq, rsA D]; done))); simp only [resV, rsA D]; try exact V.wk.rfl _)
    rw [tokL_in h1']
    (all_goals exact wk_here)
  · have ht : tokI t i = ⟨0, [], 0, lastPos t⟩ := by
      unfold tokI
      split
      · rw [tokL_out (by omega)]
      · rfl
    rw [ht]
    have two : (¬ 0 ≤ i) ∨ (0 ≤ i ∧ ¬ i < (t.length : Int)) := by
      by_cases h0 : 0 ≤ i
      · exact .inr ⟨h0, fun h1 => h ⟨h0, h1⟩⟩
      · exact .inl h0
    rcases two with h0 | ⟨h0, h1⟩
    all_goals
      ((try refine W.a ?_); simp only [go_sem, seval, reduceCtorEq, c134, rsA D])
      first
        | ((apply W.dregE (List.cons_ne_nil _ _); case hc => ((apply CanonE.advPO; simp only [go_sem, seval, reduceCtorEq, rsA D, h0, h1]); exact CanonE.nil)))
        | ((apply W.dregE (List.cons_ne_nil _ _); case hc => ((apply CanonE.advPO; simp only [go_sem, seval, reduceCtorEq, rsA D, h0]); exact CanonE.nil)))
      ((try refine W.a ?_); simp only [go_sem, seval, reduceCtorEq])
      refine W.no rfl ?_
      ((try refine W.a ?_); simp only [go_sem, seval, reduceCtorEq, rsA D])
      by_cases hz : 0 < t.length
      · have h2 : ((t.length : Int) > 0) := by omega
        have hw2 : IntKind.i64.wrap ((t.length : Int) - 1) = ((t.length - 1 : Nat) : Int) := by rw [wrap_in] <;> omega
        obtain ⟨x, hx, hp⟩ := lastPos_at hz
        have h3 : (((t.length - 1 : Nat) : Int) < (t.length : Int)) := by omega
        ((try refine W.a ?_); simp only [go_sem, seval, reduceCtorEq, h2])
        refine W.yes rfl ?_
        ((try refine W.a ?_); simp only [go_sem, seval, reduceCtorEq])
        (apply W.dregE (List.cons_ne_nil _ _); case hc => ((apply CanonE.advPO; simp only [go_sem, seval, reduceCtorEq, rsA D, hw2, nat0, h3, hx]); exact CanonE.nil))
        ((try refine W.a ?_); simp only [go_sem, seval, reduceCtorEq])
        (refine W.fs (hok) (by simp only [r134, go_sem, seval, reduceCtorEq, rsA D]; rfl) ?_ (hl := by (first | exact .c _ | (simp only [go_sem, seval, reduceCtorEq, rsA D]; done))); simp only [resV, rsA D]; try exact V.wk.rfl _)
        rw [hp]
        (all_goals exact wk_here)
      · have h2 : ¬ ((t.length : Int) > 0) := by omega
        have : t = [] := List.eq_nil_of_length_eq_zero (by omega)
        ((try refine W.a ?_); simp only [go_sem, seval, reduceCtorEq, h2])
        refine W.no rfl ?_
        ((try refine W.a ?_); simp only [go_sem, seval, reduceCtorEq, rsA D])
        (refine W.fs (hok) (by simp only [r134, go_sem, seval, reduceCtorEq, rsA D]; rfl) ?_ (hl := by (first | exact .c _ | (simp only [go_sem, seval, reduceCtorEq, rsA D]; done))); simp only [resV, rsA D]; try exact V.wk.rfl _)
        subst this
        (all_goals exact wk_here)
theorem ty_fail (w0 : World) (t : List Tok) (i : Int) (vs : List Str) (e p e' p' : Int) (σ : H) (b v : Nat) (D : Two σ b v) :
    DC Tryz.prog w0 161 [.ptr b 0, I e', I p'] (tys σ b v t i vs e p) (Same (.tup []) (tys σ b v t i vs (if e = 0 then e' else e) (if e = 0 then p' else p))) := by
  refine k161.go rfl (fun hok hsz => ?_)
  by_cases he : e = 0
  · subst he
    ((try refine W.a ?_); simp only [go_sem, seval, reduceCtorEq, c161, rsA D])
    refine W.yes rfl ?_
    ((try refine W.a ?_); simp only [go_sem, seval, reduceCtorEq, rsA D])
    (refine W.done (Fin.sameW (tys_ok D hok t i vs e' p') (by (first | rfl | exact List.length_set .. | simp)) (by simp only [r161, go_sem, seval, reduceCtorEq]; rfl) ?_ (by (first | exact .c _ | (simp only [go_sem, seval, reduceCtorEq]; done))) (by (first | rfl | exact (List.append_nil _).symm))); simp only [resV]; try exact V.wk.rfl _)
  · have he' : (e == 0) = false := by simpa using he
    ((try refine W.a ?_); simp only [go_sem, seval, reduceCtorEq, c161, rsA D, he'])
    refine W.no rfl ?_
    ((try refine W.a ?_); simp only [go_sem, seval, reduceCtorEq])
    rw [if_neg he, if_neg he]
    (refine W.done (Fin.sameW (hok) (by (first | rfl | exact List.length_set .. | simp)) (by simp only [r161, go_sem, seval, reduceCtorEq]; rfl) ?_ (by (first | exact .c _ | (simp only [go_sem, seval, reduceCtorEq]; done))) (by (first | rfl | exact (List.append_nil _).symm))); simp only [resV]; try exact V.wk.rfl _)
theorem ty_begins (w0 : World) (t : List Tok) (i : Int) (vs : List Str) (e p : Int) (σ : H) (b v : Nat) (D : Two σ b v) (hl : t.length ≤ 1000000) :
    DC Tryz.prog w0 136 [.ptr b 0] (tys σ b v t i vs e p) (Same (B (tyBegins (tokI t i))) (tys σ b v t i vs e p)) := by
  refine k136.go rfl (fun hok hsz => ?_)
  ((try refine W.a ?_); simp only [go_sem, seval, reduceCtorEq, c136])
  (refine W.c1 (ty_tok w0 t i vs e p σ b v D hl) ?_; simp only [go_sem, seval, reduceCtorEq])
  generalize tokI t i = x
  (((try refine W.a ?_); (try simp only [bne, go_sem, seval, reduceCtorEq, *])); (repeat' (first | (refine W.yes rfl ?_; (refine W.a ?_; simp only [bne, go_sem, seval, reduceCtorEq, *])) | (refine W.no rfl ?_; (refine W.a ?_; simp only [bne, go_sem, seval, reduceCtorEq, *])) | (refine W.testn rfl (fun hT => ?_) (fun hT => ?_) <;> (refine W.a ?_; simp only [bne, go_sem, seval, reduceCtorEq, *])) | (refine W.test rfl (fun hT => ?_) (fun hT => ?_) <;> (refine W.a ?_; simp only [bne, go_sem, seval, reduceCtorEq, *])) | (refine advG_ifn _ _ _ _ (fun hT => ?_) (fun hT => ?_) <;> simp only [bne, go_sem, seval, reduceCtorEq, *]) | (refine advG_if _ _ _ _ (fun hT => ?_) (fun hT => ?_) <;> simp only [bne, go_sem, seval, reduceCtorEq, *]))))
  all_goals (refine W.fs (hok) (by simp only [r136, go_sem, seval, reduceCtorEq]; rfl) ?_; simp only [resV]; (first | exact V.wk.rfl _ | (refine wk_bool ?_; clear hsz hok; rw [tyBegins] <;> ((try simp only [beq_iff_eq, beq_eq_false_iff_ne, ne_eq, decide_eq_true_eq, decide_eq_false_iff_not] at *); first | (exfalso; omega) | (simp [beq_iff_eq, *]; done) | (simp [beq_iff_eq, *]; omega) | (simp [beq_iff_eq, *])))))
theorem slices_Index (w0 : World) (l : List Str) (s : Str) (σ : H) : DC Tryz.prog w0 84 [.c (.sl (strsR l)), S s] σ (Same (I (idxI (· == s) l)) σ) := by
  refine k84.go rfl (fun hok hsz => ?_)
  have hlen : l.length ≤ 9223372036854775807 := sz_rows (hsz _ (List.mem_cons_self ..))
  ((try refine W.a ?_); simp only [go_sem, seval, reduceCtorEq, c84, strsR])
  refine W.loopP (fun i => i ≤ l.length ∧ UpTo (· == s) l i) (fun i => ⟨((((base.put (some 0) (.c (.sl (strsR l)))).put (some 1) (S s)).put (some 7) (I l.length)).put (some 8) (I (i : Nat))), σ⟩) (fun i => l.length - i) 0 ⟨Nat.zero_le _, upTo_zero⟩ ?_ (fun i hi => ?_)
  · (refine Lew.env ?_; exact lee_here)
  · obtain ⟨hi, hinv⟩ := hi
    by_cases hlt : i < l.length
    · have h1 : ((i : Int) < (l.length : Int)) := by omega
      have hx : l[i]? = some l[i] := List.getElem?_eq_getElem hlt
      have hw : IntKind.i64.wrap ((i : Int) + 1) = ((i + 1 : Nat) : Int) := wrap_next hlt hlen
      ((try refine W.a ?_); simp only [go_sem, seval, reduceCtorEq, h1])
      refine W.yes rfl ?_
      ((try refine W.a ?_); simp only [go_sem, seval, reduceCtorEq, strsR, h1, nat0, hx])
      refine W.test rfl (fun h => ?_) (fun h => ?_)
      · ((try refine W.a ?_); simp only [go_sem, seval, reduceCtorEq])
        (refine W.ret (Fin.same hok (by simp only [resEval, r84, go_sem, seval, reduceCtorEq]; rfl) ?_ (by first | exact .c _ | (simp only [go_sem, seval, reduceCtorEq]; done)) (by first | exact ⟨[], (List.append_nil _).symm⟩ | exact ⟨_, rfl⟩)); simp only [resV])
        rw [idxI_at hinv hlt (by simp only [beq_iff_eq] at h ⊢; exact h.symm)]
      · ((try refine W.a ?_); simp only [go_sem, seval, reduceCtorEq, hw])
        refine .inv ⟨i + 1, ⟨hlt, upTo_next hinv hlt (by simp only [beq_eq_false_iff_ne] at h ⊢; exact fun e => h e.symm)⟩, by omega, ?_⟩
        (refine Lew.env ?_; exact lee_here)
    · have h1 : ¬ ((i : Int) < (l.length : Int)) := by omega
      ((try refine W.a ?_); simp only [go_sem, seval, reduceCtorEq, h1])
      refine W.no rfl ?_
      ((try refine W.a ?_); simp only [go_sem, seval, reduceCtorEq])
      (refine W.ret (Fin.same hok (by simp only [resEval, r84, go_sem, seval, reduceCtorEq]; rfl) ?_ (by first | exact .c _ | (simp only [go_sem, seval, reduceCtorEq]; done)) (by first | exact ⟨[], (List.append_nil _).symm⟩ | exact ⟨_, rfl⟩)); simp only [resV])
      rw [idxI_none (fun j hj => hinv j hj (by omega))]
theorem ty_variable1 (w0 : World) (n : Int) (σ : H) : DC Tryz.prog w0 174 [I n] σ (Same (Typ.var n).v σ) := by
  refine k174.go rfl (fun hok hsz => ?_)
  ((try refine W.a ?_); simp only [go_sem, seval, reduceCtorEq, c174])
  (refine W.fg (hok) (d := (Typ.var n).v) (by simp only [r174, go_sem, seval, reduceCtorEq, Typ.v, Typ.var, tk_mk, tname_mk, tn_mk, tl_mk]; rfl) (by simp only [resV, go_sem, seval, reduceCtorEq, Typ.v, Typ.var, tk_mk, tname_mk, tn_mk, tl_mk]; exact wk_here) ?_ (hl := by (first | exact .c _ | (simp only [go_sem, seval, reduceCtorEq, Typ.v, Typ.var, tk_mk, tname_mk, tn_mk, tl_mk]; done))))
  exact ⟨rfl, rfl⟩
theorem vnum_no {vs : List Str} {s : Str} (h : idxI (· == s) vs = -1) : vnum vs s = vs.length ∧ vadd vs s = vs ++ [s] := by
  unfold idxI at h
  unfold vnum vadd
  cases hf : vs.findIdx? (· == s) with
  | none => simp
  | some k => rw [hf] at h; simp only at h; omega
theorem vnum_yes {vs : List Str} {s : Str} {k : Nat} (h : idxI (· == s) vs = k) : vnum vs s = k ∧ vadd vs s = vs := by
  unfold idxI at h
  unfold vnum vadd
  cases hf : vs.findIdx? (· == s) with
  | none => rw [hf] at h; simp only at h; omega
  | some j => rw [hf] at h; simp only at h; simp; omega
theorem tys_push (σ : H) (b v : Nat) (t : List Tok) (i : Int) (vs : List Str) (s : Str) (e p : Int) : tys σ b v t i (vs ++ [s]) e p = rs σ b v (.cells [.c (toksC t), I i, .osl v (strsR vs ++ [[C.str s]]), I e, I p]) (.spare 9 1 (vs.length + 1)) := by
  show rs σ b v (tyX t i v (vs ++ [s]) e p) (tyY (vs ++ [s])) = _
  simp only [tyX, tyY, strsR, List.map_append, List.map_cons, List.map_nil, List.length_append, List.length_cons, List.length_nil]
theorem ty_variable (w0 : World) (t : List Tok) (i : Int) (vs : List Str) (e p : Int) (s : Str) (σ : H) (b v : Nat) (D : Two σ b v) (hv : vs.length ≤ 1000000) :
    DC Tryz.prog w0 162 [.ptr b 0, S s] (tys σ b v t i vs e p) (Same (Typ.var (vnum vs s)).v (tys σ b v t i (vadd vs s) e p)) := by
  refine k162.go rfl (fun hok hsz => ?_)
  rcases idxI_cases (· == s) vs with ⟨h, h'⟩ | ⟨k, hk, h, h'⟩
  · obtain ⟨q1, q2⟩ := vnum_no h
    have hb1 : (vs.length + 1) * 16 ≤ 140737488355328 := by omega
    have hb2 : vs.length + 1 ≤ 140737488355328 := by omega
    ((try refine W.a ?_); simp only [go_sem, seval, reduceCtorEq, c162, rsA D])
    (refine W.c1w (slices_Index w0 vs s _) ?_; simp only [go_sem, seval, reduceCtorEq, h, show ((-1 : Int) < 0) = True from by decide])
    refine W.yes rfl ?_
    ((try refine W.a ?_); simp only [go_sem, seval, reduceCtorEq, rsA D, strsR, hb1, hb2])
    rw [q1, q2, tys_push]
    have hok2 := tys_ok D hok t i (vs ++ [s]) e p
    rw [tys_push] at hok2
    (refine W.c1 (ty_variable1 w0 (vs.length : Int) _) ?_; simp only [go_sem, seval, reduceCtorEq, Typ.var])
    (refine W.fg (hok2) (d := (Typ.var (vs.length : Int)).v) (by simp only [r162, go_sem, seval, reduceCtorEq, Typ.v, Typ.var, tk_mk, tname_mk, tn_mk, tl_mk]; rfl) (by simp only [resV, go_sem, seval, reduceCtorEq, Typ.v, Typ.var, tk_mk, tname_mk, tn_mk, tl_mk]; exact wk_here) ?_ (hl := by (first | exact .c _ | (simp only [go_sem, seval, reduceCtorEq, Typ.v, Typ.var, tk_mk, tname_mk, tn_mk, tl_mk]; done))))
    exact ⟨rfl, rfl⟩
  · obtain ⟨q1, q2⟩ := vnum_yes h
    have h1 : ¬ ((k : Int) < 0) := by omega
    ((try refine W.a ?_); simp only [go_sem, seval, reduceCtorEq, c162, rsA D])
    (refine W.c1w (slices_Index w0 vs s _) ?_; simp only [go_sem, seval, reduceCtorEq, h, h1])
    refine W.no rfl ?_
    ((try refine W.a ?_); simp only [go_sem, seval, reduceCtorEq])
    rw [q1, q2]
    (refine W.c1 (ty_variable1 w0 (k : Int) _) ?_; simp only [go_sem, seval, reduceCtorEq, Typ.var])
    (refine W.fg (hok) (d := (Typ.var (k : Int)).v) (by simp only [r162, go_sem, seval, reduceCtorEq, Typ.v, Typ.var, tk_mk, tname_mk, tn_mk, tl_mk]; rfl) (by simp only [resV, go_sem, seval, reduceCtorEq, Typ.v, Typ.var, tk_mk, tname_mk, tn_mk, tl_mk]; exact wk_here) ?_ (hl := by (first | exact .c _ | (simp only [go_sem, seval, reduceCtorEq, Typ.v, Typ.var, tk_mk, tname_mk, tn_mk, tl_mk]; done))))
    exact ⟨rfl, rfl⟩
end
section

def atomV (nm : Bool) (u : Typ) : V := if nm then .agg [I u.k, S u.name, I u.n, .csl []] else u.v
abbrev tyo (σ : H) (b v : Nat) (t : List Tok) (o : TyO) : H := tys σ b v t o.j o.ws o.e o.p
def TyTypeOK (w0 : World) (f : Nat) : Prop := ∀ (t : List Tok) (depth i : Nat) (vs : List Str) (r : TyR) (o : TyO) (σ : H) (b v : Nat), tyTypeF f t depth i vs = some r → tyTypeG f t depth i vs = some o → Two σ b v → t.length ≤ 1000000 → vs.length ≤ i → i ≤ t.length → depth ≤ 200 →
  DC Tryz.prog w0 110 [.ptr b 0, I depth] (tys σ b v t i vs 0 0) (Same o.u.v (tyo σ b v t o))
def TyAtomOK (w0 : World) (f : Nat) : Prop := ∀ (t : List Tok) (depth i : Nat) (vs : List Str) (r : TyR) (o : TyO) (σ : H) (b v : Nat), tyAtomF f t depth i vs = some r → tyAtomG f t depth i vs = some o → Two σ b v → t.length ≤ 1000000 → vs.length ≤ i → i ≤ t.length → depth ≤ 200 →
  DC Tryz.prog w0 135 [.ptr b 0, I depth] (tys σ b v t i vs 0 0) (Same (atomV ((tokL t i).kind == 1) o.u) (tyo σ b v t o))
attribute [local go_sem] tyX tyY rs_len rs_g0 rs_g rs_s0 rs_s rs_sv Typ.v Typ.cs_eq tk_mk tname_mk tn_mk tl_mk tysC
def innerT (f : Nat) (t : List Tok) (depth i : Nat) (vs : List Str) (pos : Int) : Option TyR := if 200 ≤ depth then some (.error ⟨31, pos⟩) else tyTypeF f t (depth + 1) i vs
def innerO (f : Nat) (t : List Tok) (depth i : Nat) (vs : List Str) (pos : Int) : Option TyO := if 200 ≤ depth then some ⟨.none, (i : Nat), vs, 31, pos⟩ else tyTypeG f t (depth + 1) i vs
theorem ty_inner {w0 : World} {f : Nat} (hE : TyTypeOK w0 f) (t : List Tok) (depth i : Nat) (vs : List Str) (k : Tok) (r : TyR) (o : TyO) (σ : H) (b v : Nat) (h : innerT f t depth i vs k.pos = some r) (ho : innerO f t depth i vs k.pos = some o) (D : Two σ b v) (ht : t.length ≤ 1000000) (hv : vs.length ≤ i) (hi : i ≤ t.length) (hd : depth ≤ 200) :
    DC Tryz.prog w0 137 [.ptr b 0, I depth, k.v] (tys σ b v t i vs 0 0) (Same o.u.v (tyo σ b v t o)) := by
  refine k137.go rfl (fun hok hsz => ?_)
  rw [innerT] at h
  rw [innerO] at ho
  by_cases hc : 200 ≤ depth
  · rw [if_pos hc] at h ho
    injection ho with ho
    subst ho
    have h1 : (depth : Int) ≥ 200 := by omega
    ((try refine W.a ?_); simp only [go_sem, seval, reduceCtorEq, c137, rsA D, h1])
    refine W.yes rfl ?_
    ((try refine W.a ?_); simp only [go_sem, seval, reduceCtorEq, rsA D])
    (refine W.c1 (DC.lift D (fun D' => ty_fail w0 t i vs 0 0 31 k.pos _ b v D')) ?_; simp only [go_sem, seval, reduceCtorEq, rsA D])
    (refine W.fg (tys_ok D hok t i vs 31 k.pos) (d := Typ.none.v) (by simp only [r137, go_sem, seval, reduceCtorEq, Typ.v, Typ.none, tk_mk, tname_mk, tn_mk, tl_mk]; rfl) (by simp only [resV, go_sem, seval, reduceCtorEq, Typ.v, Typ.none, tk_mk, tname_mk, tn_mk, tl_mk]; exact wk_here) ?_ (hl := by (first | exact .c _ | (simp only [go_sem, seval, reduceCtorEq, Typ.v, Typ.none, tk_mk, tname_mk, tn_mk, tl_mk]; done))))
    exact ⟨rfl, rfl⟩
  · rw [if_neg hc] at h ho
    have h1 : ¬ (depth : Int) ≥ 200 := by omega
    have hw : IntKind.i64.wrap ((depth : Int) + 1) = ((depth + 1 : Nat) : Int) := wrap_next (n := 201) (by omega) (by omega)
    ((try refine W.a ?_); simp only [go_sem, seval, reduceCtorEq, c137, rsA D, h1])
    refine W.no rfl ?_
    ((try refine W.a ?_); simp only [go_sem, seval, reduceCtorEq, hw])
    (refine W.c1 (DC.lift D (fun D' => hE t (depth + 1) i vs r o _ b v h ho D' ht hv hi (by omega))) ?_; simp only [go_sem, seval, reduceCtorEq, rsA D])
    (refine W.fg (tys_ok D hok t o.j o.ws o.e o.p) (d := o.u.v) (by simp only [r137, go_sem, seval, reduceCtorEq, Typ.v]; rfl) (by simp only [resV, go_sem, seval, reduceCtorEq, Typ.v]; exact wk_here) ?_ (hl := by (first | exact .c _ | (simp only [go_sem, seval, reduceCtorEq, Typ.v]; done))))
    exact ⟨rfl, rfl⟩
theorem ty_pos {f : Nat} {t : List Tok} {depth i : Nat} {vs : List Str} {pos : Int} {r : TyR} {o : TyO} (h : innerT f t depth i vs pos = some r) (ho : innerO f t depth i vs pos = some o) (ht : t.length ≤ 1000000) : o.e = 0 → o.p = 0 := fun he => by
  unfold innerT at h
  unfold innerO at ho
  by_cases hc : 200 ≤ depth
  · rw [if_pos hc] at ho
    injection ho with ho
    subst ho
    exact absurd he (by show ¬ (31 : Int) = 0; decide)
  · rw [if_neg hc] at h ho
    obtain ⟨o', h1, h2⟩ := (ty_out f).2.2.2 _ _ _ _ _ ht h
    rw [ho] at h1
    injection h1 with h1
    subst h1
    cases r with
    | ok x =>
      obtain ⟨u, j, ws⟩ := x
      have : o = ⟨u, (j : Nat), ws, 0, 0⟩ := h2
      rw [this]
    | error x =>
      obtain ⟨q1, _, q3⟩ := h2
      rw [← q1, he] at q3
      cases q3
theorem tyAtomF_eq (f : Nat) (t : List Tok) (depth i : Nat) (vs : List Str) : tyAtomF (f + 1) t depth i vs =
    if (tokL t i).kind = 1 then some (.ok (.con (tokL t i).text, i + 1, vs))
    else if (tokL t i).kind = 2 then some (.ok (.var (vnum vs (tokL t i).text), i + 1, vadd vs (tokL t i).text))
    else if (tokL t i).kind = 5 then
      match innerT f t depth (i + 1) vs (tokL t i).pos with
        | none => none
        | some (.error b) => some (.error b)
        | some (.ok (u, j, ws)) => if (tokL t j).kind = 6 then some (.ok (u, j + 1, ws)) else some (.error ⟨50, (tokL t j).pos⟩)
    else some (.error ⟨50, (tokL t i).pos⟩) := by
  rw [tyAtomF]
  unfold innerT
  by_cases hd : 200 ≤ depth
  · simp only [if_pos hd]
  · simp only [if_neg hd]
    rfl
theorem ty_atom {w0 : World} {f : Nat} (hE : TyTypeOK w0 f) : TyAtomOK w0 (f + 1) := by
  intro t depth i vs r o σ b v h ho D ht hv hi hd
  rw [tyAtomF_eq] at h
  rw [tyAtomG] at ho
  refine k135.go rfl (fun hok hsz => ?_)
  have hw : IntKind.i64.wrap ((i : Int) + 1) = ((i + 1 : Nat) : Int) := by rw [wrap_in] <;> omega
  ((try refine W.a ?_); simp only [go_sem, seval, reduceCtorEq, c135, rsA D])
  (refine W.c1 (DC.lift D (fun D' => ty_tok w0 t i vs 0 0 _ b v D' ht)) ?_; simp only [go_sem, seval, reduceCtorEq, rsA D, tokI_nat])
  (refine W.c1 (DC.lift D (fun D' => ty_begins w0 t i vs 0 0 _ b v D' ht)) ?_; simp only [go_sem, seval, reduceCtorEq, rsA D, tokI_nat])
  cases hB : tyBegins (tokL t i)
  · refine W.yes rfl ?_
    simp only [tyBegins, Bool.or_eq_false_iff, decide_eq_false_iff_not] at hB
    rw [if_neg hB.1.1, if_neg hB.1.2, if_neg hB.2] at ho
    have n1 : ((tokL t i).kind == 1) = false := by simpa using hB.1.1
    injection ho with ho
    subst ho
    ((try refine W.a ?_); simp only [go_sem, seval, reduceCtorEq, rsA D, n1])
    (refine W.c1 (DC.lift D (fun D' => ty_fail w0 t i vs 0 0 50 (tokL t i).pos _ b v D')) ?_; simp only [go_sem, seval, reduceCtorEq, rsA D])
    (refine W.fg (tys_ok D hok t i vs 50 (tokL t i).pos) (d := Typ.none.v) (by simp only [r135, go_sem, seval, reduceCtorEq, Typ.v, Typ.none, tk_mk, tname_mk, tn_mk, tl_mk]; rfl) (by simp only [resV, go_sem, seval, reduceCtorEq, Typ.v, Typ.none, tk_mk, tname_mk, tn_mk, tl_mk]; exact wk_here) ?_ (hl := by (first | exact .c _ | (simp only [go_sem, seval, reduceCtorEq, Typ.v, Typ.none, tk_mk, tname_mk, tn_mk, tl_mk]; done))))
    exact ⟨rfl, rfl⟩
  · refine W.no rfl ?_
    have hil : i < t.length := tyBegins_lt (by rw [hB]; decide)
    by_cases h1 : (tokL t i).kind = 1
    · rw [if_pos h1] at ho
      injection ho with ho
      subst ho
      ((try refine W.a ?_); simp only [go_sem, seval, reduceCtorEq, rsA D, hw, h1])
      refine W.yes rfl ?_
      ((try refine W.a ?_); simp only [go_sem, seval, reduceCtorEq, rsA D])
      (refine W.fg (tys_ok D hok t ((i + 1 : Nat) : Int) vs 0 0) (d := atomV true (.con (tokL t i).text)) (by simp only [r135, go_sem, seval, reduceCtorEq, atomV, if_true, Typ.con, tk_mk, tname_mk, tn_mk, tl_mk]; rfl) (by simp only [resV, go_sem, seval, reduceCtorEq, atomV, if_true, Typ.con, tk_mk, tname_mk, tn_mk, tl_mk]; exact wk_here) ?_ (hl := by (first | exact .c _ | (simp only [go_sem, seval, reduceCtorEq, atomV, if_true, Typ.con, tk_mk, tname_mk, tn_mk, tl_mk]; done))))
      exact ⟨rfl, rfl⟩
    · rw [if_neg h1] at h ho
      have n1 : ((tokL t i).kind == 1) = false := by simpa using h1
      by_cases h2 : (tokL t i).kind = 2
      · rw [if_pos h2] at ho
        injection ho with ho
        subst ho
        ((try refine W.a ?_); simp only [go_sem, seval, reduceCtorEq, rsA D, hw, h2])
        refine W.no rfl ?_
        ((try refine W.a ?_); simp only [go_sem, seval, reduceCtorEq, rsA D])
        refine W.yes rfl ?_
        ((try refine W.a ?_); simp only [go_sem, seval, reduceCtorEq, rsA D])
        (refine W.c1 (DC.lift D (fun D' => ty_variable w0 t ((i + 1 : Nat) : Int) vs 0 0 (tokL t i).text _ b v D' (by omega))) ?_; simp only [go_sem, seval, reduceCtorEq, rsA D])
        (refine W.fg (tys_ok D hok t ((i + 1 : Nat) : Int) (vadd vs (tokL t i).text) 0 0) (d := (Typ.var (vnum vs (tokL t i).text)).v) (by simp only [r135, go_sem, seval, reduceCtorEq, Typ.v, Typ.var, tk_mk, tname_mk, tn_mk, tl_mk]; rfl) (by simp only [resV, go_sem, seval, reduceCtorEq, Typ.v, Typ.var, tk_mk, tname_mk, tn_mk, tl_mk]; exact wk_here) ?_ (hl := by (first | exact .c _ | (simp only [go_sem, seval, reduceCtorEq, Typ.v, Typ.var, tk_mk, tname_mk, tn_mk, tl_mk]; done))))
        exact ⟨rfl, rfl⟩
      · rw [if_neg h2] at h ho
        have n2 : ((tokL t i).kind == 2) = false := by simpa using h2
        have h5 : (tokL t i).kind = 5 := by
          simp only [tyBegins, Bool.or_eq_true, decide_eq_true_eq] at hB
          rcases hB with (hB | hB) | hB
          · exact absurd hB h1
          · exact absurd hB h2
          · exact hB
        rw [if_pos h5] at h ho
        ((try refine W.a ?_); simp only [go_sem, seval, reduceCtorEq, rsA D, hw, n1, n2])
        refine W.no rfl ?_
        ((try refine W.a ?_); simp only [go_sem, seval, reduceCtorEq, rsA D, n2])
        refine W.no rfl ?_
        ((try refine W.a ?_); simp only [go_sem, seval, reduceCtorEq, rsA D])
        cases hr : innerT f t depth (i + 1) vs (tokL t i).pos with
        | none => rw [hr] at h; cases h
        | some y =>
          cases hro : innerO f t depth (i + 1) vs (tokL t i).pos with
          | none =>
            unfold innerO at hro
            rw [hro] at ho; cases ho
          | some x =>
            have hro' := hro
            unfold innerO at hro'
            rw [hro'] at ho
            injection ho with ho
            subst ho
            (refine W.c1 (DC.lift D (fun D' => ty_inner hE t depth (i + 1) vs (tokL t i) y x _ b v hr hro D' ht (by omega) (by omega) hd)) ?_; simp only [go_sem, seval, reduceCtorEq, rsA D])
            (refine W.c1 (DC.lift D (fun D' => ty_tok w0 t x.j x.ws x.e x.p _ b v D' ht)) ?_; simp only [go_sem, seval, reduceCtorEq, rsA D])
            by_cases h6 : (tokI t x.j).kind = 6
            · have hcl : closeO t x = ⟨x.u, IntKind.i64.wrap (x.j + 1), x.ws, x.e, x.p⟩ ∨ (x.e = 0 ∧ closeO t x = ⟨x.u, IntKind.i64.wrap (x.j + 1), x.ws, 0, 0⟩) := by
                unfold closeO
                by_cases he : x.e = 0
                · right; simp only [if_pos he, if_pos h6]; exact ⟨he, trivial⟩
                · left; simp only [if_neg he]
              have hp : x.e = 0 → x.p = 0 := ty_pos hr hro ht
              have hcl' : closeO t x = ⟨x.u, IntKind.i64.wrap (x.j + 1), x.ws, x.e, x.p⟩ := by
                rcases hcl with hcl | ⟨he, hcl⟩
                · exact hcl
                · rw [hcl, he, hp he]
              rw [hcl']
              ((try refine W.a ?_); simp only [go_sem, seval, reduceCtorEq, rsA D, h6, show ((6 : Int) != 6) = false from rfl])
              refine W.no rfl ?_
              ((try refine W.a ?_); simp only [go_sem, seval, reduceCtorEq, rsA D])
              (refine W.fg (tys_ok D hok t (IntKind.i64.wrap (x.j + 1)) x.ws x.e x.p) (d := x.u.v) (by simp only [r135, go_sem, seval, reduceCtorEq, Typ.v]; rfl) (by simp only [resV, go_sem, seval, reduceCtorEq, Typ.v]; exact wk_here) ?_ (hl := by (first | exact .c _ | (simp only [go_sem, seval, reduceCtorEq, Typ.v]; done))))
              exact ⟨rfl, rfl⟩
            · have n6 : ((tokI t x.j).kind != 6) = true := by simpa using h6
              have hcl : closeO t x = ⟨x.u, IntKind.i64.wrap (x.j + 1), x.ws, if x.e = 0 then 50 else x.e, if x.e = 0 then (tokI t x.j).pos else x.p⟩ := by
                unfold closeO
                simp only [if_neg h6]
              rw [hcl]
              ((try refine W.a ?_); simp only [go_sem, seval, reduceCtorEq, rsA D, n6])
              refine W.yes rfl ?_
              ((try refine W.a ?_); simp only [go_sem, seval, reduceCtorEq, rsA D])
              (refine W.c1 (DC.lift D (fun D' => ty_fail w0 t x.j x.ws x.e x.p 50 (tokI t x.j).pos _ b v D')) ?_; simp only [go_sem, seval, reduceCtorEq, rsA D])
              (refine W.fg (tys_ok D hok t (IntKind.i64.wrap (x.j + 1)) x.ws (if x.e = 0 then 50 else x.e) (if x.e = 0 then (tokI t x.j).pos else x.p)) (d := x.u.v) (by simp only [r135, go_sem, seval, reduceCtorEq, Typ.v]; rfl) (by simp only [resV, go_sem, seval, reduceCtorEq, Typ.v]; exact wk_here) ?_ (hl := by (first | exact .c _ | (simp only [go_sem, seval, reduceCtorEq, Typ.v]; done))))
              exact ⟨rfl, rfl⟩
end
section
attribute [local go_sem] tyX tyY rs_len rs_g0 rs_g rs_s0 rs_s rs_sv Typ.v Typ.cs_eq tk_mk tname_mk tn_mk tl_mk tysC

theorem ty_Arrow1 (w0 : World) (to u : Typ) (σ : H) : DC Tryz.prog w0 12 [to.v, .c (.sl [[.int .i64 u.k, .str u.name, .int .i64 u.n, .sl (u.l.map Typ.cs)]])] σ (Same (Typ.arr u to).v σ) := by
  have h := ty_Arrow w0 to [u] (by simp) σ
  unfold tysC at h
  rw [List.map_cons, List.map_nil, Typ.cs_eq] at h
  exact h
/-- The code behind the loop. -/
def tyTailC : AC := match c110 with
  | .seq _ (.seq _ (.seq _ (.seq _ x))) => x
  | _ => .skip
theorem ty_tailW {w0 : World} {f : Nat} (hE : ∀ g, g ≤ f → TyTypeOK w0 g) {t : List Tok} {depth : Nat} {r : TyR} {o2 o : TyO} {σ : H} {b v : Nat} (D : Two σ b v) (ht : t.length ≤ 1000000) (hd : depth ≤ 200)
    (hin : (o2.e ≠ 0 ∧ o = o2) ∨ (∃ j : Nat, o2 = ⟨o2.u, (j : Nat), o2.ws, 0, 0⟩ ∧ tyTailF f t depth j o2.ws o2.u = some r ∧ tyTailG f t depth o2 = some o ∧ j ≤ t.length ∧ o2.ws.length ≤ j))
    {x3 : V} (hx : x3 = .c (tysC o2.u.l) ∨ ∃ q, x3 = .osl q (o2.u.l.map Typ.cs)) (ex : H) {ρ : Env} (e0 : ρ 0 = .ptr b 0) (e1 : ρ 1 = I depth) (e4 : ρ 4 = .ptr σ.length 0) (e6 : ρ 6 = .ptr (σ.length + 1) 0) (hok : H.ok (tys σ b v t 0 [] 0 0)) :
    W Tryz.prog w0 σ.length (Lamb.Fin r110 σ.length (Same o.u.v (tyo σ b v t o))) [.code tyTailC] ⟨ρ, tyo σ b v t o2 ++ (.cells [I 0, S [], I 0, .csl []] :: .cells [I o2.u.k, S o2.u.name, I o2.u.n, x3] :: ex)⟩ := by
  have hlen : (tyo σ b v t o2).length = σ.length := rs_len _ _
  rcases hin with ⟨hne, rfl⟩ | ⟨j, hj, hF, hG, hjl, hws⟩
  · have hb : (o.e != 0) = true := by simpa using hne
    rcases hx with rfl | ⟨q, rfl⟩
    all_goals
      ((try refine W.a ?_); simp only [go_sem, seval, reduceCtorEq, tyTailC, c110, rsA D, e0, e1, e4, e6])
      (refine W.c1 (DC.lift D (fun D' => ty_tok w0 t o.j o.ws o.e o.p _ b v D' ht)) ?_; simp only [go_sem, seval, reduceCtorEq, rsA D, hb, e0, e1, e4, e6])
      refine W.yes rfl ?_
      ((try refine W.a ?_); simp only [go_sem, seval, reduceCtorEq, rsA D, e0, e1, e4, e6])
      (refine W.fg (tys_ok D hok t o.j o.ws o.e o.p) (d := o.u.v) (by simp only [r110, go_sem, seval, reduceCtorEq, Typ.v, e4]; rfl) (by simp only [resV, go_sem, seval, reduceCtorEq, Typ.v, e4]; exact wk_here) ?_ (hl := by (first | exact .c _ | (simp only [go_sem, seval, reduceCtorEq, Typ.v, e4]; done))))
      exact ⟨rfl, rfl⟩
  · rw [hj] at hG ⊢
    generalize o2.u = u at *
    generalize o2.ws = ws at *
    obtain ⟨f', rfl⟩ : ∃ f', f = f' + 1 := by
      cases f with
      | zero => simp [tyTailF] at hF
      | succ f' => exact ⟨f', rfl⟩
    rw [tyTailF] at hF
    rw [tyTailG] at hG
    simp only [tokI_nat, true_and] at hG
    by_cases hc : (tokL t j).kind = 4 ∧ (tokL t j).text = [45, 62]
    · rw [if_pos hc] at hF hG
      have hw : IntKind.i64.wrap ((j : Int) + 1) = ((j + 1 : Nat) : Int) := by rw [wrap_in] <;> omega
      have hjl' := tokL_lt (t := t) (i := j) (by rw [hc.1]; decide)
      have et : ((j : Int) + 1).toNat = j + 1 := by omega
      have hI : ∃ ri oi, innerT f' t depth (j + 1) ws (tokL t j).pos = some ri ∧ innerO f' t depth (j + 1) ws (tokL t j).pos = some oi ∧ o = ⟨.arr u oi.u, oi.j, oi.ws, oi.e, oi.p⟩ := by
        unfold innerT innerO
        by_cases c4 : 200 ≤ depth
        · rw [if_pos c4] at hG
          injection hG with hG
          simp only [if_pos c4]
          exact ⟨_, _, rfl, rfl, by rw [← hG, hw]⟩
        · rw [if_neg c4] at hF hG
          simp only [if_neg c4]
          rw [et] at hG
          cases hy : tyTypeF f' t (depth + 1) (j + 1) ws with
          | none => rw [hy] at hF; cases hF
          | some ry =>
            cases hz : tyTypeG f' t (depth + 1) (j + 1) ws with
            | none => rw [hz] at hG; cases hG
            | some oy =>
              rw [hz] at hG
              injection hG with hG
              exact ⟨_, _, rfl, rfl, hG.symm⟩
      obtain ⟨ri, oi, hri, hoi, rfl⟩ := hI
      have k4 : ((tokL t j).kind != 4) = false := by simpa using hc.1
      have ktx : ((tokL t j).text != [45, 62]) = false := by simpa using hc.2
      have ktx2 : ((tokL t j).text == [45, 62]) = true := by simpa using hc.2
      rcases hx with rfl | ⟨q, rfl⟩
      all_goals
        ((try refine W.a ?_); simp only [go_sem, seval, reduceCtorEq, tyTailC, c110, rsA D, e0, e1, e4, e6])
        (refine W.c1 (DC.lift D (fun D' => ty_tok w0 t j ws 0 0 _ b v D' ht)) ?_; simp only [go_sem, seval, reduceCtorEq, rsA D, e0, e1, e4, e6, tokI_nat, k4, ktx, ktx2])
        refine W.no rfl ?_
        ((try refine W.a ?_); simp only [go_sem, seval, reduceCtorEq, rsA D, e0, e1, e4, e6, hw])
        apply W.dregE (List.cons_ne_nil _ _)
        case hc =>
          (apply CanonE.advPO; simp only [go_sem, seval, reduceCtorEq, rsA D, e0, e1, e4, e6])
          (apply CanonE.call (DC.lift D (fun D' => ty_inner (hE f' (by omega)) t depth (j + 1) ws (tokL t j) ri oi _ b v hri hoi D' ht (by omega) (by omega) hd)); (case hg => rfl); (case hf => rfl); (case ha => first | rfl | simp))
          (apply CanonE.advPO; simp only [go_sem, seval, reduceCtorEq, rsA D, e0, e1, e4, e6])
          (apply CanonE.callw (ty_Arrow1 w0 oi.u u _); (case hg => rfl); (case hf => rfl); (case ha => rfl); (case hw => ((exact wk_here))))
          (apply CanonE.advPO; simp only [go_sem, seval, reduceCtorEq, rsA D, e0, e1, e4, e6, Typ.arr])
          exact CanonE.nil
        ((try refine W.a ?_); simp only [go_sem, seval, reduceCtorEq, rsA D, e4])
        (refine W.fg (tys_ok D hok t oi.j oi.ws oi.e oi.p) (d := (Typ.arr u oi.u).v) (by simp only [r110, go_sem, seval, reduceCtorEq, Typ.v, Typ.arr, tk_mk, tname_mk, tn_mk, tl_mk, Typ.cs_eq, e4]; rfl) (by simp only [resV, go_sem, seval, reduceCtorEq, Typ.v, Typ.arr, tk_mk, tname_mk, tn_mk, tl_mk, Typ.cs_eq, e4]; exact wk_here) ?_ (hl := by (first | exact .c _ | (simp only [go_sem, seval, reduceCtorEq, Typ.v, Typ.arr, tk_mk, tname_mk, tn_mk, tl_mk, Typ.cs_eq, e4]; done))))
        exact ⟨rfl, rfl⟩
    · rw [if_neg hc] at hG
      injection hG with hG
      subst hG
      have two : ((tokL t j).kind != 4) = true ∨ (((tokL t j).kind != 4) = false ∧ ((tokL t j).text == [45, 62]) = false) := by
        cases ho : ((tokL t j).kind != 4)
        · refine .inr ⟨rfl, ?_⟩
          cases h6 : ((tokL t j).text == [45, 62])
          · rfl
          · exact absurd ⟨by simpa using ho, by simpa using h6⟩ hc
        · exact .inl rfl
      rcases hx with rfl | ⟨q, rfl⟩ <;> rcases two with k4 | ⟨k4, ktx⟩
      all_goals
        ((try refine W.a ?_); simp only [go_sem, seval, reduceCtorEq, tyTailC, c110, rsA D, e0, e1, e4, e6])
        first
          | ((refine W.c1 (DC.lift D (fun D' => ty_tok w0 t j ws 0 0 _ b v D' ht)) ?_; simp only [go_sem, seval, reduceCtorEq, rsA D, e0, e1, e4, e6, tokI_nat, k4, ktx])
             refine W.yes rfl ?_)
          | ((refine W.c1 (DC.lift D (fun D' => ty_tok w0 t j ws 0 0 _ b v D' ht)) ?_; simp only [go_sem, seval, reduceCtorEq, rsA D, e0, e1, e4, e6, tokI_nat, k4])
             refine W.yes rfl ?_)
        ((try refine W.a ?_); simp only [go_sem, seval, reduceCtorEq, rsA D, e0, e1, e4, e6])
        (refine W.fg (tys_ok D hok t j ws 0 0) (d := u.v) (by simp only [r110, go_sem, seval, reduceCtorEq, Typ.v, e4]; rfl) (by simp only [resV, go_sem, seval, reduceCtorEq, Typ.v, e4]; exact wk_here) ?_ (hl := by (first | exact .c _ | (simp only [go_sem, seval, reduceCtorEq, Typ.v, e4]; done))))
        exact ⟨rfl, rfl⟩
structure ArgO where
  g : Nat
  o : TyO
theorem ty_read {w0 : World} {f : Nat} (hA : ∀ g, g ≤ f → TyAtomOK w0 g) (hE : ∀ g, g ≤ f → TyTypeOK w0 g) : TyTypeOK w0 (f + 1) := by
  intro t depth i vs r o σ b v h ho D ht hv hi hd
  rw [tyTypeF] at h
  rw [tyTypeG] at ho
  refine k110.go rfl (fun hok hsz => ?_)
  have hok0 : H.ok (tys σ b v t 0 [] 0 0) := tys_ok D hok t 0 [] 0 0
  ((try refine W.a ?_); simp only [go_sem, seval, reduceCtorEq, c110, rsA D])
  (refine W.c1 (DC.lift D (fun D' => ty_tok w0 t i vs 0 0 _ b v D' ht)) ?_; simp only [go_sem, seval, reduceCtorEq, rsA D, tokI_nat])
  cases ha : tyAtomF f t depth i vs with
  | none => rw [ha] at h; cases h
  | some ra =>
    rw [ha] at h
    obtain ⟨oa, hoa, hOa⟩ := (ty_out f).1 _ _ _ _ _ ht ha
    rw [hoa] at ho
    simp only at ho
    cases hk : ((tokL t i).kind == 1)
    · have hk1 : ¬ (tokL t i).kind = 1 := by simpa using hk
      rw [if_neg hk1] at ho
      simp only at ho
      have hin : (oa.e ≠ 0 ∧ o = oa) ∨ (∃ j : Nat, oa = ⟨oa.u, (j : Nat), oa.ws, 0, 0⟩ ∧ tyTailF f t depth j oa.ws oa.u = some r ∧ tyTailG f t depth oa = some o ∧ j ≤ t.length ∧ oa.ws.length ≤ j) := by
        cases ra with
        | error x =>
          obtain ⟨q1, q2, q3⟩ := hOa
          have hne : oa.e ≠ 0 := by rw [q1]; simpa using q3
          left
          refine ⟨hne, ?_⟩
          cases f with
          | zero => simp [tyAtomF] at ha
          | succ f' => rw [tail_stop hne] at ho; injection ho with ho; exact ho.symm
        | ok x =>
          obtain ⟨u, j, ws⟩ := x
          have hO' : oa = ⟨u, (j : Nat), ws, 0, 0⟩ := hOa
          have b1 := (ty_bounds f).1 _ _ _ _ _ _ _ ha
          simp only [if_neg hk1] at h
          right
          subst hO'
          exact ⟨j, rfl, h, ho, b1.2.1, by show ws.length ≤ j; omega⟩
      (refine W.c1 (DC.lift D (fun D' => hA f (Nat.le_refl f) t depth i vs ra oa _ b v ha hoa D' ht hv hi hd)) ?_; simp only [go_sem, seval, reduceCtorEq, rsA D, hk, atomV, Bool.false_eq_true, if_false])
      refine W.loopP (fun _ : Unit => True) (fun _ => ⟨(((((base.put (some 0) (.ptr b 0)).put (some 1) (I depth)).put (some 4) (.ptr σ.length 0)).put (some 5) (B false)).put (some 6) (.ptr (σ.length + 1) 0)), tyo σ b v t oa ++ [.cells [I 0, S [], I 0, .csl []], .cells [I oa.u.k, S oa.u.name, I oa.u.n, .c (tysC oa.u.l)]]⟩) (fun _ => 0) () trivial ?_ (fun x hx => ?_)
      · (refine Lew.env ?_; exact lee_here)
      · ((try refine W.a ?_); simp only [go_sem, seval, reduceCtorEq, rsA D])
        refine W.no rfl ?_
        (refine W.advO 1 _ _ ?_; simp only [go_sem])
        refine ty_tailW hE D ht hd hin (.inl rfl) [] ?_ ?_ ?_ ?_ hok0 <;> rfl
    · have hk1 : (tokL t i).kind = 1 := by simpa using hk
      rw [if_pos hk1] at ho
      have hoa' : oa = ⟨.con (tokL t i).text, (i + 1 : Nat), vs, 0, 0⟩ := by
        cases f with
        | zero => simp [tyAtomF] at ha
        | succ f' =>
          rw [tyAtomG, if_pos hk1] at hoa
          injection hoa with hoa
          exact hoa.symm
      have hil : i < t.length := tokL_lt (by rw [hk1]; decide)
      subst hoa'
      have hraE : ra = .ok (.con (tokL t i).text, i + 1, vs) := by
        cases f with
        | zero => simp [tyAtomF] at ha
        | succ f' =>
          rw [tyAtomF, if_pos hk1] at ha
          injection ha with ha
          exact ha.symm
      subst hraE
      simp only [if_pos hk1] at h
      cases hg : tyArgsF f t depth (i + 1) vs (.con (tokL t i).text) with
      | none => rw [hg] at h; cases h
      | some r1 =>
        rw [hg] at h
        cases hgo : tyArgsG f t depth ⟨.con (tokL t i).text, (i + 1 : Nat), vs, 0, 0⟩ with
        | none => rw [hgo] at ho; cases ho
        | some o1 =>
          rw [hgo] at ho
          simp only at ho
          (refine W.c1 (DC.lift D (fun D' => hA f (Nat.le_refl f) t depth i vs _ _ _ b v ha hoa D' ht hv hi hd)) ?_; simp only [go_sem, seval, reduceCtorEq, rsA D, hk, atomV, if_true, Typ.con])
          refine W.ownCell (σ.length + 1) 3 42 4 (cs := [.c (.int .i64 0), .c (.str (tokL t i).text), .c (.int .i64 0), .csl []]) (tg := none) ?_ rfl ?_
          · simp only [rs_g, List.getElem?_cons_succ, List.getElem?_cons_zero]
          · ((try refine W.a ?_); simp only [go_sem, seval, reduceCtorEq, rsA D])
            obtain ⟨o1', ho1', hO1⟩ := (ty_out f).2.1 _ _ _ _ _ _ ht hg
            rw [hgo] at ho1'
            injection ho1' with ho1'
            subst ho1'
            have b1 := (ty_bounds f).1 _ _ _ _ _ _ _ ha
            have hf0 : 0 < f := by
              cases f with
              | zero => simp [tyAtomF] at ha
              | succ f' => omega
            have hin : (o1.e ≠ 0 ∧ o = o1) ∨ (∃ j : Nat, o1 = ⟨o1.u, (j : Nat), o1.ws, 0, 0⟩ ∧ tyTailF f t depth j o1.ws o1.u = some r ∧ tyTailG f t depth o1 = some o ∧ j ≤ t.length ∧ o1.ws.length ≤ j) := by
              cases r1 with
              | error x =>
                obtain ⟨q1, q2, q3⟩ := hO1
                have hne : o1.e ≠ 0 := by rw [q1]; simpa using q3
                left
                refine ⟨hne, ?_⟩
                obtain ⟨f', rfl⟩ : ∃ f', f = f' + 1 := ⟨f - 1, by omega⟩
                rw [tail_stop hne] at ho
                injection ho with ho
                exact ho.symm
              | ok x =>
                obtain ⟨u, j, ws⟩ := x
                have hO' : o1 = ⟨u, (j : Nat), ws, 0, 0⟩ := hO1
                have b2 := (ty_bounds f).2.1 _ _ _ _ _ _ _ _ hg b1.2.1
                right
                subst hO'
                exact ⟨j, rfl, h, ho, b2.2.1, by show ws.length ≤ j; omega⟩
            refine W.loopP (fun x : ArgO => tyArgsG x.g t depth x.o = some o1 ∧ x.g ≤ f ∧ 0 < x.g ∧ (x.o.e ≠ 0 ∨ ∃ (j : Nat) (ra : TyR), x.o.j = j ∧ x.o.e = 0 ∧ x.o.p = 0 ∧ tyArgsF x.g t depth j x.o.ws x.o.u = some ra ∧ j ≤ t.length ∧ x.o.ws.length ≤ j ∧ x.o.u.l.length ≤ j))
              (fun x => ⟨(((((base.put (some 0) (.ptr b 0)).put (some 1) (I depth)).put (some 4) (.ptr σ.length 0)).put (some 5) (B true)).put (some 6) (.ptr (σ.length + 1) 0)), tyo σ b v t x.o ++ [.cells [I 0, S [], I 0, .csl []], .cells [I x.o.u.k, S x.o.u.name, I x.o.u.n, .osl (σ.length + 2) (x.o.u.l.map Typ.cs)], .spare 42 4 x.o.u.l.length]⟩)
              (fun x => x.g) ⟨f, ⟨.con (tokL t i).text, (i + 1 : Nat), vs, 0, 0⟩⟩ ⟨hgo, Nat.le_refl f, hf0, .inr ⟨i + 1, r1, rfl, rfl, rfl, hg, by omega, by show vs.length ≤ i + 1; omega, Nat.zero_le _⟩⟩ ?_ (fun x hx => ?_)
            · (refine Lew.env ?_; exact lee_here)
            · obtain ⟨g, ⟨u, j', ws, e, p⟩⟩ := x
              obtain ⟨hG, hgf, hg0, hst⟩ := hx
              simp only at hG hgf hg0 hst
              obtain ⟨g', rfl⟩ : ∃ g', g = g' + 1 := ⟨g - 1, by omega⟩
              rcases hst with hne | ⟨j, ra', rfl, rfl, rfl, hF, hjl, hwl, hul⟩
              · rw [args_stop hne] at hG
                injection hG with hG
                subst hG
                have hb : (e == 0) = false := by simpa using hne
                ((try refine W.a ?_); simp only [go_sem, seval, reduceCtorEq, rsA D, hb])
                refine W.no rfl ?_
                (refine W.advO 1 _ _ ?_; simp only [go_sem])
                refine ty_tailW hE D ht hd hin (.inr ⟨_, rfl⟩) [_] ?_ ?_ ?_ ?_ hok0 <;> rfl
              · rw [tyArgsG] at hG
                rw [tyArgsF] at hF
                simp only [tokI_nat, true_and, Int.toNat_natCast] at hG
                ((try refine W.a ?_); simp only [go_sem, seval, reduceCtorEq, rsA D])
                (refine W.c1 (DC.lift D (fun D' => ty_begins w0 t j ws 0 0 _ b v D' ht)) ?_; simp only [go_sem, seval, reduceCtorEq, rsA D, tokI_nat])
                cases hB : tyBegins (tokL t j)
                · rw [if_neg (by rw [hB]; decide)] at hG
                  injection hG with hG
                  subst hG
                  ((try refine W.a ?_); simp only [go_sem, seval, reduceCtorEq, hB])
                  refine W.no rfl ?_
                  (refine W.advO 1 _ _ ?_; simp only [go_sem])
                  refine ty_tailW hE D ht hd hin (.inr ⟨_, rfl⟩) [_] ?_ ?_ ?_ ?_ hok0 <;> rfl
                · rw [if_neg (by rw [hB]; decide)] at hF
                  rw [if_pos hB] at hG
                  have hjl' := tyBegins_lt (t := t) (i := j) (by rw [hB]; decide)
                  cases ha' : tyAtomF g' t depth j ws with
                  | none => rw [ha'] at hF; cases hF
                  | some rb =>
                    rw [ha'] at hF
                    obtain ⟨a, hag, haO⟩ := (ty_out g').1 _ _ _ _ _ ht ha'
                    rw [hag] at hG
                    simp only at hG
                    have hgp : 0 < g' := by
                      cases g' with
                      | zero => simp [tyAtomF] at ha'
                      | succ k => omega
                    have hal : ((tokL t j).kind == 1) = true → a.u.l = [] := fun hk2 => by
                      cases g' with
                      | zero => simp [tyAtomF] at ha'
                      | succ k =>
                        rw [tyAtomG, if_pos (by simpa using hk2)] at hag
                        injection hag with hag
                        rw [← hag]; rfl
                    have hbd1 : (u.l.length + 1) * 56 ≤ 140737488355328 := by omega
                    have hbd2 : u.l.length + 1 ≤ 140737488355328 := by omega
                    have hinv : tyArgsG g' t depth ⟨u.put a.u, a.j, a.ws, a.e, a.p⟩ = some o1 ∧ g' ≤ f ∧ 0 < g' ∧ (a.e ≠ 0 ∨ ∃ (k : Nat) (rc : TyR), a.j = k ∧ a.e = 0 ∧ a.p = 0 ∧ tyArgsF g' t depth k a.ws (u.put a.u) = some rc ∧ k ≤ t.length ∧ a.ws.length ≤ k ∧ (u.put a.u).l.length ≤ k) := by
                      refine ⟨hG, by omega, hgp, ?_⟩
                      cases rb with
                      | error x =>
                        obtain ⟨q1, q2, q3⟩ := haO
                        left; rw [q1]; simpa using q3
                      | ok x =>
                        obtain ⟨ua, k, ws'⟩ := x
                        have hO' : a = ⟨ua, (k : Nat), ws', 0, 0⟩ := haO
                        have b2 := (ty_bounds g').1 _ _ _ _ _ _ _ ha'
                        subst hO'
                        right
                        refine ⟨k, _, rfl, rfl, rfl, hF, b2.2.1, by show ws'.length ≤ k; omega, ?_⟩
                        simp only [Typ.put, tl_mk, List.length_append, List.length_cons, List.length_nil]
                        omega
                    ((try refine W.a ?_); simp only [go_sem, seval, reduceCtorEq, hB])
                    refine W.yes rfl ?_
                    ((try refine W.a ?_); simp only [go_sem, seval, reduceCtorEq, rsA D])
                    cases hk2 : ((tokL t j).kind == 1)
                    · apply W.dregE (List.cons_ne_nil _ _)
                      case hc =>
                        (apply CanonE.advPO; simp only [go_sem, seval, reduceCtorEq, rsA D])
                        (apply CanonE.call (DC.lift D (fun D' => hA g' (by omega) t depth j ws rb a _ b v ha' hag D' ht hwl hjl hd)); (case hg => rfl); (case hf => rfl); (case ha => first | rfl | simp))
                        (apply CanonE.advPO; simp only [go_sem, seval, reduceCtorEq, rsA D, hk2, atomV, Bool.false_eq_true, if_false, hbd1, hbd2])
                        exact CanonE.nil
                      ((try refine W.a ?_); simp only [go_sem, seval, reduceCtorEq, rsA D])
                      refine .inv ⟨⟨g', ⟨u.put a.u, a.j, a.ws, a.e, a.p⟩⟩, hinv, by simp, ?_⟩
                      simp only [go_sem, seval, reduceCtorEq, Typ.put, tk_mk, tname_mk, tn_mk, tl_mk, List.map_append, List.length_append, rsA D]
                      (refine Lew.env ?_; exact lee_here)
                    · have hal' := hal hk2
                      apply W.dregE (List.cons_ne_nil _ _)
                      case hc =>
                        (apply CanonE.advPO; simp only [go_sem, seval, reduceCtorEq, rsA D])
                        (apply CanonE.call (DC.lift D (fun D' => hA g' (by omega) t depth j ws rb a _ b v ha' hag D' ht hwl hjl hd)); (case hg => rfl); (case hf => rfl); (case ha => first | rfl | simp))
                        (apply CanonE.advPO; simp only [go_sem, seval, reduceCtorEq, rsA D, hk2, atomV, if_true, hbd1, hbd2])
                        exact CanonE.nil
                      ((try refine W.a ?_); simp only [go_sem, seval, reduceCtorEq, rsA D])
                      refine .inv ⟨⟨g', ⟨u.put a.u, a.j, a.ws, a.e, a.p⟩⟩, hinv, by simp, ?_⟩
                      simp only [go_sem, seval, reduceCtorEq, Typ.put, tk_mk, tname_mk, tn_mk, tl_mk, hal', List.map_append, List.length_append, rsA D]
                      (refine Lew.env ?_; exact lee_here)
theorem ty_all (w0 : World) : ∀ f, (∀ g, g ≤ f → TyAtomOK w0 g) ∧ (∀ g, g ≤ f → TyTypeOK w0 g)
  | 0 => ⟨fun g hg => by
      have : g = 0 := by omega
      subst this
      intro t depth i vs r o σ b v h
      simp [tyAtomF] at h, fun g hg => by
      have : g = 0 := by omega
      subst this
      intro t depth i vs r o σ b v h
      simp [tyTypeF] at h⟩
  | f + 1 => by
    obtain ⟨h1, h2⟩ := ty_all w0 f
    refine ⟨fun g hg => ?_, fun g hg => ?_⟩
    · rcases Nat.lt_or_ge f g with h | h
      · have : g = f + 1 := by omega
        subst this
        exact ty_atom (h2 f (Nat.le_refl f))
      · exact h1 g h
    · rcases Nat.lt_or_ge f g with h | h
      · have : g = f + 1 := by omega
        subst this
        exact ty_read h1 h2
      · exact h2 g h
end
section
attribute [local go_sem] tyX tyY rs_len rs_g0 rs_g rs_s0 rs_s rs_sv Typ.v Typ.cs_eq tk_mk tname_mk tn_mk tl_mk tysC

theorem ty_atom_out (w0 : World) (t : List Tok) (depth : Nat) (i : Int) (hB : tyBegins (tokI t i) = false) (σ : H) (b v : Nat) (D : Two σ b v) (ht : t.length ≤ 1000000) :
    DC Tryz.prog w0 135 [.ptr b 0, I depth] (tys σ b v t i [] 0 0) (Same Typ.none.v (tys σ b v t i [] 50 (tokI t i).pos)) := by
  refine k135.go rfl (fun hok hsz => ?_)
  ((try refine W.a ?_); simp only [go_sem, seval, reduceCtorEq, c135, rsA D])
  (refine W.c1 (DC.lift D (fun D' => ty_tok w0 t i [] 0 0 _ b v D' ht)) ?_; simp only [go_sem, seval, reduceCtorEq, rsA D])
  (refine W.c1 (DC.lift D (fun D' => ty_begins w0 t i [] 0 0 _ b v D' ht)) ?_; simp only [go_sem, seval, reduceCtorEq, rsA D, hB])
  refine W.yes rfl ?_
  ((try refine W.a ?_); simp only [go_sem, seval, reduceCtorEq, rsA D])
  (refine W.c1 (DC.lift D (fun D' => ty_fail w0 t i [] 0 0 50 (tokI t i).pos _ b v D')) ?_; simp only [go_sem, seval, reduceCtorEq, rsA D])
  (refine W.fg (tys_ok D hok t i [] 50 (tokI t i).pos) (d := Typ.none.v) (by simp only [r135, go_sem, seval, reduceCtorEq, Typ.v, Typ.none, tk_mk, tname_mk, tn_mk, tl_mk]; rfl) (by simp only [resV, go_sem, seval, reduceCtorEq, Typ.v, Typ.none, tk_mk, tname_mk, tn_mk, tl_mk]; exact wk_here) ?_ (hl := by (first | exact .c _ | (simp only [go_sem, seval, reduceCtorEq, Typ.v, Typ.none, tk_mk, tname_mk, tn_mk, tl_mk]; done))))
  exact ⟨rfl, rfl⟩
theorem ty_read_out (w0 : World) (t : List Tok) (i : Int) (hB : tyBegins (tokI t i) = false) (σ : H) (b v : Nat) (D : Two σ b v) (ht : t.length ≤ 1000000) :
    DC Tryz.prog w0 110 [.ptr b 0, I 0] (tys σ b v t i [] 0 0) (Same Typ.none.v (tys σ b v t i [] 50 (tokI t i).pos)) := by
  refine k110.go rfl (fun hok hsz => ?_)
  have hk : ((tokI t i).kind == 1) = false := by
    simp only [tyBegins, Bool.or_eq_false_iff, decide_eq_false_iff_not] at hB
    simpa using hB.1.1
  ((try refine W.a ?_); simp only [go_sem, seval, reduceCtorEq, c110, rsA D])
  (refine W.c1 (DC.lift D (fun D' => ty_tok w0 t i [] 0 0 _ b v D' ht)) ?_; simp only [go_sem, seval, reduceCtorEq, rsA D, hk])
  (refine W.c1 (DC.lift D (fun D' => ty_atom_out w0 t 0 i hB _ b v D' ht)) ?_; simp only [go_sem, seval, reduceCtorEq, rsA D, Typ.none])
  refine W.loopP (fun _ : Unit => True) (fun _ => ⟨(((((base.put (some 0) (.ptr b 0)).put (some 1) (I (0 : Nat))).put (some 4) (.ptr σ.length 0)).put (some 5) (B false)).put (some 6) (.ptr (σ.length + 1) 0)), tyo σ b v t ⟨.none, i, [], 50, (tokI t i).pos⟩ ++ [.cells [I 0, S [], I 0, .csl []], .cells [I 0, S [], I 0, .c (tysC [])]]⟩) (fun _ => 0) () trivial ?_ (fun x hx => ?_)
  · (refine Lew.env ?_; exact lee_here)
  · ((try refine W.a ?_); simp only [go_sem, seval, reduceCtorEq, rsA D])
    refine W.no rfl ?_
    (refine W.advO 1 _ _ ?_; simp only [go_sem])
    refine ty_tailW (ty_all w0 0).2 (o2 := ⟨.none, i, [], 50, (tokI t i).pos⟩) (o := ⟨.none, i, [], 50, (tokI t i).pos⟩) (r := .error ⟨50, 0⟩) D ht (Nat.zero_le _) (.inl ⟨by show (50 : Int) ≠ 0; decide, rfl⟩) (.inl rfl) [] ?_ ?_ ?_ ?_ (tys_ok D hok t 0 [] 0 0) <;> rfl
def tyReadV (from_ : Int) : TyR → V
  | .ok (u, j, _) => .tup [u.v, I (j : Nat), I 0, I 0]
  | .error x => .tup [Typ.none.v, I from_, I x.e, I x.pos]
theorem rs_new (σ : H) (B X Y X' Y' : Blk) : rs (σ ++ [B, X, Y]) (σ.length + 1) (σ.length + 2) X' Y' = σ ++ [B, X', Y'] := by
  unfold rs
  rw [List.set_append_right _ _ (by omega), List.set_append_right _ _ (by omega)]
  simp [Nat.add_sub_cancel_left]
theorem two_new (σ : H) (B X Y : Blk) : Two (σ ++ [B, X, Y]) (σ.length + 1) (σ.length + 2) := ⟨by omega, by simp, by simp⟩
theorem ty_ReadO (w0 : World) (t : List Tok) (i : Int) (o : TyO) (r : TyR) (hO : TOut r o) (σ : H)
    (hc : ∀ (σ : H) (b v : Nat), Two σ b v → DC Tryz.prog w0 110 [.ptr b 0, I 0] (tys σ b v t i [] 0 0) (Same o.u.v (tyo σ b v t o))) :
    DC Tryz.prog w0 89 [.c (toksC t), I i] σ (Same (tyReadV i r) σ) := by
  refine k89.go rfl (fun hok hsz => ?_)
  ((try refine W.a ?_); simp only [go_sem, seval, reduceCtorEq, c89])
  refine W.ownCell (σ.length + 1) 2 9 1 (cs := [.c (toksC t), I i, .csl [], I 0, I 0]) (tg := none) ?_ rfl ?_
  · simp only [hget, List.getElem?_cons_succ, List.getElem?_cons_zero]; rfl
  · ((try refine W.a ?_); simp only [go_sem, seval, reduceCtorEq])
    have hh : ∀ X, DC Tryz.prog w0 110 [.ptr (σ.length + 1) 0, I 0] (σ ++ [X, .cells [.c (toksC t), I i, .osl (σ.length + 2) [], I 0, I 0], .spare 9 1 0]) (Same o.u.v (σ ++ [X, tyX t o.j (σ.length + 2) o.ws o.e o.p, tyY o.ws])) := fun X => by
      have := hc (σ ++ [X, X, X]) (σ.length + 1) (σ.length + 2) (two_new σ X X X)
      unfold tyo tys at this
      rw [rs_new, rs_new] at this
      exact this
    (refine W.c1 (hh _) ?_; simp only [go_sem, seval, reduceCtorEq])
    cases r with
    | ok x =>
      obtain ⟨u, j, ws⟩ := x
      have hO' : o = ⟨u, (j : Nat), ws, 0, 0⟩ := hO
      subst hO'
      ((try refine W.a ?_); simp only [go_sem, seval, reduceCtorEq])
      refine W.no rfl ?_
      ((try refine W.a ?_); simp only [go_sem, seval, reduceCtorEq])
      (apply W.dregE (List.cons_ne_nil _ _); case hc => ((apply CanonE.advPO; simp only [go_sem, seval, reduceCtorEq]); exact CanonE.nil))
      ((try refine W.a ?_); simp only [go_sem, seval, reduceCtorEq])
      (refine W.fs (hok) (by simp only [r89, go_sem, seval, reduceCtorEq, tyReadV, Typ.v]; rfl) ?_ (hl := by (first | exact .c _ | (simp only [go_sem, seval, reduceCtorEq, tyReadV, Typ.v]; done))); simp only [resV, tyReadV, Typ.v]; try exact V.wk.rfl _)
      (all_goals exact wk_here)
    | error x =>
      obtain ⟨q1, q2, q3⟩ := hO
      have hb : (o.e != 0) = true := by rw [q1, bne, q3]; rfl
      ((try refine W.a ?_); simp only [go_sem, seval, reduceCtorEq, hb])
      refine W.yes rfl ?_
      ((try refine W.a ?_); simp only [go_sem, seval, reduceCtorEq])
      (apply W.dregE (List.cons_ne_nil _ _); case hc => ((apply CanonE.advPO; simp only [go_sem, seval, reduceCtorEq]); exact CanonE.nil))
      ((try refine W.a ?_); simp only [go_sem, seval, reduceCtorEq])
      rw [q1, q2]
      (refine W.fs (hok) (by simp only [r89, go_sem, seval, reduceCtorEq, tyReadV, Typ.v, Typ.none, tk_mk, tname_mk, tn_mk, tl_mk, List.map_nil]; rfl) ?_ (hl := by (first | exact .c _ | (simp only [go_sem, seval, reduceCtorEq, tyReadV, Typ.v, Typ.none, tk_mk, tname_mk, tn_mk, tl_mk, List.map_nil]; done))); simp only [resV, tyReadV, Typ.v, Typ.none, tk_mk, tname_mk, tn_mk, tl_mk, List.map_nil]; try exact V.wk.rfl _)
      (all_goals exact wk_here)
/-- ty.Read, wherever it begins. -/
noncomputable def tyFrom (t : List Tok) (i : Int) : TyR := if 0 ≤ i ∧ i ≤ t.length then tyT t i.toNat else .error ⟨50, lastPos t⟩
theorem tyFrom_nat {t : List Tok} {i : Nat} (h : i ≤ t.length) : tyFrom t (i : Int) = tyT t i := by
  unfold tyFrom
  rw [if_pos ⟨by omega, by omega⟩, Int.toNat_natCast]
theorem tokI_out {t : List Tok} {i : Int} (h : ¬ (0 ≤ i ∧ i ≤ t.length)) : tokI t i = ⟨0, [], 0, lastPos t⟩ := by
  unfold tokI
  split
  · rw [tokL_out (by omega)]
  · rfl
theorem ty_Read (w0 : World) (t : List Tok) (i : Int) (ht : t.length ≤ 1000000) (σ : H) : DC Tryz.prog w0 89 [.c (toksC t), I i] σ (Same (tyReadV i (tyFrom t i)) σ) := by
  by_cases h : 0 ≤ i ∧ i ≤ t.length
  · obtain ⟨n, rfl⟩ := Int.eq_ofNat_of_zero_le h.1
    rw [tyFrom_nat (by omega)]
    obtain ⟨f, hf⟩ := tyT_is t n
    obtain ⟨o, ho, hO⟩ := (ty_out f).2.2.2 _ _ _ _ _ ht hf
    exact ty_ReadO w0 t n o _ hO σ fun σ b v D => (ty_all w0 f).2 f (Nat.le_refl f) t 0 n [] _ o σ b v hf ho D ht (Nat.zero_le _) (by omega) (Nat.zero_le _)
  · have hto := tokI_out h
    have hB : tyBegins (tokI t i) = false := by rw [hto]; rfl
    unfold tyFrom
    rw [if_neg h]
    refine ty_ReadO w0 t i ⟨.none, i, [], 50, (tokI t i).pos⟩ (.error ⟨50, lastPos t⟩) ⟨rfl, by rw [hto], rfl⟩ σ fun σ b v D => ty_read_out w0 t i hB σ b v D ht
end
end Go.Proofs.YtapnncbenhkicaaGreatDoor
