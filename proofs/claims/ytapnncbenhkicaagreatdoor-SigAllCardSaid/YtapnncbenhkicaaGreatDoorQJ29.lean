/-
  The code of some functions, without addresses.
  Walks: operators are declared.
  Walks: when types are the same, which may be; what a type takes; how many types and variables there are in one.
  Walks: the source reader's small functions.
  Walks: names, and how many arrows there are.
  Walks: the reader's small functions, more of them.
  Walks: what an operator makes of two trees.
  Walks: an expression one deeper; brackets; an atom.
  Walks: brackets.
  Walks: an atom.
  Walks: atoms, applied.
  Walks: an expression.
  Walks: Read.
  Walks: sentences, each kind of them.
  Walks: sentences with types, operators, clauses.
-/
import Derived.Test.YtapnncbenhkicaaGreatDoorChecked
import Derived.Test.YtapnncbenhkicaaGreatDoorQJ11
import Derived.Test.YtapnncbenhkicaaGreatDoorQJ28
import Derived.Test.YtapnncbenhkicaaGreatDoorQLexC
set_option linter.unusedSimpArgs false
set_option linter.unusedVariables false
set_option maxHeartbeats 8000000
set_option maxRecDepth 20000
namespace Go.Proofs.YtapnncbenhkicaaGreatDoor
open Go.RowKit Go.Lamb
/-- source.Words -/
def c47 : AC :=
  .seq (.reg [.o 0 (.mov (.k (.csl [])))])
  (.seq (.reg [.o 1 (.bsl 1 [(.k (.c (.str [107, 105, 110, 100]))), (.k (.c (.str [116, 121, 112, 101]))), (.k (.c (.str [105, 110, 102, 105, 120]))), (.k (.c (.str [105, 110, 102, 105, 120, 108]))), (.k (.c (.str [105, 110, 102, 105, 120, 114])))]), .m 0 1])
  (.ret))
def r47 : List ResV := [.tmp 0]
theorem k47 : CodeIs Tryz.prog 47 0 Tryz.f47 c47 r47 := ⟨by kernel_rfl, Tryz.func47, rfl, by kernel_rfl, by kernel_rfl, by decide, enters_fn Tryz.func47 (by kernel_rfl) rfl⟩
/-- (*source.reader).tok -/
def c18 : AC :=
  .seq (.reg [.o 2 (.box (.k (.agg [.c (.int .i64 0), .c (.str []), .c (.int .i64 0), .c (.int .i64 0)])))])
  (.seq (.dreg [.m 3 0, .n 4 3, .f 5 0 4, .l 6 5, .m 7 0, .n 8 7, .f 9 1 8, .l 10 9, .m 11 0, .n 12 11, .f 13 0 12, .l 14 13, .o 15 (.lenr (.t 14)), .o 16 (.bin .sub (.t 15) (.k (.c (.int .i64 1)))), .o 17 (.mn (.t 10) (.t 16)), .o 18 (.iadd 4 (.t 6) (.t 17)), .d 19 4 18, .s 4 2 19]
    [.q (.m 3 0), .q (.n 4 3), .q (.f 5 0 4), .q (.l 6 5), .q (.m 7 0), .q (.n 8 7), .q (.f 9 1 8), .q (.l 10 9), .q (.m 11 0), .q (.n 12 11), .q (.f 13 0 12), .q (.l 14 13), .q (.o 15 (.lenr (.t 14))), .q (.o 16 (.bin .sub (.t 15) (.k (.c (.int .i64 1))))), .q (.o 17 (.mn (.t 10) (.t 16))), .q (.o 18 (.iadd 4 (.t 6) (.t 17))), .q (.d 19 4 18), ⟨.s 4 2 19, true, 0⟩])
  (.ret))
def r18 : List ResV := [.celln 4 2]
theorem k18 : CodeIs Tryz.prog 18 1 Tryz.f18 c18 r18 := ⟨by kernel_rfl, Tryz.func18, rfl, by kernel_rfl, by kernel_rfl, by decide, enters_fn Tryz.func18 (by kernel_rfl) rfl⟩
/-- (*source.reader).fail -/
def c88 : AC :=
  .seq (.reg [.m 6 0, .n 7 6, .f 8 3 7, .l 9 8, .o 10 (.bin .eql (.t 9) (.k (.c (.int .i64 0))))])
  (.cond (.t 10)
  (.reg [.m 11 0, .m 12 0, .m 13 1, .m 14 2, .n 15 11, .f 16 3 15, .s 1 16 13, .n 17 12, .f 18 4 17, .s 1 18 14])
  (.skip))
def r88 : List ResV := []
theorem k88 : CodeIs Tryz.prog 88 3 Tryz.f88 c88 r88 := ⟨by kernel_rfl, Tryz.func88, rfl, by kernel_rfl, by kernel_rfl, by decide, enters_fn Tryz.func88 (by kernel_rfl) rfl⟩
/-- (*source.reader).is -/
def c87 : AC :=
  .seq (.reg [.o 6 (.mov (.k (.c (.bool false))))])
  (.seq (.reg [.m 9 0, .k 10 18 [(.t 9)], .o 7 (.box (.k (.agg [.c (.int .i64 0), .c (.str []), .c (.int .i64 0), .c (.int .i64 0)]))), .s 4 7 10])
  (.seq (.reg [.f 11 0 7, .l 12 11, .m 13 1, .o 14 (.bin .eql (.t 12) (.t 13)), .m 15 14, .y 16 (.fadd 1 (.t 7)) 15, .y 17 (.load1 (.t 16)) 15, .y 18 (.mov (.t 2)) 15, .y 19 (.bin .eql (.t 17) (.t 18)) 15, .o 20 (.pick (.t 15) (.t 19) (.k (.c (.bool false)))), .m 8 20])
  (.seq (.seq (.reg [.m 21 8])
  (.cond (.t 21)
  (.reg [.m 22 0, .n 23 22, .f 24 1 23, .l 25 24, .o 26 (.bin .add (.t 25) (.k (.c (.int .i64 1)))), .n 27 22, .f 28 1 27, .s 1 28 26])
  (.skip)))
  (.seq (.reg [.m 29 8, .m 6 29])
  (.ret)))))
def r87 : List ResV := [.tmp 6]
theorem k87 : CodeIs Tryz.prog 87 3 Tryz.f87 c87 r87 := ⟨by kernel_rfl, Tryz.func87, rfl, by kernel_rfl, by kernel_rfl, by decide, enters_fn Tryz.func87 (by kernel_rfl) rfl⟩
/-- (*source.reader).take -/
def c90 : AC :=
  .seq (.reg [.o 6 (.box (.k (.agg [.c (.int .i64 0), .c (.str []), .c (.int .i64 0), .c (.int .i64 0)])))])
  (.seq (.reg [.m 8 0, .k 9 18 [(.t 8)], .o 7 (.box (.k (.agg [.c (.int .i64 0), .c (.str []), .c (.int .i64 0), .c (.int .i64 0)]))), .s 4 7 9])
  (.seq (.seq (.reg [.m 10 2, .f 11 0 7, .l 12 11, .k 13 111 [(.t 10), (.t 12)], .o 14 (.un .not (.t 13))])
  (.cond (.t 14)
  (.reg [.m 15 0, .m 16 1, .f 17 3 7, .l 18 17, .k 19 88 [(.t 15), (.t 16), (.t 18)]])
  (.skip)))
  (.seq (.reg [.m 20 0, .n 21 20, .f 22 1 21, .l 23 22, .o 24 (.bin .add (.t 23) (.k (.c (.int .i64 1)))), .n 25 20, .f 26 1 25, .s 1 26 24])
  (.seq (.reg [.d 27 4 7, .s 4 6 27])
  (.ret)))))
def r90 : List ResV := [.celln 4 6]
theorem k90 : CodeIs Tryz.prog 90 3 Tryz.f90 c90 r90 := ⟨by kernel_rfl, Tryz.func90, rfl, by kernel_rfl, by kernel_rfl, by decide, enters_fn Tryz.func90 (by kernel_rfl) rfl⟩
/-- (*source.reader).names -/
def c86 : AC :=
  .seq (.reg [.o 4 (.mov (.k (.csl [])))])
  (.seq (.reg [.m 6 0, .m 7 1, .k 8 90 [(.t 6), (.k (.c (.int .i64 100))), (.t 7)], .o 9 (.bsl 4 [(.t 8)]), .m 5 9])
  (.seq (.block 0 (.loop (.seq (.seq (.reg [.m 10 0, .n 11 10, .f 12 3 11, .l 13 12, .o 14 (.bin .eql (.t 13) (.k (.c (.int .i64 0)))), .m 15 14, .y 16 (.mov (.t 0)) 15, .y 17 (.call (.k (.fn 87 [])) [(.t 16), (.k (.c (.int .i64 4))), (.k (.c (.str [44])))]) 15, .o 18 (.pick (.t 15) (.t 17) (.k (.c (.bool false))))])
  (.cond (.t 18)
  (.skip)
  (.exit 0)))
  (.block 1 (.reg [.m 19 5, .m 20 0, .m 21 1, .k 22 90 [(.t 20), (.k (.c (.int .i64 100))), (.t 21)], .o 23 (.bsl 4 [(.t 22)]), .o 24 (.app 69 4 40 (.t 19) (.t 23)), .m 5 24])))))
  (.seq (.reg [.m 25 5, .m 4 25])
  (.ret))))
def r86 : List ResV := [.tmp 4]
theorem k86 : CodeIs Tryz.prog 86 2 Tryz.f86 c86 r86 := ⟨by kernel_rfl, Tryz.func86, rfl, by kernel_rfl, by kernel_rfl, by decide, enters_fn Tryz.func86 (by kernel_rfl) rfl⟩
/-- source.texts -/
def c85 : AC :=
  .seq (.reg [.o 2 (.mov (.k (.csl [])))])
  (.seq (.reg [.o 3 (.mov (.k (.csl [])))])
  (.seq (.seq (.reg [.m 6 0, .o 7 (.lenr (.t 6)), .o 8 (.mov (.k (.c (.int .i64 0))))])
  (.block 0 (.loop (.seq (.reg [.o 9 (.bin .lss (.t 8) (.t 7))])
  (.seq (.cond (.t 9)
  (.skip)
  (.exit 0))
  (.seq (.block 1 (.seq (.reg [.o 10 (.iadd 4 (.t 6) (.t 8)), .d 11 4 10, .o 5 (.box (.k (.agg [.c (.int .i64 0), .c (.str []), .c (.int .i64 0), .c (.int .i64 0)]))), .s 4 5 11])
  (.reg [.m 12 3, .f 13 1 5, .l 14 13, .o 15 (.bsl 1 [(.t 14)]), .o 16 (.app 9 1 16 (.t 12) (.t 15)), .m 3 16])))
  (.reg [.o 17 (.bin .add (.t 8) (.k (.c (.int .i64 1)))), .m 8 17])))))))
  (.seq (.reg [.m 18 3, .m 2 18])
  (.ret))))
def r85 : List ResV := [.tmp 2]
theorem k85 : CodeIs Tryz.prog 85 1 Tryz.f85 c85 r85 := ⟨by kernel_rfl, Tryz.func85, rfl, by kernel_rfl, by kernel_rfl, by decide, enters_fn Tryz.func85 (by kernel_rfl) rfl⟩
/-- (*source.reader).kind -/
def c48 : AC :=
  .seq (.reg [.o 2 (.box (.k (.agg [.c (.int .i64 0), .csl [], .c (.int .i64 0), .c (.int .i64 0), .c (.str []), .c (.int .i64 0), .csl [], .c (.str []), .c (.int .i64 0), .c (.int .i64 0), .c (.int .i64 0), .c (.str []), .c (.int .i64 0), .csl [], .c (.int .i64 0), .c (.int .i64 0)])))])
  (.seq (.reg [.m 5 0, .o 6 (.bsl 1 [(.k (.c (.int .i64 1)))]), .k 7 86 [(.t 5), (.t 6)], .k 8 85 [(.t 7)], .o 9 (.build [.c (.int .i64 0), .csl [], .c (.int .i64 0), .c (.int .i64 0), .c (.str []), .c (.int .i64 0), .csl [], .c (.str []), .c (.int .i64 0), .c (.int .i64 0), .c (.int .i64 0), .c (.str []), .c (.int .i64 0), .csl [], .c (.int .i64 0), .c (.int .i64 0)] [(0, 1, (.k (.c (.int .i64 0)))), (1, 1, (.t 8))]), .o 3 (.box (.k (.agg [.c (.int .i64 0), .csl [], .c (.int .i64 0), .c (.int .i64 0), .c (.str []), .c (.int .i64 0), .csl [], .c (.str []), .c (.int .i64 0), .c (.int .i64 0), .c (.int .i64 0), .c (.str []), .c (.int .i64 0), .csl [], .c (.int .i64 0), .c (.int .i64 0)]))), .s 16 3 9])
  (.seq (.block 0 (.loop (.seq (.seq (.reg [.m 10 0, .n 11 10, .f 12 3 11, .l 13 12, .o 14 (.bin .eql (.t 13) (.k (.c (.int .i64 0))))])
  (.cond (.t 14)
  (.skip)
  (.exit 0)))
  (.seq (.block 1 (.seq (.seq (.reg [.m 19 0, .k 20 18 [(.t 19)], .o 4 (.box (.k (.agg [.c (.int .i64 0), .c (.str []), .c (.int .i64 0), .c (.int .i64 0)]))), .s 4 4 20])
  (.seq (.reg [.m 21 0, .k 22 87 [(.t 21), (.k (.c (.int .i64 1))), (.k (.c (.str [116, 121, 112, 101])))], .o 23 (.un .not (.t 22))])
  (.cond (.t 23)
  (.reg [.m 24 0, .f 25 3 4, .l 26 25, .k 27 88 [(.t 24), (.k (.c (.int .i64 100))), (.t 26)]])
  (.skip))))
  (.seq (.reg [.m 28 0, .k 29 87 [(.t 28), (.k (.c (.int .i64 4))), (.k (.c (.str [45, 62])))], .o 30 (.un .not (.t 29))])
  (.cond (.t 30)
  (.exit 0)
  (.skip)))))
  (.reg [.f 15 2 3, .l 16 15, .o 17 (.bin .add (.t 16) (.k (.c (.int .i64 1)))), .f 18 2 3, .s 1 18 17])))))
  (.seq (.reg [.d 31 16 3, .s 16 2 31])
  (.ret))))
def r48 : List ResV := [.celln 16 2]
theorem k48 : CodeIs Tryz.prog 48 1 Tryz.f48 c48 r48 := ⟨by kernel_rfl, Tryz.func48, rfl, by kernel_rfl, by kernel_rfl, by decide, enters_fn Tryz.func48 (by kernel_rfl) rfl⟩
/-- (*source.reader).typed -/
def c49 : AC :=
  .seq (.reg [.o 2 (.box (.k (.agg [.c (.int .i64 0), .csl [], .c (.int .i64 0), .c (.int .i64 0), .c (.str []), .c (.int .i64 0), .csl [], .c (.str []), .c (.int .i64 0), .c (.int .i64 0), .c (.int .i64 0), .c (.str []), .c (.int .i64 0), .csl [], .c (.int .i64 0), .c (.int .i64 0)])))])
  (.seq (.reg [.m 8 0, .o 9 (.bsl 1 [(.k (.c (.int .i64 1))), (.k (.c (.int .i64 4)))]), .k 10 86 [(.t 8), (.t 9)], .k 11 85 [(.t 10)], .o 12 (.build [.c (.int .i64 0), .csl [], .c (.int .i64 0), .c (.int .i64 0), .c (.str []), .c (.int .i64 0), .csl [], .c (.str []), .c (.int .i64 0), .c (.int .i64 0), .c (.int .i64 0), .c (.str []), .c (.int .i64 0), .csl [], .c (.int .i64 0), .c (.int .i64 0)] [(0, 1, (.k (.c (.int .i64 1)))), (1, 1, (.t 11))]), .o 3 (.box (.k (.agg [.c (.int .i64 0), .csl [], .c (.int .i64 0), .c (.int .i64 0), .c (.str []), .c (.int .i64 0), .csl [], .c (.str []), .c (.int .i64 0), .c (.int .i64 0), .c (.int .i64 0), .c (.str []), .c (.int .i64 0), .csl [], .c (.int .i64 0), .c (.int .i64 0)]))), .s 16 3 12])
  (.seq (.seq (.reg [.m 13 0, .n 14 13, .f 15 3 14, .l 16 15, .o 17 (.bin .neq (.t 16) (.k (.c (.int .i64 0))))])
  (.cond (.t 17)
  (.seq (.reg [.d 18 16 3, .s 16 2 18])
  (.ret))
  (.skip)))
  (.seq (.dreg [.m 20 0, .n 21 20, .f 22 0 21, .l 23 22, .m 24 0, .n 25 24, .f 26 1 25, .l 27 26, .k 28 89 [(.t 23), (.t 27)], .m 19 28, .x 29 19 0, .x 30 19 1, .x 31 19 2, .x 32 19 3, .o 4 (.box (.k (.agg [.c (.int .i64 0), .c (.str []), .c (.int .i64 0), .csl []]))), .s 4 4 29, .m 5 30, .m 6 31, .m 7 32]
    [⟨.o 4 (.box (.k (.agg [.c (.int .i64 0), .c (.str []), .c (.int .i64 0), .csl []]))), true, 0⟩, .q (.m 20 0), .q (.n 21 20), .q (.f 22 0 21), .q (.l 23 22), .q (.m 24 0), .q (.n 25 24), .q (.f 26 1 25), .q (.l 27 26), .q (.k 28 89 [(.t 23), (.t 27)]), .q (.m 19 28), .q (.x 29 19 0), ⟨.s 4 4 29, true, 1⟩, .q (.x 30 19 1), .q (.x 31 19 2), .q (.x 32 19 3), ⟨.m 5 30, false, 2⟩, ⟨.m 6 31, false, 2⟩, ⟨.m 7 32, false, 2⟩])
  (.seq (.seq (.reg [.m 33 6, .o 34 (.bin .neq (.t 33) (.k (.c (.int .i64 0))))])
  (.cond (.t 34)
  (.reg [.m 35 0, .m 36 6, .m 37 7, .k 38 88 [(.t 35), (.t 36), (.t 37)]])
  (.skip)))
  (.seq (.reg [.m 39 0, .d 40 4 4, .m 41 5, .f 42 3 3, .s 4 42 40, .n 43 39, .f 44 1 43, .s 1 44 41])
  (.seq (.reg [.d 45 16 3, .s 16 2 45])
  (.ret)))))))
def r49 : List ResV := [.celln 16 2]
theorem k49 : CodeIs Tryz.prog 49 1 Tryz.f49 c49 r49 := ⟨by kernel_rfl, Tryz.func49, rfl, by kernel_rfl, by kernel_rfl, by decide, enters_fn Tryz.func49 (by kernel_rfl) rfl⟩
/-- (*source.reader).operator -/
def c50 : AC :=
  .seq (.reg [.o 4 (.box (.k (.agg [.c (.int .i64 0), .csl [], .c (.int .i64 0), .c (.int .i64 0), .c (.str []), .c (.int .i64 0), .csl [], .c (.str []), .c (.int .i64 0), .c (.int .i64 0), .c (.int .i64 0), .c (.str []), .c (.int .i64 0), .csl [], .c (.int .i64 0), .c (.int .i64 0)])))])
  (.seq (.reg [.m 12 0, .o 13 (.bsl 1 [(.k (.c (.int .i64 1))), (.k (.c (.int .i64 4)))]), .k 14 86 [(.t 12), (.t 13)], .m 5 14])
  (.seq (.reg [.m 15 5, .k 16 85 [(.t 15)], .m 17 1, .o 18 (.build [.c (.str []), .c (.int .i64 0), .c (.int .i64 0)] [(2, 1, (.t 17))]), .o 19 (.build [.c (.int .i64 0), .csl [], .c (.int .i64 0), .c (.int .i64 0), .c (.str []), .c (.int .i64 0), .csl [], .c (.str []), .c (.int .i64 0), .c (.int .i64 0), .c (.int .i64 0), .c (.str []), .c (.int .i64 0), .csl [], .c (.int .i64 0), .c (.int .i64 0)] [(0, 1, (.k (.c (.int .i64 2)))), (1, 1, (.t 16)), (7, 3, (.t 18))]), .o 6 (.box (.k (.agg [.c (.int .i64 0), .csl [], .c (.int .i64 0), .c (.int .i64 0), .c (.str []), .c (.int .i64 0), .csl [], .c (.str []), .c (.int .i64 0), .c (.int .i64 0), .c (.int .i64 0), .c (.str []), .c (.int .i64 0), .csl [], .c (.int .i64 0), .c (.int .i64 0)]))), .s 16 6 19])
  (.seq (.seq (.reg [.m 20 0, .n 21 20, .f 22 3 21, .l 23 22, .o 24 (.bin .neq (.t 23) (.k (.c (.int .i64 0))))])
  (.cond (.t 24)
  (.seq (.reg [.d 25 16 6, .s 16 4 25])
  (.ret))
  (.skip)))
  (.seq (.reg [.m 26 0, .o 27 (.bsl 1 [(.k (.c (.int .i64 3)))]), .k 28 90 [(.t 26), (.k (.c (.int .i64 100))), (.t 27)], .o 29 (.field1 2 (.t 28)), .f 30 7 6, .f 31 1 30, .s 1 31 29])
  (.seq (.reg [.m 32 0, .k 33 52 [(.t 32)]])
  (.seq (.skip)
  (.seq (.seq (.reg [.m 34 5, .o 35 (.lenr (.t 34)), .o 36 (.mov (.k (.c (.int .i64 0))))])
  (.block 0 (.loop (.seq (.reg [.o 37 (.bin .lss (.t 36) (.t 35))])
  (.seq (.cond (.t 37)
  (.skip)
  (.exit 0))
  (.seq (.block 1 (.seq (.reg [.o 38 (.iadd 4 (.t 34) (.t 36)), .d 39 4 38, .o 8 (.box (.k (.agg [.c (.int .i64 0), .c (.str []), .c (.int .i64 0), .c (.int .i64 0)]))), .s 4 8 39])
  (.seq (.seq (.reg [.m 40 0, .n 41 40, .f 42 3 41, .l 43 42, .o 44 (.bin .neq (.t 43) (.k (.c (.int .i64 0))))])
  (.cond (.t 44)
  (.exit 0)
  (.skip)))
  (.seq (.reg [.f 45 7 6, .d 46 3 45, .o 9 (.box (.k (.agg [.c (.str []), .c (.int .i64 0), .c (.int .i64 0)]))), .s 3 9 46])
  (.seq (.reg [.f 47 1 8, .l 48 47, .f 49 0 9, .s 1 49 48])
  (.seq (.dreg [.m 51 0, .n 52 51, .f 53 2 52, .l 54 53, .d 55 3 9, .k 56 64 [(.t 54), (.t 55)], .m 50 56, .x 57 50 0, .x 58 50 1, .m 10 57, .m 11 58]
    [.q (.m 51 0), .q (.n 52 51), .q (.f 53 2 52), .q (.l 54 53), .q (.d 55 3 9), ⟨.k 56 64 [(.t 54), (.t 55)], true, 0⟩, ⟨.m 50 56, false, 1⟩, ⟨.x 57 50 0, false, 1⟩, ⟨.x 58 50 1, false, 1⟩, ⟨.m 10 57, false, 1⟩, ⟨.m 11 58, false, 1⟩])
  (.seq (.seq (.reg [.m 59 11, .o 60 (.bin .neq (.t 59) (.k (.c (.int .i64 0))))])
  (.cond (.t 60)
  (.reg [.m 61 0, .m 62 11, .f 63 3 8, .l 64 63, .k 65 88 [(.t 61), (.t 62), (.t 64)]])
  (.skip)))
  (.reg [.m 66 0, .m 67 10, .n 68 66, .f 69 2 68, .s 1 69 67]))))))))
  (.reg [.o 70 (.bin .add (.t 36) (.k (.c (.int .i64 1)))), .m 36 70])))))))
  (.seq (.reg [.d 71 16 6, .s 16 4 71])
  (.ret)))))))))
def r50 : List ResV := [.celln 16 4]
theorem k50 : CodeIs Tryz.prog 50 2 Tryz.f50 c50 r50 := ⟨by kernel_rfl, Tryz.func50, rfl, by kernel_rfl, by kernel_rfl, by decide, enters_fn Tryz.func50 (by kernel_rfl) rfl⟩
/-- (*source.reader).clause -/
def c51 : AC :=
  .seq (.reg [.o 2 (.box (.k (.agg [.c (.int .i64 0), .csl [], .c (.int .i64 0), .c (.int .i64 0), .c (.str []), .c (.int .i64 0), .csl [], .c (.str []), .c (.int .i64 0), .c (.int .i64 0), .c (.int .i64 0), .c (.str []), .c (.int .i64 0), .csl [], .c (.int .i64 0), .c (.int .i64 0)])))])
  (.seq (.dreg [.m 8 0, .n 9 8, .f 10 2 9, .l 11 10, .m 12 0, .n 13 12, .f 14 0 13, .l 15 14, .m 16 0, .n 17 16, .f 18 1 17, .l 19 18, .k 20 91 [(.t 11), (.t 15), (.t 19)], .m 7 20, .x 21 7 0, .x 22 7 1, .x 23 7 2, .x 24 7 3, .o 3 (.box (.k (.agg [.c (.int .i64 0), .c (.str []), .c (.int .i64 0), .csl [], .c (.int .i64 0)]))), .s 5 3 21, .m 4 22, .m 5 23, .m 6 24]
    [⟨.o 3 (.box (.k (.agg [.c (.int .i64 0), .c (.str []), .c (.int .i64 0), .csl [], .c (.int .i64 0)]))), true, 0⟩, .q (.m 8 0), .q (.n 9 8), .q (.f 10 2 9), .q (.l 11 10), .q (.m 12 0), .q (.n 13 12), .q (.f 14 0 13), .q (.l 15 14), .q (.m 16 0), .q (.n 17 16), .q (.f 18 1 17), .q (.l 19 18), .q (.k 20 91 [(.t 11), (.t 15), (.t 19)]), .q (.m 7 20), .q (.x 21 7 0), ⟨.s 5 3 21, true, 1⟩, .q (.x 22 7 1), .q (.x 23 7 2), .q (.x 24 7 3), ⟨.m 4 22, false, 2⟩, ⟨.m 5 23, false, 2⟩, ⟨.m 6 24, false, 2⟩])
  (.seq (.seq (.reg [.m 25 5, .o 26 (.bin .neq (.t 25) (.k (.c (.int .i64 0))))])
  (.cond (.t 26)
  (.reg [.m 27 0, .m 28 5, .m 29 6, .k 30 88 [(.t 27), (.t 28), (.t 29)]])
  (.skip)))
  (.seq (.reg [.m 31 0, .m 32 4, .n 33 31, .f 34 1 33, .s 1 34 32])
  (.seq (.reg [.d 35 5 3, .o 36 (.build [.c (.int .i64 0), .csl [], .c (.int .i64 0), .c (.int .i64 0), .c (.str []), .c (.int .i64 0), .csl [], .c (.str []), .c (.int .i64 0), .c (.int .i64 0), .c (.int .i64 0), .c (.str []), .c (.int .i64 0), .csl [], .c (.int .i64 0), .c (.int .i64 0)] [(0, 1, (.k (.c (.int .i64 3)))), (10, 5, (.t 35))]), .s 16 2 36])
  (.ret)))))
def r51 : List ResV := [.celln 16 2]
theorem k51 : CodeIs Tryz.prog 51 1 Tryz.f51 c51 r51 := ⟨by kernel_rfl, Tryz.func51, rfl, by kernel_rfl, by kernel_rfl, by decide, enters_fn Tryz.func51 (by kernel_rfl) rfl⟩
/-- (*source.reader).end -/
def c52 : AC :=
  .seq (.reg [.m 2 0, .n 3 2, .f 4 3 3, .l 5 4, .o 6 (.bin .eql (.t 5) (.k (.c (.int .i64 0))))])
  (.cond (.t 6)
  (.reg [.m 7 0, .o 8 (.bsl 1 [(.k (.c (.int .i64 7)))]), .k 9 90 [(.t 7), (.k (.c (.int .i64 101))), (.t 8)]])
  (.skip))
def r52 : List ResV := []
theorem k52 : CodeIs Tryz.prog 52 1 Tryz.f52 c52 r52 := ⟨by kernel_rfl, Tryz.func52, rfl, by kernel_rfl, by kernel_rfl, by decide, enters_fn Tryz.func52 (by kernel_rfl) rfl⟩
/-- (*source.reader).sentence -/
def c19 : AC :=
  .seq (.reg [.o 2 (.box (.k (.agg [.c (.int .i64 0), .csl [], .c (.int .i64 0), .c (.int .i64 0), .c (.str []), .c (.int .i64 0), .csl [], .c (.str []), .c (.int .i64 0), .c (.int .i64 0), .c (.int .i64 0), .c (.str []), .c (.int .i64 0), .csl [], .c (.int .i64 0), .c (.int .i64 0)])))])
  (.seq (.reg [.m 6 0, .k 7 18 [(.t 6)], .o 3 (.box (.k (.agg [.c (.int .i64 0), .c (.str []), .c (.int .i64 0), .c (.int .i64 0)]))), .s 4 3 7])
  (.seq (.reg [.o 4 (.mov (.k (.c (.str []))))])
  (.seq (.seq (.dreg [.f 8 0 3, .l 9 8, .o 10 (.bin .eql (.t 9) (.k (.c (.int .i64 1)))), .m 11 10, .y 12 (.call (.k (.fn 47 [])) []) 11, .y 13 (.fadd 1 (.t 3)) 11, .y 14 (.load1 (.t 13)) 11, .y 15 (.call (.k (.fn 46 [])) [(.t 12), (.t 14)]) 11, .o 16 (.pick (.t 11) (.t 15) (.k (.c (.bool false))))]
    [.q (.f 8 0 3), .q (.l 9 8), .q (.o 10 (.bin .eql (.t 9) (.k (.c (.int .i64 1))))), .q (.m 11 10), ⟨.y 12 (.call (.k (.fn 47 [])) []) 11, true, 0⟩, .q (.y 13 (.fadd 1 (.t 3)) 11), .q (.y 14 (.load1 (.t 13)) 11), ⟨.y 15 (.call (.k (.fn 46 [])) [(.t 12), (.t 14)]) 11, true, 1⟩, ⟨.o 16 (.pick (.t 11) (.t 15) (.k (.c (.bool false)))), false, 2⟩])
  (.cond (.t 16)
  (.seq (.reg [.f 17 1 3, .l 18 17, .m 4 18])
  (.reg [.m 19 0, .n 20 19, .f 21 1 20, .l 22 21, .o 23 (.bin .add (.t 22) (.k (.c (.int .i64 1)))), .n 24 19, .f 25 1 24, .s 1 25 23]))
  (.skip)))
  (.seq (.reg [.o 5 (.box (.k (.agg [.c (.int .i64 0), .csl [], .c (.int .i64 0), .c (.int .i64 0), .c (.str []), .c (.int .i64 0), .csl [], .c (.str []), .c (.int .i64 0), .c (.int .i64 0), .c (.int .i64 0), .c (.str []), .c (.int .i64 0), .csl [], .c (.int .i64 0), .c (.int .i64 0)])))])
  (.seq (.seq (.reg [.m 26 4])
  (.block 0 (.seq (.reg [.o 30 (.bin .eql (.t 26) (.k (.c (.str [107, 105, 110, 100])))), .m 29 30])
  (.cond (.t 29)
  (.reg [.m 31 0, .k 32 48 [(.t 31)], .s 16 5 32])
  (.seq (.reg [.o 34 (.bin .eql (.t 26) (.k (.c (.str [116, 121, 112, 101])))), .m 33 34])
  (.cond (.t 33)
  (.reg [.m 35 0, .k 36 49 [(.t 35)], .s 16 5 36])
  (.seq (.reg [.o 38 (.bin .eql (.t 26) (.k (.c (.str [105, 110, 102, 105, 120])))), .m 37 38])
  (.cond (.t 37)
  (.reg [.m 39 0, .k 40 50 [(.t 39), (.k (.c (.int .i64 0)))], .s 16 5 40])
  (.seq (.reg [.o 42 (.bin .eql (.t 26) (.k (.c (.str [105, 110, 102, 105, 120, 108])))), .m 41 42])
  (.cond (.t 41)
  (.reg [.m 43 0, .k 44 50 [(.t 43), (.k (.c (.int .i64 1)))], .s 16 5 44])
  (.seq (.reg [.o 46 (.bin .eql (.t 26) (.k (.c (.str [105, 110, 102, 105, 120, 114])))), .m 45 46])
  (.cond (.t 45)
  (.reg [.m 47 0, .k 48 50 [(.t 47), (.k (.c (.int .i64 2)))], .s 16 5 48])
  (.reg [.m 27 0, .k 28 51 [(.t 27)], .s 16 5 28])))))))))))))
  (.seq (.seq (.reg [.f 49 0 5, .l 50 49, .o 51 (.bin .neq (.t 50) (.k (.c (.int .i64 2))))])
  (.cond (.t 51)
  (.reg [.m 52 0, .k 53 52 [(.t 52)]])
  (.skip)))
  (.seq (.reg [.f 54 3 3, .l 55 54, .f 56 15 5, .s 1 56 55])
  (.seq (.reg [.d 57 16 5, .s 16 2 57])
  (.ret)))))))))
def r19 : List ResV := [.celln 16 2]
theorem k19 : CodeIs Tryz.prog 19 1 Tryz.f19 c19 r19 := ⟨by kernel_rfl, Tryz.func19, rfl, by kernel_rfl, by kernel_rfl, by decide, enters_fn Tryz.func19 (by kernel_rfl) rfl⟩
/-- source.Read -/
def c5 : AC :=
  .seq (.reg [.o 2 (.mov (.k (.csl []))), .o 3 (.mov (.k (.csl []))), .o 4 (.mov (.k (.c (.int .i64 0)))), .o 5 (.mov (.k (.c (.int .i64 0))))])
  (.seq (.reg [.m 12 0, .k 13 16 [(.t 12)], .m 11 13, .x 14 11 0, .x 15 11 1, .x 16 11 2, .m 6 14, .m 7 15, .m 8 16])
  (.seq (.seq (.reg [.m 17 7, .o 18 (.bin .neq (.t 17) (.k (.c (.int .i64 0))))])
  (.cond (.t 18)
  (.seq (.reg [.m 19 7, .m 20 8, .o 2 (.mov (.k (.csl []))), .o 3 (.mov (.k (.csl []))), .m 4 19, .m 5 20])
  (.ret))
  (.skip)))
  (.seq (.reg [.m 21 6, .k 22 17 [], .o 23 (.build [.csl [], .c (.int .i64 0), .csl [], .c (.int .i64 0), .c (.int .i64 0)] [(0, 1, (.t 21)), (2, 1, (.t 22))]), .o 24 (.box (.t 23)), .m 9 24])
  (.seq (.reg [.o 10 (.mov (.k (.csl [])))])
  (.seq (.block 0 (.loop (.seq (.seq (.reg [.m 25 9, .n 26 25, .f 27 3 26, .l 28 27, .o 29 (.bin .eql (.t 28) (.k (.c (.int .i64 0)))), .m 30 29, .y 31 (.mov (.t 9)) 30, .y 32 (.call (.k (.fn 18 [])) [(.t 31)]) 30, .y 33 (.field1 0 (.t 32)) 30, .y 34 (.bin .neq (.t 33) (.k (.c (.int .i64 0)))) 30, .o 35 (.pick (.t 30) (.t 34) (.k (.c (.bool false))))])
  (.cond (.t 35)
  (.skip)
  (.exit 0)))
  (.block 1 (.reg [.m 36 10, .m 37 9, .k 38 19 [(.t 37)], .o 39 (.bsl 16 [(.t 38)]), .o 40 (.app 51 16 200 (.t 36) (.t 39)), .m 10 40])))))
  (.seq (.seq (.reg [.m 41 9, .n 42 41, .f 43 3 42, .l 44 43, .o 45 (.bin .neq (.t 44) (.k (.c (.int .i64 0))))])
  (.cond (.t 45)
  (.seq (.dreg [.m 46 9, .n 47 46, .f 48 3 47, .l 49 48, .m 50 9, .n 51 50, .f 52 4 51, .l 53 52, .o 2 (.mov (.k (.csl []))), .o 3 (.mov (.k (.csl []))), .m 4 49, .m 5 53]
    [.q (.m 46 9), .q (.n 47 46), .q (.f 48 3 47), .q (.l 49 48), .q (.m 50 9), .q (.n 51 50), .q (.f 52 4 51), .q (.l 53 52), .q (.o 2 (.mov (.k (.csl [])))), .q (.o 3 (.mov (.k (.csl [])))), .q (.m 4 49), .q (.m 5 53)])
  (.ret))
  (.skip)))
  (.seq (.dreg [.m 54 10, .m 55 9, .n 56 55, .f 57 2 56, .l 58 57, .m 2 54, .m 3 58, .o 4 (.mov (.k (.c (.int .i64 0)))), .o 5 (.mov (.k (.c (.int .i64 0))))]
    [.q (.m 54 10), .q (.m 55 9), .q (.n 56 55), .q (.f 57 2 56), .q (.l 58 57), .q (.m 2 54), .q (.m 3 58), .q (.o 4 (.mov (.k (.c (.int .i64 0))))), .q (.o 5 (.mov (.k (.c (.int .i64 0)))))])
  (.ret))))))))
def r5 : List ResV := [.tmp 2, .tmp 3, .tmp 4, .tmp 5]
theorem k5 : CodeIs Tryz.prog 5 1 Tryz.f5 c5 r5 := ⟨by kernel_rfl, Tryz.func5, rfl, by kernel_rfl, by kernel_rfl, by decide, enters_fn Tryz.func5 (by kernel_rfl) rfl⟩
--absent /-- source.Query -/
/-- slices.Contains[[]string,string] -/
def c46 : AC :=
  .seq (.reg [.o 4 (.mov (.k (.c (.bool false))))])
  (.seq (.reg [.m 5 0, .m 6 1, .k 7 84 [(.t 5), (.t 6)], .o 8 (.bin .geq (.t 7) (.k (.c (.int .i64 0)))), .m 4 8])
  (.ret))
def r46 : List ResV := [.tmp 4]
theorem k46 : CodeIs Tryz.prog 46 2 Tryz.f46 c46 r46 := ⟨by kernel_rfl, Tryz.func46, rfl, by kernel_rfl, by kernel_rfl, by decide, enters_fn Tryz.func46 (by kernel_rfl) rfl⟩
/-- slices.Contains[[]api.TokKind,api.TokKind] -/
def c111 : AC :=
  .seq (.reg [.o 4 (.mov (.k (.c (.bool false))))])
  (.seq (.reg [.m 5 0, .m 6 1, .k 7 138 [(.t 5), (.t 6)], .o 8 (.bin .geq (.t 7) (.k (.c (.int .i64 0)))), .m 4 8])
  (.ret))
def r111 : List ResV := [.tmp 4]
theorem k111 : CodeIs Tryz.prog 111 2 Tryz.f111 c111 r111 := ⟨by kernel_rfl, Tryz.func111, rfl, by kernel_rfl, by kernel_rfl, by decide, enters_fn Tryz.func111 (by kernel_rfl) rfl⟩
/-- slices.Index[[]api.TokKind,api.TokKind] -/
def c138 : AC :=
  .seq (.reg [.o 4 (.mov (.k (.c (.int .i64 0))))])
  (.seq (.seq (.reg [.m 6 0, .o 7 (.lenr (.t 6)), .o 8 (.mov (.k (.c (.int .i64 0))))])
  (.block 0 (.loop (.seq (.reg [.o 9 (.bin .lss (.t 8) (.t 7))])
  (.seq (.cond (.t 9)
  (.skip)
  (.exit 0))
  (.seq (.block 1 (.seq (.reg [.m 10 8, .m 5 10])
  (.seq (.reg [.m 11 1, .m 12 0, .m 13 5, .o 14 (.iadd 1 (.t 12) (.t 13)), .l 15 14, .o 16 (.bin .eql (.t 11) (.t 15))])
  (.cond (.t 16)
  (.seq (.reg [.m 17 5, .m 4 17])
  (.ret))
  (.skip)))))
  (.reg [.o 18 (.bin .add (.t 8) (.k (.c (.int .i64 1)))), .m 8 18])))))))
  (.seq (.reg [.o 4 (.mov (.k (.c (.int .i64 (-1)))))])
  (.ret)))
def r138 : List ResV := [.tmp 4]
theorem k138 : CodeIs Tryz.prog 138 2 Tryz.f138 c138 r138 := ⟨by kernel_rfl, Tryz.func138, rfl, by kernel_rfl, by kernel_rfl, by decide, enters_fn Tryz.func138 (by kernel_rfl) rfl⟩
/-- ops.Declare -/
def c64 : AC :=
  .seq (.reg [.o 3 (.box (.t 1)), .o 4 (.mov (.k (.csl []))), .o 5 (.mov (.k (.c (.int .i64 0))))])
  (.seq (.reg [.m 7 0, .d 8 3 3, .k 9 97 [(.t 7), (.t 8)], .m 6 9])
  (.seq (.seq (.reg [.m 10 6, .o 11 (.bin .neq (.t 10) (.k (.c (.int .i64 0))))])
  (.cond (.t 11)
  (.seq (.reg [.m 12 0, .k 13 56 [(.t 12)], .m 14 6, .m 4 13, .m 5 14])
  (.ret))
  (.skip)))
  (.seq (.dreg [.m 15 0, .k 16 56 [(.t 15)], .d 17 3 3, .o 18 (.bsl 3 [(.t 17)]), .o 19 (.app 45 3 32 (.t 16) (.t 18)), .m 4 19, .o 5 (.mov (.k (.c (.int .i64 0))))]
    [.q (.m 15 0), ⟨.k 16 56 [(.t 15)], true, 0⟩, .q (.d 17 3 3), .q (.o 18 (.bsl 3 [(.t 17)])), ⟨.o 19 (.app 45 3 32 (.t 16) (.t 18)), true, 1⟩, ⟨.m 4 19, false, 2⟩, ⟨.o 5 (.mov (.k (.c (.int .i64 0)))), false, 2⟩])
  (.ret))))
def r64 : List ResV := [.tmp 4, .tmp 5]
theorem k64 : CodeIs Tryz.prog 64 2 Tryz.f64 c64 r64 := ⟨by kernel_rfl, Tryz.func64, rfl, by kernel_rfl, by kernel_rfl, by decide, enters_fn Tryz.func64 (by kernel_rfl) rfl⟩
/-- ops.wrong -/
def c97 : AC :=
  .seq (.reg [.o 3 (.box (.t 1)), .o 4 (.mov (.k (.c (.int .i64 0))))])
  (.seq (.reg [.m 8 0, .f 9 0 3, .l 10 9, .k 11 116 [(.t 8), (.t 10)], .m 7 11, .x 12 7 0, .x 13 7 1, .o 5 (.box (.k (.agg [.c (.str []), .c (.int .i64 0), .c (.int .i64 0)]))), .s 3 5 12, .m 6 13])
  (.seq (.block 0 (.seq (.reg [.f 15 2 3, .l 16 15, .o 17 (.bin .lss (.t 16) (.k (.c (.int .i64 0)))), .m 18 17, .z 19 (.fadd 2 (.t 3)) 18, .z 20 (.load1 (.t 19)) 18, .z 21 (.bin .gtr (.t 20) (.k (.c (.int .i64 2)))) 18, .o 22 (.pick (.t 18) (.k (.c (.bool true))) (.t 21)), .m 14 22])
  (.cond (.t 14)
  (.seq (.reg [.o 4 (.mov (.k (.c (.int .i64 1))))])
  (.ret))
  (.seq (.reg [.f 24 0 3, .l 25 24, .k 26 60 [(.t 25)], .o 27 (.un .not (.t 26)), .m 28 27, .y 29 (.fadd 0 (.t 3)) 28, .y 30 (.load1 (.t 29)) 28, .y 31 (.call (.k (.fn 62 [])) [(.t 30)]) 28, .y 32 (.un .not (.t 31)) 28, .o 33 (.pick (.t 28) (.t 32) (.k (.c (.bool false)))), .m 34 33, .z 35 (.fadd 0 (.t 3)) 34, .z 36 (.load1 (.t 35)) 34, .z 37 (.call (.k (.fn 117 [])) [(.t 36)]) 34, .o 38 (.pick (.t 34) (.k (.c (.bool true))) (.t 37)), .m 23 38])
  (.cond (.t 23)
  (.seq (.reg [.o 4 (.mov (.k (.c (.int .i64 20))))])
  (.ret))
  (.seq (.reg [.f 40 1 3, .l 41 40, .o 42 (.bin .lss (.t 41) (.k (.c (.int .i64 1)))), .m 43 42, .z 44 (.fadd 1 (.t 3)) 43, .z 45 (.load1 (.t 44)) 43, .z 46 (.bin .gtr (.t 45) (.k (.c (.int .i64 200)))) 43, .o 47 (.pick (.t 43) (.k (.c (.bool true))) (.t 46)), .m 39 47])
  (.cond (.t 39)
  (.seq (.reg [.o 4 (.mov (.k (.c (.int .i64 21))))])
  (.ret))
  (.seq (.reg [.m 49 6, .m 48 49])
  (.cond (.t 48)
  (.seq (.reg [.o 4 (.mov (.k (.c (.int .i64 22))))])
  (.ret))
  (.seq (.reg [.m 51 0, .o 52 (.lenr (.t 51)), .o 53 (.bin .geq (.t 52) (.k (.c (.int .i64 64)))), .m 50 53])
  (.cond (.t 50)
  (.seq (.reg [.o 4 (.mov (.k (.c (.int .i64 23))))])
  (.ret))
  (.skip))))))))))))
  (.seq (.reg [.o 4 (.mov (.k (.c (.int .i64 0))))])
  (.ret))))
def r97 : List ResV := [.tmp 4]
theorem k97 : CodeIs Tryz.prog 97 2 Tryz.f97 c97 r97 := ⟨by kernel_rfl, Tryz.func97, rfl, by kernel_rfl, by kernel_rfl, by decide, enters_fn Tryz.func97 (by kernel_rfl) rfl⟩
/-- ops.reserved -/
def c117 : AC :=
  .seq (.reg [.o 2 (.mov (.k (.c (.bool false))))])
  (.seq (.seq (.reg [.m 3 0])
  (.block 0 (.seq (.seq (.reg [.o 5 (.bin .eql (.t 3) (.k (.c (.str [33])))), .m 4 5])
  (.cond (.t 4)
  (.skip)
  (.seq (.reg [.o 6 (.bin .eql (.t 3) (.k (.c (.str [45, 62])))), .m 4 6])
  (.cond (.t 4)
  (.skip)
  (.seq (.reg [.o 7 (.bin .eql (.t 3) (.k (.c (.str [107, 105, 110, 100])))), .m 4 7])
  (.cond (.t 4)
  (.skip)
  (.seq (.reg [.o 8 (.bin .eql (.t 3) (.k (.c (.str [116, 121, 112, 101])))), .m 4 8])
  (.cond (.t 4)
  (.skip)
  (.seq (.reg [.o 9 (.bin .eql (.t 3) (.k (.c (.str [105, 110, 102, 105, 120])))), .m 4 9])
  (.cond (.t 4)
  (.skip)
  (.seq (.reg [.o 10 (.bin .eql (.t 3) (.k (.c (.str [105, 110, 102, 105, 120, 108])))), .m 4 10])
  (.cond (.t 4)
  (.skip)
  (.reg [.o 11 (.bin .eql (.t 3) (.k (.c (.str [105, 110, 102, 105, 120, 114])))), .m 4 11])))))))))))))
  (.cond (.t 4)
  (.seq (.reg [.o 2 (.mov (.k (.c (.bool true))))])
  (.ret))
  (.skip)))))
  (.seq (.reg [.o 2 (.mov (.k (.c (.bool false))))])
  (.ret)))
def r117 : List ResV := [.tmp 2]
theorem k117 : CodeIs Tryz.prog 117 1 Tryz.f117 c117 r117 := ⟨by kernel_rfl, Tryz.func117, rfl, by kernel_rfl, by kernel_rfl, by decide, enters_fn Tryz.func117 (by kernel_rfl) rfl⟩
/-- slices.Clone[[]api.Op,api.Op] -/
def c56 : AC :=
  .seq (.reg [.o 2 (.mov (.k (.csl [])))])
  (.seq (.seq (.reg [.m 3 0, .o 4 (.eqz false (.t 3))])
  (.cond (.t 4)
  (.seq (.reg [.o 2 (.mov (.k (.csl [])))])
  (.ret))
  (.skip)))
  (.seq (.reg [.o 5 (.bsl 3 []), .m 6 0, .o 7 (.app 45 3 32 (.t 5) (.t 6)), .m 2 7])
  (.ret)))
def r56 : List ResV := [.tmp 2]
theorem k56 : CodeIs Tryz.prog 56 1 Tryz.f56 c56 r56 := ⟨by kernel_rfl, Tryz.func56, rfl, by kernel_rfl, by kernel_rfl, by decide, enters_fn Tryz.func56 (by kernel_rfl) rfl⟩
end Go.Proofs.YtapnncbenhkicaaGreatDoor
namespace Go.Proofs.YtapnncbenhkicaaGreatDoor
open Go.RowKit Go.Lamb
attribute [local go_sem] advO_skip advO_reg advO_seq advO_block advO_exit advO_endb advO_opsNil advO_ops advG_yes advG_no advG_none advS_some advS_none advO_cond advO_loop advO_dreg advO_ret advO_bad advO_inv advO_nil advO_zero wantedV Lamb.step ev_t ev_k put_some put_none argEnv popTo cellsAt V.cellsV V.rows V.toC toCs fillV bytesC byteRows appV rowsV boundV boundL binV binInt binStr eqC eqL V.isNil leaves V.leaf Ins.quiet Ins.pure List.getD_cons_zero List.getD_cons_succ List.getD_nil List.all_cons List.all_nil List.length_cons List.length_nil List.take_succ_cons List.take_zero List.drop_succ_cons List.drop_zero List.cons_append List.nil_append List.append_nil List.append_assoc List.map_cons List.map_nil List.getElem?_cons_zero List.getElem?_cons_succ List.length_append List.length_set hget0 hget hset0 hset hsets hgs0 hgs hss0 hss List.set_cons_zero List.set_cons_succ List.forall_mem_cons List.not_mem_nil false_implies implies_true Option.map_some Bool.and_true Bool.true_and Bool.not_not Bool.not_true Bool.not_false Bool.and_self Bool.or_true Bool.true_or Bool.or_false Bool.false_or Bool.and_false Bool.false_and Bool.false_eq_true beq_self_eq_true and_self and_true true_and if_true if_false Nat.zero_add Nat.add_zero Nat.le_refl Int.toNat_natCast decide_true decide_false beq_t beq_f List.length_map List.getElem?_map I S B opsC toksC OpT.v OpT.cs OpT.zero Tok.v Tok.cs Pre.v Pre.cs_eq k_mk name_mk n_mk l_mk pos_mk Pre.app applyL natCast0 natCast1 natCast2 AOp.o AOp.m AOp.f AOp.l AOp.d AOp.n AOp.x AOp.s AOp.k AOp.y AOp.z EOp.q low_c low_void low_any low_csl low_nilf low_ptr low_osl low_agg low_tup low_fn resEval advPO_nil advPO_loud advPO_quiet pL_yes pL_no pLS_some pLS_none pQ_yes pQ_no pQS_some pQS_loud eq_self Nat.sub_zero
section

/-- A contract over worlds of what looks at a text and tells a bool. -/
theorem DC.of_text {w0 : World} {f : FuncId} {s : List UInt8} {b : Bool} {σ : H} (hen : Enters Tryz.prog f) (h : ∀ w, s.length ≤ maxLen → Calls Tryz.prog f #[.string (bs s)] w (Ret (.bool b) w)) : DC Tryz.prog w0 f [S s] σ (Same (B b) σ) := by
  refine DC.of_calls hen fun κ w vs hrep hfit => ?_
  obtain ⟨v, ys, rfl, hv, hfit⟩ := hfit.cons_inv
  have := hfit.nil_inv
  subst this
  cases hv with
  | c hv =>
    cases hv with
    | str _ hl =>
      refine ⟨.bool b, .c (.bool b), (h w hl).mono ?_⟩
      rintro e w' ⟨rfl, rfl⟩
      exact ⟨rfl, Below.refl _ _⟩
theorem lex_IsNameD (w0 : World) (s : List UInt8) (σ : H) : DC Tryz.prog w0 60 [S s] σ (Same (B (isNameB s)) σ) :=
  DC.of_text (enters_fn Tryz.func60 (by kernel_rfl) rfl) fun w hs => lex_IsName (bs s) w hs
theorem lex_IsSymD (w0 : World) (s : List UInt8) (σ : H) : DC Tryz.prog w0 62 [S s] σ (Same (B (isSymB s)) σ) :=
  DC.of_text (enters_fn Tryz.func62 (by kernel_rfl) rfl) fun w hs => lex_IsSym (bs s) w hs
theorem ops_reserved (w0 : World) (s : Str) (σ : H) : DC Tryz.prog w0 117 [S s] σ (Same (B (reservedL s)) σ) := by
  refine k117.go rfl (fun hok hsz => ?_)
  (((try refine W.a ?_); (try simp only [bne, go_sem, seval, reduceCtorEq, c117, *])); (repeat' (first | (refine W.yes rfl ?_; (refine W.a ?_; simp only [bne, go_sem, seval, reduceCtorEq, c117, *])) | (refine W.no rfl ?_; (refine W.a ?_; simp only [bne, go_sem, seval, reduceCtorEq, c117, *])) | (refine W.testn rfl (fun hT => ?_) (fun hT => ?_) <;> (refine W.a ?_; simp only [bne, go_sem, seval, reduceCtorEq, c117, *])) | (refine W.test rfl (fun hT => ?_) (fun hT => ?_) <;> (refine W.a ?_; simp only [bne, go_sem, seval, reduceCtorEq, c117, *])) | (refine advG_ifn _ _ _ _ (fun hT => ?_) (fun hT => ?_) <;> simp only [bne, go_sem, seval, reduceCtorEq, c117, *]) | (refine advG_if _ _ _ _ (fun hT => ?_) (fun hT => ?_) <;> simp only [bne, go_sem, seval, reduceCtorEq, c117, *]))))
  all_goals (refine W.fs (hok) (by simp only [r117, go_sem, seval, reduceCtorEq]; rfl) ?_; simp only [resV]; (first | exact V.wk.rfl _ | (refine wk_bool ?_; clear hsz hok; rw [reservedL] <;> ((try simp only [beq_iff_eq, beq_eq_false_iff_ne, ne_eq, decide_eq_true_eq, decide_eq_false_iff_not] at *); first | (exfalso; omega) | (simp [*]; done) | (simp [*]; omega) | (simp [*])))))
theorem clone_op (w0 : World) (l : List OpT) (hl : l ≠ []) (hn : l.length ≤ 100000) (σ : H) : DC Tryz.prog w0 56 [.c (opsC l)] σ (Same (.osl σ.length (l.map OpT.cs)) (σ ++ [.spare 45 3 l.length])) := by
  refine k56.goN rfl (fun hok hsz => ?_)
  ((try refine W.a ?_); simp only [go_sem, seval, reduceCtorEq, c56])
  refine W.opsFork rfl rfl rfl (fun b hb => ?_)
  have hbf : b = false := by
    cases b
    · rfl
    · exact absurd (by simpa using hb rfl) hl
  subst hbf
  have hne : l.map OpT.cs ≠ [] := by simpa using hl
  have hb1 : l.length * 32 ≤ 140737488355328 := by omega
  have hb2 : l.length ≤ 140737488355328 := by omega
  have hb3 : ∀ r ∈ l.map OpT.cs, r.length = 3 := fun r hr => by obtain ⟨o, _, rfl⟩ := List.mem_map.1 hr; rfl
  ((try refine W.a ?_); simp only [go_sem, seval, reduceCtorEq])
  refine W.no rfl ?_
  ((try refine W.a ?_); simp only [go_sem, seval, reduceCtorEq, hb1, hb2, eq_true hb3, hne, true_or])
  refine W.ret ⟨_, _, rfl, .rfl _, ?_⟩
  refine ⟨rfl, ?_⟩
  simp only [List.length_map]
theorem bool_idx {α : Type} [BEq α] [LawfulBEq α] (l : List α) (x : α) : decide ((0 : Int) ≤ idxI (· == x) l) = l.contains x := by
  rcases idxI_cases (· == x) l with ⟨h, h'⟩ | ⟨i, hi, h, h'⟩
  · rw [h]
    have : l.contains x = false := by
      rw [List.find?_eq_none] at h'
      cases hc : l.contains x
      · rfl
      · rw [List.contains_iff_mem] at hc
        exact absurd (h' x hc) (by simp)
    rw [this]; rfl
  · rw [h]
    have hm : (l[i] == x) = true := by
      have := List.find?_some h'
      exact this
    have : l.contains x = true := by
      rw [List.contains_iff_mem]
      have e : l[i] = x := by simpa using hm
      rw [← e]; exact List.getElem_mem hi
    rw [this]
    simp
theorem str_contains (w0 : World) (l : List Str) (s : Str) (σ : H) : DC Tryz.prog w0 46 [.c (.sl (strsR l)), S s] σ (Same (B (l.contains s)) σ) := by
  refine k46.go rfl (fun hok hsz => ?_)
  ((try refine W.a ?_); simp only [go_sem, seval, reduceCtorEq, c46])
  (refine W.c1 (slices_Index w0 l s _) ?_; simp only [go_sem, seval, reduceCtorEq])
  (refine W.fs (hok) (by simp only [r46, go_sem, seval, reduceCtorEq]; rfl) ?_; simp only [resV]; try exact V.wk.rfl _)
  rw [← bool_idx]
  exact .rfl _
theorem kind_index (w0 : World) (l : List Int) (k : Int) (σ : H) : DC Tryz.prog w0 138 [.c (.sl (l.map fun k => [C.int .i64 k])), I k] σ (Same (I (idxI (· == k) l)) σ) := by
  refine k138.go rfl (fun hok hsz => ?_)
  have hlen : l.length ≤ 9223372036854775807 := sz_rows (hsz _ (List.mem_cons_self ..))
  ((try refine W.a ?_); simp only [go_sem, seval, reduceCtorEq, c138])
  refine W.loopP (fun i => i ≤ l.length ∧ UpTo (· == k) l i) (fun i => ⟨((((base.put (some 0) (.c (.sl (l.map fun k => [C.int .i64 k])))).put (some 1) (I k)).put (some 7) (I l.length)).put (some 8) (I (i : Nat))), σ⟩) (fun i => l.length - i) 0 ⟨Nat.zero_le _, upTo_zero⟩ ?_ (fun i hi => ?_)
  · (refine Lew.env ?_; exact lee_here)
  · obtain ⟨hi, hinv⟩ := hi
    by_cases hlt : i < l.length
    · have h1 : ((i : Int) < (l.length : Int)) := by omega
      have hx : l[i]? = some l[i] := List.getElem?_eq_getElem hlt
      have hw : IntKind.i64.wrap ((i : Int) + 1) = ((i + 1 : Nat) : Int) := wrap_next hlt hlen
      ((try refine W.a ?_); simp only [go_sem, seval, reduceCtorEq, h1])
      refine W.yes rfl ?_
      ((try refine W.a ?_); simp only [go_sem, seval, reduceCtorEq, h1, nat0, hx])
      refine W.test rfl (fun h => ?_) (fun h => ?_)
      · ((try refine W.a ?_); simp only [go_sem, seval, reduceCtorEq])
        (refine W.ret (Fin.same hok (by simp only [resEval, r138, go_sem, seval, reduceCtorEq]; rfl) ?_ (by first | exact .c _ | (simp only [go_sem, seval, reduceCtorEq]; done)) (by first | exact ⟨[], (List.append_nil _).symm⟩ | exact ⟨_, rfl⟩)); simp only [resV])
        rw [idxI_at hinv hlt (by simp only [beq_iff_eq] at h ⊢; exact h.symm)]
      · ((try refine W.a ?_); simp only [go_sem, seval, reduceCtorEq, hw])
        refine .inv ⟨i + 1, ⟨hlt, upTo_next hinv hlt (by simp only [beq_eq_false_iff_ne] at h ⊢; exact fun e => h e.symm)⟩, by omega, ?_⟩
        (refine Lew.env ?_; exact lee_here)
    · have h1 : ¬ ((i : Int) < (l.length : Int)) := by omega
      ((try refine W.a ?_); simp only [go_sem, seval, reduceCtorEq, h1])
      refine W.no rfl ?_
      ((try refine W.a ?_); simp only [go_sem, seval, reduceCtorEq])
      (refine W.ret (Fin.same hok (by simp only [resEval, r138, go_sem, seval, reduceCtorEq]; rfl) ?_ (by first | exact .c _ | (simp only [go_sem, seval, reduceCtorEq]; done)) (by first | exact ⟨[], (List.append_nil _).symm⟩ | exact ⟨_, rfl⟩)); simp only [resV])
      rw [idxI_none (fun j hj => hinv j hj (by omega))]
theorem kind_contains (w0 : World) (l : List Int) (k : Int) (σ : H) : DC Tryz.prog w0 111 [.c (.sl (l.map fun k => [C.int .i64 k])), I k] σ (Same (B (l.contains k)) σ) := by
  refine k111.go rfl (fun hok hsz => ?_)
  ((try refine W.a ?_); simp only [go_sem, seval, reduceCtorEq, c111])
  (refine W.c1 (kind_index w0 l k _) ?_; simp only [go_sem, seval, reduceCtorEq])
  (refine W.fs (hok) (by simp only [r111, go_sem, seval, reduceCtorEq]; rfl) ?_; simp only [resV]; try exact V.wk.rfl _)
  rw [← bool_idx]
  exact .rfl _
theorem ops_wrong (w0 : World) (l : List OpT) (o : OpT) (σ : H) : DC Tryz.prog w0 97 [.c (opsC l), o.v] σ (Same (I (wrongL l o)) σ) := by
  refine k97.go rfl (fun hok hsz => ?_)
  ((try refine W.a ?_); simp only [go_sem, seval, reduceCtorEq, c97])
  (refine W.c1 (ops_Find w0 l o.name _) ?_; simp only [go_sem, seval, reduceCtorEq, foundV])
  generalize (findL l o.name).getD OpT.zero = z
  by_cases c1 : o.fix < 0 ∨ 2 < o.fix
  · have hr : wrongL l o = 1 := by unfold wrongL; rw [if_pos c1]
    rw [hr]
    rcases c1 with c1 | c1
    · ((try refine W.a ?_); simp only [go_sem, seval, reduceCtorEq, c1])
      refine W.yes rfl ?_
      ((try refine W.a ?_); simp only [go_sem, seval, reduceCtorEq])
      (refine W.fs (hok) (by simp only [r97, go_sem, seval, reduceCtorEq]; rfl) ?_; simp only [resV]; try exact V.wk.rfl _)
    · have c0 : ¬ o.fix < 0 := by omega
      have c1' : o.fix > 2 := c1
      ((try refine W.a ?_); simp only [go_sem, seval, reduceCtorEq, c0, c1'])
      refine W.yes rfl ?_
      ((try refine W.a ?_); simp only [go_sem, seval, reduceCtorEq])
      (refine W.fs (hok) (by simp only [r97, go_sem, seval, reduceCtorEq]; rfl) ?_; simp only [resV]; try exact V.wk.rfl _)
  · have n1 : ¬ o.fix < 0 := by omega
    have n2 : ¬ o.fix > 2 := by omega
    ((try refine W.a ?_); simp only [go_sem, seval, reduceCtorEq, n1, n2])
    refine W.no rfl ?_
    ((try refine W.a ?_); simp only [go_sem, seval, reduceCtorEq])
    have hw : wrongL l o = if (isNameB o.name = false ∧ isSymB o.name = false) ∨ reservedL o.name = true then 20 else if o.prec < 1 ∨ 200 < o.prec then 21 else if (findL l o.name).isSome = true then 22 else if 64 ≤ l.length then 23 else 0 := by unfold wrongL; rw [if_neg c1]
    have tail : ∀ (ρ : Env) (hρ : ρ 3 = .ptr σ.length 0) (h6 : ρ 6 = B (findL l o.name).isSome) (h0 : ρ 0 = .c (opsC l)), ¬ ((isNameB o.name = false ∧ isSymB o.name = false) ∨ reservedL o.name = true) → True := fun _ _ _ _ _ => trivial
    clear tail
    cases hN : isNameB o.name <;> cases hS : isSymB o.name <;> cases hR : reservedL o.name
    all_goals
      (refine W.c1 (lex_IsNameD w0 o.name _) ?_; simp only [go_sem, seval, reduceCtorEq, hN])
      try ((refine W.c1 (lex_IsSymD w0 o.name _) ?_; simp only [go_sem, seval, reduceCtorEq, hS]))
      try ((refine W.c1 (ops_reserved w0 o.name _) ?_; simp only [go_sem, seval, reduceCtorEq, hR]))
      first
        | (refine W.yes rfl ?_
           ((try refine W.a ?_); simp only [go_sem, seval, reduceCtorEq])
           (refine W.fs (hok) (by simp only [r97, go_sem, seval, reduceCtorEq]; rfl) ?_; simp only [resV]; try exact V.wk.rfl _)
           rw [hw, if_pos (by simp [hN, hS, hR])]
           exact .rfl _)
        | skip
    all_goals
      rw [hN, hS, hR] at hw
      simp only [Bool.true_eq_false, Bool.false_eq_true, and_false, false_and, and_self, or_self, or_false, false_or, if_false] at hw
      refine W.no rfl ?_
      ((try refine W.a ?_); simp only [go_sem, seval, reduceCtorEq])
      by_cases p1 : o.prec < 1
      · rw [if_pos (.inl p1)] at hw
        rw [hw]
        ((try refine W.a ?_); simp only [go_sem, seval, reduceCtorEq, p1])
        refine W.yes rfl ?_
        ((try refine W.a ?_); simp only [go_sem, seval, reduceCtorEq])
        (refine W.fs (hok) (by simp only [r97, go_sem, seval, reduceCtorEq]; rfl) ?_; simp only [resV]; try exact V.wk.rfl _)
      · by_cases p2 : o.prec > 200
        · rw [if_pos (.inr p2)] at hw
          rw [hw]
          ((try refine W.a ?_); simp only [go_sem, seval, reduceCtorEq, p1, p2])
          refine W.yes rfl ?_
          ((try refine W.a ?_); simp only [go_sem, seval, reduceCtorEq])
          (refine W.fs (hok) (by simp only [r97, go_sem, seval, reduceCtorEq]; rfl) ?_; simp only [resV]; try exact V.wk.rfl _)
        · rw [if_neg (by omega)] at hw
          ((try refine W.a ?_); simp only [go_sem, seval, reduceCtorEq, p1, p2])
          refine W.no rfl ?_
          ((try refine W.a ?_); simp only [go_sem, seval, reduceCtorEq])
          cases hf : (findL l o.name).isSome
          · rw [hf, if_neg (by decide)] at hw
            refine W.no rfl ?_
            by_cases p3 : 64 ≤ l.length
            · have p3' : (l.length : Int) ≥ 64 := by omega
              rw [if_pos p3] at hw
              rw [hw]
              ((try refine W.a ?_); simp only [go_sem, seval, reduceCtorEq, p3'])
              refine W.yes rfl ?_
              ((try refine W.a ?_); simp only [go_sem, seval, reduceCtorEq])
              (refine W.fs (hok) (by simp only [r97, go_sem, seval, reduceCtorEq]; rfl) ?_; simp only [resV]; try exact V.wk.rfl _)
            · have p3' : ¬ (l.length : Int) ≥ 64 := by omega
              rw [if_neg p3] at hw
              rw [hw]
              ((try refine W.a ?_); simp only [go_sem, seval, reduceCtorEq, p3'])
              refine W.no rfl ?_
              ((try refine W.a ?_); simp only [go_sem, seval, reduceCtorEq])
              (refine W.fs (hok) (by simp only [r97, go_sem, seval, reduceCtorEq]; rfl) ?_; simp only [resV]; try exact V.wk.rfl _)
          · rw [hf, if_pos rfl] at hw
            rw [hw]
            refine W.yes rfl ?_
            ((try refine W.a ?_); simp only [go_sem, seval, reduceCtorEq])
            (refine W.fs (hok) (by simp only [r97, go_sem, seval, reduceCtorEq]; rfl) ?_; simp only [resV]; try exact V.wk.rfl _)
/-- What comes of one more operator. -/
theorem ops_Declare (w0 : World) (l : List OpT) (o : OpT) (hl : l ≠ []) (hn : l.length ≤ 99999) (σ : H) : DC Tryz.prog w0 64 [.c (opsC l), o.v] σ (Same (.tup [.c (opsC (if wrongL l o = 0 then l ++ [o] else l)), I (wrongL l o)]) σ) := by
  refine k64.go rfl (fun hok hsz => ?_)
  ((try refine W.a ?_); simp only [go_sem, seval, reduceCtorEq, c64])
  (refine W.c1 (ops_wrong w0 l o _) ?_; simp only [go_sem, seval, reduceCtorEq])
  by_cases hw : wrongL l o = 0
  · have hb : (wrongL l o != 0) = false := by simpa using hw
    have hb1 : (l.length + 1) * 32 ≤ 140737488355328 := by omega
    have hb2 : l.length + 1 ≤ 140737488355328 := by omega
    rw [if_pos hw]
    ((try refine W.a ?_); simp only [go_sem, seval, reduceCtorEq, hb])
    refine W.no rfl ?_
    ((try refine W.a ?_); simp only [go_sem, seval, reduceCtorEq])
    apply W.dregE (List.cons_ne_nil _ _)
    case hc =>
      (apply CanonE.advPO; simp only [go_sem, seval, reduceCtorEq])
      (apply CanonE.call (clone_op w0 l hl (by omega) _); (case hg => rfl); (case hf => rfl); (case ha => first | rfl | simp))
      (apply CanonE.advPO; simp only [go_sem, seval, reduceCtorEq, hb1, hb2])
      exact CanonE.nil
    ((try refine W.a ?_); simp only [go_sem, seval, reduceCtorEq])
    rw [hw]
    (refine W.fs (hok) (by simp only [r64, go_sem, seval, reduceCtorEq]; rfl) ?_; simp only [resV]; try exact V.wk.rfl _)
    simp only [List.map_append, List.map_cons, List.map_nil, OpT.cs]
    (all_goals exact wk_here)
  · have hb : (wrongL l o != 0) = true := by simpa using hw
    rw [if_neg hw]
    ((try refine W.a ?_); simp only [go_sem, seval, reduceCtorEq, hb])
    refine W.yes rfl ?_
    ((try refine W.a ?_); simp only [go_sem, seval, reduceCtorEq])
    (refine W.c1 (clone_op w0 l hl (by omega) _) ?_; simp only [go_sem, seval, reduceCtorEq])
    (refine W.fs (hok) (by simp only [r64, go_sem, seval, reduceCtorEq]; rfl) ?_; simp only [resV]; try exact V.wk.rfl _)
    (all_goals exact wk_here)
end
section
attribute [local go_sem] Typ.v Typ.cs_eq tk_mk tname_mk tn_mk tl_mk tysC

theorem sz_row_len {α : Type} {f : α → List C} {l : List α} {x : V} {args : List V} (h : ∀ y ∈ args, V.Sz y) (hx : x ∈ args) (e : x = .c (.sl (l.map f))) : l.length ≤ 9223372036854775807 := by
  subst e
  exact sz_rows (h _ hx)
theorem IndexFunc_ty (w0 : World) (l : List Typ) (f : FuncId) (caps : List V) (p : Typ → Bool) (σ : H) (hp : ∀ o ∈ l, DC Tryz.prog w0 f (o.v :: caps) σ (Same (B (p o)) σ)) : DC Tryz.prog w0 114 [.c (.sl (l.map Typ.cs)), .fn f caps] σ (Same (I (idxI p l)) σ) := by
  refine k114.go rfl (fun hok hsz => ?_)
  have hlen := sz_row_len hsz (List.mem_cons_self ..) rfl
  ((try refine W.a ?_); simp only [go_sem, seval, reduceCtorEq, c114])
  refine W.loopP (fun i => i ≤ l.length ∧ UpTo p l i) (fun i => ⟨((((base.put (some 0) (.c (.sl (l.map Typ.cs)))).put (some 1) (.fn f caps)).put (some 7) (I l.length)).put (some 8) (I i)), σ⟩) (fun i => l.length - i) 0 ⟨Nat.zero_le _, upTo_zero⟩ ?_ (fun i hi => ?_)
  · (refine Lew.env ?_; exact lee_here)
  · obtain ⟨hi, hinv⟩ := hi
    by_cases hlt : i < l.length
    · have h1 : ((i : Int) < (l.length : Int)) := by omega
      have hx : l[i]? = some l[i] := List.getElem?_eq_getElem hlt
      ((try refine W.a ?_); simp only [go_sem, seval, reduceCtorEq, h1])
      refine W.yes rfl ?_
      ((try refine W.a ?_); simp only [go_sem, seval, reduceCtorEq, h1, nat0, hx])
      (refine W.c1 (hp l[i] (List.getElem_mem hlt)) ?_; simp only [go_sem, seval, reduceCtorEq])
      refine W.test rfl (fun h => ?_) (fun h => ?_)
      · ((try refine W.a ?_); simp only [go_sem, seval, reduceCtorEq])
        (refine W.ret (Fin.same hok (by simp only [resEval, r114, go_sem, seval, reduceCtorEq]; rfl) ?_ (by first | exact .c _ | (simp only [go_sem, seval, reduceCtorEq]; done)) (by first | exact ⟨[], (List.append_nil _).symm⟩ | exact ⟨_, rfl⟩)); simp only [resV])
        rw [idxI_at hinv hlt h]
      · have hw := wrap_next hlt hlen
        ((try refine W.a ?_); simp only [go_sem, seval, reduceCtorEq, hw])
        refine .inv ⟨i + 1, ⟨hlt, upTo_next hinv hlt h⟩, by omega, ?_⟩
        (refine Lew.env ?_; exact lee_here)
    · have h1 : ¬ ((i : Int) < (l.length : Int)) := by omega
      ((try refine W.a ?_); simp only [go_sem, seval, reduceCtorEq, h1])
      refine W.no rfl ?_
      ((try refine W.a ?_); simp only [go_sem, seval, reduceCtorEq])
      (refine W.ret (Fin.same hok (by simp only [resEval, r114, go_sem, seval, reduceCtorEq]; rfl) ?_ (by first | exact .c _ | (simp only [go_sem, seval, reduceCtorEq]; done)) (by first | exact ⟨[], (List.append_nil _).symm⟩ | exact ⟨_, rfl⟩)); simp only [resV])
      rw [idxI_none (fun j hj => hinv j hj (by omega))]
theorem idxI_geq {α : Type} (p : α → Bool) (l : List α) : decide (idxI p l ≥ 0) = l.any p := by
  rcases idxI_cases p l with ⟨h, h'⟩ | ⟨i, hi, h, h'⟩
  · rw [h]
    rw [idxI_none_iff] at h
    have : l.any p = false := by simpa using h
    rw [this]; decide
  · rw [h]
    have : l.any p = true := by
      rw [List.any_eq_true]
      rw [List.find?_eq_some_iff_getElem] at h'
      exact ⟨l[i], List.getElem_mem hi, h'.1⟩
    rw [this]; simp
theorem ContainsFunc_ty (w0 : World) (l : List Typ) (f : FuncId) (caps : List V) (p : Typ → Bool) (σ : H) (hp : ∀ o ∈ l, DC Tryz.prog w0 f (o.v :: caps) σ (Same (B (p o)) σ)) : DC Tryz.prog w0 92 [.c (.sl (l.map Typ.cs)), .fn f caps] σ (Same (B (l.any p)) σ) := by
  refine k92.go rfl (fun hok hsz => ?_)
  ((try refine W.a ?_); simp only [go_sem, seval, reduceCtorEq, c92])
  (refine W.c1 (IndexFunc_ty w0 l f caps p σ hp) ?_; simp only [go_sem, seval, reduceCtorEq])
  (refine W.fs (hok) (by simp only [r92, go_sem, seval, reduceCtorEq]; rfl) ?_; simp only [resV]; (first | exact V.wk.rfl _ | (refine wk_bool ?_; clear hsz hok; rw [idxI_geq] <;> ((try simp only [beq_iff_eq, beq_eq_false_iff_ne, ne_eq, decide_eq_true_eq, decide_eq_false_iff_not] at *); first | (exfalso; omega) | (simp [*]; done) | (simp [*]; omega) | (simp [*])))))
theorem any_all {α : Type} (l : List α) (p : α → Bool) : (l.any fun q => !p q) = !l.all p := by
  induction l with
  | nil => rfl
  | cons x l ih => simp only [List.any_cons, List.all_cons, ih]; cases p x <;> simp
theorem len_ne {n : Nat} (k : Nat) : ((n : Int) == (k : Int)) = (n == k) := by
  rw [Bool.eq_iff_iff]; simp; omega
theorem ty_arrow (w0 : World) (p : Typ) (σ : H) : DC Tryz.prog w0 39 [p.v] σ (Same (B (arrowT p)) σ) := by
  refine k39.go rfl (fun hok hsz => ?_)
  have l2 := len_ne (n := p.l.length) 2
  simp only [natCast2] at l2
  unfold arrowT
  (((try refine W.a ?_); (try simp only [bne, go_sem, seval, reduceCtorEq, c39, l2, *])); (repeat' (first | (refine W.yes rfl ?_; (refine W.a ?_; simp only [bne, go_sem, seval, reduceCtorEq, c39, l2, *])) | (refine W.no rfl ?_; (refine W.a ?_; simp only [bne, go_sem, seval, reduceCtorEq, c39, l2, *])) | (refine W.testn rfl (fun hT => ?_) (fun hT => ?_) <;> (refine W.a ?_; simp only [bne, go_sem, seval, reduceCtorEq, c39, l2, *])) | (refine W.test rfl (fun hT => ?_) (fun hT => ?_) <;> (refine W.a ?_; simp only [bne, go_sem, seval, reduceCtorEq, c39, l2, *])) | (refine advG_ifn _ _ _ _ (fun hT => ?_) (fun hT => ?_) <;> simp only [bne, go_sem, seval, reduceCtorEq, c39, l2, *]) | (refine advG_if _ _ _ _ (fun hT => ?_) (fun hT => ?_) <;> simp only [bne, go_sem, seval, reduceCtorEq, c39, l2, *]))))
  all_goals (refine W.fs (hok) (by simp only [r39, go_sem, seval, reduceCtorEq]; rfl) ?_; simp only [resV]; (first | exact V.wk.rfl _ | (refine wk_bool ?_; clear hsz hok; ((try simp only [beq_iff_eq, beq_eq_false_iff_ne, ne_eq, decide_eq_true_eq, decide_eq_false_iff_not] at *); first | (exfalso; omega) | (simp [*]; done) | (simp [*]; omega) | (simp [*])))))
theorem nodeT_eq (p : Typ) : nodeT p = if p.k = 0 then isNameB p.name && p.n == 0 else if p.k = 1 then p.name == [] && decide (0 ≤ p.n) && decide (p.n ≤ 4611686018427387904) && p.l.length == 0 else if p.k = 2 then p.name == [] && p.n == 0 && arrowT p else false := by
  unfold nodeT arrowT
  by_cases h2 : p.k = 2
  · simp [h2]
  · simp [h2]
theorem ty_Valid1 (w0 : World) (p : Typ) (b : Bool) (σ : H) (hp : ∀ τ, DC Tryz.prog w0 57 [p.v] τ (Same (B b) τ)) : DC Tryz.prog w0 93 [p.v] σ (Same (B (!b)) σ) := by
  refine k93.go rfl (fun hok hsz => ?_)
  ((try refine W.a ?_); simp only [go_sem, seval, reduceCtorEq, c93])
  (refine W.c1 (hp _) ?_; simp only [go_sem, seval, reduceCtorEq])
  (refine W.fs (hok) (by simp only [r93, go_sem, seval, reduceCtorEq]; rfl) ?_; simp only [resV]; try exact V.wk.rfl _)
theorem ty_Valid (w0 : World) (p : Typ) : ∀ (σ : H), DC Tryz.prog w0 57 [p.v] σ (Same (B (validT p)) σ) := by
  refine Typ.ind (P := fun p => ∀ (σ : H), DC Tryz.prog w0 57 [p.v] σ (Same (B (validT p)) σ)) (fun p ih σ => ?_) p
  refine k57.go rfl (fun hok hsz => ?_)
  have hC := fun σ => ContainsFunc_ty w0 p.l 93 [] (fun q => !validT q) σ (fun q hq => ty_Valid1 w0 q _ _ (fun τ => ih q hq τ))
  have l0 := len_ne (n := p.l.length) 0
  have l2 := len_ne (n := p.l.length) 2
  simp only [natCast0, natCast2] at l0 l2
  (((try refine W.a ?_); (try simp only [bne, go_sem, seval, reduceCtorEq, c57, l0, l2, *])); (repeat' (first | (refine W.yes rfl ?_; (refine W.a ?_; simp only [bne, go_sem, seval, reduceCtorEq, c57, l0, l2, *])) | (refine W.no rfl ?_; (refine W.a ?_; simp only [bne, go_sem, seval, reduceCtorEq, c57, l0, l2, *])) | (refine W.c1 (lex_IsNameD w0 p.name _) ?_; simp only [bne, go_sem, seval, reduceCtorEq, c57, l0, l2, *]) | (refine W.c1 (ty_arrow w0 p _) ?_; simp only [bne, go_sem, seval, reduceCtorEq, c57, l0, l2, *]) | (refine W.c1 (hC _) ?_; simp only [bne, go_sem, seval, reduceCtorEq, c57, l0, l2, *]) | (refine W.testn rfl (fun hT => ?_) (fun hT => ?_) <;> (refine W.a ?_; simp only [bne, go_sem, seval, reduceCtorEq, c57, l0, l2, *])) | (refine W.test rfl (fun hT => ?_) (fun hT => ?_) <;> (refine W.a ?_; simp only [bne, go_sem, seval, reduceCtorEq, c57, l0, l2, *])) | (refine advG_ifn _ _ _ _ (fun hT => ?_) (fun hT => ?_) <;> simp only [bne, go_sem, seval, reduceCtorEq, c57, l0, l2, *]) | (refine advG_if _ _ _ _ (fun hT => ?_) (fun hT => ?_) <;> simp only [bne, go_sem, seval, reduceCtorEq, c57, l0, l2, *]))))
  all_goals (refine W.fs (hok) (by simp only [r57, go_sem, seval, reduceCtorEq]; rfl) ?_; simp only [resV]; (first | exact V.wk.rfl _ | (refine wk_bool ?_; clear hsz hok; rw [validT_eq] <;> ((try simp only [beq_iff_eq, beq_eq_false_iff_ne, ne_eq, decide_eq_true_eq, decide_eq_false_iff_not] at *); first | (exfalso; omega) | (simp [nodeT_eq, any_all, *]; done) | (simp [nodeT_eq, any_all, *]; omega) | (simp [nodeT_eq, any_all, *])))))
end
section

/-- The last token is the end. -/
structure TEnd (t : List Tok) : Prop where
  ne : t ≠ []
  last : ∀ h : t.length - 1 < t.length, t[t.length - 1] = ⟨0, [], 0, lastPos t⟩
  le : t.length ≤ 100000
theorem TEnd.pos {t : List Tok} (h : TEnd t) : 0 < t.length := List.length_pos_iff.2 h.ne
theorem TEnd.tok {t : List Tok} (h : TEnd t) (i : Nat) : t[min i (t.length - 1)]? = some (tokL t i) := by
  have := h.pos
  rcases Nat.lt_or_ge i t.length with hi | hi
  · rw [Nat.min_eq_left (by omega), tokL_in hi, List.getElem?_eq_getElem hi]
  · rw [Nat.min_eq_right (by omega), tokL_out hi, List.getElem?_eq_getElem (by omega), h.last (by omega)]
/-- The source reader's block. -/
def sdX (t : List Tok) (i : Int) (l : List OpT) (e p : Int) : Blk := .cells [.c (toksC t), I i, .c (opsC l), I e, I p]
abbrev srd (σ : H) (b : Nat) (t : List Tok) (i : Int) (l : List OpT) (e p : Int) : H := rz σ b (sdX t i l e p)
theorem srd_ok {σ : H} {b : Nat} (D : b < σ.length) {X : Blk} (h : H.ok (rz σ b X)) (t : List Tok) (i : Int) (l : List OpT) (e p : Int) : H.ok (srd σ b t i l e p) :=
  rz_ok D h (fun cs tg hc x hx => by
    unfold sdX at hc
    injection hc with hc _
    subst hc
    simp only [List.mem_cons, List.not_mem_nil, or_false] at hx
    rcases hx with rfl | rfl | rfl | rfl | rfl <;> exact .c _)
attribute [local go_sem] sdX rz_len rz_g0 rz_g rz_s0 rz_s rz_sb
theorem sr_tok (w0 : World) (t : List Tok) (hT : TEnd t) (i : Nat) (hi : i ≤ 1000000) (l : List OpT) (e p : Int) (σ : H) (b : Nat) (D : b < σ.length) :
    DC Tryz.prog w0 18 [.ptr b 0] (srd σ b t i l e p) (Same (tokL t i).v (srd σ b t i l e p)) := by
  refine k18.go rfl (fun hok hsz => ?_)
  have hp := hT.pos
  have hle := hT.le
  have hw2 : IntKind.i64.wrap ((t.length : Int) - 1) = ((t.length - 1 : Nat) : Int) := by rw [wrap_in] <;> omega
  have hmn : (if ((t.length - 1 : Nat) : Int) < (i : Int) then ((t.length - 1 : Nat) : Int) else (i : Int)) = ((min i (t.length - 1) : Nat) : Int) := by
    split <;> omega
  have hlt : ((min i (t.length - 1) : Nat) : Int) < (t.length : Int) := by omega
  have hx := hT.tok i
  ((try refine W.a ?_); simp only [go_sem, seval, reduceCtorEq, c18, rzA D])
  (apply W.dregE (List.cons_ne_nil _ _); case hc => ((apply CanonE.advPO; simp only [go_sem, seval, reduceCtorEq, rzA D, hw2, hmn, nat0, hlt, hx]); exact CanonE.nil))
  ((try refine W.a ?_); simp only [go_sem, seval, reduceCtorEq, rzA D])
  (refine W.fs (hok) (by simp only [r18, go_sem, seval, reduceCtorEq, rzA D]; rfl) ?_ (hl := by (first | exact .c _ | (simp only [go_sem, seval, reduceCtorEq, rzA D]; done))); simp only [resV, rzA D]; try exact V.wk.rfl _)
  (all_goals exact wk_here)
theorem sr_fail (w0 : World) (t : List Tok) (i : Int) (l : List OpT) (e p e' p' : Int) (σ : H) (b : Nat) (D : b < σ.length) :
    DC Tryz.prog w0 88 [.ptr b 0, I e', I p'] (srd σ b t i l e p) (Same (.tup []) (srd σ b t i l (if e = 0 then e' else e) (if e = 0 then p' else p))) := by
  refine k88.go rfl (fun hok hsz => ?_)
  by_cases he : e = 0
  · subst he
    ((try refine W.a ?_); simp only [go_sem, seval, reduceCtorEq, c88, rzA D])
    refine W.yes rfl ?_
    ((try refine W.a ?_); simp only [go_sem, seval, reduceCtorEq, rzA D])
    (refine W.done (Fin.sameW (srd_ok D hok t i l e' p') (by (first | rfl | exact List.length_set .. | simp)) (by simp only [r88, go_sem, seval, reduceCtorEq]; rfl) ?_ (by (first | exact .c _ | (simp only [go_sem, seval, reduceCtorEq]; done))) (by (first | rfl | exact (List.append_nil _).symm))); simp only [resV]; try exact V.wk.rfl _)
  · have he' : (e == 0) = false := by simpa using he
    ((try refine W.a ?_); simp only [go_sem, seval, reduceCtorEq, c88, rzA D, he'])
    refine W.no rfl ?_
    ((try refine W.a ?_); simp only [go_sem, seval, reduceCtorEq])
    rw [if_neg he, if_neg he]
    (refine W.done (Fin.sameW (hok) (by (first | rfl | exact List.length_set .. | simp)) (by simp only [r88, go_sem, seval, reduceCtorEq]; rfl) ?_ (by (first | exact .c _ | (simp only [go_sem, seval, reduceCtorEq]; done))) (by (first | rfl | exact (List.append_nil _).symm))); simp only [resV]; try exact V.wk.rfl _)
def isHere (k : Int) (s : Str) (x : Tok) : Bool := x.kind == k && x.text == s
theorem sr_is (w0 : World) (t : List Tok) (hT : TEnd t) (i : Nat) (hi : i ≤ 1000000) (l : List OpT) (e p : Int) (k : Int) (s : Str) (σ : H) (b : Nat) (D : b < σ.length) :
    DC Tryz.prog w0 87 [.ptr b 0, I k, S s] (srd σ b t i l e p) (Same (B (isHere k s (tokL t i))) (srd σ b t ((if isHere k s (tokL t i) = true then i + 1 else i : Nat) : Int) l e p)) := by
  refine k87.go rfl (fun hok hsz => ?_)
  have hw : IntKind.i64.wrap ((i : Int) + 1) = ((i + 1 : Nat) : Int) := by rw [wrap_in] <;> omega
  unfold isHere
  ((try refine W.a ?_); simp only [go_sem, seval, reduceCtorEq, c87, rzA D])
  cases h1 : ((tokL t i).kind == k) <;> cases h2 : ((tokL t i).text == s)
  all_goals
    (refine W.c1 (sr_tok w0 t hT i hi l e p _ b D) ?_; simp only [go_sem, seval, reduceCtorEq, rzA D, h1, h2])
    first
      | (refine W.yes rfl ?_
         ((try refine W.a ?_); simp only [go_sem, seval, reduceCtorEq, rzA D, hw])
         (refine W.fs (srd_ok D hok t ((i + 1 : Nat) : Int) l e p) (by simp only [r87, go_sem, seval, reduceCtorEq, rzA D]; rfl) ?_ (hl := by (first | exact .c _ | (simp only [go_sem, seval, reduceCtorEq, rzA D]; done))); simp only [resV, rzA D]; try exact V.wk.rfl _))
      | (refine W.no rfl ?_
         ((try refine W.a ?_); simp only [go_sem, seval, reduceCtorEq, rzA D])
         (refine W.fs (srd_ok D hok t (i : Int) l e p) (by simp only [r87, go_sem, seval, reduceCtorEq, rzA D]; rfl) ?_ (hl := by (first | exact .c _ | (simp only [go_sem, seval, reduceCtorEq, rzA D]; done))); simp only [resV, rzA D]; try exact V.wk.rfl _))
theorem sr_take (w0 : World) (t : List Tok) (hT : TEnd t) (i : Nat) (hi : i ≤ 1000000) (l : List OpT) (e p e' : Int) (ks : List Int) (σ : H) (b : Nat) (D : b < σ.length) :
    DC Tryz.prog w0 90 [.ptr b 0, I e', .c (.sl (ks.map fun k => [C.int .i64 k]))] (srd σ b t i l e p)
      (Same (tokL t i).v (srd σ b t ((i + 1 : Nat) : Int) l (if ks.contains (tokL t i).kind = true then e else if e = 0 then e' else e) (if ks.contains (tokL t i).kind = true then p else if e = 0 then (tokL t i).pos else p))) := by
  refine k90.go rfl (fun hok hsz => ?_)
  have hw : IntKind.i64.wrap ((i : Int) + 1) = ((i + 1 : Nat) : Int) := by rw [wrap_in] <;> omega
  ((try refine W.a ?_); simp only [go_sem, seval, reduceCtorEq, c90, rzA D])
  (refine W.c1 (DC.lift1 D (fun D' => sr_tok w0 t hT i hi l e p _ b D')) ?_; simp only [go_sem, seval, reduceCtorEq, rzA D])
  cases hc : ks.contains (tokL t i).kind
  · (refine W.c1 (kind_contains w0 ks (tokL t i).kind _) ?_; simp only [go_sem, seval, reduceCtorEq, hc, rzA D])
    refine W.yes rfl ?_
    ((try refine W.a ?_); simp only [go_sem, seval, reduceCtorEq, rzA D])
    (refine W.c1 (DC.lift1 D (fun D' => sr_fail w0 t i l e p e' (tokL t i).pos _ b D')) ?_; simp only [go_sem, seval, reduceCtorEq, rzA D, hw])
    try simp only [Bool.false_eq_true, if_false]
    (refine W.fg (srd_ok D hok t ((i + 1 : Nat) : Int) l (if e = 0 then e' else e) (if e = 0 then (tokL t i).pos else p)) (d := (tokL t i).v) (by simp only [r90, go_sem, seval, reduceCtorEq]; rfl) (by simp only [resV, go_sem, seval, reduceCtorEq]; exact wk_here) ?_)
    exact ⟨rfl, rfl⟩
  · (refine W.c1 (kind_contains w0 ks (tokL t i).kind _) ?_; simp only [go_sem, seval, reduceCtorEq, hc, rzA D])
    refine W.no rfl ?_
    ((try refine W.a ?_); simp only [go_sem, seval, reduceCtorEq, rzA D, hw])
    try simp only [if_true]
    (refine W.fg (srd_ok D hok t ((i + 1 : Nat) : Int) l e p) (d := (tokL t i).v) (by simp only [r90, go_sem, seval, reduceCtorEq]; rfl) (by simp only [resV, go_sem, seval, reduceCtorEq]; exact wk_here) ?_)
    exact ⟨rfl, rfl⟩
theorem source_texts (w0 : World) (l : List Tok) (hl : l.length ≤ 1000000) (σ : H) : DC Tryz.prog w0 85 [.c (toksC l)] σ (Same (.c (strsC (l.map (·.text)))) σ) := by
  refine k85.go rfl (fun hok hsz => ?_)
  ((try refine W.a ?_); simp only [go_sem, seval, reduceCtorEq, c85])
  refine W.own 3 9 1 rfl ?_
  refine W.loopP (fun i => i ≤ l.length) (fun i => ⟨(((((base.put (some 0) (.c (toksC l))).put (some 3) (.osl σ.length (((l.take i).map (·.text)).map fun s => [C.str s]))).put (some 6) (.c (toksC l))).put (some 7) (I l.length)).put (some 8) (I (i : Nat))), σ ++ [.spare 9 1 i]⟩) (fun i => l.length - i) 0 (Nat.zero_le _) ?_ (fun i hi => ?_)
  · (refine Lew.env ?_; exact lee_here)
  · by_cases hlt : i < l.length
    · have h1 : ((i : Int) < (l.length : Int)) := by omega
      have hx : l[i]? = some l[i] := List.getElem?_eq_getElem hlt
      have hll : (l.take i).length = i := by simp; omega
      have hmin : min i l.length = i := by omega
      have hb1 : (i + 1) * 16 ≤ 140737488355328 := by omega
      have hb2 : i + 1 ≤ 140737488355328 := by omega
      have hta : l.take (i + 1) = l.take i ++ [l[i]] := by rw [List.take_add_one, hx]; rfl
      have hw : IntKind.i64.wrap ((i : Int) + 1) = ((i + 1 : Nat) : Int) := by rw [wrap_in] <;> omega
      ((try refine W.a ?_); simp only [go_sem, seval, reduceCtorEq, h1])
      refine W.yes rfl ?_
      ((try refine W.a ?_); simp only [go_sem, seval, reduceCtorEq, h1, nat0, hx, hll, hb1, hb2, eq_self, hw])
      refine .inv ⟨i + 1, hlt, by omega, ?_⟩
      simp only [go_sem, seval, reduceCtorEq, hta, List.map_append]
      (refine Lew.cutL (hok) ?_ (by simp) (by simp) ?_ ?_ ?_; exact lee_here; ((try simp only [okB, wkB, go_sem, seval, reduceCtorEq]) <;> omega); (simp only [List.length_cons, List.length_nil, Nat.reduceAdd, List.take_succ_cons, List.take_zero, wkB, and_true]; (repeat' (refine And.intro ?_ ?_)) <;> (first | exact Blk.wk.rfl _ | exact Blk.wk.gone _ | (refine Blk.wk_cells ?_ rfl; (exact wk_here)))); (repeat' (first | exact LowE.base _ | (refine LowE.put ?_ (by first | exact .c _ | ((try simp only [okB, wkB, go_sem, seval, reduceCtorEq]) <;> omega))))))
    · have h1 : ¬ ((i : Int) < (l.length : Int)) := by omega
      have hi' : i = l.length := by omega
      subst hi'
      ((try refine W.a ?_); simp only [go_sem, seval, reduceCtorEq, h1])
      refine W.no rfl ?_
      ((try refine W.a ?_); simp only [go_sem, seval, reduceCtorEq, List.take_length])
      (refine W.fs (hok) (by simp only [r85, go_sem, seval, reduceCtorEq, strsC]; rfl) ?_ (hl := by (first | exact .c _ | (simp only [go_sem, seval, reduceCtorEq, strsC]; done))); simp only [resV, strsC]; try exact V.wk.rfl _)
      (all_goals exact wk_here)
end
section
attribute [local go_sem] sdX rz_len rz_g0 rz_g rz_s0 rz_s rz_sb

def kindsR (s : Bool) : List Int := if s then [1, 4] else [1]
theorem kinds_has (s : Bool) (x : Tok) : (kindsR s).contains x.kind = nameHere s x := by
  unfold kindsR nameHere
  cases s
  · simp only [List.contains_cons, List.contains_nil, Bool.or_false, Bool.false_and, Bool.false_eq_true, if_false]
  · simp only [if_true, List.contains_cons, List.contains_nil, Bool.or_false, Bool.true_and]
structure NameSt where
  acc : List Tok
  i : Nat
  e : Int
  p : Int
def RNames (t : List Tok) (l : List OpT) (σ : H) (b : Nat) (r : Except Bad (List Tok × Nat)) : V → H → Prop := fun d σ' => match r with
  | .ok (ns, j) => d = .c (toksC ns) ∧ σ' = srd σ b t (j : Nat) l 0 0
  | .error x => (x.e == 0) = false ∧ ∃ (ns : List Tok) (j : Nat), ns.length ≤ 1000000 ∧ j ≤ 1000000 ∧ d = .c (toksC ns) ∧ σ' = srd σ b t (j : Nat) l x.e x.pos
theorem sr_names (w0 : World) (t : List Tok) (hT : TEnd t) (s : Bool) (i : Nat) (hi : i ≤ t.length) (l : List OpT) (σ : H) (b : Nat) (D : b < σ.length) :
    DC Tryz.prog w0 86 [.ptr b 0, .c (.sl ((kindsR s).map fun k => [C.int .i64 k]))] (srd σ b t i l 0 0) (RNames t l σ b (namesS t s i [])) := by
  refine k86.go rfl (fun hok hsz => ?_)
  have hle := hT.le
  have hinv0 : ∀ (k : Nat) (acc : List Tok), k ≤ t.length → ((nameHere s (tokL t k) = true ∧ k < t.length ∧ namesS t s k acc = (if commaHere (tokL t (k + 1)) = true then namesS t s (k + 2) (acc ++ [tokL t k]) else .ok (acc ++ [tokL t k], k + 1))) ∨ (nameHere s (tokL t k) = false ∧ namesS t s k acc = .error ⟨100, (tokL t k).pos⟩)) := fun k acc _ => by
    rw [namesS_eq]
    cases hn : nameHere s (tokL t k)
    · right; exact ⟨rfl, by rw [if_neg (by decide)]⟩
    · left
      refine ⟨rfl, tokL_lt fun e => ?_, by rw [if_pos rfl]⟩
      rw [nameHere, e] at hn
      simp at hn
  generalize hr : namesS t s i [] = r
  ((try refine W.a ?_); simp only [go_sem, seval, reduceCtorEq, c86, rzA D])
  (refine W.c1 (sr_take w0 t hT i (by omega) l 0 0 100 (kindsR s) σ b D) ?_; simp only [go_sem, seval, reduceCtorEq, kinds_has, rzA D])
  let I0 : NameSt → Prop := fun x => x.acc ≠ [] ∧ x.acc.length ≤ x.i ∧ x.i ≤ t.length + 3 ∧ ((x.e = 0 ∧ x.p = 0 ∧ x.i ≤ t.length ∧ r = (if commaHere (tokL t x.i) = true then namesS t s (x.i + 1) x.acc else .ok (x.acc, x.i))) ∨ ((x.e == 0) = false ∧ r = .error ⟨x.e, x.p⟩))
  have hx0 : ∃ x0 : NameSt, I0 x0 ∧ x0.acc = [tokL t i] ∧ x0.i = i + 1 ∧ (if nameHere s (tokL t i) = true then (0 : Int) else if (0 : Int) = 0 then 100 else 0) = x0.e ∧ (if nameHere s (tokL t i) = true then (0 : Int) else if (0 : Int) = 0 then (tokL t i).pos else 0) = x0.p := by
    rcases hinv0 i [] hi with ⟨h1, h2, h3⟩ | ⟨h1, h2⟩
    · refine ⟨⟨[tokL t i], i + 1, 0, 0⟩, ⟨by simp, by simp, by show i + 1 ≤ t.length + 3; omega, .inl ⟨rfl, rfl, by show i + 1 ≤ t.length; omega, by rw [← hr, h3]; rfl⟩⟩, rfl, rfl, by rw [if_pos h1], by rw [if_pos h1]⟩
    · refine ⟨⟨[tokL t i], i + 1, 100, (tokL t i).pos⟩, ⟨by simp, by simp, by show i + 1 ≤ t.length + 3; omega, .inr ⟨rfl, by rw [← hr, h2]⟩⟩, rfl, rfl, by rw [h1]; rfl, by rw [h1]; rfl⟩
  obtain ⟨x0, hx, ha, hxi, he0, hp0⟩ := hx0
  simp only [if_true] at he0 hp0
  rw [he0, hp0]
  have hcs : [tokL t i].map Tok.cs = x0.acc.map Tok.cs := by rw [ha]
  have hxi' : ((i + 1 : Nat) : Int) = (x0.i : Int) := by rw [hxi]
  rw [hxi']
  refine W.loopP (α := NameSt × Bool) (fun x => I0 x.1) (fun x => ⟨(((base.put (some 0) (.ptr b 0)).put (some 1) (.c (.sl ((kindsR s).map fun k => [C.int .i64 k])))).put (some 5) ((if x.2 then .csl (x.1.acc.map Tok.cs) else .osl σ.length (x.1.acc.map Tok.cs)))), srd σ b t (x.1.i : Nat) l x.1.e x.1.p ++ (if x.2 then [] else [.spare 69 4 x.1.acc.length])⟩) (fun x => t.length + 4 - x.1.i) (x0, true) hx ?_ (fun x hx => ?_)
  · simp only [if_true, ← hcs, List.append_nil]
    simp only [go_sem, seval, reduceCtorEq]
    (refine Lew.env ?_; exact lee_here)
  · obtain ⟨⟨acc, j, e, p⟩, fl⟩ := x
    obtain ⟨hne, hal, hj, hst⟩ := hx
    simp only at hne hal hj hst
    have hb1 : (acc.length + 1) * 40 ≤ 140737488355328 := by omega
    have hb2 : acc.length + 1 ≤ 140737488355328 := by omega
    have hb3 : ∀ r ∈ acc.map Tok.cs, r.length = 4 := fun r hr => by obtain ⟨o, _, rfl⟩ := List.mem_map.1 hr; rfl
    have hcn : isHere 4 [44] (tokL t j) = commaHere (tokL t j) := rfl
    rcases hst with ⟨rfl, rfl, hjl, hr'⟩ | ⟨he, hr'⟩
    · cases hc : commaHere (tokL t j)
      · rw [hc, if_neg (by decide)] at hr'
        subst hr'
        cases fl
        all_goals
          ((try refine W.a ?_); simp only [go_sem, seval, reduceCtorEq, rzA D, if_true, if_false, Bool.false_eq_true])
          first
            | ((refine W.c1 (DC.lift1 D (fun D' => sr_is w0 t hT j (by omega) l 0 0 4 [44] _ b D')) ?_; simp only [go_sem, seval, reduceCtorEq, rzA D, hcn, hc]))
            | ((refine W.c1 (sr_is w0 t hT j (by omega) l 0 0 4 [44] σ b D) ?_; simp only [go_sem, seval, reduceCtorEq, rzA D, hcn, hc]))
          refine W.no rfl ?_
          ((try refine W.a ?_); simp only [go_sem, seval, reduceCtorEq, rzA D])
          (refine W.fg (srd_ok D hok t (j : Nat) l 0 0) (d := .c (toksC acc)) (by simp only [r86, go_sem, seval, reduceCtorEq]; rfl) (by simp only [resV, go_sem, seval, reduceCtorEq]; exact wk_here) ?_)
          exact ⟨rfl, rfl⟩
      · rw [hc, if_pos rfl] at hr'
        have hjt : j < t.length := tokL_lt fun e => by rw [commaHere, e] at hc; simp at hc
        have hI : I0 ⟨acc ++ [tokL t (j + 1)], j + 2, (if nameHere s (tokL t (j + 1)) = true then (0 : Int) else 100), (if nameHere s (tokL t (j + 1)) = true then (0 : Int) else (tokL t (j + 1)).pos)⟩ := by
          refine ⟨by simp, by simp; omega, by show j + 2 ≤ t.length + 3; omega, ?_⟩
          rcases hinv0 (j + 1) acc (by omega) with ⟨h1, h2, h3⟩ | ⟨h1, h2⟩
          · left
            simp only [h1, if_true]
            exact ⟨trivial, trivial, by omega, by rw [hr', h3]⟩
          · right
            simp only [h1, Bool.false_eq_true, if_false]
            exact ⟨rfl, by rw [hr', h2]⟩
        cases fl
        · ((try refine W.a ?_); simp only [go_sem, seval, reduceCtorEq, rzA D, if_true, if_false, Bool.false_eq_true])
          (refine W.c1 (DC.lift1 D (fun D' => sr_is w0 t hT j (by omega) l 0 0 4 [44] _ b D')) ?_; simp only [go_sem, seval, reduceCtorEq, rzA D, hcn, hc])
          refine W.yes rfl ?_
          ((try refine W.a ?_); simp only [go_sem, seval, reduceCtorEq, rzA D])
          (refine W.c1 (DC.lift1 D (fun D' => sr_take w0 t hT (j + 1) (by omega) l 0 0 100 (kindsR s) _ b D')) ?_; simp only [go_sem, seval, reduceCtorEq, kinds_has, rzA D, hb1, hb2, if_true])
          refine .inv ⟨(⟨acc ++ [tokL t (j + 1)], j + 2, _, _⟩, false), hI, by simp; omega, ?_⟩
          simp only [go_sem, seval, reduceCtorEq, List.map_append, List.length_append, if_true, if_false, Bool.false_eq_true]
          (refine Lew.env ?_; exact lee_here)
        · ((try refine W.a ?_); simp only [go_sem, seval, reduceCtorEq, rzA D, if_true, if_false, Bool.false_eq_true])
          (refine W.c1 (sr_is w0 t hT j (by omega) l 0 0 4 [44] σ b D) ?_; simp only [go_sem, seval, reduceCtorEq, rzA D, hcn, hc])
          refine W.yes rfl ?_
          ((try refine W.a ?_); simp only [go_sem, seval, reduceCtorEq, rzA D])
          (refine W.c1 (sr_take w0 t hT (j + 1) (by omega) l 0 0 100 (kindsR s) σ b D) ?_; simp only [go_sem, seval, reduceCtorEq, kinds_has, rzA D, hb1, hb2, if_true, eq_true hb3, ne_eq, List.cons_ne_nil, not_false_eq_true, or_true])
          --STOP
          refine .inv ⟨(⟨acc ++ [tokL t (j + 1)], j + 2, _, _⟩, false), hI, by simp; omega, ?_⟩
          simp only [go_sem, seval, reduceCtorEq, List.map_append, List.length_append, if_true, if_false, Bool.false_eq_true]
          (refine Lew.env ?_; exact lee_here)
    · subst hr'
      cases fl
      all_goals
        ((try refine W.a ?_); simp only [go_sem, seval, reduceCtorEq, rzA D, if_true, if_false, Bool.false_eq_true, he])
        refine W.no rfl ?_
        ((try refine W.a ?_); simp only [go_sem, seval, reduceCtorEq, rzA D])
        (refine W.fg (srd_ok D hok t (j : Nat) l e p) (d := .c (toksC acc)) (by simp only [r86, go_sem, seval, reduceCtorEq]; rfl) (by simp only [resV, go_sem, seval, reduceCtorEq]; exact wk_here) ?_)
        exact ⟨he, acc, j, by omega, by omega, rfl, rfl⟩
end
section

theorem read_operator (w0 : World) (l : List OpT) (t : List Tok) (i : Nat) (x : Tok) (σ : H) (b : Nat) (hb : σ[b]? = some (rdr l t i)) :
    DC Tryz.prog w0 141 [.ptr b 0, x.v] σ (Same (foundV (opOf l x)) σ) := by
  have hlt := (List.getElem?_eq_some_iff.1 hb).1
  have hg := fun L => hgetb (σ := σ) L hlt
  refine k141.go rfl (fun hok hsz => ?_)
  rw [rdr] at hb
  ((try refine W.a ?_); simp only [go_sem, seval, reduceCtorEq, c141, hg, hb])
  apply W.dregE (List.cons_ne_nil _ _)
  case hc =>
    (apply CanonE.advPO; simp only [go_sem, seval, reduceCtorEq, hg, hb])
    (apply CanonE.call (ops_Is w0 l x _); (case hg => rfl); (case hf => rfl); (case ha => first | rfl | simp))
    (apply CanonE.advPO; simp only [go_sem, seval, reduceCtorEq, foundV])
    exact CanonE.nil
  ((try refine W.a ?_); simp only [go_sem, seval, reduceCtorEq])
  (refine W.ret (Fin.same hok (by simp only [resEval, r141, go_sem, seval, reduceCtorEq]; rfl) ?_ (by first | exact .c _ | (simp only [go_sem, seval, reduceCtorEq, foundV, OpT.v]; done)) (by first | exact ⟨[], (List.append_nil _).symm⟩ | exact ⟨_, rfl⟩)); simp only [resV, foundV, OpT.v])
  rfl
theorem read_begins (w0 : World) (l : List OpT) (t : List Tok) (i : Nat) (σ : H) (b : Nat) (hb : σ[b]? = some (rdr l t i)) (hi : i ≤ 2000000) (ht : t.length ≤ 1000000) :
    DC Tryz.prog w0 165 [.ptr b 0] σ (Same (B (beginsL l (tokL t i))) σ) := by
  have hlt := (List.getElem?_eq_some_iff.1 hb).1
  have hg := fun L => hgetb (σ := σ) L hlt
  refine k165.go rfl (fun hok hsz => ?_)
  ((try refine W.a ?_); simp only [go_sem, seval, reduceCtorEq, c165])
  (refine W.c1 (read_tok w0 l t i 0 _ b hb (by omega) ht) ?_; simp only [go_sem, seval, reduceCtorEq])
  generalize tokL t i = x
  cases h1 : (x.kind == 1)
  · ((try refine W.a ?_); simp only [go_sem, seval, reduceCtorEq, h1])
    refine W.no rfl ?_
    cases h4 : (x.kind == 4)
    · have hk : ¬ (x.kind = 1 ∨ x.kind = 4) := by
        simp only [beq_eq_false_iff_ne] at h1 h4
        rintro (h | h)
        · exact h1 h
        · exact h4 h
      ((try refine W.a ?_); simp only [go_sem, seval, reduceCtorEq, h4])
      refine W.no rfl ?_
      cases h2 : (x.kind == 2)
      · ((try refine W.a ?_); simp only [go_sem, seval, reduceCtorEq, h2])
        refine W.no rfl ?_
        cases h3 : (x.kind == 3)
        · ((try refine W.a ?_); simp only [go_sem, seval, reduceCtorEq, h3])
          refine W.no rfl ?_
          cases h5 : (x.kind == 5)
          · ((try refine W.a ?_); simp only [go_sem, seval, reduceCtorEq, h5])
            refine W.no rfl ?_
            ((try refine W.a ?_); simp only [go_sem, seval, reduceCtorEq])
            (refine W.ret (Fin.same hok (by simp only [resEval, r165, go_sem, seval, reduceCtorEq]; rfl) ?_ (by first | exact .c _ | (simp only [go_sem, seval, reduceCtorEq]; done)) (by first | exact ⟨[], (List.append_nil _).symm⟩ | exact ⟨_, rfl⟩)); simp only [resV])
            rw [beginsL, if_neg hk]; simp_all
          · ((try refine W.a ?_); simp only [go_sem, seval, reduceCtorEq, h5])
            refine W.yes rfl ?_
            ((try refine W.a ?_); simp only [go_sem, seval, reduceCtorEq])
            (refine W.ret (Fin.same hok (by simp only [resEval, r165, go_sem, seval, reduceCtorEq]; rfl) ?_ (by first | exact .c _ | (simp only [go_sem, seval, reduceCtorEq]; done)) (by first | exact ⟨[], (List.append_nil _).symm⟩ | exact ⟨_, rfl⟩)); simp only [resV])
            rw [beginsL, if_neg hk]; simp_all
        · ((try refine W.a ?_); simp only [go_sem, seval, reduceCtorEq, h3])
          refine W.yes rfl ?_
          ((try refine W.a ?_); simp only [go_sem, seval, reduceCtorEq])
          refine W.yes rfl ?_
          ((try refine W.a ?_); simp only [go_sem, seval, reduceCtorEq])
          (refine W.ret (Fin.same hok (by simp only [resEval, r165, go_sem, seval, reduceCtorEq]; rfl) ?_ (by first | exact .c _ | (simp only [go_sem, seval, reduceCtorEq]; done)) (by first | exact ⟨[], (List.append_nil _).symm⟩ | exact ⟨_, rfl⟩)); simp only [resV])
          rw [beginsL, if_neg hk]; simp_all
      · ((try refine W.a ?_); simp only [go_sem, seval, reduceCtorEq, h2])
        refine W.yes rfl ?_
        ((try refine W.a ?_); simp only [go_sem, seval, reduceCtorEq])
        refine W.yes rfl ?_
        ((try refine W.a ?_); simp only [go_sem, seval, reduceCtorEq])
        (refine W.ret (Fin.same hok (by simp only [resEval, r165, go_sem, seval, reduceCtorEq]; rfl) ?_ (by first | exact .c _ | (simp only [go_sem, seval, reduceCtorEq]; done)) (by first | exact ⟨[], (List.append_nil _).symm⟩ | exact ⟨_, rfl⟩)); simp only [resV])
        rw [beginsL, if_neg hk]; simp_all
    · have hk : x.kind = 1 ∨ x.kind = 4 := .inr (by simpa using h4)
      ((try refine W.a ?_); simp only [go_sem, seval, reduceCtorEq, h4])
      refine W.yes rfl ?_
      ((try refine W.a ?_); simp only [go_sem, seval, reduceCtorEq])
      (refine W.c1 (read_operator w0 l t i x _ b ((hg _).trans hb)) ?_; simp only [go_sem, seval, reduceCtorEq, foundV])
      (refine W.ret (Fin.same hok (by simp only [resEval, r165, go_sem, seval, reduceCtorEq]; rfl) ?_ (by first | exact .c _ | (simp only [go_sem, seval, reduceCtorEq]; done)) (by first | exact ⟨[], (List.append_nil _).symm⟩ | exact ⟨_, rfl⟩)); simp only [resV])
      rw [beginsL, if_pos hk]; cases opOf l x <;> rfl
  · have hk : x.kind = 1 ∨ x.kind = 4 := .inl (by simpa using h1)
    ((try refine W.a ?_); simp only [go_sem, seval, reduceCtorEq, h1])
    refine W.yes rfl ?_
    ((try refine W.a ?_); simp only [go_sem, seval, reduceCtorEq])
    refine W.yes rfl ?_
    ((try refine W.a ?_); simp only [go_sem, seval, reduceCtorEq])
    (refine W.c1 (read_operator w0 l t i x _ b ((hg _).trans hb)) ?_; simp only [go_sem, seval, reduceCtorEq, foundV])
    (refine W.ret (Fin.same hok (by simp only [resEval, r165, go_sem, seval, reduceCtorEq]; rfl) ?_ (by first | exact .c _ | (simp only [go_sem, seval, reduceCtorEq]; done)) (by first | exact ⟨[], (List.append_nil _).symm⟩ | exact ⟨_, rfl⟩)); simp only [resV])
    rw [beginsL, if_pos hk]; cases opOf l x <;> rfl
theorem read_lambda (w0 : World) (l : List OpT) (t : List Tok) (i : Nat) (σ : H) (b : Nat) (hb : σ[b]? = some (rdr l t i)) (hi : i ≤ 2000000) (ht : t.length ≤ 1000000) :
    DC Tryz.prog w0 163 [.ptr b 0] σ (Same (B (lamAt t i)) σ) := by
  refine k163.go rfl (fun hok hsz => ?_)
  ((try refine W.a ?_); simp only [go_sem, seval, reduceCtorEq, c163])
  cases h1 : ((tokL t i).kind == 1) <;> cases h2 : ((tokL t i).kind == 2)
  · (refine W.c1 (read_tok w0 l t i 0 _ b hb (by omega) ht) ?_; simp only [go_sem, seval, reduceCtorEq, h1, h2])
    (refine W.ret (Fin.same hok (by simp only [resEval, r163, go_sem, seval, reduceCtorEq]; rfl) ?_ (by first | exact .c _ | (simp only [go_sem, seval, reduceCtorEq]; done)) (by first | exact ⟨[], (List.append_nil _).symm⟩ | exact ⟨_, rfl⟩)); simp only [resV])
    first | (simp_all [lamAt]; done) | (simp_all [lamAt]; rfl)
  all_goals
    (refine W.c1 (read_tok w0 l t i 0 _ b hb (by omega) ht) ?_; simp only [go_sem, seval, reduceCtorEq, h1, h2])
    (refine W.c1 (read_tok w0 l t i 1 _ b hb (by omega) ht) ?_; simp only [go_sem, seval, reduceCtorEq, h1, h2])
    (refine W.ret (Fin.same hok (by simp only [resEval, r163, go_sem, seval, reduceCtorEq]; rfl) ?_ (by first | exact .c _ | (simp only [go_sem, seval, reduceCtorEq]; done)) (by first | exact ⟨[], (List.append_nil _).symm⟩ | exact ⟨_, rfl⟩)); simp only [resV])
    first | (simp_all [lamAt]; done) | (simp_all [lamAt]; rfl)
theorem wrong_ok (w0 : World) (e p : Int) (σ : H) : DC Tryz.prog w0 113 [.agg [I e, I p]] σ (Same (B (e == 0)) σ) := by
  refine k113.go rfl (fun hok hsz => ?_)
  ((try refine W.a ?_); simp only [go_sem, seval, reduceCtorEq, c113])
  (refine W.ret (Fin.same hok (by simp only [resEval, r113, go_sem, seval, reduceCtorEq]; rfl) ?_ (by first | exact .c _ | (simp only [go_sem, seval, reduceCtorEq]; done)) (by first | exact ⟨[], (List.append_nil _).symm⟩ | exact ⟨_, rfl⟩)); simp only [resV])
end
section

/-- A tree's cells, its row without room. -/
def preN (p : Pre) : List V := [I p.k, S p.name, I p.n, .csl (p.l.map Pre.cs), I p.pos]
def applyAt (o : OpT) (pos : Int) (a b : Pre) : Nat → Pre
  | 0 => .mk 0 o.name 0 [] pos
  | 1 => Pre.app (.mk 0 o.name 0 [] pos) a pos
  | _ => applyL o pos a b
theorem applyAt_0 (o : OpT) (pos : Int) (a b : Pre) : applyAt o pos a b 0 = .mk 0 o.name 0 [] pos := rfl
theorem applyAt_1 (o : OpT) (pos : Int) (a b : Pre) : applyAt o pos a b 1 = Pre.app (.mk 0 o.name 0 [] pos) a pos := rfl
theorem applyAt_2 (o : OpT) (pos : Int) (a b : Pre) : applyAt o pos a b 2 = applyL o pos a b := rfl
theorem read_apply (w0 : World) (o : OpT) (pos : Int) (a b : Pre) (σ : H) : DC Tryz.prog w0 145 [o.v, I pos, a.v, b.v] σ (Same (applyL o pos a b).v σ) := by
  refine k145.go rfl (fun hok hsz => ?_)
  ((try refine W.a ?_); simp only [go_sem, seval, reduceCtorEq, c145])
  refine W.loopP (fun i => i ≤ 2)
    (fun i => ⟨((((((base.put (some 1) (I pos)).put (some 8) (.ptr (σ.length + 3) 0)).put (some 9) (.ptr (σ.length + 4) 0)).put (some 18) (.csl [a.cs, b.cs])).put (some 19) (I 2)).put (some 20) (I (i : Nat))), σ ++ [.cells o.v.cellsV, .cells a.v.cellsV, .cells b.v.cellsV, .cells [I 0, S [], I 0, .csl [], I 0], .cells (preN (applyAt o pos a b i))]⟩) (fun i => 2 - i) 0 (by omega) ?_ (fun i hi => ?_)
  · simp only [go_sem, seval, reduceCtorEq, preN, applyAt_0]
    (refine Lew.env ?_; exact lee_here)
  · have h3 : i = 0 ∨ i = 1 ∨ i = 2 := by omega
    rcases h3 with rfl | rfl | rfl
    · ((try refine W.a ?_); simp only [go_sem, seval, reduceCtorEq, preN, applyAt_0])
      refine W.yes (by rfl) ?_
      ((try refine W.a ?_); simp only [go_sem, seval, reduceCtorEq, show IntKind.i64.wrap 1 = 1 from rfl])
      refine .inv ⟨1, by omega, by omega, ?_⟩
      simp only [go_sem, seval, reduceCtorEq, preN, applyAt_1]
      (refine Lew.cutL (hok) ?_ (by simp) (by simp) ?_ ?_ ?_; exact lee_here; ((try simp only [okB, wkB, go_sem, seval, reduceCtorEq]) <;> omega); (simp only [List.length_cons, List.length_nil, Nat.reduceAdd, List.take_succ_cons, List.take_zero, wkB, and_true]; (repeat' (refine And.intro ?_ ?_)) <;> (first | exact Blk.wk.rfl _ | exact Blk.wk.gone _ | (refine Blk.wk_cells ?_ rfl; (exact wk_here)))); (repeat' (first | exact LowE.base _ | (refine LowE.put ?_ (by first | exact .c _ | ((try simp only [okB, wkB, go_sem, seval, reduceCtorEq]) <;> omega))))))
    · ((try refine W.a ?_); simp only [go_sem, seval, reduceCtorEq, preN, applyAt_1])
      refine W.yes (by rfl) ?_
      ((try refine W.a ?_); simp only [go_sem, seval, reduceCtorEq, show IntKind.i64.wrap 2 = 2 from rfl])
      refine .inv ⟨2, by omega, by omega, ?_⟩
      simp only [go_sem, seval, reduceCtorEq, preN, applyAt_2]
      (refine Lew.cutL (hok) ?_ (by simp) (by simp) ?_ ?_ ?_; exact lee_here; ((try simp only [okB, wkB, go_sem, seval, reduceCtorEq]) <;> omega); (simp only [List.length_cons, List.length_nil, Nat.reduceAdd, List.take_succ_cons, List.take_zero, wkB, and_true]; (repeat' (refine And.intro ?_ ?_)) <;> (first | exact Blk.wk.rfl _ | exact Blk.wk.gone _ | (refine Blk.wk_cells ?_ rfl; (exact wk_here)))); (repeat' (first | exact LowE.base _ | (refine LowE.put ?_ (by first | exact .c _ | ((try simp only [okB, wkB, go_sem, seval, reduceCtorEq]) <;> omega))))))
    · ((try refine W.a ?_); simp only [go_sem, seval, reduceCtorEq, preN, applyAt_2])
      refine W.no (by rfl) ?_
      ((try refine W.a ?_); simp only [go_sem, seval, reduceCtorEq])
      (refine W.fs (hok) (by simp only [r145, go_sem, seval, reduceCtorEq]; rfl) ?_; simp only [resV]; try exact V.wk.rfl _)
      (all_goals exact wk_here)
end
section

def wrongV (e p : Int) : V := .agg [I e, I p]
def byC (m : Made) : C := match m.by_ with
  | none => .nilp
  | some (o, _) => .ref o.cs 0
def madeV (m : Made) (k : Tok) : V := .agg [I m.p.k, S m.p.name, I m.p.n, .c (.sl (m.p.l.map Pre.cs)), I m.p.pos, .c (byC m), I k.kind, S k.text, I k.n, I k.pos]
def fitsK (m : Made) (k : Tok) : Prop := ∀ o p, m.by_ = some (o, p) → k.pos = p
def RAtom (l : List OpT) (t : List Tok) (σ : H) (b : Nat) (r : Except Bad (Pre × Nat)) : V → H → Prop := fun d σ' => match r with
  | .ok (p, j) => d = .tup [p.v, wrongV 0 0] ∧ σ' = σ.set b (rdr l t j)
  | .error x => (x.e == 0) = false ∧ ∃ (q : Pre) (j : Nat), d = .tup [q.v, wrongV x.e x.pos] ∧ σ' = σ.set b (rdr l t j)
def RExpr (l : List OpT) (t : List Tok) (σ : H) (b : Nat) (r : Except Bad (Made × Nat)) : V → H → Prop := fun d σ' => match r with
  | .ok (m, j) => ∃ k, fitsK m k ∧ d = .tup [madeV m k, wrongV 0 0] ∧ σ' = σ.set b (rdr l t j)
  | .error x => (x.e == 0) = false ∧ ∃ m k j, d = .tup [madeV m k, wrongV x.e x.pos] ∧ σ' = σ.set b (rdr l t j)
def ExprOK (w0 : World) (f : Nat) : Prop := ∀ (l : List OpT) (t : List Tok) (least : Int) (depth i : Nat) (r : Except Bad (Made × Nat)) (σ : H) (b : Nat), exprF f l t least depth i = some r → σ[b]? = some (rdr l t i) → i ≤ t.length → t.length ≤ 1000000 → depth ≤ 200 →
  DC Tryz.prog w0 112 [.ptr b 0, I least, I depth] σ (RExpr l t σ b r)
def AtomOK (w0 : World) (f : Nat) : Prop := ∀ (l : List OpT) (t : List Tok) (depth i : Nat) (r : Except Bad (Pre × Nat)) (σ : H) (b : Nat), atomF f l t depth i = some r → σ[b]? = some (rdr l t i) → i ≤ t.length → t.length ≤ 1000000 → depth ≤ 200 →
  DC Tryz.prog w0 164 [.ptr b 0, I depth] σ (RAtom l t σ b r)
theorem rdr_ok {σ : H} (h : H.ok σ) (b : Nat) (l : List OpT) (t : List Tok) (j : Nat) : H.ok (σ.set b (rdr l t j)) := H.ok_set h fun x hx => by
  simp only [List.mem_cons, List.not_mem_nil, or_false] at hx
  rcases hx with rfl | rfl | rfl <;> exact .c _
def innerF (f : Nat) (l : List OpT) (t : List Tok) (least : Int) (depth i : Nat) (pos : Int) : Option (Except Bad (Made × Nat)) := if 200 ≤ depth then some (.error ⟨31, pos⟩) else exprF f l t least (depth + 1) i
def Tok.zero : Tok := ⟨0, [], 0, 0⟩
theorem read_inner {w0 : World} {f : Nat} (hE : ExprOK w0 f) (l : List OpT) (t : List Tok) (least : Int) (depth i : Nat) (k : Tok) (r : Except Bad (Made × Nat)) (σ : H) (b : Nat) (h : innerF f l t least depth i k.pos = some r) (hb : σ[b]? = some (rdr l t i)) (hi : i ≤ t.length) (ht : t.length ≤ 1000000) (hd : depth ≤ 200) :
    DC Tryz.prog w0 143 [.ptr b 0, I least, I depth, k.v] σ (RExpr l t σ b r) := by
  have hlt := (List.getElem?_eq_some_iff.1 hb).1
  refine k143.go rfl (fun hok hsz => ?_)
  rw [innerF] at h
  split at h
  · rename_i hc
    injection h with h
    subst h
    have h1 : (depth : Int) ≥ 200 := by omega
    ((try refine W.a ?_); simp only [go_sem, seval, reduceCtorEq, c143, h1])
    refine W.yes rfl ?_
    ((try refine W.a ?_); simp only [go_sem, seval, reduceCtorEq])
    (apply W.dregE (List.cons_ne_nil _ _); case hc => ((apply CanonE.advPO; simp only [go_sem, seval, reduceCtorEq]); exact CanonE.nil))
    ((try refine W.a ?_); simp only [go_sem, seval, reduceCtorEq])
    (refine W.fg (hok) (d := .tup [madeV ⟨Pre.none, none⟩ Tok.zero, wrongV 31 k.pos]) (by simp only [r143, go_sem, seval, reduceCtorEq, madeV, wrongV, byC, Pre.none, Tok.zero, List.map_nil]; rfl) (by simp only [resV, go_sem, seval, reduceCtorEq, madeV, wrongV, byC, Pre.none, Tok.zero, List.map_nil]; exact wk_here) ?_ (hl := by (first | exact .c _ | (simp only [go_sem, seval, reduceCtorEq, madeV, wrongV, byC, Pre.none, Tok.zero, List.map_nil]; done))))
    exact ⟨rfl, ⟨Pre.none, none⟩, Tok.zero, i, rfl, (set_here hb).symm⟩
  · rename_i hc
    have h1 : ¬ (depth : Int) ≥ 200 := by omega
    have hw : IntKind.i64.wrap ((depth : Int) + 1) = ((depth + 1 : Nat) : Int) := wrap_next (n := 201) (by omega) (by omega)
    ((try refine W.a ?_); simp only [go_sem, seval, reduceCtorEq, c143, h1])
    refine W.no rfl ?_
    ((try refine W.a ?_); simp only [go_sem, seval, reduceCtorEq, hw])
    (refine W.call (hE l t least (depth + 1) i r _ b h (hG hb _) hi ht (by omega)) rfl rfl (by first | rfl | simp) ?_)
    intro v σ1 hR
    cases r with
    | ok x =>
      obtain ⟨k', hk, rfl, rfl⟩ := hR
      ((try refine W.a ?_); simp only [go_sem, seval, reduceCtorEq, hS hb, madeV, wrongV])
      (refine W.fg (rdr_ok hok b l t x.2) (d := .tup [madeV x.1 k', wrongV 0 0]) (by simp only [r143, go_sem, seval, reduceCtorEq, madeV, wrongV]; rfl) (by simp only [resV, go_sem, seval, reduceCtorEq, madeV, wrongV]; exact wk_here) ?_ (hl := by (first | exact .c _ | (simp only [go_sem, seval, reduceCtorEq, madeV, wrongV]; done))))
      exact ⟨k', hk, rfl, rfl⟩
    | error x =>
      obtain ⟨he, m, k', j, rfl, rfl⟩ := hR
      ((try refine W.a ?_); simp only [go_sem, seval, reduceCtorEq, hS hb, madeV, wrongV])
      (refine W.fg (rdr_ok hok b l t j) (d := .tup [madeV m k', wrongV x.e x.pos]) (by simp only [r143, go_sem, seval, reduceCtorEq, madeV, wrongV]; rfl) (by simp only [resV, go_sem, seval, reduceCtorEq, madeV, wrongV]; exact wk_here) ?_ (hl := by (first | exact .c _ | (simp only [go_sem, seval, reduceCtorEq, madeV, wrongV]; done))))
      exact ⟨he, m, k', j, rfl, rfl⟩
end
section

def bracketsF (f : Nat) (l : List OpT) (t : List Tok) (depth i : Nat) : Option (Except Bad (Pre × Nat)) :=
  if (opOf l (tokL t (i + 1))).isSome ∧ (tokL t (i + 2)).kind = 6 then some (.ok (.mk 0 (tokL t (i + 1)).text 0 [] (tokL t (i + 1)).pos, i + 3))
  else match innerF f l t 0 depth (i + 1) (tokL t i).pos with
    | none => none
    | some (.error b) => some (.error b)
    | some (.ok (m, j)) => if (tokL t j).kind = 6 then some (.ok (m.p, j + 1)) else some (.error ⟨30, (tokL t j).pos⟩)
theorem innerF_bound {f : Nat} {l : List OpT} {t : List Tok} {least : Int} {depth i : Nat} {pos : Int} {m : Made} {j : Nat} (h : innerF f l t least depth i pos = some (.ok (m, j))) : i < j ∧ j ≤ t.length := by
  rw [innerF] at h
  split at h
  · cases h
  · exact (fuel_bounds f).2.2.1 _ _ _ _ _ _ _ h
theorem read_brackets {w0 : World} {f : Nat} (hE : ExprOK w0 f) (l : List OpT) (t : List Tok) (depth i : Nat) (r : Except Bad (Pre × Nat)) (σ : H) (b : Nat) (h : bracketsF f l t depth i = some r) (hb : σ[b]? = some (rdr l t i)) (hi : i < t.length) (ht : t.length ≤ 1000000) (hd : depth ≤ 200) :
    DC Tryz.prog w0 175 [.ptr b 0, I depth] σ (RAtom l t σ b r) := by
  have hlt := (List.getElem?_eq_some_iff.1 hb).1
  refine k175.go rfl (fun hok hsz => ?_)
  have hbe : σ[b]? = some (.cells [.c (opsC l), .c (toksC t), I i]) := hb
  ((try refine W.a ?_); simp only [go_sem, seval, reduceCtorEq, c175])
  (refine W.c1 (read_tok w0 l t i 0 _ b (hG hb _) (by omega) ht) ?_; simp only [go_sem, seval, reduceCtorEq])
  (refine W.c1 (read_tok w0 l t i 1 _ b (hG hb _) (by omega) ht) ?_; simp only [go_sem, seval, reduceCtorEq])
  rw [bracketsF] at h
  by_cases hc : (opOf l (tokL t (i + 1))).isSome ∧ (tokL t (i + 2)).kind = 6
  · rw [if_pos hc] at h
    injection h with h
    subst h
    obtain ⟨hc1, hc2⟩ := hc
    have hw : IntKind.i64.wrap ((i : Int) + 3) = ((i + 3 : Nat) : Int) := by rw [wrap_in] <;> omega
    (refine W.c1 (read_operator w0 l t i (tokL t (i + 1)) _ b (hG hb _)) ?_; simp only [go_sem, seval, reduceCtorEq, foundV, hc1])
    (refine W.c1 (read_tok w0 l t i 2 _ b (hG hb _) (by omega) ht) ?_; simp only [go_sem, seval, reduceCtorEq, hc2])
    refine W.yes rfl ?_
    ((try refine W.a ?_); simp only [go_sem, seval, reduceCtorEq, hG hbe, hS hb, hw])
    (refine W.fg (rdr_ok hok b l t (i + 3)) (d := .tup [(Pre.mk 0 (tokL t (i + 1)).text 0 [] (tokL t (i + 1)).pos).v, wrongV 0 0]) (by simp only [r175, go_sem, seval, reduceCtorEq, wrongV]; rfl) (by simp only [resV, go_sem, seval, reduceCtorEq, wrongV]; exact wk_here) ?_ (hl := by (first | exact .c _ | (simp only [go_sem, seval, reduceCtorEq, wrongV]; done))))
    exact ⟨rfl, rfl⟩
  · rw [if_neg hc] at h
    have hw : IntKind.i64.wrap ((i : Int) + 1) = ((i + 1 : Nat) : Int) := by rw [wrap_in] <;> omega
    have two : (opOf l (tokL t (i + 1))).isSome = false ∨ ((opOf l (tokL t (i + 1))).isSome = true ∧ ((tokL t (i + 2)).kind == 6) = false) := by
      cases ho : (opOf l (tokL t (i + 1))).isSome
      · exact .inl rfl
      · refine .inr ⟨rfl, ?_⟩
        cases h6 : ((tokL t (i + 2)).kind == 6)
        · rfl
        · exact absurd ⟨ho, by simpa using h6⟩ hc
    rcases two with ho | ⟨ho, h6⟩
    all_goals first
      | ((refine W.c1 (read_operator w0 l t i (tokL t (i + 1)) _ b (hG hb _)) ?_; simp only [go_sem, seval, reduceCtorEq, foundV, ho])
         (refine W.c1 (read_tok w0 l t i 2 _ b (hG hb _) (by omega) ht) ?_; simp only [go_sem, seval, reduceCtorEq, h6])
         refine W.no rfl ?_)
      | ((refine W.c1 (read_operator w0 l t i (tokL t (i + 1)) _ b (hG hb _)) ?_; simp only [go_sem, seval, reduceCtorEq, foundV, ho])
         refine W.no rfl ?_)
    all_goals
      ((try refine W.a ?_); simp only [go_sem, seval, reduceCtorEq, hG hbe, hS hb, hw])
      cases hr : innerF f l t 0 depth (i + 1) (tokL t i).pos with
      | none => rw [hr] at h; cases h
      | some y =>
        rw [hr] at h
        (refine W.call (read_inner hE l t 0 depth (i + 1) (tokL t i) y _ b hr (hG' hb _ _) (by omega) ht hd) rfl rfl (by first | rfl | simp) ?_)
        intro v σ1 hR
        cases y with
        | error x =>
          injection h with h
          subst h
          obtain ⟨he, m, k', j, rfl, rfl⟩ := hR
          ((try refine W.a ?_); simp only [go_sem, seval, reduceCtorEq, hS' hb, madeV, wrongV])
          (refine W.c1 (wrong_ok w0 x.e x.pos _) ?_; simp only [go_sem, seval, reduceCtorEq, he])
          refine W.yes rfl ?_
          ((try refine W.a ?_); simp only [go_sem, seval, reduceCtorEq])
          (apply W.dregE (List.cons_ne_nil _ _); case hc => ((apply CanonE.advPO; simp only [go_sem, seval, reduceCtorEq]); exact CanonE.nil))
          ((try refine W.a ?_); simp only [go_sem, seval, reduceCtorEq])
          (refine W.fg (rdr_ok hok b l t j) (d := .tup [Pre.none.v, wrongV x.e x.pos]) (by simp only [r175, go_sem, seval, reduceCtorEq, wrongV, Pre.none]; rfl) (by simp only [resV, go_sem, seval, reduceCtorEq, wrongV, Pre.none]; exact wk_here) ?_ (hl := by (first | exact .c _ | (simp only [go_sem, seval, reduceCtorEq, wrongV, Pre.none]; done))))
          exact ⟨he, Pre.none, j, rfl, rfl⟩
        | ok y =>
          obtain ⟨m, j⟩ := y
          obtain ⟨k', hk, rfl, rfl⟩ := hR
          have hj := innerF_bound hr
          ((try refine W.a ?_); simp only [go_sem, seval, reduceCtorEq, hS' hb, madeV, wrongV])
          (refine W.c1 (wrong_ok w0 0 0 _) ?_; simp only [go_sem, seval, reduceCtorEq])
          refine W.no rfl ?_
          ((try refine W.a ?_); simp only [go_sem, seval, reduceCtorEq])
          (refine W.c1 (read_tok w0 l t j 0 _ b (hG' hb _ _) (by omega) ht) ?_; simp only [go_sem, seval, reduceCtorEq])
          simp only at h
          cases h6 : ((tokL t j).kind == 6)
          · have h6' : ¬ (tokL t j).kind = 6 := by simpa using h6
            have h6n : ((tokL t j).kind != 6) = true := by simpa using h6
            rw [if_neg h6'] at h
            injection h with h
            subst h
            ((try refine W.a ?_); simp only [go_sem, seval, reduceCtorEq, h6n])
            refine W.yes rfl ?_
            ((try refine W.a ?_); simp only [go_sem, seval, reduceCtorEq])
            (apply W.dregE (List.cons_ne_nil _ _); case hc => ((apply CanonE.advPO; simp only [go_sem, seval, reduceCtorEq]); exact CanonE.nil))
            ((try refine W.a ?_); simp only [go_sem, seval, reduceCtorEq])
            (refine W.fg (rdr_ok hok b l t j) (d := .tup [Pre.none.v, wrongV 30 (tokL t j).pos]) (by simp only [r175, go_sem, seval, reduceCtorEq, wrongV, Pre.none]; rfl) (by simp only [resV, go_sem, seval, reduceCtorEq, wrongV, Pre.none]; exact wk_here) ?_ (hl := by (first | exact .c _ | (simp only [go_sem, seval, reduceCtorEq, wrongV, Pre.none]; done))))
            exact ⟨rfl, Pre.none, j, rfl, rfl⟩
          · have h6' : (tokL t j).kind = 6 := by simpa using h6
            have h6n : ((tokL t j).kind != 6) = false := by rw [h6']; rfl
            rw [if_pos h6'] at h
            injection h with h
            subst h
            have hw2 : IntKind.i64.wrap ((j : Int) + 1) = ((j + 1 : Nat) : Int) := by rw [wrap_in] <;> omega
            ((try refine W.a ?_); simp only [go_sem, seval, reduceCtorEq, h6n])
            refine W.no rfl ?_
            ((try refine W.a ?_); simp only [go_sem, seval, reduceCtorEq, hG' hb, hS' hb, rdr, hw2])
            (refine W.fg (rdr_ok hok b l t (j + 1)) (d := .tup [m.p.v, wrongV 0 0]) (by simp only [r175, go_sem, seval, reduceCtorEq, wrongV]; rfl) (by simp only [resV, go_sem, seval, reduceCtorEq, wrongV]; exact wk_here) ?_ (hl := by (first | exact .c _ | (simp only [go_sem, seval, reduceCtorEq, wrongV]; done))))
            exact ⟨rfl, rfl⟩
end
section

theorem atomF_eq (f : Nat) (l : List OpT) (t : List Tok) (depth i : Nat) : atomF (f + 1) l t depth i =
    if beginsL l (tokL t i) = false then some (.error ⟨30, (tokL t i).pos⟩)
    else if (tokL t i).kind = 5 then bracketsF f l t depth i
    else if (tokL t i).kind = 3 then some (.ok (.mk 2 [] (tokL t i).n [] (tokL t i).pos, i + 1))
    else if (tokL t i).kind ≠ 4 ∧ (tokL t (i + 1)).kind = 8 then
      match innerF f l t 0 depth (i + 2) (tokL t i).pos with
      | none => none
      | some (.error b) => some (.error b)
      | some (.ok (m, j)) => some (.ok (.mk 4 (tokL t i).text 0 [m.p] (tokL t i).pos, j))
    else some (.ok (.mk (if (tokL t i).kind = 2 then 1 else 0) (tokL t i).text 0 [] (tokL t i).pos, i + 1)) := by
  rw [atomF, bracketsF]
  simp only [innerF]
  by_cases hd : 200 ≤ depth
  · simp only [if_pos hd]
  · simp only [if_neg hd]
    rfl
theorem read_atom {w0 : World} {f : Nat} (hE : ExprOK w0 f) : AtomOK w0 (f + 1) := by
  intro l t depth i r σ b h hb hi ht hd
  have hlt := (List.getElem?_eq_some_iff.1 hb).1
  have hbe : σ[b]? = some (.cells [.c (opsC l), .c (toksC t), I i]) := hb
  rw [atomF_eq] at h
  refine k164.go rfl (fun hok hsz => ?_)
  ((try refine W.a ?_); simp only [go_sem, seval, reduceCtorEq, c164])
  (refine W.c1 (read_tok w0 l t i 0 _ b (hG hb _) (by omega) ht) ?_; simp only [go_sem, seval, reduceCtorEq])
  have hw : IntKind.i64.wrap ((i : Int) + 1) = ((i + 1 : Nat) : Int) := by rw [wrap_in] <;> omega
  cases hB : beginsL l (tokL t i)
  · rw [if_pos hB] at h
    injection h with h
    subst h
    (refine W.c1 (read_begins w0 l t i _ b (hG hb _) (by omega) ht) ?_; simp only [go_sem, seval, reduceCtorEq, hB])
    refine W.yes rfl ?_
    ((try refine W.a ?_); simp only [go_sem, seval, reduceCtorEq])
    (apply W.dregE (List.cons_ne_nil _ _); case hc => ((apply CanonE.advPO; simp only [go_sem, seval, reduceCtorEq]); exact CanonE.nil))
    ((try refine W.a ?_); simp only [go_sem, seval, reduceCtorEq])
    (refine W.fg (hok) (d := .tup [Pre.none.v, wrongV 30 (tokL t i).pos]) (by simp only [r164, go_sem, seval, reduceCtorEq, wrongV, Pre.none]; rfl) (by simp only [resV, go_sem, seval, reduceCtorEq, wrongV, Pre.none]; exact wk_here) ?_ (hl := by (first | exact .c _ | (simp only [go_sem, seval, reduceCtorEq, wrongV, Pre.none]; done))))
    exact ⟨rfl, Pre.none, i, rfl, (set_here hb).symm⟩
  · rw [if_neg (by rw [hB]; decide)] at h
    have hil : i < t.length := begins_lt (l := l) (by rw [hB]; decide)
    (refine W.c1 (read_begins w0 l t i _ b (hG hb _) (by omega) ht) ?_; simp only [go_sem, seval, reduceCtorEq, hB])
    refine W.no rfl ?_
    cases h5 : ((tokL t i).kind == 5)
    · rw [if_neg (by simpa using h5)] at h
      ((try refine W.a ?_); simp only [go_sem, seval, reduceCtorEq, h5])
      refine W.no rfl ?_
      cases h3 : ((tokL t i).kind == 3)
      · rw [if_neg (by simpa using h3)] at h
        ((try refine W.a ?_); simp only [go_sem, seval, reduceCtorEq, h3])
        refine W.no rfl ?_
        by_cases hc : (tokL t i).kind ≠ 4 ∧ (tokL t (i + 1)).kind = 8
        · rw [if_pos hc] at h
          obtain ⟨hc4, hc8⟩ := hc
          have h4 : ((tokL t i).kind != 4) = true := by simpa using hc4
          have hw2 : IntKind.i64.wrap ((i : Int) + 2) = ((i + 2 : Nat) : Int) := by rw [wrap_in] <;> omega
          have hi1 := tokL_lt (t := t) (i := i + 1) (by rw [hc8]; decide)
          ((try refine W.a ?_); simp only [go_sem, seval, reduceCtorEq, h4])
          (refine W.c1 (read_tok w0 l t i 1 _ b (hG hb _) (by omega) ht) ?_; simp only [go_sem, seval, reduceCtorEq, hc8])
          refine W.yes rfl ?_
          ((try refine W.a ?_); simp only [go_sem, seval, reduceCtorEq, hG hbe, hS hb, hw2])
          cases hr : innerF f l t 0 depth (i + 2) (tokL t i).pos with
          | none => rw [hr] at h; cases h
          | some y =>
            rw [hr] at h
            (refine W.call (read_inner hE l t 0 depth (i + 2) (tokL t i) y _ b hr (hG' hb _ _) (by omega) ht hd) rfl rfl (by first | rfl | simp) ?_)
            intro v σ1 hR
            cases y with
            | error x =>
              injection h with h
              subst h
              obtain ⟨he, m, k', j, rfl, rfl⟩ := hR
              ((try refine W.a ?_); simp only [go_sem, seval, reduceCtorEq, hS' hb, madeV, wrongV])
              (apply W.dregE (List.cons_ne_nil _ _); case hc => ((apply CanonE.advPO; simp only [go_sem, seval, reduceCtorEq]); exact CanonE.nil))
              ((try refine W.a ?_); simp only [go_sem, seval, reduceCtorEq])
              (refine W.fg (rdr_ok hok b l t j) (d := .tup [(Pre.mk 4 (tokL t i).text 0 [m.p] (tokL t i).pos).v, wrongV x.e x.pos]) (by simp only [r164, go_sem, seval, reduceCtorEq, wrongV]; rfl) (by simp only [resV, go_sem, seval, reduceCtorEq, wrongV]; exact wk_here) ?_ (hl := by (first | exact .c _ | (simp only [go_sem, seval, reduceCtorEq, wrongV]; done))))
              exact ⟨he, _, j, rfl, rfl⟩
            | ok y =>
              obtain ⟨m, j⟩ := y
              injection h with h
              subst h
              obtain ⟨k', hk, rfl, rfl⟩ := hR
              ((try refine W.a ?_); simp only [go_sem, seval, reduceCtorEq, hS' hb, madeV, wrongV])
              (apply W.dregE (List.cons_ne_nil _ _); case hc => ((apply CanonE.advPO; simp only [go_sem, seval, reduceCtorEq]); exact CanonE.nil))
              ((try refine W.a ?_); simp only [go_sem, seval, reduceCtorEq])
              (refine W.fg (rdr_ok hok b l t j) (d := .tup [(Pre.mk 4 (tokL t i).text 0 [m.p] (tokL t i).pos).v, wrongV 0 0]) (by simp only [r164, go_sem, seval, reduceCtorEq, wrongV]; rfl) (by simp only [resV, go_sem, seval, reduceCtorEq, wrongV]; exact wk_here) ?_ (hl := by (first | exact .c _ | (simp only [go_sem, seval, reduceCtorEq, wrongV]; done))))
              exact ⟨rfl, rfl⟩
        · rw [if_neg hc] at h
          injection h with h
          subst h
          have two : ((tokL t i).kind != 4) = false ∨ (((tokL t i).kind != 4) = true ∧ ((tokL t (i + 1)).kind == 8) = false) := by
            cases ho : ((tokL t i).kind != 4)
            · exact .inl rfl
            · refine .inr ⟨rfl, ?_⟩
              cases h6 : ((tokL t (i + 1)).kind == 8)
              · rfl
              · exact absurd ⟨by simpa using ho, by simpa using h6⟩ hc
          rcases two with ho | ⟨ho, h6⟩
          all_goals first
            | (((try refine W.a ?_); simp only [go_sem, seval, reduceCtorEq, ho])
               (refine W.c1 (read_tok w0 l t i 1 _ b (hG hb _) (by omega) ht) ?_; simp only [go_sem, seval, reduceCtorEq, h6])
               refine W.no rfl ?_)
            | (((try refine W.a ?_); simp only [go_sem, seval, reduceCtorEq, ho])
               refine W.no rfl ?_)
          all_goals
            cases h2 : ((tokL t i).kind == 2)
            · have h2' : ¬ (tokL t i).kind = 2 := by simpa using h2
              ((try refine W.a ?_); simp only [go_sem, seval, reduceCtorEq, h2])
              refine W.no rfl ?_
              ((try refine W.a ?_); simp only [go_sem, seval, reduceCtorEq, hG hbe, hS hb, hw])
              (refine W.fg (rdr_ok hok b l t (i + 1)) (d := .tup [(Pre.mk 0 (tokL t i).text 0 [] (tokL t i).pos).v, wrongV 0 0]) (by simp only [r164, go_sem, seval, reduceCtorEq, wrongV]; rfl) (by simp only [resV, go_sem, seval, reduceCtorEq, wrongV]; exact wk_here) ?_ (hl := by (first | exact .c _ | (simp only [go_sem, seval, reduceCtorEq, wrongV]; done))))
              exact ⟨by rw [if_neg h2'], rfl⟩
            · have h2' : (tokL t i).kind = 2 := by simpa using h2
              ((try refine W.a ?_); simp only [go_sem, seval, reduceCtorEq, h2])
              refine W.yes rfl ?_
              ((try refine W.a ?_); simp only [go_sem, seval, reduceCtorEq, hG hbe, hS hb, hw])
              (refine W.fg (rdr_ok hok b l t (i + 1)) (d := .tup [(Pre.mk 1 (tokL t i).text 0 [] (tokL t i).pos).v, wrongV 0 0]) (by simp only [r164, go_sem, seval, reduceCtorEq, wrongV]; rfl) (by simp only [resV, go_sem, seval, reduceCtorEq, wrongV]; exact wk_here) ?_ (hl := by (first | exact .c _ | (simp only [go_sem, seval, reduceCtorEq, wrongV]; done))))
              exact ⟨by rw [if_pos h2'], rfl⟩
      · rw [if_pos (by simpa using h3)] at h
        injection h with h
        subst h
        ((try refine W.a ?_); simp only [go_sem, seval, reduceCtorEq, h3])
        refine W.yes rfl ?_
        ((try refine W.a ?_); simp only [go_sem, seval, reduceCtorEq, hG hbe, hS hb, hw])
        (refine W.fg (rdr_ok hok b l t (i + 1)) (d := .tup [(Pre.mk 2 [] (tokL t i).n [] (tokL t i).pos).v, wrongV 0 0]) (by simp only [r164, go_sem, seval, reduceCtorEq, wrongV]; rfl) (by simp only [resV, go_sem, seval, reduceCtorEq, wrongV]; exact wk_here) ?_ (hl := by (first | exact .c _ | (simp only [go_sem, seval, reduceCtorEq, wrongV]; done))))
        exact ⟨rfl, rfl⟩
    · rw [if_pos (by simpa using h5)] at h
      ((try refine W.a ?_); simp only [go_sem, seval, reduceCtorEq, h5])
      refine W.yes rfl ?_
      ((try refine W.a ?_); simp only [go_sem, seval, reduceCtorEq])
      (refine W.call (read_brackets hE l t depth i r _ b h (hG hb _) hil ht hd) rfl rfl (by first | rfl | simp) ?_)
      intro v σ1 hR
      cases r with
      | ok x =>
        obtain ⟨rfl, rfl⟩ := hR
        ((try refine W.a ?_); simp only [go_sem, seval, reduceCtorEq, hS hb, wrongV])
        (refine W.fg (rdr_ok hok b l t x.2) (d := .tup [x.1.v, wrongV 0 0]) (by simp only [r164, go_sem, seval, reduceCtorEq, wrongV]; rfl) (by simp only [resV, go_sem, seval, reduceCtorEq, wrongV]; exact wk_here) ?_ (hl := by (first | exact .c _ | (simp only [go_sem, seval, reduceCtorEq, wrongV]; done))))
        exact ⟨rfl, rfl⟩
      | error x =>
        obtain ⟨he, q, j, rfl, rfl⟩ := hR
        ((try refine W.a ?_); simp only [go_sem, seval, reduceCtorEq, hS hb, wrongV])
        (refine W.fg (rdr_ok hok b l t j) (d := .tup [q.v, wrongV x.e x.pos]) (by simp only [r164, go_sem, seval, reduceCtorEq, wrongV]; rfl) (by simp only [resV, go_sem, seval, reduceCtorEq, wrongV]; exact wk_here) ?_ (hl := by (first | exact .c _ | (simp only [go_sem, seval, reduceCtorEq, wrongV]; done))))
        exact ⟨he, q, j, rfl, rfl⟩
end
section

def operandF (f : Nat) (l : List OpT) (t : List Tok) (depth i : Nat) : Option (Except Bad (Pre × Nat)) := match atomF f l t depth i with
  | none => none
  | some (.error b) => some (.error b)
  | some (.ok (p, j)) => argsF f l t depth j p p.pos (lamAt t i)
theorem operandF_bound {f : Nat} {l : List OpT} {t : List Tok} {depth i : Nat} {p : Pre} {j : Nat} (h : operandF f l t depth i = some (.ok (p, j))) : i < j ∧ j ≤ t.length := by
  rw [operandF] at h
  cases ha : atomF f l t depth i with
  | none => rw [ha] at h; cases h
  | some x =>
    rw [ha] at h
    cases x with
    | error b => cases h
    | ok x =>
      have h1 := (fuel_bounds f).1 _ _ _ _ _ _ ha
      have h2 := (fuel_bounds f).2.1 _ _ _ _ _ _ _ _ _ h h1.2
      omega
structure ArgsSt where
  g : Nat
  p : Pre
  i : Nat
  last : Bool
  e : Int
  pos : Int
theorem read_operand {w0 : World} {f : Nat} (hA : ∀ g, g ≤ f → AtomOK w0 g) (l : List OpT) (t : List Tok) (depth i : Nat) (r : Except Bad (Pre × Nat)) (σ : H) (b : Nat) (h : operandF f l t depth i = some r) (hb : σ[b]? = some (rdr l t i)) (hi : i ≤ t.length) (ht : t.length ≤ 1000000) (hd : depth ≤ 200) :
    DC Tryz.prog w0 139 [.ptr b 0, I depth] σ (RAtom l t σ b r) := by
  have hlt := (List.getElem?_eq_some_iff.1 hb).1
  have hbe : σ[b]? = some (.cells [.c (opsC l), .c (toksC t), I i]) := hb
  rw [operandF] at h
  refine k139.go rfl (fun hok hsz => ?_)
  ((try refine W.a ?_); simp only [go_sem, seval, reduceCtorEq, c139])
  (refine W.c1 (read_lambda w0 l t i _ b (hG hb _) (by omega) ht) ?_; simp only [go_sem, seval, reduceCtorEq])
  cases ha : atomF f l t depth i with
  | none => rw [ha] at h; cases h
  | some ra =>
    rw [ha] at h
    (refine W.call (hA f (Nat.le_refl f) l t depth i ra _ b ha (hG hb _) hi ht hd) rfl rfl (by first | rfl | simp) ?_)
    intro v σ1 hR
    have hx : ∃ x : ArgsSt, (x.e = 0 ∧ x.pos = 0 ∧ argsF x.g l t depth x.i x.p x.p.pos x.last = some r ∧ x.i ≤ t.length ∧ x.g ≤ f ∨ (x.e == 0) = false ∧ r = .error ⟨x.e, x.pos⟩) ∧ x.last = lamAt t i ∧
        v = .tup [x.p.v, wrongV x.e x.pos] ∧ σ1 = (σ ++ [Blk.cells [I 0, S [], I 0, .csl [], I 0], Blk.cells [I 0, I 0]]).set b (rdr l t x.i) := by
      cases ra with
      | ok y =>
        obtain ⟨rfl, rfl⟩ := hR
        exact ⟨⟨f, y.1, y.2, lamAt t i, 0, 0⟩, .inl ⟨rfl, rfl, h, ((fuel_bounds f).1 _ _ _ _ _ _ ha).2, Nat.le_refl f⟩, rfl, rfl, rfl⟩
      | error y =>
        obtain ⟨he, q, j, rfl, rfl⟩ := hR
        injection h with h
        exact ⟨⟨0, q, j, lamAt t i, y.e, y.pos⟩, .inr ⟨he, h.symm⟩, rfl, rfl, rfl⟩
    obtain ⟨x0, hinv0, hl0, rfl, rfl⟩ := hx
    ((try refine W.a ?_); simp only [go_sem, seval, reduceCtorEq, hS hb, wrongV])
    rw [← hl0]
    refine W.loopP (fun x : ArgsSt => (x.e = 0 ∧ x.pos = 0 ∧ argsF x.g l t depth x.i x.p x0.p.pos x.last = some r ∧ x.i ≤ t.length ∧ x.g ≤ f ∨ (x.e == 0) = false ∧ r = .error ⟨x.e, x.pos⟩))
      (fun x => ⟨((((((((base.put (some 0) (.ptr b 0)).put (some 1) (I depth)).put (some 4) (.ptr σ.length 0)).put (some 5) (.ptr (σ.length + 1) 0)).put (some 6) (B x.last)).put (some 7) (.ptr (σ.length + 2) 0)).put (some 8) (.ptr (σ.length + 3) 0)).put (some 9) (I x0.p.pos)), σ.set b (rdr l t x.i) ++ [.cells [I 0, S [], I 0, .csl [], I 0], .cells [I 0, I 0], .cells x.p.v.cellsV, .cells [I x.e, I x.pos]]⟩)
      (fun x => if x.e = 0 then x.g + 1 else 0) x0 hinv0 ?_ (fun x hx => ?_)
    · (refine Lew.env ?_; exact lee_here)
    · obtain ⟨g, p, i', last, e, pos⟩ := x
      simp only at hx
      rcases hx with ⟨rfl, rfl, hx, hi', hg⟩ | ⟨he, rfl⟩
      · obtain ⟨g', rfl⟩ : ∃ g', g = g' + 1 := by
          cases g with
          | zero => simp [argsF] at hx
          | succ g' => exact ⟨g', rfl⟩
        rw [argsF] at hx
        ((try refine W.a ?_); simp only [go_sem, seval, reduceCtorEq])
        by_cases hc : last = true ∨ beginsL l (tokL t i') = false
        · rw [if_pos hc] at hx
          injection hx with hx
          subst hx
          have two : last = true ∨ (last = false ∧ beginsL l (tokL t i') = false) := by
            cases last
            · exact .inr ⟨rfl, by simpa using hc⟩
            · exact .inl rfl
          rcases two with rfl | ⟨rfl, hB⟩
          all_goals first
            | ((refine W.c1 (wrong_ok w0 0 0 _) ?_; simp only [go_sem, seval, reduceCtorEq])
               (refine W.c1 (read_begins w0 l t i' _ b (hG' hb _ _) (by omega) ht) ?_; simp only [go_sem, seval, reduceCtorEq, hB])
               refine W.no rfl ?_)
            | ((refine W.c1 (wrong_ok w0 0 0 _) ?_; simp only [go_sem, seval, reduceCtorEq])
               refine W.no rfl ?_)
          all_goals
            ((try refine W.a ?_); simp only [go_sem, seval, reduceCtorEq])
            (apply W.dregE (List.cons_ne_nil _ _); case hc => ((apply CanonE.advPO; simp only [go_sem, seval, reduceCtorEq]); exact CanonE.nil))
            ((try refine W.a ?_); simp only [go_sem, seval, reduceCtorEq])
            (refine W.fg (rdr_ok hok b l t i') (d := .tup [p.v, wrongV 0 0]) (by simp only [r139, go_sem, seval, reduceCtorEq, wrongV]; rfl) (by simp only [resV, go_sem, seval, reduceCtorEq, wrongV]; exact wk_here) ?_ (hl := by (first | exact .c _ | (simp only [go_sem, seval, reduceCtorEq, wrongV]; done))))
            exact ⟨rfl, rfl⟩
        · rw [if_neg hc] at hx
          have hl : last = false := by cases last; rfl; exact absurd (.inl rfl) hc
          have hB : beginsL l (tokL t i') = true := by
            cases h : beginsL l (tokL t i')
            · exact absurd (.inr h) hc
            · rfl
          subst hl
          have hil : i' < t.length := begins_lt (l := l) (by rw [hB]; decide)
          (refine W.c1 (wrong_ok w0 0 0 _) ?_; simp only [go_sem, seval, reduceCtorEq])
          (refine W.c1 (read_begins w0 l t i' _ b (hG' hb _ _) (by omega) ht) ?_; simp only [go_sem, seval, reduceCtorEq, hB])
          refine W.yes rfl ?_
          ((try refine W.a ?_); simp only [go_sem, seval, reduceCtorEq])
          (refine W.c1 (read_lambda w0 l t i' _ b (hG' hb _ _) (by omega) ht) ?_; simp only [go_sem, seval, reduceCtorEq])
          cases ha' : atomF g' l t depth i' with
          | none => rw [ha'] at hx; cases hx
          | some ra' =>
            rw [ha'] at hx
            (refine W.call (hA g' (by omega) l t depth i' ra' _ b ha' (hG' hb _ _) hi' ht hd) rfl rfl (by first | rfl | simp) ?_)
            intro v σ1 hR
            cases ra' with
            | ok y =>
              obtain ⟨q, j⟩ := y
              obtain ⟨rfl, rfl⟩ := hR
              ((try refine W.a ?_); simp only [go_sem, seval, reduceCtorEq, hS' hb, wrongV])
              refine .inv ⟨⟨g', Pre.app p q x0.p.pos, j, lamAt t i', 0, 0⟩, .inl ⟨rfl, rfl, hx, ((fuel_bounds g').1 _ _ _ _ _ _ ha').2, Nat.le_of_succ_le hg⟩, by simp, ?_⟩
              simp only [go_sem, seval, reduceCtorEq]
              (refine Lew.cutL (rdr_ok hok b l t j) ?_ (by simp) (by simp) ?_ ?_ ?_; exact lee_here; ((try simp only [okB, wkB, go_sem, seval, reduceCtorEq]) <;> omega); (simp only [List.length_cons, List.length_nil, Nat.reduceAdd, List.take_succ_cons, List.take_zero, wkB, and_true]; (repeat' (refine And.intro ?_ ?_)) <;> (first | exact Blk.wk.rfl _ | exact Blk.wk.gone _ | (refine Blk.wk_cells ?_ rfl; (exact wk_here)))); (repeat' (first | exact LowE.base _ | (refine LowE.put ?_ (by first | exact .c _ | ((try simp only [okB, wkB, go_sem, seval, reduceCtorEq]) <;> omega))))))
            | error y =>
              obtain ⟨he, q, j, rfl, rfl⟩ := hR
              injection hx with hx
              subst hx
              have he' : ¬ y.e = 0 := by simpa using he
              ((try refine W.a ?_); simp only [go_sem, seval, reduceCtorEq, hS' hb, wrongV])
              refine .inv ⟨⟨g', Pre.app p q x0.p.pos, j, lamAt t i', y.e, y.pos⟩, .inr ⟨he, rfl⟩, by simp [he'], ?_⟩
              simp only [go_sem, seval, reduceCtorEq]
              (refine Lew.cutL (rdr_ok hok b l t j) ?_ (by simp) (by simp) ?_ ?_ ?_; exact lee_here; ((try simp only [okB, wkB, go_sem, seval, reduceCtorEq]) <;> omega); (simp only [List.length_cons, List.length_nil, Nat.reduceAdd, List.take_succ_cons, List.take_zero, wkB, and_true]; (repeat' (refine And.intro ?_ ?_)) <;> (first | exact Blk.wk.rfl _ | exact Blk.wk.gone _ | (refine Blk.wk_cells ?_ rfl; (exact wk_here)))); (repeat' (first | exact LowE.base _ | (refine LowE.put ?_ (by first | exact .c _ | ((try simp only [okB, wkB, go_sem, seval, reduceCtorEq]) <;> omega))))))
      · ((try refine W.a ?_); simp only [go_sem, seval, reduceCtorEq])
        (refine W.c1 (wrong_ok w0 e pos _) ?_; simp only [go_sem, seval, reduceCtorEq, he])
        refine W.no rfl ?_
        ((try refine W.a ?_); simp only [go_sem, seval, reduceCtorEq])
        (apply W.dregE (List.cons_ne_nil _ _); case hc => ((apply CanonE.advPO; simp only [go_sem, seval, reduceCtorEq]); exact CanonE.nil))
        ((try refine W.a ?_); simp only [go_sem, seval, reduceCtorEq])
        (refine W.fg (rdr_ok hok b l t i') (d := .tup [p.v, wrongV e pos]) (by simp only [r139, go_sem, seval, reduceCtorEq, wrongV]; rfl) (by simp only [resV, go_sem, seval, reduceCtorEq, wrongV]; exact wk_here) ?_ (hl := by (first | exact .c _ | (simp only [go_sem, seval, reduceCtorEq, wrongV]; done))))
        exact ⟨he, p, i', rfl, rfl⟩
end
section

theorem exprF_eq (f : Nat) (l : List OpT) (t : List Tok) (least : Int) (depth i : Nat) : exprF (f + 1) l t least depth i = match operandF f l t depth i with
    | none => none
    | some (.error b) => some (.error b)
    | some (.ok (q, k)) => chainF f l t least depth k ⟨q, none⟩ := by
  rw [exprF, operandF]
  cases atomF f l t depth i with
  | none => rfl
  | some x =>
    cases x with
    | error b => rfl
    | ok x =>
      simp only
      cases argsF f l t depth x.2 x.1 x.1.pos (lamAt t i) with
      | none => rfl
      | some y =>
        cases y with
        | error b => rfl
        | ok y => rfl
theorem chainF_eq (f : Nat) (l : List OpT) (t : List Tok) (least : Int) (depth i : Nat) (m : Made) : chainF (f + 1) l t least depth i m = match opOf l (tokL t i) with
    | none => some (.ok (m, i))
    | some o => if o.prec < least then some (.ok (m, i))
      else if clashL o m = true then some (.error ⟨32, (tokL t i).pos⟩)
      else match innerF f l t (nextL o) depth (i + 1) (tokL t i).pos with
        | none => none
        | some (.error b) => some (.error b)
        | some (.ok (r, j)) => match r.by_ with
          | some (b, pos) => if besideL o b 2 = true then chainF f l t least depth j ⟨applyL o (tokL t i).pos m.p r.p, some (o, (tokL t i).pos)⟩ else some (.error ⟨32, pos⟩)
          | none => chainF f l t least depth j ⟨applyL o (tokL t i).pos m.p r.p, some (o, (tokL t i).pos)⟩ := by
  rw [chainF]
  cases opOf l (tokL t i) with
  | none => rfl
  | some o =>
    simp only [innerF]
    by_cases hd : 200 ≤ depth
    · simp only [if_pos hd]
    · simp only [if_neg hd]
      rfl
structure ChainSt where
  g : Nat
  m : Made
  k : Tok
  i : Nat
  e : Int
  pos : Int
theorem byC_none {m : Made} (h : m.by_ = none) : byC m = .nilp := by rw [byC, h]
theorem byC_some {m : Made} {o : OpT} {p : Int} (h : m.by_ = some (o, p)) : byC m = .ref [.str o.name, .int .i64 o.prec, .int .i64 o.fix] 0 := by rw [byC, h]; rfl
theorem clash_none {o : OpT} {m : Made} (h : m.by_ = none) : clashL o m = false := by rw [clashL, h]
theorem clash_some {o o' : OpT} {p : Int} {m : Made} (h : m.by_ = some (o', p)) : clashL o m = !besideL o o' 1 := by rw [clashL, h]
set_option maxHeartbeats 4000000 in
theorem read_expr {w0 : World} {f : Nat} (hA : ∀ g, g ≤ f → AtomOK w0 g) (hE : ∀ g, g ≤ f → ExprOK w0 g) : ExprOK w0 (f + 1) := by
  intro l t least depth i r σ b h hb hi ht hd
  have hlt := (List.getElem?_eq_some_iff.1 hb).1
  have hbe : σ[b]? = some (.cells [.c (opsC l), .c (toksC t), I i]) := hb
  rw [exprF_eq] at h
  refine k112.go rfl (fun hok hsz => ?_)
  ((try refine W.a ?_); simp only [go_sem, seval, reduceCtorEq, c112])
  cases ha : operandF f l t depth i with
  | none => rw [ha] at h; cases h
  | some ra =>
    rw [ha] at h
    (refine W.call (read_operand hA l t depth i ra _ b ha (hG hb _) hi ht hd) rfl rfl (by first | rfl | simp) ?_)
    intro v σ1 hR
    have hx : ∃ x : ChainSt, (x.e = 0 ∧ x.pos = 0 ∧ chainF x.g l t least depth x.i x.m = some r ∧ x.i ≤ t.length ∧ x.g ≤ f ∧ fitsK x.m x.k ∨ (x.e == 0) = false ∧ r = .error ⟨x.e, x.pos⟩) ∧ x.m.by_ = none ∧ x.k = Tok.zero ∧
        v = .tup [x.m.p.v, wrongV x.e x.pos] ∧ σ1 = (σ ++ [Blk.cells [I 0, S [], I 0, .csl [], I 0, .c .nilp, I 0, S [], I 0, I 0], Blk.cells [I 0, I 0]]).set b (rdr l t x.i) := by
      cases ra with
      | ok y =>
        obtain ⟨rfl, rfl⟩ := hR
        exact ⟨⟨f, ⟨y.1, none⟩, Tok.zero, y.2, 0, 0⟩, .inl ⟨rfl, rfl, h, (operandF_bound ha).2, Nat.le_refl f, fun o p h => by cases h⟩, rfl, rfl, rfl, rfl⟩
      | error y =>
        obtain ⟨he, q, j, rfl, rfl⟩ := hR
        injection h with h
        exact ⟨⟨0, ⟨q, none⟩, Tok.zero, j, y.e, y.pos⟩, .inr ⟨he, h.symm⟩, rfl, rfl, rfl, rfl⟩
    obtain ⟨x0, hinv0, hby0, hk0, rfl, rfl⟩ := hx
    ((try refine W.a ?_); simp only [go_sem, seval, reduceCtorEq, hS hb, wrongV])
    refine W.loopP (fun x : ChainSt => (x.e = 0 ∧ x.pos = 0 ∧ chainF x.g l t least depth x.i x.m = some r ∧ x.i ≤ t.length ∧ x.g ≤ f ∧ fitsK x.m x.k ∨ (x.e == 0) = false ∧ r = .error ⟨x.e, x.pos⟩))
      (fun x => ⟨(((((((base.put (some 0) (.ptr b 0)).put (some 1) (I least)).put (some 2) (I depth)).put (some 6) (.ptr σ.length 0)).put (some 7) (.ptr (σ.length + 1) 0)).put (some 9) (.ptr (σ.length + 3) 0)).put (some 10) (.ptr (σ.length + 4) 0)), σ.set b (rdr l t x.i) ++ [.cells [I 0, S [], I 0, .csl [], I 0, .c .nilp, I 0, S [], I 0, I 0], .cells [I 0, I 0], .cells x0.m.p.v.cellsV, .cells [I x.e, I x.pos], .cells (madeV x.m x.k).cellsV]⟩)
      (fun x => if x.e = 0 then x.g + 1 else 0) x0 hinv0 ?_ (fun x hx => ?_)
    · simp only [go_sem, seval, reduceCtorEq, madeV, byC_none hby0, hk0, Tok.zero]
      (refine Lew.env ?_; exact lee_here)
    · obtain ⟨g, m, k, i', e, pos⟩ := x
      simp only at hx
      rcases hx with ⟨rfl, rfl, hx, hi', hg, hfit⟩ | ⟨he, rfl⟩
      · obtain ⟨g', rfl⟩ : ∃ g', g = g' + 1 := by
          cases g with
          | zero => simp [chainF] at hx
          | succ g' => exact ⟨g', rfl⟩
        rw [chainF_eq] at hx
        ((try refine W.a ?_); simp only [go_sem, seval, reduceCtorEq, madeV])
        (refine W.c1 (wrong_ok w0 0 0 _) ?_; simp only [go_sem, seval, reduceCtorEq])
        refine W.yes rfl ?_
        ((try refine W.a ?_); simp only [go_sem, seval, reduceCtorEq])
        (refine W.c1 (read_tok w0 l t i' 0 _ b (hG' hb _ _) (by omega) ht) ?_; simp only [go_sem, seval, reduceCtorEq])
        cases ho : opOf l (tokL t i') with
        | none =>
          rw [ho] at hx
          injection hx with hx
          subst hx
          (refine W.c1 (read_operator w0 l t i' (tokL t i') _ b (hG' hb _ _)) ?_; simp only [go_sem, seval, reduceCtorEq, foundV, ho, Option.isSome_none, Option.getD_none])
          refine W.yes rfl ?_
          ((try refine W.a ?_); simp only [go_sem, seval, reduceCtorEq])
          (apply W.dregE (List.cons_ne_nil _ _); case hc => ((apply CanonE.advPO; simp only [go_sem, seval, reduceCtorEq]); exact CanonE.nil))
          ((try refine W.a ?_); simp only [go_sem, seval, reduceCtorEq])
          (refine W.fg (rdr_ok hok b l t i') (d := .tup [madeV m k, wrongV 0 0]) (by simp only [r112, go_sem, seval, reduceCtorEq, madeV, wrongV]; rfl) (by simp only [resV, go_sem, seval, reduceCtorEq, madeV, wrongV]; exact wk_here) ?_ (hl := by (first | exact .c _ | (simp only [go_sem, seval, reduceCtorEq, madeV, wrongV]; done))))
          exact ⟨k, hfit, rfl, rfl⟩
        | some o =>
          rw [ho] at hx
          simp only at hx
          by_cases hp : o.prec < least
          · rw [if_pos hp] at hx
            injection hx with hx
            subst hx
            (refine W.c1 (read_operator w0 l t i' (tokL t i') _ b (hG' hb _ _)) ?_; simp only [go_sem, seval, reduceCtorEq, foundV, ho, Option.isSome_some, Option.getD_some, hp])
            refine W.yes rfl ?_
            ((try refine W.a ?_); simp only [go_sem, seval, reduceCtorEq])
            (apply W.dregE (List.cons_ne_nil _ _); case hc => ((apply CanonE.advPO; simp only [go_sem, seval, reduceCtorEq]); exact CanonE.nil))
            ((try refine W.a ?_); simp only [go_sem, seval, reduceCtorEq])
            (refine W.fg (rdr_ok hok b l t i') (d := .tup [madeV m k, wrongV 0 0]) (by simp only [r112, go_sem, seval, reduceCtorEq, madeV, wrongV]; rfl) (by simp only [resV, go_sem, seval, reduceCtorEq, madeV, wrongV]; exact wk_here) ?_ (hl := by (first | exact .c _ | (simp only [go_sem, seval, reduceCtorEq, madeV, wrongV]; done))))
            exact ⟨k, hfit, rfl, rfl⟩
          · rw [if_neg hp] at hx
            (refine W.c1 (read_operator w0 l t i' (tokL t i') _ b (hG' hb _ _)) ?_; simp only [go_sem, seval, reduceCtorEq, foundV, ho, Option.isSome_some, Option.getD_some, hp])
            refine W.no rfl ?_
            ((try refine W.a ?_); simp only [go_sem, seval, reduceCtorEq])
            have hil : i' < t.length := opOf_lt ho
            have hw : IntKind.i64.wrap ((i' : Int) + 1) = ((i' + 1 : Nat) : Int) := by rw [wrap_in] <;> omega
            cases hcl : clashL o m
            · rw [if_neg (by rw [hcl]; decide)] at hx
              have two : byC m = .nilp ∨ ∃ o' p', m.by_ = some (o', p') ∧ besideL o o' 1 = true := by
                cases hby : m.by_ with
                | none => exact .inl (byC_none hby)
                | some y =>
                  obtain ⟨o', p'⟩ := y
                  rw [clash_some hby] at hcl
                  exact .inr ⟨o', p', rfl, by simpa using hcl⟩
              rcases two with hz | ⟨o', p', hby, hbes⟩
              all_goals first
                | (apply W.dreg
                   case hc => ((apply Canon.advCO; simp only [advCO_nil, advCO_cons, cG_yes, cG_no, cS_some, cS_loud, go_sem, seval, reduceCtorEq, byC_some hby]); (apply Canon.call (ops_Left w0 o o' _); (case hg => rfl); (case hf => rfl); (case ha => first | rfl | simp)); (apply Canon.advCO; simp only [advCO_nil, advCO_cons, cG_yes, cG_no, cS_some, cS_loud, go_sem, seval, reduceCtorEq, hbes]); exact Canon.nil))
                | (apply W.dreg
                   case hc => ((apply Canon.advCO; simp only [advCO_nil, advCO_cons, cG_yes, cG_no, cS_some, cS_loud, go_sem, seval, reduceCtorEq, hz]); exact Canon.nil))
              all_goals
                ((try refine W.a ?_); simp only [go_sem, seval, reduceCtorEq])
                refine W.no rfl ?_
                have hin := fun y σx (hb' : σx[b]? = some (rdr l t (i' + 1))) (hr : innerF g' l t (nextL o) depth (i' + 1) (tokL t i').pos = some y) => read_inner (hE g' (by omega)) l t (nextL o) depth (i' + 1) (tokL t i') y σx b hr hb' (by omega) ht hd
                have two : (nextL o = IntKind.i64.wrap (o.prec + 1) ∧ (o.fix == 2) = false) ∨ (nextL o = o.prec ∧ (o.fix == 2) = true) := by
                  rw [nextL]
                  cases h : (o.fix == 2)
                  · exact .inl ⟨if_neg (by simpa using h), rfl⟩
                  · exact .inr ⟨if_pos (by simpa using h), rfl⟩
                rcases two with ⟨hn, hfix⟩ | ⟨hn, hfix⟩
                all_goals first
                  | (((try refine W.a ?_); simp only [go_sem, seval, reduceCtorEq, hG' hb, hS' hb, rdr, hw, hfix])
                     refine W.no rfl ?_)
                  | (((try refine W.a ?_); simp only [go_sem, seval, reduceCtorEq, hG' hb, hS' hb, rdr, hw, hfix])
                     refine W.yes rfl ?_)
                all_goals
                  ((try refine W.a ?_); simp only [go_sem, seval, reduceCtorEq])
                  rw [hn] at hin
                  cases hr : innerF g' l t (nextL o) depth (i' + 1) (tokL t i').pos with
                  | none => rw [hr] at hx; cases hx
                  | some y =>
                    rw [hr] at hx
                    rw [hn] at hr
                    (refine W.call (hin y _ (hG' hb _ _) hr) rfl rfl (by first | rfl | simp) ?_)
                    intro v σ1 hR
                    cases y with
                    | error x =>
                      injection hx with hx
                      subst hx
                      obtain ⟨he, m', k', j, rfl, rfl⟩ := hR
                      have he' : ¬ x.e = 0 := by simpa using he
                      ((try refine W.a ?_); simp only [go_sem, seval, reduceCtorEq, hS' hb, madeV, wrongV])
                      apply W.dreg
                      case hc => ((apply Canon.advCO; simp only [advCO_nil, advCO_cons, cG_yes, cG_no, cS_some, cS_loud, go_sem, seval, reduceCtorEq]); (apply Canon.call (wrong_ok w0 x.e x.pos _); (case hg => rfl); (case hf => rfl); (case ha => first | rfl | simp)); (apply Canon.advCO; simp only [advCO_nil, advCO_cons, cG_yes, cG_no, cS_some, cS_loud, go_sem, seval, reduceCtorEq, he]); exact Canon.nil)
                      ((try refine W.a ?_); simp only [go_sem, seval, reduceCtorEq])
                      refine W.no rfl ?_
                      ((try refine W.a ?_); simp only [go_sem, seval, reduceCtorEq])
                      refine W.frz 12 (by rfl) (by simp only [go_sem, seval, reduceCtorEq]; rfl) (by rfl) ?_
                      ((try refine W.a ?_); simp only [go_sem, seval, reduceCtorEq])
                      apply W.dregE (List.cons_ne_nil _ _)
                      case hc =>
                        (apply CanonE.advPO; simp only [go_sem, seval, reduceCtorEq])
                        (apply CanonE.call (read_apply w0 o (tokL t i').pos m.p m'.p _); (case hg => rfl); (case hf => rfl); (case ha => first | rfl | simp))
                        (apply CanonE.advPO; simp only [go_sem, seval, reduceCtorEq])
                        exact CanonE.nil
                      ((try refine W.a ?_); simp only [go_sem, seval, reduceCtorEq])
                      refine .inv ⟨⟨0, ⟨applyL o (tokL t i').pos m.p m'.p, some (o, (tokL t i').pos)⟩, tokL t i', j, x.e, x.pos⟩, .inr ⟨he, rfl⟩, by simp [he'], ?_⟩
                      simp only [go_sem, seval, reduceCtorEq, madeV, byC]
                      (refine Lew.cutL (rdr_ok hok b l t j) ?_ (by simp) (by simp) ?_ ?_ ?_; exact lee_here; ((try simp only [okB, wkB, go_sem, seval, reduceCtorEq]) <;> omega); (simp only [List.length_cons, List.length_nil, Nat.reduceAdd, List.take_succ_cons, List.take_zero, wkB, and_true]; (repeat' (refine And.intro ?_ ?_)) <;> (first | exact Blk.wk.rfl _ | exact Blk.wk.gone _ | (refine Blk.wk_cells ?_ rfl; (exact wk_here)))); (repeat' (first | exact LowE.base _ | (refine LowE.put ?_ (by first | exact .c _ | ((try simp only [okB, wkB, go_sem, seval, reduceCtorEq]) <;> omega))))))
                    | ok y =>
                      obtain ⟨m', j⟩ := y
                      obtain ⟨k', hfit', rfl, rfl⟩ := hR
                      have hj := (innerF_bound hr).2
                      simp only at hx
                      ((try refine W.a ?_); simp only [go_sem, seval, reduceCtorEq, hS' hb, madeV, wrongV])
                      cases hby' : m'.by_ with
                      | none =>
                        rw [hby'] at hx
                        have hz' := byC_none hby'
                        apply W.dreg
                        case hc => ((apply Canon.advCO; simp only [advCO_nil, advCO_cons, cG_yes, cG_no, cS_some, cS_loud, go_sem, seval, reduceCtorEq]); (apply Canon.call (wrong_ok w0 0 0 _); (case hg => rfl); (case hf => rfl); (case ha => first | rfl | simp)); (apply Canon.advCO; simp only [advCO_nil, advCO_cons, cG_yes, cG_no, cS_some, cS_loud, go_sem, seval, reduceCtorEq, hz']); exact Canon.nil)
                        ((try refine W.a ?_); simp only [go_sem, seval, reduceCtorEq])
                        refine W.no rfl ?_
                        ((try refine W.a ?_); simp only [go_sem, seval, reduceCtorEq])
                        refine W.frz 12 (by rfl) (by simp only [go_sem, seval, reduceCtorEq]; rfl) (by rfl) ?_
                        ((try refine W.a ?_); simp only [go_sem, seval, reduceCtorEq])
                        apply W.dregE (List.cons_ne_nil _ _)
                        case hc =>
                          (apply CanonE.advPO; simp only [go_sem, seval, reduceCtorEq])
                          (apply CanonE.call (read_apply w0 o (tokL t i').pos m.p m'.p _); (case hg => rfl); (case hf => rfl); (case ha => first | rfl | simp))
                          (apply CanonE.advPO; simp only [go_sem, seval, reduceCtorEq])
                          exact CanonE.nil
                        ((try refine W.a ?_); simp only [go_sem, seval, reduceCtorEq])
                        refine .inv ⟨⟨g', ⟨applyL o (tokL t i').pos m.p m'.p, some (o, (tokL t i').pos)⟩, tokL t i', j, 0, 0⟩, .inl ⟨rfl, rfl, hx, hj, Nat.le_of_succ_le hg, fun o p h => by injection h with h; injection h⟩, by simp [], ?_⟩
                        simp only [go_sem, seval, reduceCtorEq, madeV, byC]
                        (refine Lew.cutL (rdr_ok hok b l t j) ?_ (by simp) (by simp) ?_ ?_ ?_; exact lee_here; ((try simp only [okB, wkB, go_sem, seval, reduceCtorEq]) <;> omega); (simp only [List.length_cons, List.length_nil, Nat.reduceAdd, List.take_succ_cons, List.take_zero, wkB, and_true]; (repeat' (refine And.intro ?_ ?_)) <;> (first | exact Blk.wk.rfl _ | exact Blk.wk.gone _ | (refine Blk.wk_cells ?_ rfl; (exact wk_here)))); (repeat' (first | exact LowE.base _ | (refine LowE.put ?_ (by first | exact .c _ | ((try simp only [okB, wkB, go_sem, seval, reduceCtorEq]) <;> omega))))))
                      | some y =>
                        obtain ⟨o2, p2⟩ := y
                        rw [hby'] at hx
                        simp only at hx
                        have hz' := byC_some hby'
                        cases hb2 : besideL o o2 2
                        · rw [if_neg (by rw [hb2]; decide)] at hx
                          injection hx with hx
                          subst hx
                          have hpk := hfit' _ _ hby'
                          apply W.dreg
                          case hc => ((apply Canon.advCO; simp only [advCO_nil, advCO_cons, cG_yes, cG_no, cS_some, cS_loud, go_sem, seval, reduceCtorEq]); (apply Canon.call (wrong_ok w0 0 0 _); (case hg => rfl); (case hf => rfl); (case ha => first | rfl | simp)); (apply Canon.advCO; simp only [advCO_nil, advCO_cons, cG_yes, cG_no, cS_some, cS_loud, go_sem, seval, reduceCtorEq, hz']); (apply Canon.call (ops_Right w0 o o2 _); (case hg => rfl); (case hf => rfl); (case ha => first | rfl | simp)); (apply Canon.advCO; simp only [advCO_nil, advCO_cons, cG_yes, cG_no, cS_some, cS_loud, go_sem, seval, reduceCtorEq, hb2]); exact Canon.nil)
                          ((try refine W.a ?_); simp only [go_sem, seval, reduceCtorEq])
                          refine W.yes rfl ?_
                          ((try refine W.a ?_); simp only [go_sem, seval, reduceCtorEq])
                          refine W.frz 12 (by rfl) (by simp only [go_sem, seval, reduceCtorEq]; rfl) (by rfl) ?_
                          ((try refine W.a ?_); simp only [go_sem, seval, reduceCtorEq])
                          apply W.dregE (List.cons_ne_nil _ _)
                          case hc =>
                            (apply CanonE.advPO; simp only [go_sem, seval, reduceCtorEq])
                            (apply CanonE.call (read_apply w0 o (tokL t i').pos m.p m'.p _); (case hg => rfl); (case hf => rfl); (case ha => first | rfl | simp))
                            (apply CanonE.advPO; simp only [go_sem, seval, reduceCtorEq])
                            exact CanonE.nil
                          ((try refine W.a ?_); simp only [go_sem, seval, reduceCtorEq])
                          refine .inv ⟨⟨0, ⟨applyL o (tokL t i').pos m.p m'.p, some (o, (tokL t i').pos)⟩, tokL t i', j, 32, p2⟩, .inr ⟨rfl, rfl⟩, by simp [], ?_⟩
                          simp only [go_sem, seval, reduceCtorEq, madeV, byC, hpk]
                          (refine Lew.cutL (rdr_ok hok b l t j) ?_ (by simp) (by simp) ?_ ?_ ?_; exact lee_here; ((try simp only [okB, wkB, go_sem, seval, reduceCtorEq]) <;> omega); (simp only [List.length_cons, List.length_nil, Nat.reduceAdd, List.take_succ_cons, List.take_zero, wkB, and_true]; (repeat' (refine And.intro ?_ ?_)) <;> (first | exact Blk.wk.rfl _ | exact Blk.wk.gone _ | (refine Blk.wk_cells ?_ rfl; (exact wk_here)))); (repeat' (first | exact LowE.base _ | (refine LowE.put ?_ (by first | exact .c _ | ((try simp only [okB, wkB, go_sem, seval, reduceCtorEq]) <;> omega))))))
                        · rw [if_pos hb2] at hx
                          apply W.dreg
                          case hc => ((apply Canon.advCO; simp only [advCO_nil, advCO_cons, cG_yes, cG_no, cS_some, cS_loud, go_sem, seval, reduceCtorEq]); (apply Canon.call (wrong_ok w0 0 0 _); (case hg => rfl); (case hf => rfl); (case ha => first | rfl | simp)); (apply Canon.advCO; simp only [advCO_nil, advCO_cons, cG_yes, cG_no, cS_some, cS_loud, go_sem, seval, reduceCtorEq, hz']); (apply Canon.call (ops_Right w0 o o2 _); (case hg => rfl); (case hf => rfl); (case ha => first | rfl | simp)); (apply Canon.advCO; simp only [advCO_nil, advCO_cons, cG_yes, cG_no, cS_some, cS_loud, go_sem, seval, reduceCtorEq, hb2]); exact Canon.nil)
                          ((try refine W.a ?_); simp only [go_sem, seval, reduceCtorEq])
                          refine W.no rfl ?_
                          ((try refine W.a ?_); simp only [go_sem, seval, reduceCtorEq])
                          refine W.frz 12 (by rfl) (by simp only [go_sem, seval, reduceCtorEq]; rfl) (by rfl) ?_
                          ((try refine W.a ?_); simp only [go_sem, seval, reduceCtorEq])
                          apply W.dregE (List.cons_ne_nil _ _)
                          case hc =>
                            (apply CanonE.advPO; simp only [go_sem, seval, reduceCtorEq])
                            (apply CanonE.call (read_apply w0 o (tokL t i').pos m.p m'.p _); (case hg => rfl); (case hf => rfl); (case ha => first | rfl | simp))
                            (apply CanonE.advPO; simp only [go_sem, seval, reduceCtorEq])
                            exact CanonE.nil
                          ((try refine W.a ?_); simp only [go_sem, seval, reduceCtorEq])
                          refine .inv ⟨⟨g', ⟨applyL o (tokL t i').pos m.p m'.p, some (o, (tokL t i').pos)⟩, tokL t i', j, 0, 0⟩, .inl ⟨rfl, rfl, hx, hj, Nat.le_of_succ_le hg, fun o p h => by injection h with h; injection h⟩, by simp [], ?_⟩
                          simp only [go_sem, seval, reduceCtorEq, madeV, byC]
                          (refine Lew.cutL (rdr_ok hok b l t j) ?_ (by simp) (by simp) ?_ ?_ ?_; exact lee_here; ((try simp only [okB, wkB, go_sem, seval, reduceCtorEq]) <;> omega); (simp only [List.length_cons, List.length_nil, Nat.reduceAdd, List.take_succ_cons, List.take_zero, wkB, and_true]; (repeat' (refine And.intro ?_ ?_)) <;> (first | exact Blk.wk.rfl _ | exact Blk.wk.gone _ | (refine Blk.wk_cells ?_ rfl; (exact wk_here)))); (repeat' (first | exact LowE.base _ | (refine LowE.put ?_ (by first | exact .c _ | ((try simp only [okB, wkB, go_sem, seval, reduceCtorEq]) <;> omega))))))
            · rw [if_pos hcl] at hx
              injection hx with hx
              subst hx
              cases hby : m.by_ with
              | none => rw [clash_none hby] at hcl; cases hcl
              | some y =>
                obtain ⟨o', p'⟩ := y
                rw [clash_some hby] at hcl
                have hbes : besideL o o' 1 = false := by simpa using hcl
                apply W.dreg
                case hc =>
                  (apply Canon.advCO; simp only [advCO_nil, advCO_cons, cG_yes, cG_no, cS_some, cS_loud, go_sem, seval, reduceCtorEq, byC_some hby])
                  (apply Canon.call (ops_Left w0 o o' _); (case hg => rfl); (case hf => rfl); (case ha => first | rfl | simp))
                  (apply Canon.advCO; simp only [advCO_nil, advCO_cons, cG_yes, cG_no, cS_some, cS_loud, go_sem, seval, reduceCtorEq, hbes])
                  exact Canon.nil
                ((try refine W.a ?_); simp only [go_sem, seval, reduceCtorEq])
                refine W.yes rfl ?_
                ((try refine W.a ?_); simp only [go_sem, seval, reduceCtorEq])
                (apply W.dregE (List.cons_ne_nil _ _); case hc => ((apply CanonE.advPO; simp only [go_sem, seval, reduceCtorEq]); exact CanonE.nil))
                ((try refine W.a ?_); simp only [go_sem, seval, reduceCtorEq])
                (refine W.fg (rdr_ok hok b l t i') (d := .tup [madeV ⟨Pre.none, none⟩ Tok.zero, wrongV 32 (tokL t i').pos]) (by simp only [r112, go_sem, seval, reduceCtorEq, madeV, wrongV, byC, Pre.none, Tok.zero]; rfl) (by simp only [resV, go_sem, seval, reduceCtorEq, madeV, wrongV, byC, Pre.none, Tok.zero]; exact wk_here) ?_ (hl := by (first | exact .c _ | (simp only [go_sem, seval, reduceCtorEq, madeV, wrongV, byC, Pre.none, Tok.zero]; done))))
                exact ⟨rfl, ⟨Pre.none, none⟩, Tok.zero, i', rfl, rfl⟩
      · ((try refine W.a ?_); simp only [go_sem, seval, reduceCtorEq, madeV])
        (refine W.c1 (wrong_ok w0 e pos _) ?_; simp only [go_sem, seval, reduceCtorEq, he])
        refine W.no rfl ?_
        ((try refine W.a ?_); simp only [go_sem, seval, reduceCtorEq])
        (apply W.dregE (List.cons_ne_nil _ _); case hc => ((apply CanonE.advPO; simp only [go_sem, seval, reduceCtorEq]); exact CanonE.nil))
        ((try refine W.a ?_); simp only [go_sem, seval, reduceCtorEq])
        (refine W.fg (rdr_ok hok b l t i') (d := .tup [madeV m k, wrongV e pos]) (by simp only [r112, go_sem, seval, reduceCtorEq, madeV, wrongV]; rfl) (by simp only [resV, go_sem, seval, reduceCtorEq, madeV, wrongV]; exact wk_here) ?_ (hl := by (first | exact .c _ | (simp only [go_sem, seval, reduceCtorEq, madeV, wrongV]; done))))
        exact ⟨he, m, k, i', rfl, rfl⟩
end
section

theorem read_all (w0 : World) : ∀ f, (∀ g, g ≤ f → AtomOK w0 g) ∧ (∀ g, g ≤ f → ExprOK w0 g)
  | 0 => ⟨fun g hg => by
      have : g = 0 := by omega
      subst this
      intro l t depth i r σ b h
      simp [atomF] at h, fun g hg => by
      have : g = 0 := by omega
      subst this
      intro l t least depth i r σ b h
      simp [exprF] at h⟩
  | f + 1 => by
    obtain ⟨h1, h2⟩ := read_all w0 f
    refine ⟨fun g hg => ?_, fun g hg => ?_⟩
    · rcases Nat.lt_or_ge f g with h | h
      · have : g = f + 1 := by omega
        subst this
        exact read_atom (h2 f (Nat.le_refl f))
      · exact h1 g h
    · rcases Nat.lt_or_ge f g with h | h
      · have : g = f + 1 := by omega
        subst this
        exact read_expr h1 h2
      · exact h2 g h
/-- What Read hands back. -/
def readV (from_ : Nat) : Except Bad (Made × Nat) → V
  | .ok (m, j) => .tup [m.p.v, I j, I 0, I 0]
  | .error b => .tup [Pre.none.v, I from_, I b.e, I b.pos]
theorem read_Read (w0 : World) (l : List OpT) (t : List Tok) (i : Nat) (r : Except Bad (Made × Nat)) (σ : H) (h : Lamb.Expr l t 0 0 i r) (hi : i ≤ t.length) (ht : t.length ≤ 1000000) :
    DC Tryz.prog w0 91 [.c (opsC l), .c (toksC t), I i] σ (Same (readV i r) σ) := by
  obtain ⟨f, h⟩ := h
  refine k91.go rfl (fun hok hsz => ?_)
  ((try refine W.a ?_); simp only [go_sem, seval, reduceCtorEq, c91])
  (refine W.call ((read_all w0 f).2 f (Nat.le_refl f) l t 0 0 i r _ (σ.length + 1) h (hget σ _ 1) hi ht (by omega)) rfl rfl (by first | rfl | simp) ?_)
  intro v σ1 hR
  cases r with
  | ok x =>
    obtain ⟨m, j⟩ := x
    obtain ⟨k, hk, rfl, rfl⟩ := hR
    ((try refine W.a ?_); simp only [go_sem, seval, reduceCtorEq, madeV, wrongV])
    (refine W.c1 (wrong_ok w0 0 0 _) ?_; simp only [go_sem, seval, reduceCtorEq])
    refine W.no rfl ?_
    ((try refine W.a ?_); simp only [go_sem, seval, reduceCtorEq])
    (apply W.dregE (List.cons_ne_nil _ _); case hc => ((apply CanonE.advPO; simp only [go_sem, seval, reduceCtorEq, rdr]); exact CanonE.nil))
    ((try refine W.a ?_); simp only [go_sem, seval, reduceCtorEq])
    (refine W.fs (hok) (by simp only [r91, go_sem, seval, reduceCtorEq, readV]; rfl) ?_ (hl := by (first | exact .c _ | (simp only [go_sem, seval, reduceCtorEq, readV]; done))); simp only [resV, readV]; try exact V.wk.rfl _)
    (all_goals exact wk_here)
  | error x =>
    obtain ⟨he, m, k, j, rfl, rfl⟩ := hR
    ((try refine W.a ?_); simp only [go_sem, seval, reduceCtorEq, madeV, wrongV])
    (refine W.c1 (wrong_ok w0 x.e x.pos _) ?_; simp only [go_sem, seval, reduceCtorEq, he])
    refine W.yes rfl ?_
    ((try refine W.a ?_); simp only [go_sem, seval, reduceCtorEq])
    (apply W.dregE (List.cons_ne_nil _ _); case hc => ((apply CanonE.advPO; simp only [go_sem, seval, reduceCtorEq]); exact CanonE.nil))
    ((try refine W.a ?_); simp only [go_sem, seval, reduceCtorEq])
    (refine W.fs (hok) (by simp only [r91, go_sem, seval, reduceCtorEq, readV, Pre.none]; rfl) ?_ (hl := by (first | exact .c _ | (simp only [go_sem, seval, reduceCtorEq, readV, Pre.none]; done))); simp only [resV, readV, Pre.none]; try exact V.wk.rfl _)
    (all_goals exact wk_here)
end
section
attribute [local go_sem] strsC sdX rz_len rz_g0 rz_g rz_s0 rz_s rz_sb

def RSen (t : List Tok) (σ : H) (b : Nat) (r : SoR) : V → H → Prop := fun d σ' => match r with
  | .ok (s, j, l') => d = s.v ∧ σ' = srd σ b t (j : Nat) l' 0 0
  | .error x => (x.e == 0) = false ∧ ∃ (s : Sent) (j : Int) (l' : List OpT), d = s.v ∧ σ' = srd σ b t j l' x.e x.pos
/-- What a kind's sentence is ahead of its dot. -/
def kindP (t : List Tok) (i : Nat) (l : List OpT) : SoR := match namesS t false i [] with
  | .error b => .error b
  | .ok (ns, j) => match kindS t j 0 with
    | .error b => .error b
    | .ok (n, k) => .ok (⟨0, ns.map (·.text), n, .none, .zero, .none, 0⟩, k, l)
def sent0 (k : Int) (names : List Str) (n : Int) : Sent := ⟨k, names, n, .none, .zero, .none, 0⟩
theorem sent0_v (k : Int) (names : List Str) (n : Int) : (sent0 k names n).v = .agg [I k, .c (strsC names), I n, I 0, S [], I 0, .c (.sl []), S [], I 0, I 0, I 0, S [], I 0, .c (.sl []), I 0, I 0] := rfl
theorem sr_names1 (w0 : World) (t : List Tok) (hT : TEnd t) (i : Nat) (hi : i ≤ t.length) (l : List OpT) (σ : H) (b : Nat) (D : b < σ.length) :
    DC Tryz.prog w0 86 [.ptr b 0, .csl [[.int .i64 1]]] (srd σ b t i l 0 0) (RNames t l σ b (namesS t false i [])) :=
  (sr_names w0 t hT false i hi l σ b D).weakA (wk_agg_cons (.rfl _) (wk_agg_cons (.csl _) wk_agg_nil))
theorem sr_names2 (w0 : World) (t : List Tok) (hT : TEnd t) (i : Nat) (hi : i ≤ t.length) (l : List OpT) (σ : H) (b : Nat) (D : b < σ.length) :
    DC Tryz.prog w0 86 [.ptr b 0, .csl [[.int .i64 1], [.int .i64 4]]] (srd σ b t i l 0 0) (RNames t l σ b (namesS t true i [])) :=
  (sr_names w0 t hT true i hi l σ b D).weakA (wk_agg_cons (.rfl _) (wk_agg_cons (.csl _) wk_agg_nil))
theorem namesS_len {t : List Tok} {s : Bool} {i : Nat} {acc ns : List Tok} {j : Nat} (h : namesS t s i acc = .ok (ns, j)) : ns.length + i ≤ acc.length + j := by
  have key : ∀ (n i : Nat) (acc : List Tok), t.length - i ≤ n → namesS t s i acc = .ok (ns, j) → ns.length + i ≤ acc.length + j := by
    intro n
    induction n using Nat.strongRecOn with
    | ind n ih =>
      intro i acc hn h
      rw [namesS_eq] at h
      split at h
      · rename_i h1
        have hi : i < t.length := tokL_lt fun e => by rw [nameHere, e] at h1; simp at h1
        split at h
        · have := ih (t.length - (i + 2)) (by omega) (i + 2) _ (Nat.le_refl _) h
          simp at this
          omega
        · injection h with h; injection h with h1 h2
          rw [← h1, ← h2]
          simp
          omega
      · cases h
  exact key _ i acc (Nat.le_refl _) h
theorem names_out {t : List Tok} {l : List OpT} {σ : H} {b : Nat} {s : Bool} {i : Nat} {d : V} {σ' : H} (hT : TEnd t) (hi : i ≤ t.length) (hR : RNames t l σ b (namesS t s i []) d σ') :
    ∃ (ns : List Tok) (j : Nat) (e p : Int), ns.length ≤ 1000000 ∧ j ≤ 1000000 ∧ d = .c (toksC ns) ∧ σ' = srd σ b t (j : Nat) l e p ∧ ((e = 0 ∧ p = 0 ∧ j ≤ t.length ∧ namesS t s i [] = .ok (ns, j)) ∨ ((e == 0) = false ∧ namesS t s i [] = .error ⟨e, p⟩)) := by
  have hle := hT.le
  cases hn : namesS t s i [] with
  | ok y =>
    obtain ⟨ns, j⟩ := y
    rw [hn] at hR
    obtain ⟨rfl, rfl⟩ := hR
    have hj := namesS_far _ _ _ _ _ (Nat.le_refl _) hn
    have hnl := namesS_len hn
    simp only [List.length_nil] at hnl
    exact ⟨ns, j, 0, 0, by omega, by omega, rfl, rfl, .inl ⟨rfl, rfl, hj.2, rfl⟩⟩
  | error y =>
    rw [hn] at hR
    obtain ⟨he, ns, j, hnl, hjl, rfl, rfl⟩ := hR
    exact ⟨ns, j, y.e, y.pos, hnl, hjl, rfl, rfl, .inr ⟨he, rfl⟩⟩
def zeroB : Blk := .cells [I 0, .csl [], I 0, I 0, S [], I 0, .csl [], S [], I 0, I 0, I 0, S [], I 0, .csl [], I 0, I 0]
attribute [local go_sem] zeroB
structure KindSt where
  n : Nat
  i : Nat
  e : Int
  p : Int
theorem sr_kind (w0 : World) (t : List Tok) (hT : TEnd t) (i : Nat) (hi : i ≤ t.length) (l : List OpT) (σ : H) (b : Nat) (D : b < σ.length) :
    DC Tryz.prog w0 48 [.ptr b 0] (srd σ b t i l 0 0) (RSen t σ b (kindP t i l)) := by
  refine k48.go rfl (fun hok hsz => ?_)
  have hle := hT.le
  generalize hr : kindP t i l = r
  unfold kindP at hr
  ((try refine W.a ?_); simp only [go_sem, seval, reduceCtorEq, c48, rzA D])
  (refine W.call (DC.lift1R D (fun D' => sr_names1 w0 t hT i hi l _ b D')) rfl rfl (by first | rfl | simp) ?_)
  intro d σ1 hR
  obtain ⟨ns, i0, ee, pp, hnl, hi0, rfl, rfl, hst0⟩ := names_out hT hi hR
  ((try refine W.a ?_); simp only [go_sem, seval, reduceCtorEq, rzA D])
  (refine W.c1 (source_texts w0 ns hnl _) ?_; simp only [go_sem, seval, reduceCtorEq, rzA D])
  refine W.loopP (fun x : KindSt => x.n ≤ x.i ∧ x.i ≤ 1000004 ∧ ((x.e = 0 ∧ x.p = 0 ∧ x.i ≤ t.length ∧ r = (match kindS t x.i x.n with
      | .error b => .error b
      | .ok (n, k) => .ok (⟨0, ns.map (·.text), n, .none, .zero, .none, 0⟩, k, l))) ∨ ((x.e == 0) = false ∧ r = .error ⟨x.e, x.p⟩)))
    (fun x => ⟨(((base.put (some 0) (.ptr b 0)).put (some 2) (.ptr σ.length 0)).put (some 3) (.ptr (σ.length + 1) 0)), srd σ b t (x.i : Nat) l x.e x.p ++ [zeroB, .cells [I 0, .c (strsC (ns.map (·.text))), I x.n, I 0, S [], I 0, .csl [], S [], I 0, I 0, I 0, S [], I 0, .csl [], I 0, I 0]]⟩) (fun x => 2000000 - x.i) ⟨0, i0, ee, pp⟩ ?_ ?_ (fun x hx => ?_)
  · refine ⟨Nat.zero_le _, by show i0 ≤ 1000004; omega, ?_⟩
    rcases hst0 with ⟨h1, h2, h3, h4⟩ | ⟨h1, h2⟩
    · left
      rw [h4] at hr
      exact ⟨h1, h2, h3, hr.symm⟩
    · right
      rw [h2] at hr
      exact ⟨h1, hr.symm⟩
  · (refine Lew.env ?_; exact lee_here)
  · obtain ⟨n, j, e, p⟩ := x
    obtain ⟨hnj, hj4, hst⟩ := hx
    simp only at hnj hj4 hst
    rcases hst with ⟨rfl, rfl, hjl, hr'⟩ | ⟨he, hr'⟩
    · have hwn : IntKind.i64.wrap ((n : Int) + 1) = ((n + 1 : Nat) : Int) := by rw [wrap_in] <;> omega
      have ht1 : isHere 1 [116, 121, 112, 101] (tokL t j) = typeHere (tokL t j) := rfl
      have ha1 : ∀ x, isHere 4 [45, 62] x = arrowHere x := fun _ => rfl
      rw [kindS_eq] at hr'
      ((try refine W.a ?_); simp only [go_sem, seval, reduceCtorEq, rzA D])
      refine W.yes rfl ?_
      ((try refine W.a ?_); simp only [go_sem, seval, reduceCtorEq, rzA D])
      (refine W.c1 (DC.lift1 D (fun D' => sr_tok w0 t hT j (by omega) l 0 0 _ b D')) ?_; simp only [go_sem, seval, reduceCtorEq, rzA D])
      cases hty : typeHere (tokL t j)
      · rw [hty, if_neg (by decide)] at hr'
        have harr : arrowHere (tokL t j) = true → j < t.length := fun h => tokL_lt fun e => by rw [arrowHere, e] at h; simp at h
        (refine W.c1 (DC.lift1 D (fun D' => sr_is w0 t hT j (by omega) l 0 0 1 [116, 121, 112, 101] _ b D')) ?_; simp only [go_sem, seval, reduceCtorEq, rzA D, ht1, hty])
        refine W.yes rfl ?_
        ((try refine W.a ?_); simp only [go_sem, seval, reduceCtorEq, rzA D])
        (refine W.c1 (DC.lift1 D (fun D' => sr_fail w0 t j l 0 0 100 (tokL t j).pos _ b D')) ?_; simp only [go_sem, seval, reduceCtorEq, rzA D])
        cases har : arrowHere (tokL t j)
        · (refine W.c1 (DC.lift1 D (fun D' => sr_is w0 t hT j (by omega) l 100 (tokL t j).pos 4 [45, 62] _ b D')) ?_; simp only [go_sem, seval, reduceCtorEq, rzA D, ha1, har])
          refine W.yes rfl ?_
          ((try refine W.a ?_); simp only [go_sem, seval, reduceCtorEq, rzA D])
          subst hr'
          (refine W.fg (srd_ok D hok t (j : Nat) l 100 (tokL t j).pos) (d := (sent0 0 (ns.map (·.text)) n).v) (by simp only [r48, go_sem, seval, reduceCtorEq, sent0_v, strsC]; rfl) (by simp only [resV, go_sem, seval, reduceCtorEq, sent0_v, strsC]; exact wk_here) ?_ (hl := by (first | exact .c _ | (simp only [go_sem, seval, reduceCtorEq, sent0_v, strsC]; done))))
          exact ⟨rfl, _, _, _, rfl, rfl⟩
        · have := harr har
          (refine W.c1 (DC.lift1 D (fun D' => sr_is w0 t hT j (by omega) l 100 (tokL t j).pos 4 [45, 62] _ b D')) ?_; simp only [go_sem, seval, reduceCtorEq, rzA D, ha1, har])
          refine W.no rfl ?_
          ((try refine W.a ?_); simp only [go_sem, seval, reduceCtorEq, rzA D, hwn])
          refine .inv ⟨⟨n + 1, j + 1, 100, (tokL t j).pos⟩, ⟨by show n + 1 ≤ j + 1; omega, by show j + 1 ≤ 1000004; omega, .inr ⟨rfl, hr'⟩⟩, by simp only; omega, ?_⟩
          (refine Lew.cutL (srd_ok D hok t ((j + 1 : Nat) : Int) l 100 (tokL t j).pos) ?_ (by simp) (by simp) ?_ ?_ ?_; exact lee_here; ((try simp only [okB, wkB, go_sem, seval, reduceCtorEq, rz_len]) <;> omega); (simp only [List.length_cons, List.length_nil, Nat.reduceAdd, List.take_succ_cons, List.take_zero, wkB, and_true]; (repeat' (refine And.intro ?_ ?_)) <;> (first | exact Blk.wk.rfl _ | exact Blk.wk.gone _ | (refine Blk.wk_cells ?_ rfl; (exact wk_here)))); (repeat' (first | exact LowE.base _ | (refine LowE.put ?_ (by first | exact .c _ | ((try simp only [okB, wkB, go_sem, seval, reduceCtorEq, rz_len]) <;> omega))))))
      · rw [hty, if_pos rfl] at hr'
        have hjt : j < t.length := tokL_lt fun e => by rw [typeHere, e] at hty; simp at hty
        (refine W.c1 (DC.lift1 D (fun D' => sr_is w0 t hT j (by omega) l 0 0 1 [116, 121, 112, 101] _ b D')) ?_; simp only [go_sem, seval, reduceCtorEq, rzA D, ht1, hty, if_true])
        refine W.no rfl ?_
        ((try refine W.a ?_); simp only [go_sem, seval, reduceCtorEq, rzA D])
        cases har : arrowHere (tokL t (j + 1))
        · rw [har, if_neg (by decide)] at hr'
          subst hr'
          (refine W.c1 (DC.lift1 D (fun D' => sr_is w0 t hT (j + 1) (by omega) l 0 0 4 [45, 62] _ b D')) ?_; simp only [go_sem, seval, reduceCtorEq, rzA D, ha1, har])
          refine W.yes rfl ?_
          ((try refine W.a ?_); simp only [go_sem, seval, reduceCtorEq, rzA D])
          (refine W.fg (srd_ok D hok t ((j + 1 : Nat) : Int) l 0 0) (d := (sent0 0 (ns.map (·.text)) n).v) (by simp only [r48, go_sem, seval, reduceCtorEq, sent0_v, strsC]; rfl) (by simp only [resV, go_sem, seval, reduceCtorEq, sent0_v, strsC]; exact wk_here) ?_ (hl := by (first | exact .c _ | (simp only [go_sem, seval, reduceCtorEq, sent0_v, strsC]; done))))
          exact ⟨rfl, rfl⟩
        · rw [har, if_pos rfl] at hr'
          have hjt2 : j + 1 < t.length := tokL_lt fun e => by rw [arrowHere, e] at har; simp at har
          (refine W.c1 (DC.lift1 D (fun D' => sr_is w0 t hT (j + 1) (by omega) l 0 0 4 [45, 62] _ b D')) ?_; simp only [go_sem, seval, reduceCtorEq, rzA D, ha1, har, if_true])
          refine W.no rfl ?_
          ((try refine W.a ?_); simp only [go_sem, seval, reduceCtorEq, rzA D, hwn])
          refine .inv ⟨⟨n + 1, j + 2, 0, 0⟩, ⟨by show n + 1 ≤ j + 2; omega, by show j + 2 ≤ 1000004; omega, .inl ⟨rfl, rfl, by show j + 2 ≤ t.length; omega, hr'⟩⟩, by simp only; omega, ?_⟩
          (refine Lew.cutL (srd_ok D hok t ((j + 2 : Nat) : Int) l 0 0) ?_ (by simp) (by simp) ?_ ?_ ?_; exact lee_here; ((try simp only [okB, wkB, go_sem, seval, reduceCtorEq, rz_len]) <;> omega); (simp only [List.length_cons, List.length_nil, Nat.reduceAdd, List.take_succ_cons, List.take_zero, wkB, and_true]; (repeat' (refine And.intro ?_ ?_)) <;> (first | exact Blk.wk.rfl _ | exact Blk.wk.gone _ | (refine Blk.wk_cells ?_ rfl; (exact wk_here)))); (repeat' (first | exact LowE.base _ | (refine LowE.put ?_ (by first | exact .c _ | ((try simp only [okB, wkB, go_sem, seval, reduceCtorEq, rz_len]) <;> omega))))))
    · subst hr'
      ((try refine W.a ?_); simp only [go_sem, seval, reduceCtorEq, rzA D, he])
      refine W.no rfl ?_
      ((try refine W.a ?_); simp only [go_sem, seval, reduceCtorEq, rzA D])
      (refine W.fg (srd_ok D hok t (j : Nat) l e p) (d := (sent0 0 (ns.map (·.text)) n).v) (by simp only [r48, go_sem, seval, reduceCtorEq, sent0_v, strsC]; rfl) (by simp only [resV, go_sem, seval, reduceCtorEq, sent0_v, strsC]; exact wk_here) ?_ (hl := by (first | exact .c _ | (simp only [go_sem, seval, reduceCtorEq, sent0_v, strsC]; done))))
      exact ⟨he, _, _, _, rfl, rfl⟩
end
section
attribute [local go_sem] strsC sdX rz_len rz_g0 rz_g rz_s0 rz_s rz_sb zeroB Typ.v Typ.cs_eq tk_mk tname_mk tn_mk tl_mk tysC

theorem tyT_err {t : List Tok} {i : Nat} {x : Bad} (ht : t.length ≤ 1000000) (h : tyT t i = .error x) : (x.e == 0) = false := by
  obtain ⟨f, hf⟩ := tyT_is t i
  rw [h] at hf
  obtain ⟨o, _, hO⟩ := (ty_out f).2.2.2 _ _ _ _ _ ht hf
  exact hO.2.2
theorem sent_v (s : Sent) : s.v = .agg [I s.k, .c (strsC s.names), I s.n, I s.ty.k, S s.ty.name, I s.ty.n, .c (.sl (s.ty.l.map Typ.cs)), S s.op.name, I s.op.prec, I s.op.fix, I s.body.k, S s.body.name, I s.body.n, .c (.sl (s.body.l.map Pre.cs)), I s.body.pos, I s.pos] := rfl
noncomputable def typeP (t : List Tok) (i : Nat) (l : List OpT) : SoR := match namesS t true i [] with
  | .error b => .error b
  | .ok (ns, j) => match tyT t j with
    | .error b => .error b
    | .ok (u, k, _) => .ok (⟨1, ns.map (·.text), 0, u, .zero, .none, 0⟩, k, l)
theorem sr_typed (w0 : World) (t : List Tok) (hT : TEnd t) (i : Nat) (hi : i ≤ t.length) (l : List OpT) (σ : H) (b : Nat) (D : b < σ.length) :
    DC Tryz.prog w0 49 [.ptr b 0] (srd σ b t i l 0 0) (RSen t σ b (typeP t i l)) := by
  refine k49.go rfl (fun hok hsz => ?_)
  have hle := hT.le
  generalize hr : typeP t i l = r
  unfold typeP at hr
  ((try refine W.a ?_); simp only [go_sem, seval, reduceCtorEq, c49, rzA D])
  (refine W.call (DC.lift1R D (fun D' => sr_names2 w0 t hT i hi l _ b D')) rfl rfl (by first | rfl | simp) ?_)
  intro d σ1 hR
  obtain ⟨ns, j, e, p, hnl, hjl, rfl, rfl, hst⟩ := names_out hT hi hR
  ((try refine W.a ?_); simp only [go_sem, seval, reduceCtorEq, rzA D])
  (refine W.c1 (source_texts w0 ns hnl _) ?_; simp only [go_sem, seval, reduceCtorEq, rzA D])
  rcases hst with ⟨rfl, rfl, hj, hn⟩ | ⟨he, hn⟩
  · rw [hn] at hr
    simp only at hr
    ((try refine W.a ?_); simp only [go_sem, seval, reduceCtorEq, rzA D])
    refine W.no rfl ?_
    ((try refine W.a ?_); simp only [go_sem, seval, reduceCtorEq, rzA D])
    cases hty : tyT t j with
    | error x =>
      rw [hty] at hr
      subst hr
      have hxe := tyT_err (by omega) hty
      have hxn : (x.e != 0) = true := by rw [bne, hxe]; rfl
      have hf : tyFrom t (j : Int) = .error x := by rw [tyFrom_nat hj, hty]
      apply W.dregE (List.cons_ne_nil _ _)
      case hc =>
        (apply CanonE.advPO; simp only [go_sem, seval, reduceCtorEq, rzA D])
        (apply CanonE.pcall (fun τ => ty_Read w0 t j (by omega) τ); (case hg => rfl); (case hf => rfl); (case ha => first | rfl | simp))
        (apply CanonE.advPO; simp only [go_sem, seval, reduceCtorEq, rzA D, hf, tyReadV, Typ.none])
        exact CanonE.nil
      ((try refine W.a ?_); simp only [go_sem, seval, reduceCtorEq, rzA D, hxn])
      refine W.yes rfl ?_
      ((try refine W.a ?_); simp only [go_sem, seval, reduceCtorEq, rzA D])
      (refine W.c1 (DC.lift1 D (fun D' => sr_fail w0 t j l 0 0 x.e x.pos _ b D')) ?_; simp only [go_sem, seval, reduceCtorEq, rzA D, if_true])
      (refine W.fg (srd_ok D hok t (j : Nat) l x.e x.pos) (d := (sent0 1 (ns.map (·.text)) 0).v) (by simp only [r49, go_sem, seval, reduceCtorEq, sent0_v, strsC]; rfl) (by simp only [resV, go_sem, seval, reduceCtorEq, sent0_v, strsC]; exact wk_here) ?_ (hl := by (first | exact .c _ | (simp only [go_sem, seval, reduceCtorEq, sent0_v, strsC]; done))))
      exact ⟨hxe, _, _, _, rfl, rfl⟩
    | ok x =>
      obtain ⟨u, k, ws⟩ := x
      rw [hty] at hr
      subst hr
      have hf : tyFrom t (j : Int) = .ok (u, k, ws) := by rw [tyFrom_nat hj, hty]
      apply W.dregE (List.cons_ne_nil _ _)
      case hc =>
        (apply CanonE.advPO; simp only [go_sem, seval, reduceCtorEq, rzA D])
        (apply CanonE.pcall (fun τ => ty_Read w0 t j (by omega) τ); (case hg => rfl); (case hf => rfl); (case ha => first | rfl | simp))
        (apply CanonE.advPO; simp only [go_sem, seval, reduceCtorEq, rzA D, hf, tyReadV])
        exact CanonE.nil
      ((try refine W.a ?_); simp only [go_sem, seval, reduceCtorEq, rzA D])
      refine W.no rfl ?_
      ((try refine W.a ?_); simp only [go_sem, seval, reduceCtorEq, rzA D])
      (refine W.fg (srd_ok D hok t (k : Nat) l 0 0) (d := (⟨1, ns.map (·.text), 0, u, .zero, .none, 0⟩ : Sent).v) (by simp only [r49, go_sem, seval, reduceCtorEq, sent_v, strsC, OpT.zero, Pre.none]; rfl) (by simp only [resV, go_sem, seval, reduceCtorEq, sent_v, strsC, OpT.zero, Pre.none]; exact wk_here) ?_ (hl := by (first | exact .c _ | (simp only [go_sem, seval, reduceCtorEq, sent_v, strsC, OpT.zero, Pre.none]; done))))
      exact ⟨rfl, rfl⟩
  · rw [hn] at hr
    subst hr
    have hb : (e != 0) = true := by rw [bne, he]; rfl
    ((try refine W.a ?_); simp only [go_sem, seval, reduceCtorEq, rzA D, hb])
    refine W.yes rfl ?_
    ((try refine W.a ?_); simp only [go_sem, seval, reduceCtorEq, rzA D])
    (refine W.fg (srd_ok D hok t (j : Nat) l e p) (d := (sent0 1 (ns.map (·.text)) 0).v) (by simp only [r49, go_sem, seval, reduceCtorEq, sent0_v, strsC]; rfl) (by simp only [resV, go_sem, seval, reduceCtorEq, sent0_v, strsC]; exact wk_here) ?_ (hl := by (first | exact .c _ | (simp only [go_sem, seval, reduceCtorEq, sent0_v, strsC]; done))))
    exact ⟨he, _, _, _, rfl, rfl⟩
theorem sr_end0 (w0 : World) (t : List Tok) (hT : TEnd t) (i : Nat) (hi : i ≤ 1000000) (l : List OpT) (σ : H) (b : Nat) (D : b < σ.length) :
    DC Tryz.prog w0 52 [.ptr b 0] (srd σ b t i l 0 0) (Same (.tup []) (srd σ b t ((i + 1 : Nat) : Int) l (if (tokL t i).kind = 7 then 0 else 101) (if (tokL t i).kind = 7 then 0 else (tokL t i).pos))) := by
  refine k52.go rfl (fun hok hsz => ?_)
  have hk : ([7] : List Int).contains (tokL t i).kind = decide ((tokL t i).kind = 7) := by
    simp only [List.contains_cons, List.contains_nil, Bool.or_false]
    rw [Bool.eq_iff_iff]; simp
  have hc := sr_take w0 t hT i hi l 0 0 101 [7] σ b D
  rw [hk] at hc
  simp only [decide_eq_true_eq, if_true] at hc
  ((try refine W.a ?_); simp only [go_sem, seval, reduceCtorEq, c52, rzA D])
  refine W.yes rfl ?_
  ((try refine W.a ?_); simp only [go_sem, seval, reduceCtorEq, rzA D])
  (refine W.c1w (hc) ?_; simp only [go_sem, seval, reduceCtorEq, rzA D])
  (refine W.done (Fin.sameW (srd_ok D hok t ((i + 1 : Nat) : Int) l (if (tokL t i).kind = 7 then 0 else 101) (if (tokL t i).kind = 7 then 0 else (tokL t i).pos)) (by (first | rfl | exact List.length_set .. | simp)) (by simp only [r52, go_sem, seval, reduceCtorEq]; rfl) ?_ (by (first | exact .c _ | (simp only [go_sem, seval, reduceCtorEq]; done))) (by (first | rfl | exact (List.append_nil _).symm))); simp only [resV]; try exact V.wk.rfl _)
theorem sr_end1 (w0 : World) (t : List Tok) (i : Int) (l : List OpT) (e p : Int) (he : (e == 0) = false) (σ : H) (b : Nat) (D : b < σ.length) :
    DC Tryz.prog w0 52 [.ptr b 0] (srd σ b t i l e p) (Same (.tup []) (srd σ b t i l e p)) := by
  refine k52.go rfl (fun hok hsz => ?_)
  ((try refine W.a ?_); simp only [go_sem, seval, reduceCtorEq, c52, rzA D, he])
  refine W.no rfl ?_
  ((try refine W.a ?_); simp only [go_sem, seval, reduceCtorEq, rzA D])
  (refine W.done (Fin.sameW (hok) (by (first | rfl | exact List.length_set .. | simp)) (by simp only [r52, go_sem, seval, reduceCtorEq]; rfl) ?_ (by (first | exact .c _ | (simp only [go_sem, seval, reduceCtorEq]; done))) (by (first | rfl | exact (List.append_nil _).symm))); simp only [resV]; try exact V.wk.rfl _)
noncomputable def clauseP (t : List Tok) (i : Nat) (l : List OpT) : SoR := match exprT l t i with
  | .error b => .error b
  | .ok (m, k) => .ok (⟨3, [], 0, .none, .zero, m.p, 0⟩, k, l)
theorem sr_clause (w0 : World) (t : List Tok) (hT : TEnd t) (i : Nat) (hi : i ≤ t.length) (l : List OpT) (σ : H) (b : Nat) (D : b < σ.length) :
    DC Tryz.prog w0 51 [.ptr b 0] (srd σ b t i l 0 0) (RSen t σ b (clauseP t i l)) := by
  refine k51.go rfl (fun hok hsz => ?_)
  have hle := hT.le
  generalize hr : clauseP t i l = r
  unfold clauseP at hr
  ((try refine W.a ?_); simp only [go_sem, seval, reduceCtorEq, c51, rzA D])
  have hE := exprT_is l t i
  cases hx : exprT l t i with
  | error x =>
    rw [hx] at hr hE
    subst hr
    have hxn := Lamb.Expr.err hE
    have hxe : (x.e == 0) = false := by rw [bne] at hxn; simpa using hxn
    apply W.dregE (List.cons_ne_nil _ _)
    case hc =>
      (apply CanonE.advPO; simp only [go_sem, seval, reduceCtorEq, rzA D])
      (apply CanonE.pcall (fun τ => read_Read w0 l t i _ τ hE hi (by omega)); (case hg => rfl); (case hf => rfl); (case ha => first | rfl | simp))
      (apply CanonE.advPO; simp only [go_sem, seval, reduceCtorEq, rzA D, readV, Pre.none])
      exact CanonE.nil
    ((try refine W.a ?_); simp only [go_sem, seval, reduceCtorEq, rzA D, hxn])
    refine W.yes rfl ?_
    ((try refine W.a ?_); simp only [go_sem, seval, reduceCtorEq, rzA D])
    (refine W.c1 (DC.lift1 D (fun D' => sr_fail w0 t i l 0 0 x.e x.pos _ b D')) ?_; simp only [go_sem, seval, reduceCtorEq, rzA D, if_true])
    (refine W.fg (srd_ok D hok t (i : Nat) l x.e x.pos) (d := (sent0 3 [] 0).v) (by simp only [r51, go_sem, seval, reduceCtorEq, sent0_v, strsC]; rfl) (by simp only [resV, go_sem, seval, reduceCtorEq, sent0_v, strsC]; exact wk_here) ?_ (hl := by (first | exact .c _ | (simp only [go_sem, seval, reduceCtorEq, sent0_v, strsC]; done))))
    exact ⟨hxe, _, _, _, rfl, rfl⟩
  | ok x =>
    obtain ⟨m, k⟩ := x
    rw [hx] at hr hE
    subst hr
    apply W.dregE (List.cons_ne_nil _ _)
    case hc =>
      (apply CanonE.advPO; simp only [go_sem, seval, reduceCtorEq, rzA D])
      (apply CanonE.pcall (fun τ => read_Read w0 l t i _ τ hE hi (by omega)); (case hg => rfl); (case hf => rfl); (case ha => first | rfl | simp))
      (apply CanonE.advPO; simp only [go_sem, seval, reduceCtorEq, rzA D, readV])
      exact CanonE.nil
    ((try refine W.a ?_); simp only [go_sem, seval, reduceCtorEq, rzA D])
    refine W.no rfl ?_
    ((try refine W.a ?_); simp only [go_sem, seval, reduceCtorEq, rzA D])
    (refine W.fg (srd_ok D hok t (k : Nat) l 0 0) (d := (⟨3, [], 0, .none, .zero, m.p, 0⟩ : Sent).v) (by simp only [r51, go_sem, seval, reduceCtorEq, sent_v, strsC, OpT.zero, Typ.none, tk_mk, tname_mk, tn_mk, tl_mk]; rfl) (by simp only [resV, go_sem, seval, reduceCtorEq, sent_v, strsC, OpT.zero, Typ.none, tk_mk, tname_mk, tn_mk, tl_mk]; exact wk_here) ?_ (hl := by (first | exact .c _ | (simp only [go_sem, seval, reduceCtorEq, sent_v, strsC, OpT.zero, Typ.none, tk_mk, tname_mk, tn_mk, tl_mk]; done))))
    exact ⟨rfl, rfl⟩
end
end Go.Proofs.YtapnncbenhkicaaGreatDoor
