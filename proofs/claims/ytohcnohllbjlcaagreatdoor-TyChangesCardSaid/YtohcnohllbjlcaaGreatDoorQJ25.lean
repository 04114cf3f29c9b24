/-
  The code of some functions, without addresses.
  Walks: types with greater variables, with others in their place, and numbered anew.
  Walks: the document's answer for types with greater variables, and with others in their place.
  Walks: numbers as texts; texts joined; a text in brackets.
  Walks: a type's text.
  Walks: the document's example of a type; which types are more than is looked at.
  Walks: the document's answer for types whose variables are numbered anew; the statement TyChanges.
-/
import Derived.Test.YtohcnohllbjlcaaGreatDoorChecked
import Derived.Test.YtohcnohllbjlcaaGreatDoorQJ9
import Derived.Test.YtohcnohllbjlcaaGreatDoorQJ24
import Derived.Test.YtohcnohllbjlcaaGreatDoorQLexG
import Derived.Test.YtohcnohllbjlcaaGreatDoorQTyA2
import Derived.Lib.ItoaLen
import Derived.Lib.Join
import Derived.Test.YtohcnohllbjlcaaGreatDoorQLxD
set_option linter.unusedSimpArgs false
set_option linter.unusedVariables false
set_option maxHeartbeats 8000000
set_option maxRecDepth 20000
namespace Go.Proofs.YtohcnohllbjlcaaGreatDoor
open Go.RowKit Go.Lamb
/-- ty.Norm -/
def c37 : AC :=
  .seq (.reg [.o 1 (.box (.t 0)), .o 2 (.box (.k (.agg [.c (.int .i64 0), .c (.str []), .c (.int .i64 0), .csl []])))])
  (.seq (.reg [.o 4 (.mkmap), .o 3 (.box (.k (.nilm))), .s 1 3 4])
  (.seq (.reg [.d 5 4 1, .o 6 (.mkfn 71 [(.t 3)]), .k 7 66 [(.t 5), (.t 6)], .s 4 2 7])
  (.ret)))
def r37 : List ResV := [.celln 4 2]
theorem k37 : CodeIs Tryz.prog 37 1 Tryz.f37 c37 r37 := ⟨by kernel_rfl, Tryz.func37, rfl, by kernel_rfl, by kernel_rfl, by decide, enters_fn Tryz.func37 (by kernel_rfl) rfl⟩
/-- ty.Norm$1 -/
def c71 : AC :=
  .seq (.reg [.o 3 (.box (.k (.agg [.c (.int .i64 0), .c (.str []), .c (.int .i64 0), .csl []])))])
  (.seq (.reg [.l 7 1, .m 8 0, .o 9 (.look true (.i .i64) (.int .i64 0) (.t 7) (.t 8)), .m 6 9, .x 10 6 0, .x 11 6 1, .m 4 10, .m 5 11])
  (.seq (.seq (.reg [.m 12 5, .o 13 (.un .not (.t 12))])
  (.cond (.t 13)
  (.seq (.reg [.l 14 1, .o 15 (.lenm (.t 14)), .m 4 15])
  (.reg [.l 16 1, .m 17 0, .m 18 4, ⟨none, .mupd (.i .i64) (.t 16) (.t 17) (.t 18), none⟩]))
  (.skip)))
  (.seq (.reg [.m 19 4, .k 20 68 [(.t 19)], .s 4 3 20])
  (.ret))))
def r71 : List ResV := [.celln 4 3]
theorem k71 : CodeIs Tryz.prog 71 2 Tryz.f71 c71 r71 := ⟨by kernel_rfl, Tryz.func71, rfl, by kernel_rfl, by kernel_rfl, by decide, enters_fn Tryz.func71 (by kernel_rfl) rfl⟩
/-- ty.Shift -/
def c33 : AC :=
  .seq (.reg [.o 2 (.box (.t 0)), .o 3 (.box (.t 1)), .o 4 (.box (.k (.agg [.c (.int .i64 0), .c (.str []), .c (.int .i64 0), .csl []])))])
  (.seq (.reg [.d 5 4 2, .o 6 (.mkfn 67 [(.t 3)]), .k 7 66 [(.t 5), (.t 6)], .s 4 4 7])
  (.ret))
def r33 : List ResV := [.celln 4 4]
theorem k33 : CodeIs Tryz.prog 33 2 Tryz.f33 c33 r33 := ⟨by kernel_rfl, Tryz.func33, rfl, by kernel_rfl, by kernel_rfl, by decide, enters_fn Tryz.func33 (by kernel_rfl) rfl⟩
/-- ty.Shift$1 -/
def c67 : AC :=
  .seq (.reg [.o 3 (.box (.k (.agg [.c (.int .i64 0), .c (.str []), .c (.int .i64 0), .csl []])))])
  (.seq (.reg [.m 4 0, .l 5 1, .o 6 (.bin .add (.t 4) (.t 5)), .k 7 68 [(.t 6)], .s 4 3 7])
  (.ret))
def r67 : List ResV := [.celln 4 3]
theorem k67 : CodeIs Tryz.prog 67 2 Tryz.f67 c67 r67 := ⟨by kernel_rfl, Tryz.func67, rfl, by kernel_rfl, by kernel_rfl, by decide, enters_fn Tryz.func67 (by kernel_rfl) rfl⟩
/-- ty.Apply -/
def c35 : AC :=
  .seq (.reg [.o 2 (.box (.t 0)), .o 3 (.box (.t 1)), .o 4 (.box (.k (.agg [.c (.int .i64 0), .c (.str []), .c (.int .i64 0), .csl []])))])
  (.seq (.reg [.d 5 4 3, .o 6 (.mkfn 70 [(.t 2)]), .k 7 66 [(.t 5), (.t 6)], .s 4 4 7])
  (.ret))
def r35 : List ResV := [.celln 4 4]
theorem k35 : CodeIs Tryz.prog 35 2 Tryz.f35 c35 r35 := ⟨by kernel_rfl, Tryz.func35, rfl, by kernel_rfl, by kernel_rfl, by decide, enters_fn Tryz.func35 (by kernel_rfl) rfl⟩
/-- ty.Apply$1 -/
def c70 : AC :=
  .seq (.reg [.o 3 (.box (.k (.agg [.c (.int .i64 0), .c (.str []), .c (.int .i64 0), .csl []])))])
  (.seq (.seq (.reg [.m 4 0, .o 5 (.bin .leq (.k (.c (.int .i64 0))) (.t 4)), .m 6 5, .y 7 (.mov (.t 0)) 6, .y 8 (.load1 (.t 1)) 6, .y 9 (.lenr (.t 8)) 6, .y 10 (.bin .lss (.t 7) (.t 9)) 6, .o 11 (.pick (.t 6) (.t 10) (.k (.c (.bool false))))])
  (.cond (.t 11)
  (.seq (.reg [.l 12 1, .m 13 0, .o 14 (.iadd 4 (.t 12) (.t 13)), .d 15 4 14, .s 4 3 15])
  (.ret))
  (.skip)))
  (.seq (.reg [.m 16 0, .k 17 68 [(.t 16)], .s 4 3 17])
  (.ret)))
def r70 : List ResV := [.celln 4 3]
theorem k70 : CodeIs Tryz.prog 70 2 Tryz.f70 c70 r70 := ⟨by kernel_rfl, Tryz.func70, rfl, by kernel_rfl, by kernel_rfl, by decide, enters_fn Tryz.func70 (by kernel_rfl) rfl⟩
/-- lambentref05.arrow -/
def c114 : AC :=
  .seq (.reg [.o 1 (.box (.t 0)), .o 2 (.mov (.k (.c (.bool false))))])
  (.seq (.reg [.f 3 0 1, .l 4 3, .o 5 (.bin .eql (.t 4) (.k (.c (.int .i64 2)))), .m 6 5, .y 7 (.fadd 3 (.t 1)) 6, .y 8 (.load1 (.t 7)) 6, .y 9 (.lenr (.t 8)) 6, .y 10 (.bin .eql (.t 9) (.k (.c (.int .i64 2)))) 6, .o 11 (.pick (.t 6) (.t 10) (.k (.c (.bool false)))), .m 2 11])
  (.ret))
def r114 : List ResV := [.tmp 2]
theorem k114 : CodeIs Tryz.prog 114 1 Tryz.f114 c114 r114 := ⟨by kernel_rfl, Tryz.func114, rfl, by kernel_rfl, by kernel_rfl, by decide, enters_fn Tryz.func114 (by kernel_rfl) rfl⟩
/-- lambentref05.with -/
def c69 : AC :=
  .seq (.reg [.o 2 (.box (.t 0)), .o 4 (.box (.k (.agg [.c (.int .i64 0), .c (.str []), .c (.int .i64 0), .csl []])))])
  (.seq (.seq (.reg [.d 5 4 2, .k 6 114 [(.t 5)]])
  (.cond (.t 6)
  (.seq (.reg [.m 7 1, .o 8 (.build [.c (.int .i64 0), .c (.str []), .c (.int .i64 0), .csl []] [(0, 1, (.k (.c (.int .i64 2)))), (3, 1, (.t 7))]), .s 4 4 8])
  (.ret))
  (.skip)))
  (.seq (.reg [.f 9 1 2, .l 10 9, .m 11 1, .o 12 (.build [.c (.int .i64 0), .c (.str []), .c (.int .i64 0), .csl []] [(0, 1, (.k (.c (.int .i64 0)))), (1, 1, (.t 10)), (3, 1, (.t 11))]), .s 4 4 12])
  (.ret)))
def r69 : List ResV := [.celln 4 4]
theorem k69 : CodeIs Tryz.prog 69 2 Tryz.f69 c69 r69 := ⟨by kernel_rfl, Tryz.func69, rfl, by kernel_rfl, by kernel_rfl, by decide, enters_fn Tryz.func69 (by kernel_rfl) rfl⟩
/-- lambentref05.Shift -/
def c34 : AC :=
  .seq (.reg [.o 2 (.box (.t 0)), .o 4 (.box (.k (.agg [.c (.int .i64 0), .c (.str []), .c (.int .i64 0), .csl []])))])
  (.seq (.seq (.reg [.f 7 0 2, .l 8 7, .o 9 (.bin .eql (.t 8) (.k (.c (.int .i64 1))))])
  (.cond (.t 9)
  (.seq (.reg [.f 10 2 2, .l 11 10, .m 12 1, .o 13 (.bin .add (.t 11) (.t 12)), .o 14 (.build [.c (.int .i64 0), .c (.str []), .c (.int .i64 0), .csl []] [(0, 1, (.k (.c (.int .i64 1)))), (2, 1, (.t 13))]), .s 4 4 14])
  (.ret))
  (.skip)))
  (.seq (.reg [.o 5 (.mov (.k (.csl [])))])
  (.seq (.seq (.reg [.o 6 (.mov (.k (.c (.int .i64 0))))])
  (.block 0 (.loop (.seq (.seq (.reg [.m 15 6, .f 16 3 2, .l 17 16, .o 18 (.lenr (.t 17)), .o 19 (.bin .lss (.t 15) (.t 18))])
  (.cond (.t 19)
  (.skip)
  (.exit 0)))
  (.seq (.block 1 (.reg [.m 22 5, .f 23 3 2, .l 24 23, .m 25 6, .o 26 (.iadd 4 (.t 24) (.t 25)), .d 27 4 26, .m 28 1, .k 29 34 [(.t 27), (.t 28)], .o 30 (.bsl 4 [(.t 29)]), .o 31 (.app 32 4 56 (.t 22) (.t 30)), .m 5 31]))
  (.reg [.m 20 6, .o 21 (.bin .add (.t 20) (.k (.c (.int .i64 1)))), .m 6 21]))))))
  (.seq (.reg [.d 32 4 2, .m 33 5, .k 34 69 [(.t 32), (.t 33)], .s 4 4 34])
  (.ret)))))
def r34 : List ResV := [.celln 4 4]
theorem k34 : CodeIs Tryz.prog 34 2 Tryz.f34 c34 r34 := ⟨by kernel_rfl, Tryz.func34, rfl, by kernel_rfl, by kernel_rfl, by decide, enters_fn Tryz.func34 (by kernel_rfl) rfl⟩
/-- lambentref05.Apply -/
def c36 : AC :=
  .seq (.reg [.o 3 (.box (.t 1)), .o 4 (.box (.k (.agg [.c (.int .i64 0), .c (.str []), .c (.int .i64 0), .csl []])))])
  (.seq (.seq (.reg [.f 7 0 3, .l 8 7, .o 9 (.bin .eql (.t 8) (.k (.c (.int .i64 1))))])
  (.cond (.t 9)
  (.seq (.seq (.reg [.f 10 2 3, .l 11 10, .o 12 (.bin .geq (.t 11) (.k (.c (.int .i64 0)))), .m 13 12, .y 14 (.fadd 2 (.t 3)) 13, .y 15 (.load1 (.t 14)) 13, .y 16 (.mov (.t 0)) 13, .y 17 (.lenr (.t 16)) 13, .y 18 (.bin .lss (.t 15) (.t 17)) 13, .o 19 (.pick (.t 13) (.t 18) (.k (.c (.bool false))))])
  (.cond (.t 19)
  (.seq (.reg [.m 20 0, .f 21 2 3, .l 22 21, .o 23 (.iadd 4 (.t 20) (.t 22)), .d 24 4 23, .s 4 4 24])
  (.ret))
  (.skip)))
  (.seq (.reg [.f 25 2 3, .l 26 25, .o 27 (.build [.c (.int .i64 0), .c (.str []), .c (.int .i64 0), .csl []] [(0, 1, (.k (.c (.int .i64 1)))), (2, 1, (.t 26))]), .s 4 4 27])
  (.ret)))
  (.skip)))
  (.seq (.reg [.o 5 (.mov (.k (.csl [])))])
  (.seq (.seq (.reg [.o 6 (.mov (.k (.c (.int .i64 0))))])
  (.block 0 (.loop (.seq (.seq (.reg [.m 28 6, .f 29 3 3, .l 30 29, .o 31 (.lenr (.t 30)), .o 32 (.bin .lss (.t 28) (.t 31))])
  (.cond (.t 32)
  (.skip)
  (.exit 0)))
  (.seq (.block 1 (.reg [.m 35 5, .m 36 0, .f 37 3 3, .l 38 37, .m 39 6, .o 40 (.iadd 4 (.t 38) (.t 39)), .d 41 4 40, .k 42 36 [(.t 36), (.t 41)], .o 43 (.bsl 4 [(.t 42)]), .o 44 (.app 32 4 56 (.t 35) (.t 43)), .m 5 44]))
  (.reg [.m 33 6, .o 34 (.bin .add (.t 33) (.k (.c (.int .i64 1)))), .m 6 34]))))))
  (.seq (.reg [.d 45 4 3, .m 46 5, .k 47 69 [(.t 45), (.t 46)], .s 4 4 47])
  (.ret)))))
def r36 : List ResV := [.celln 4 4]
theorem k36 : CodeIs Tryz.prog 36 2 Tryz.f36 c36 r36 := ⟨by kernel_rfl, Tryz.func36, rfl, by kernel_rfl, by kernel_rfl, by decide, enters_fn Tryz.func36 (by kernel_rfl) rfl⟩
/-- lambentref05.Norm -/
def c38 : AC :=
  .seq (.reg [.o 1 (.box (.t 0)), .o 2 (.box (.k (.agg [.c (.int .i64 0), .c (.str []), .c (.int .i64 0), .csl []])))])
  (.seq (.reg [.o 4 (.build [.csl []] []), .o 5 (.box (.t 4)), .m 3 5])
  (.seq (.reg [.m 6 3, .d 7 4 1, .k 8 72 [(.t 6), (.t 7)], .s 4 2 8])
  (.ret)))
def r38 : List ResV := [.celln 4 2]
theorem k38 : CodeIs Tryz.prog 38 1 Tryz.f38 c38 r38 := ⟨by kernel_rfl, Tryz.func38, rfl, by kernel_rfl, by kernel_rfl, by decide, enters_fn Tryz.func38 (by kernel_rfl) rfl⟩
/-- (*lambentref05.numbers).norm -/
def c72 : AC :=
  .seq (.reg [.o 3 (.box (.t 1)), .o 4 (.box (.k (.agg [.c (.int .i64 0), .c (.str []), .c (.int .i64 0), .csl []])))])
  (.seq (.seq (.reg [.f 7 0 3, .l 8 7, .o 9 (.bin .eql (.t 8) (.k (.c (.int .i64 1))))])
  (.cond (.t 9)
  (.seq (.reg [.m 10 0, .f 11 2 3, .l 12 11, .k 13 115 [(.t 10), (.t 12)], .o 14 (.build [.c (.int .i64 0), .c (.str []), .c (.int .i64 0), .csl []] [(0, 1, (.k (.c (.int .i64 1)))), (2, 1, (.t 13))]), .s 4 4 14])
  (.ret))
  (.skip)))
  (.seq (.reg [.o 5 (.mov (.k (.csl [])))])
  (.seq (.seq (.reg [.o 6 (.mov (.k (.c (.int .i64 0))))])
  (.block 0 (.loop (.seq (.seq (.reg [.m 15 6, .f 16 3 3, .l 17 16, .o 18 (.lenr (.t 17)), .o 19 (.bin .lss (.t 15) (.t 18))])
  (.cond (.t 19)
  (.skip)
  (.exit 0)))
  (.seq (.block 1 (.reg [.m 22 5, .m 23 0, .f 24 3 3, .l 25 24, .m 26 6, .o 27 (.iadd 4 (.t 25) (.t 26)), .d 28 4 27, .k 29 72 [(.t 23), (.t 28)], .o 30 (.bsl 4 [(.t 29)]), .o 31 (.app 32 4 56 (.t 22) (.t 30)), .m 5 31]))
  (.reg [.m 20 6, .o 21 (.bin .add (.t 20) (.k (.c (.int .i64 1)))), .m 6 21]))))))
  (.seq (.reg [.d 32 4 3, .m 33 5, .k 34 69 [(.t 32), (.t 33)], .s 4 4 34])
  (.ret)))))
def r72 : List ResV := [.celln 4 4]
theorem k72 : CodeIs Tryz.prog 72 2 Tryz.f72 c72 r72 := ⟨by kernel_rfl, Tryz.func72, rfl, by kernel_rfl, by kernel_rfl, by decide, enters_fn Tryz.func72 (by kernel_rfl) rfl⟩
/-- (*lambentref05.numbers).of -/
def c115 : AC :=
  .seq (.reg [.o 4 (.mov (.k (.c (.int .i64 0))))])
  (.seq (.seq (.reg [.o 5 (.mov (.k (.c (.int .i64 0))))])
  (.block 0 (.loop (.seq (.seq (.reg [.m 6 5, .m 7 0, .n 8 7, .f 9 0 8, .l 10 9, .o 11 (.lenr (.t 10)), .o 12 (.bin .lss (.t 6) (.t 11))])
  (.cond (.t 12)
  (.skip)
  (.exit 0)))
  (.seq (.block 1 (.seq (.reg [.m 15 0, .n 16 15, .f 17 0 16, .l 18 17, .m 19 5, .o 20 (.iadd 1 (.t 18) (.t 19)), .l 21 20, .m 22 1, .o 23 (.bin .eql (.t 21) (.t 22))])
  (.cond (.t 23)
  (.seq (.reg [.m 24 5, .m 4 24])
  (.ret))
  (.skip))))
  (.reg [.m 13 5, .o 14 (.bin .add (.t 13) (.k (.c (.int .i64 1)))), .m 5 14]))))))
  (.seq (.reg [.m 25 0, .m 26 0, .n 27 26, .f 28 0 27, .l 29 28, .m 30 1, .o 31 (.bsl 1 [(.t 30)]), .o 32 (.app 3 1 8 (.t 29) (.t 31)), .n 33 25, .f 34 0 33, .s 1 34 32])
  (.seq (.reg [.m 35 0, .n 36 35, .f 37 0 36, .l 38 37, .o 39 (.lenr (.t 38)), .o 40 (.bin .sub (.t 39) (.k (.c (.int .i64 1)))), .m 4 40])
  (.ret))))
def r115 : List ResV := [.tmp 4]
theorem k115 : CodeIs Tryz.prog 115 2 Tryz.f115 c115 r115 := ⟨by kernel_rfl, Tryz.func115, rfl, by kernel_rfl, by kernel_rfl, by decide, enters_fn Tryz.func115 (by kernel_rfl) rfl⟩
/-- lambentlaw05.TyChanges -/
def c8 : AC :=
  .seq (.reg [.o 4 (.box (.t 1)), .o 6 (.mov (.k (.c (.bool false))))])
  (.seq (.reg [.k 13 24 [], .m 7 13])
  (.seq (.seq (.reg [.m 14 7, .o 15 (.un .not (.t 14))])
  (.cond (.t 15)
  (.seq (.reg [.o 6 (.mov (.k (.c (.bool false))))])
  (.ret))
  (.skip)))
  (.seq (.reg [.d 16 4 4, .k 17 27 [(.t 16)], .m 8 17])
  (.seq (.seq (.reg [.m 18 8, .m 19 18, .z 20 (.mov (.t 0)) 19, .z 21 (.lenr (.t 20)) 19, .z 22 (.bin .gtr (.t 21) (.k (.c (.int .i64 20)))) 19, .o 23 (.pick (.t 19) (.k (.c (.bool true))) (.t 22))])
  (.cond (.t 23)
  (.seq (.reg [.m 24 7, .m 6 24])
  (.ret))
  (.skip)))
  (.seq (.seq (.reg [.o 9 (.mov (.k (.c (.int .i64 0))))])
  (.block 0 (.loop (.seq (.seq (.reg [.m 25 9, .m 26 0, .o 27 (.lenr (.t 26)), .o 28 (.bin .lss (.t 25) (.t 27))])
  (.cond (.t 28)
  (.skip)
  (.exit 0)))
  (.seq (.block 1 (.seq (.reg [.m 31 0, .m 32 9, .o 33 (.iadd 4 (.t 31) (.t 32)), .d 34 4 33, .k 35 27 [(.t 34)], .m 8 35])
  (.seq (.reg [.m 36 8])
  (.cond (.t 36)
  (.seq (.reg [.m 37 7, .m 6 37])
  (.ret))
  (.skip)))))
  (.reg [.m 29 9, .o 30 (.bin .add (.t 29) (.k (.c (.int .i64 1)))), .m 9 30]))))))
  (.seq (.dreg [.d 38 4 4, .m 39 2, .k 40 33 [(.t 38), (.t 39)], .d 41 4 4, .m 42 2, .k 43 34 [(.t 41), (.t 42)], .k 44 21 [(.t 40), (.t 43)], .m 10 44]
    [.q (.d 38 4 4), .q (.m 39 2), ⟨.k 40 33 [(.t 38), (.t 39)], true, 0⟩, .q (.d 41 4 4), .q (.m 42 2), ⟨.k 43 34 [(.t 41), (.t 42)], true, 1⟩, ⟨.k 44 21 [(.t 40), (.t 43)], true, 2⟩, ⟨.m 10 44, false, 3⟩])
  (.seq (.dreg [.m 45 0, .d 46 4 4, .k 47 35 [(.t 45), (.t 46)], .m 48 0, .d 49 4 4, .k 50 36 [(.t 48), (.t 49)], .k 51 21 [(.t 47), (.t 50)], .m 11 51]
    [.q (.m 45 0), .q (.d 46 4 4), ⟨.k 47 35 [(.t 45), (.t 46)], true, 0⟩, .q (.m 48 0), .q (.d 49 4 4), ⟨.k 50 36 [(.t 48), (.t 49)], true, 1⟩, ⟨.k 51 21 [(.t 47), (.t 50)], true, 2⟩, ⟨.m 11 51, false, 3⟩])
  (.seq (.dreg [.d 52 4 4, .k 53 37 [(.t 52)], .d 54 4 4, .k 55 38 [(.t 54)], .k 56 21 [(.t 53), (.t 55)], .m 12 56]
    [.q (.d 52 4 4), ⟨.k 53 37 [(.t 52)], true, 0⟩, .q (.d 54 4 4), ⟨.k 55 38 [(.t 54)], true, 1⟩, ⟨.k 56 21 [(.t 53), (.t 55)], true, 2⟩, ⟨.m 12 56, false, 3⟩])
  (.seq (.reg [.m 57 7, .m 58 57, .y 59 (.mov (.t 10)) 58, .o 60 (.pick (.t 58) (.t 59) (.k (.c (.bool false)))), .m 61 60, .y 62 (.mov (.t 11)) 61, .o 63 (.pick (.t 61) (.t 62) (.k (.c (.bool false)))), .m 64 63, .y 65 (.mov (.t 12)) 64, .o 66 (.pick (.t 64) (.t 65) (.k (.c (.bool false)))), .m 6 66])
  (.ret))))))))))
def r8 : List ResV := [.tmp 6]
theorem k8 : CodeIs Tryz.prog 8 3 Tryz.f8 c8 r8 := ⟨by kernel_rfl, Tryz.func8, rfl, by kernel_rfl, by kernel_rfl, by decide, enters_fn Tryz.func8 (by kernel_rfl) rfl⟩
/-- lambentlaw05.TyBack -/
def c9 : AC :=
  .seq (.reg [.o 1 (.box (.t 0)), .o 2 (.mov (.k (.c (.bool false))))])
  (.seq (.reg [.k 16 24 [], .m 3 16])
  (.seq (.seq (.reg [.m 17 3, .o 18 (.un .not (.t 17))])
  (.cond (.t 18)
  (.seq (.reg [.o 2 (.mov (.k (.c (.bool false))))])
  (.ret))
  (.skip)))
  (.seq (.reg [.d 19 4 1, .k 20 27 [(.t 19)], .m 4 20])
  (.seq (.seq (.reg [.m 21 4])
  (.cond (.t 21)
  (.seq (.reg [.m 22 3, .m 2 22])
  (.ret))
  (.skip)))
  (.seq (.reg [.d 23 4 1, .k 24 28 [(.t 23)], .m 5 24])
  (.seq (.seq (.reg [.m 25 5, .o 26 (.un .not (.t 25))])
  (.cond (.t 26)
  (.seq (.reg [.m 27 3, .m 2 27])
  (.ret))
  (.skip)))
  (.seq (.reg [.d 28 4 1, .k 29 37 [(.t 28)], .o 6 (.box (.k (.agg [.c (.int .i64 0), .c (.str []), .c (.int .i64 0), .csl []]))), .s 4 6 29])
  (.seq (.reg [.d 31 4 1, .k 32 40 [(.t 31)], .k 33 39 [(.t 32)], .m 30 33, .x 34 30 0, .x 35 30 1, .x 36 30 2, .m 7 34, .m 8 35, .m 9 36])
  (.seq (.seq (.reg [.m 37 8, .o 38 (.bin .neq (.t 37) (.k (.c (.int .i64 0))))])
  (.cond (.t 38)
  (.seq (.reg [.o 2 (.mov (.k (.c (.bool false))))])
  (.ret))
  (.skip)))
  (.seq (.reg [.m 40 7, .k 41 25 [(.t 40), (.k (.c (.int .i64 0)))], .m 39 41, .x 42 39 0, .x 43 39 1, .x 44 39 2, .x 45 39 3, .o 10 (.box (.k (.agg [.c (.int .i64 0), .c (.str []), .c (.int .i64 0), .csl []]))), .s 4 10 42, .m 11 43, .m 12 44, .m 13 45])
  (.seq (.reg [.d 46 4 10, .d 47 4 6, .k 48 31 [(.t 46), (.t 47)], .m 14 48])
  (.seq (.dreg [.d 49 4 6, .k 50 37 [(.t 49)], .d 51 4 6, .k 52 31 [(.t 50), (.t 51)], .m 15 52]
    [.q (.d 49 4 6), ⟨.k 50 37 [(.t 49)], true, 0⟩, .q (.d 51 4 6), ⟨.k 52 31 [(.t 50), (.t 51)], true, 1⟩, ⟨.m 15 52, false, 2⟩])
  (.seq (.reg [.m 53 3, .m 54 53, .y 55 (.mov (.t 14)) 54, .o 56 (.pick (.t 54) (.t 55) (.k (.c (.bool false)))), .m 57 56, .y 58 (.mov (.t 15)) 57, .o 59 (.pick (.t 57) (.t 58) (.k (.c (.bool false)))), .m 60 59, .y 61 (.mov (.t 11)) 60, .y 62 (.mov (.t 7)) 60, .y 63 (.lenr (.t 62)) 60, .y 64 (.bin .sub (.t 63) (.k (.c (.int .i64 1)))) 60, .y 65 (.bin .eql (.t 61) (.t 64)) 60, .o 66 (.pick (.t 60) (.t 65) (.k (.c (.bool false)))), .m 67 66, .y 68 (.mov (.t 12)) 67, .y 69 (.bin .eql (.t 68) (.k (.c (.int .i64 0)))) 67, .o 70 (.pick (.t 67) (.t 69) (.k (.c (.bool false)))), .m 2 70])
  (.ret))))))))))))))
end Go.Proofs.YtohcnohllbjlcaaGreatDoor
namespace Go.Lamb
open Go Go.RowKit
/-- Met variables, as a map's entries. -/
def kvsF (n : Nat) : List Int → List (C × C)
  | [] => []
  | x :: l => (.int .i64 x, .int .i64 n) :: kvsF (n + 1) l
theorem kvs_len : ∀ (l : List Int) (n : Nat), (kvsF n l).length = l.length
  | [], n => rfl
  | x :: l, n => by rw [kvsF, List.length_cons, List.length_cons, kvs_len l]
theorem kvs_ok : ∀ (l : List Int) (n : Nat), ((kvsF n l).all fun p => (KD.i .i64).ok p.1) = true
  | [], n => rfl
  | x :: l, n => by rw [kvsF, List.all_cons, kvs_ok l]; rfl
theorem kvs_no {v : Int} : ∀ (l : List Int) (n : Nat), (∀ j (hj : j < l.length), (l[j] == v) = false) → findC (.int .i64 v) (kvsF n l) = none ∧ ∀ y, updC (.int .i64 v) y (kvsF n l) = kvsF n l ++ [(.int .i64 v, y)]
  | [], n, _ => ⟨rfl, fun y => rfl⟩
  | x :: l, n, h => by
    have h0 := h 0 (by simp)
    simp only [List.getElem_cons_zero] at h0
    have he : eqK (.int .i64 v) (.int .i64 x) = false := by
      show (v == x) = false
      simp only [beq_eq_false_iff_ne] at h0 ⊢
      exact fun e => h0 e.symm
    obtain ⟨h1, h2⟩ := kvs_no l (n + 1) (fun j hj => by have := h (j + 1) (Nat.succ_lt_succ hj); rwa [List.getElem_cons_succ] at this)
    exact ⟨by rw [kvsF, findC, he]; exact h1, fun y => by rw [kvsF, updC, he]; show _ :: updC _ y _ = _; rw [h2]; rfl⟩
theorem kvs_yes {v : Int} : ∀ (l : List Int) (n k : Nat) (hk : k < l.length), l[k] = v → (∀ j (hj : j < l.length), j < k → (l[j] == v) = false) → findC (.int .i64 v) (kvsF n l) = some (.int .i64 ((n + k : Nat) : Int))
  | [], n, k, hk, _, _ => by simp at hk
  | x :: l, n, 0, hk, h, _ => by
    simp only [List.getElem_cons_zero] at h
    subst h
    have he : eqK (.int .i64 x) (.int .i64 x) = true := by show (x == x) = true; simp
    rw [kvsF, findC, he]; rfl
  | x :: l, n, k + 1, hk, h, h' => by
    have h0 := h' 0 (by simp) (by omega)
    simp only [List.getElem_cons_zero] at h0
    have he : eqK (.int .i64 v) (.int .i64 x) = false := by
      show (v == x) = false
      simp only [beq_eq_false_iff_ne] at h0 ⊢
      exact fun e => h0 e.symm
    have := kvs_yes l (n + 1) k (by simpa using hk) (by simpa using h) (fun j hj hjk => by have := h' (j + 1) (Nat.succ_lt_succ hj) (by omega); rwa [List.getElem_cons_succ] at this)
    rw [kvsF, findC, he]
    simp only [Bool.false_eq_true, if_false]
    rw [this]
    congr 3
    omega
theorem kvs_snoc (x : Int) : ∀ (l : List Int) (n : Nat), kvsF n (l ++ [x]) = kvsF n l ++ [(.int .i64 x, .int .i64 ((n + l.length : Nat) : Int))]
  | [], n => rfl
  | y :: l, n => by
    rw [List.cons_append, kvsF, kvsF, kvs_snoc x l, List.cons_append, List.length_cons]
    congr 5
    omega
theorem ok_setM {σ : H} (h : H.ok σ) (m : Nat) (kvs : List (C × C)) : H.ok (σ.set m (.mp kvs)) := by
  intro b hb cs tg hc x hx
  rw [List.length_set]
  rcases List.mem_or_eq_of_mem_set hb with hb | hb
  · exact h b hb cs tg hc x hx
  · rw [hb] at hc; cases hc
end Go.Lamb
namespace Go.Proofs.YtohcnohllbjlcaaGreatDoor
open Go.RowKit Go.Lamb
attribute [local go_sem] advO_skip advO_reg advO_seq advO_block advO_exit advO_endb advO_opsNil advO_ops advG_yes advG_no advG_none advS_some advS_none advO_cond advO_loop advO_dreg advO_ret advO_bad advO_inv advO_nil advO_zero wantedV Lamb.step ev_t ev_k put_some put_none argEnv popTo cellsAt V.cellsV V.rows V.toC toCs fillV bytesC byteRows appV rowsV boundV boundL binV binInt binStr eqC eqL V.isNil leaves V.leaf Ins.quiet Ins.pure List.getD_cons_zero List.getD_cons_succ List.getD_nil List.all_cons List.all_nil List.length_cons List.length_nil List.take_succ_cons List.take_zero List.drop_succ_cons List.drop_zero List.cons_append List.nil_append List.append_nil List.append_assoc List.map_cons List.map_nil List.getElem?_cons_zero List.getElem?_cons_succ List.length_append List.length_set hget0 hget hset0 hset hsets hgs0 hgs hss0 hss List.set_cons_zero List.set_cons_succ List.forall_mem_cons List.not_mem_nil false_implies implies_true Option.map_some Bool.and_true Bool.true_and Bool.not_not Bool.not_true Bool.not_false Bool.and_self Bool.or_true Bool.true_or Bool.or_false Bool.false_or Bool.and_false Bool.false_and Bool.false_eq_true beq_self_eq_true and_self and_true true_and if_true if_false Nat.zero_add Nat.add_zero Nat.le_refl Int.toNat_natCast decide_true decide_false beq_t beq_f List.length_map List.getElem?_map I S B opsC toksC OpT.v OpT.cs OpT.zero Tok.v Tok.cs Pre.v Pre.cs_eq k_mk name_mk n_mk l_mk pos_mk Pre.app applyL natCast0 natCast1 natCast2 AOp.o AOp.m AOp.f AOp.l AOp.d AOp.n AOp.x AOp.s AOp.k AOp.y AOp.z EOp.q low_c low_void low_any low_csl low_nilf low_ptr low_osl low_agg low_tup low_fn resEval advPO_nil advPO_loud advPO_quiet pL_yes pL_no pLS_some pLS_none pQ_yes pQ_no pQS_some pQS_loud eq_self Nat.sub_zero
attribute [local go_sem] Typ.v Typ.cs_eq tk_mk tname_mk tn_mk tl_mk tysC

theorem ty_Shift1 (w0 : World) (v n : Int) (σ : H) (b : Nat) (hb : σ[b]? = some (.cells [I n])) : DC Tryz.prog w0 67 [I v, .ptr b 0] σ (Same (Typ.var (IntKind.i64.wrap (v + n))).v σ) := by
  refine k67.go rfl (fun hok hsz => ?_)
  ((try refine W.a ?_); simp only [go_sem, seval, reduceCtorEq, c67, hG hb])
  (refine W.c1 (ty_variable1 w0 (IntKind.i64.wrap (v + n)) _) ?_; simp only [go_sem, seval, reduceCtorEq, Typ.var])
  (refine W.fg (hok) (d := (Typ.var (IntKind.i64.wrap (v + n))).v) (by simp only [r67, go_sem, seval, reduceCtorEq, Typ.var]; rfl) (by simp only [resV, go_sem, seval, reduceCtorEq, Typ.var]; exact wk_here) ?_ (hl := by (first | exact .c _ | (simp only [go_sem, seval, reduceCtorEq, Typ.var]; done))))
  exact ⟨rfl, rfl⟩
theorem ty_Apply1 (w0 : World) (l : List Typ) (v : Int) (σ : H) (b : Nat) (hb : σ[b]? = some (.cells [.c (tysC l)])) : DC Tryz.prog w0 70 [I v, .ptr b 0] σ (Same (applyT l v).v σ) := by
  refine k70.go rfl (fun hok hsz => ?_)
  unfold applyT
  have hb' := hb
  unfold tysC at hb'
  by_cases h0 : 0 ≤ v
  · by_cases h1 : v < l.length
    · rw [if_pos ⟨h0, h1⟩]
      obtain ⟨n, rfl⟩ := Int.eq_ofNat_of_zero_le h0
      have hn : n < l.length := by omega
      have hx : l[n]? = some l[n] := List.getElem?_eq_getElem hn
      have hd : l.getD (n : Int).toNat .none = l[n] := by simp [List.getD, hx]
      rw [hd]
      ((try refine W.a ?_); simp only [go_sem, seval, reduceCtorEq, c70, hG hb', h0, h1])
      refine W.yes rfl ?_
      ((try refine W.a ?_); simp only [go_sem, seval, reduceCtorEq, hG hb', h0, h1, nat0, hx])
      (refine W.fg (hok) (d := l[n].v) (by simp only [r70, go_sem, seval, reduceCtorEq]; rfl) (by simp only [resV, go_sem, seval, reduceCtorEq]; exact wk_here) ?_)
      exact ⟨rfl, rfl⟩
    · rw [if_neg (fun h => h1 h.2)]
      ((try refine W.a ?_); simp only [go_sem, seval, reduceCtorEq, c70, hG hb', h0, h1])
      refine W.no rfl ?_
      ((try refine W.a ?_); simp only [go_sem, seval, reduceCtorEq])
      (refine W.c1 (ty_variable1 w0 v _) ?_; simp only [go_sem, seval, reduceCtorEq, Typ.var])
      (refine W.fg (hok) (d := (Typ.var v).v) (by simp only [r70, go_sem, seval, reduceCtorEq, Typ.var]; rfl) (by simp only [resV, go_sem, seval, reduceCtorEq, Typ.var]; exact wk_here) ?_ (hl := by (first | exact .c _ | (simp only [go_sem, seval, reduceCtorEq, Typ.var]; done))))
      exact ⟨rfl, rfl⟩
  · rw [if_neg (fun h => h0 h.1)]
    ((try refine W.a ?_); simp only [go_sem, seval, reduceCtorEq, c70, hG hb', h0])
    refine W.no rfl ?_
    ((try refine W.a ?_); simp only [go_sem, seval, reduceCtorEq])
    (refine W.c1 (ty_variable1 w0 v _) ?_; simp only [go_sem, seval, reduceCtorEq, Typ.var])
    (refine W.fg (hok) (d := (Typ.var v).v) (by simp only [r70, go_sem, seval, reduceCtorEq, Typ.var]; rfl) (by simp only [resV, go_sem, seval, reduceCtorEq, Typ.var]; exact wk_here) ?_ (hl := by (first | exact .c _ | (simp only [go_sem, seval, reduceCtorEq, Typ.var]; done))))
    exact ⟨rfl, rfl⟩
theorem ty_Norm1 (w0 : World) (vs : List Int) (v : Int) (σ : H) (b m : Nat) (hb : σ[b]? = some (.cells [.mp m])) (hm : σ[m]? = some (.mp (kvsF 0 vs))) : DC Tryz.prog w0 71 [I v, .ptr b 0] σ (Same (Typ.var (inum vs v)).v (σ.set m (.mp (kvsF 0 (iadd vs v))))) := by
  refine k71.go rfl (fun hok hsz => ?_)
  have hko : (KD.i IntKind.i64).ok (C.int IntKind.i64 v) = true := rfl
  have hka := kvs_ok vs 0
  rcases inum_cases vs v with ⟨h1, h2, h3⟩ | ⟨hk, h2, h3, h4⟩
  · obtain ⟨f1, f2⟩ := kvs_no vs 0 h3
    have f2' := f2 (.int .i64 ((vs.length : Nat) : Int))
    have f3 := kvs_snoc v vs 0
    rw [Nat.zero_add] at f3
    have hl := kvs_len vs 0
    rw [h2, f3, h1]
    have hs : ∀ X, (σ.set m X)[m]? = some X := fun X => hgets X (List.getElem?_eq_some_iff.1 hm).1
    ((try refine W.a ?_); simp only [go_sem, seval, reduceCtorEq, c71, hG hb, hG hm, hko, hka, f1, lookV, Option.getD_none, Option.isSome_none])
    refine W.yes rfl ?_
    ((try refine W.a ?_); simp only [go_sem, seval, reduceCtorEq, hG hb, hG hm, hko, hka, hl, f2', hS hm])
    (refine W.c1 (ty_variable1 w0 (vs.length : Int) _) ?_; simp only [go_sem, seval, reduceCtorEq, Typ.var])
    (refine W.fg (ok_setM hok m _) (d := (Typ.var (vs.length : Int)).v) (by simp only [r71, go_sem, seval, reduceCtorEq, Typ.var]; rfl) (by simp only [resV, go_sem, seval, reduceCtorEq, Typ.var]; exact wk_here) ?_ (hl := by (first | exact .c _ | (simp only [go_sem, seval, reduceCtorEq, Typ.var]; done))))
    exact ⟨rfl, rfl⟩
  · have f1 := kvs_yes vs 0 _ hk h3 h4
    rw [Nat.zero_add] at f1
    rw [h2, set_here hm]
    generalize inum vs v = k at *
    ((try refine W.a ?_); simp only [go_sem, seval, reduceCtorEq, c71, hG hb, hG hm, hko, hka, f1, lookV, Option.getD_some, Option.isSome_some])
    refine W.no rfl ?_
    ((try refine W.a ?_); simp only [go_sem, seval, reduceCtorEq])
    (refine W.c1 (ty_variable1 w0 (k : Int) _) ?_; simp only [go_sem, seval, reduceCtorEq, Typ.var])
    (refine W.fg (hok) (d := (Typ.var (k : Int)).v) (by simp only [r71, go_sem, seval, reduceCtorEq, Typ.var]; rfl) (by simp only [resV, go_sem, seval, reduceCtorEq, Typ.var]; exact wk_here) ?_ (hl := by (first | exact .c _ | (simp only [go_sem, seval, reduceCtorEq, Typ.var]; done))))
    exact ⟨rfl, rfl⟩
theorem ty_Shift (w0 : World) (p : Typ) (n : Int) (hp : nodesT p ≤ 1000000) (σ : H) : DC Tryz.prog w0 33 [p.v, I n] σ (Same (subS (shiftG n) () p).1.v σ) := by
  refine k33.go rfl (fun hok hsz => ?_)
  have hR : Repl w0 (shiftG n) (.fn 67 [.ptr (σ.length + 1) 0]) (fun _ : Unit => σ ++ [.cells p.v.cellsV, .cells [I n], .cells [I 0, S [], I 0, .csl []]]) (σ.length + 3) :=
    ⟨fun _ => by simp, fun _ _ _ h => h, (low_fn _ _ _).2 (fun x hx => by simp only [List.mem_singleton] at hx; subst hx; exact .ptr (by omega)), _, _, rfl, fun L _ v => ty_Shift1 w0 v n _ _ (by rw [List.append_assoc, hget]; rfl)⟩
  have hc := ty_replaceG w0 (shiftG n) _ p hp _ _ hR ()
  generalize (subS (shiftG n) () p).1 = u at hc
  ((try refine W.a ?_); simp only [go_sem, seval, reduceCtorEq, c33])
  (refine W.c1 (hc) ?_; simp only [go_sem, seval, reduceCtorEq])
  (refine W.fg (hok) (d := u.v) (by simp only [r33, go_sem, seval, reduceCtorEq]; rfl) (by simp only [resV, go_sem, seval, reduceCtorEq]; exact wk_here) ?_)
  exact ⟨rfl, rfl⟩
theorem ty_Apply (w0 : World) (l : List Typ) (p : Typ) (hp : nodesT p ≤ 1000000) (σ : H) : DC Tryz.prog w0 35 [.c (tysC l), p.v] σ (Same (subS (applyG l) () p).1.v σ) := by
  refine k35.go rfl (fun hok hsz => ?_)
  have hR : Repl w0 (applyG l) (.fn 70 [.ptr σ.length 0]) (fun _ : Unit => σ ++ [.cells [.c (tysC l)], .cells p.v.cellsV, .cells [I 0, S [], I 0, .csl []]]) (σ.length + 3) :=
    ⟨fun _ => by simp, fun _ _ _ h => h, (low_fn _ _ _).2 (fun x hx => by simp only [List.mem_singleton] at hx; subst hx; exact .ptr (by omega)), _, _, rfl, fun L _ v => ty_Apply1 w0 l v _ _ (by rw [List.append_assoc, hget0]; rfl)⟩
  have hc := ty_replaceG w0 (applyG l) _ p hp _ _ hR ()
  generalize (subS (applyG l) () p).1 = u at hc
  ((try refine W.a ?_); simp only [go_sem, seval, reduceCtorEq, c35])
  (refine W.c1 (hc) ?_; simp only [go_sem, seval, reduceCtorEq])
  (refine W.fg (hok) (d := u.v) (by simp only [r35, go_sem, seval, reduceCtorEq]; rfl) (by simp only [resV, go_sem, seval, reduceCtorEq]; exact wk_here) ?_)
  exact ⟨rfl, rfl⟩
theorem okMp {A B : H} {k k' : List (C × C)} (h : H.ok (A ++ Blk.mp k :: B)) : H.ok (A ++ Blk.mp k' :: B) := by
  intro b hb cs tg hc x hx
  have hl : (A ++ Blk.mp k' :: B).length = (A ++ Blk.mp k :: B).length := by simp
  rw [hl]
  rcases List.mem_append.1 hb with hb | hb
  · exact h b (List.mem_append_left _ hb) cs tg hc x hx
  · rcases List.mem_cons.1 hb with hb | hb
    · rw [hb] at hc; cases hc
    · exact h b (List.mem_append_right _ (List.mem_cons_of_mem _ hb)) cs tg hc x hx
theorem ty_Norm (w0 : World) (p : Typ) (hp : nodesT p ≤ 1000000) (σ : H) : DC Tryz.prog w0 37 [p.v] σ (Same (normT p).v σ) := by
  refine k37.go rfl (fun hok hsz => ?_)
  have hR : Repl w0 normG (.fn 71 [.ptr (σ.length + 3) 0]) (fun vs : List Int => σ ++ [.cells p.v.cellsV, .cells [I 0, S [], I 0, .csl []], .mp (kvsF 0 vs), .cells [.mp (σ.length + 2)]]) (σ.length + 4) := by
    refine ⟨fun _ => by simp, fun s s' L h => ?_, (low_fn _ _ _).2 (fun x hx => by simp only [List.mem_singleton] at hx; subst hx; exact .ptr (by omega)), _, _, rfl, fun L vs v => ?_⟩
    · have e : ∀ s, σ ++ [.cells p.v.cellsV, .cells [I 0, S [], I 0, .csl []], .mp (kvsF 0 s), .cells [.mp (σ.length + 2)]] ++ L = (σ ++ [.cells p.v.cellsV, .cells [I 0, S [], I 0, .csl []]]) ++ Blk.mp (kvsF 0 s) :: (.cells [.mp (σ.length + 2)] :: L) := fun s => by simp
      rw [e] at h ⊢
      exact okMp h
    · have h1 := ty_Norm1 w0 vs v (σ ++ [.cells p.v.cellsV, .cells [I 0, S [], I 0, .csl []], .mp (kvsF 0 vs), .cells [.mp (σ.length + 2)]] ++ L) (σ.length + 3) (σ.length + 2) (by rw [List.append_assoc, hget]; rfl) (by rw [List.append_assoc, hget]; rfl)
      rw [List.append_assoc, hset] at h1
      rw [List.append_assoc, List.append_assoc]
      exact h1
  have hc := ty_replaceG w0 normG _ p hp _ _ hR []
  unfold normT
  generalize subS normG [] p = u at hc ⊢
  ((try refine W.a ?_); simp only [go_sem, seval, reduceCtorEq, c37])
  (refine W.c1 (hc) ?_; simp only [go_sem, seval, reduceCtorEq])
  (refine W.fg (hok) (d := u.1.v) (by simp only [r37, go_sem, seval, reduceCtorEq]; rfl) (by simp only [resV, go_sem, seval, reduceCtorEq]; exact wk_here) ?_)
  exact ⟨rfl, rfl⟩
end Go.Proofs.YtohcnohllbjlcaaGreatDoor
namespace Go.Proofs.YtohcnohllbjlcaaGreatDoor
open Go.RowKit Go.Lamb
attribute [local go_sem] advO_skip advO_reg advO_seq advO_block advO_exit advO_endb advO_opsNil advO_ops advG_yes advG_no advG_none advS_some advS_none advO_cond advO_loop advO_dreg advO_ret advO_bad advO_inv advO_nil advO_zero wantedV Lamb.step ev_t ev_k put_some put_none argEnv popTo cellsAt V.cellsV V.rows V.toC toCs fillV bytesC byteRows appV rowsV boundV boundL binV binInt binStr eqC eqL V.isNil leaves V.leaf Ins.quiet Ins.pure List.getD_cons_zero List.getD_cons_succ List.getD_nil List.all_cons List.all_nil List.length_cons List.length_nil List.take_succ_cons List.take_zero List.drop_succ_cons List.drop_zero List.cons_append List.nil_append List.append_nil List.append_assoc List.map_cons List.map_nil List.getElem?_cons_zero List.getElem?_cons_succ List.length_append List.length_set hget0 hget hset0 hset hsets hgs0 hgs hss0 hss List.set_cons_zero List.set_cons_succ List.forall_mem_cons List.not_mem_nil false_implies implies_true Option.map_some Bool.and_true Bool.true_and Bool.not_not Bool.not_true Bool.not_false Bool.and_self Bool.or_true Bool.true_or Bool.or_false Bool.false_or Bool.and_false Bool.false_and Bool.false_eq_true beq_self_eq_true and_self and_true true_and if_true if_false Nat.zero_add Nat.add_zero Nat.le_refl Int.toNat_natCast decide_true decide_false beq_t beq_f List.length_map List.getElem?_map I S B opsC toksC OpT.v OpT.cs OpT.zero Tok.v Tok.cs Pre.v Pre.cs_eq k_mk name_mk n_mk l_mk pos_mk Pre.app applyL natCast0 natCast1 natCast2 AOp.o AOp.m AOp.f AOp.l AOp.d AOp.n AOp.x AOp.s AOp.k AOp.y AOp.z EOp.q low_c low_void low_any low_csl low_nilf low_ptr low_osl low_agg low_tup low_fn resEval advPO_nil advPO_loud advPO_quiet pL_yes pL_no pLS_some pLS_none pQ_yes pQ_no pQS_some pQS_loud eq_self Nat.sub_zero
section
attribute [local go_sem] Typ.v Typ.cs_eq tk_mk tname_mk tn_mk tl_mk tysC

theorem ref05_arrow (w0 : World) (p : Typ) (σ : H) : DC Tryz.prog w0 114 [p.v] σ (Same (B (arrowT p)) σ) := by
  refine k114.go rfl (fun hok hsz => ?_)
  have hl : ((p.l.length : Int) == 2) = (p.l.length == 2) := by rw [Bool.eq_iff_iff]; simp; omega
  unfold arrowT
  cases hk : (p.k == 2)
  · ((try refine W.a ?_); simp only [go_sem, seval, reduceCtorEq, c114, hk])
    (refine W.fs (hok) (by simp only [r114, go_sem, seval, reduceCtorEq]; rfl) ?_; simp only [resV]; try exact V.wk.rfl _)
  · ((try refine W.a ?_); simp only [go_sem, seval, reduceCtorEq, c114, hk, hl])
    (refine W.fs (hok) (by simp only [r114, go_sem, seval, reduceCtorEq]; rfl) ?_; simp only [resV]; try exact V.wk.rfl _)
def withT (p : Typ) (l : List Typ) : Typ := .mk (if arrowT p = true then 2 else 0) (if arrowT p = true then [] else p.name) 0 l
theorem ref05_with (w0 : World) (p : Typ) (l : List Typ) (σ : H) : DC Tryz.prog w0 69 [p.v, .c (tysC l)] σ (Same (withT p l).v σ) := by
  refine k69.go rfl (fun hok hsz => ?_)
  ((try refine W.a ?_); simp only [go_sem, seval, reduceCtorEq, c69])
  unfold withT
  cases hA : arrowT p
  · (refine W.c1 (ref05_arrow w0 p _) ?_; simp only [go_sem, seval, reduceCtorEq, hA])
    refine W.no rfl ?_
    ((try refine W.a ?_); simp only [go_sem, seval, reduceCtorEq])
    (refine W.fg (hok) (d := .agg [I 0, S p.name, I 0, .c (tysC l)]) (by simp only [r69, go_sem, seval, reduceCtorEq]; rfl) (by simp only [resV, go_sem, seval, reduceCtorEq]; exact wk_here) ?_)
    exact ⟨rfl, rfl⟩
  · (refine W.c1 (ref05_arrow w0 p _) ?_; simp only [go_sem, seval, reduceCtorEq, hA])
    refine W.yes rfl ?_
    ((try refine W.a ?_); simp only [go_sem, seval, reduceCtorEq])
    (refine W.fg (hok) (d := .agg [I 2, S [], I 0, .c (tysC l)]) (by simp only [r69, go_sem, seval, reduceCtorEq]; rfl) (by simp only [resV, go_sem, seval, reduceCtorEq]; exact wk_here) ?_)
    exact ⟨rfl, rfl⟩
theorem ref05_Shift (w0 : World) (n : Int) (p : Typ) : nodesT p ≤ 1000000 → ∀ σ : H, DC Tryz.prog w0 34 [p.v, I n] σ (Same (subS (shiftG n) () p).1.v σ) := by
  refine Typ.ind (P := fun p => nodesT p ≤ 1000000 → ∀ σ : H, DC Tryz.prog w0 34 [p.v, I n] σ (Same (subS (shiftG n) () p).1.v σ)) (fun p ih hb σ => ?_) p
  refine k34.go rfl (fun hok hsz => ?_)
  have hlen := typ_len hsz (List.mem_cons_self ..)
  rw [subS_eq]
  by_cases hk : p.k = 1
  · have n1 : (p.k == 1) = true := by simpa using hk
    rw [if_pos hk]
    ((try refine W.a ?_); simp only [go_sem, seval, reduceCtorEq, c34, n1])
    refine W.yes rfl ?_
    ((try refine W.a ?_); simp only [go_sem, seval, reduceCtorEq])
    (refine W.fg (hok) (d := (Typ.var (IntKind.i64.wrap (p.n + n))).v) (by simp only [r34, go_sem, seval, reduceCtorEq, Typ.var]; rfl) (by simp only [resV, go_sem, seval, reduceCtorEq, Typ.var]; exact wk_here) ?_ (hl := by (first | exact .c _ | (simp only [go_sem, seval, reduceCtorEq, Typ.var]; done))))
    exact ⟨rfl, rfl⟩
  · have n1 : (p.k == 1) = false := by simpa using hk
    rw [if_neg hk]
    have hls := len_nodes p.l
    have hbs := nodesT_eq p
    ((try refine W.a ?_); simp only [go_sem, seval, reduceCtorEq, c34, n1])
    refine W.no rfl ?_
    ((try refine W.a ?_); simp only [go_sem, seval, reduceCtorEq])
    refine W.own 5 32 4 rfl ?_
    refine W.loopP (fun i => i ≤ p.l.length) (fun i => ⟨(((((base.put (some 1) (I n)).put (some 2) (.ptr σ.length 0)).put (some 4) (.ptr (σ.length + 1) 0)).put (some 5) (.osl (σ.length + 2) ((subSs (shiftG n) () (p.l.take i)).1.map Typ.cs))).put (some 6) (I i)), σ ++ [.cells p.v.cellsV, .cells [I 0, S [], I 0, .csl []], .spare 32 4 i]⟩) (fun i => p.l.length - i) 0 (Nat.zero_le _) ?_ (fun i hi => ?_)
    · simp only [go_sem, seval, reduceCtorEq, List.take_zero, subSs]
      (refine Lew.env ?_; exact lee_here)
    · by_cases hlt : i < p.l.length
      · have h1 : ((i : Int) < (p.l.length : Int)) := by omega
        have hx : p.l[i]? = some p.l[i] := List.getElem?_eq_getElem hlt
        have hw := wrap_next hlt hlen
        have htk := subSs_take (shiftG n) () hlt
        have hb1 : (i + 1) * 56 ≤ 140737488355328 := by omega
        have hb2 : i + 1 ≤ 140737488355328 := by omega
        have hlk : (subSs (shiftG n) () (p.l.take i)).1.length = i := by rw [subSs_len, List.length_take]; omega
        have hc := ih p.l[i] (List.getElem_mem hlt) (by have := nodes_of (List.getElem_mem hlt); omega)
        generalize subSs (shiftG n) () (p.l.take i) = acc at htk hlk
        obtain ⟨ac, st⟩ := acc
        simp only at htk hlk
        generalize p.l[i] = x at *
        ((try refine W.a ?_); simp only [go_sem, seval, reduceCtorEq, h1])
        refine W.yes rfl ?_
        ((try refine W.a ?_); simp only [go_sem, seval, reduceCtorEq, h1, nat0, hx])
        (refine W.c1 (hc _) ?_; simp only [go_sem, seval, reduceCtorEq, hb1, hb2, hlk, hw])
        refine .inv ⟨i + 1, hlt, by omega, ?_⟩
        rw [htk]
        simp only [go_sem, seval, reduceCtorEq, List.map_append]
        (refine Lew.env ?_; exact lee_here)
      · have h1 : ¬ ((i : Int) < (p.l.length : Int)) := by omega
        have : p.l.take i = p.l := List.take_of_length_le (by omega)
        ((try refine W.a ?_); simp only [go_sem, seval, reduceCtorEq, h1])
        refine W.no rfl ?_
        rw [this]
        ((try refine W.a ?_); simp only [go_sem, seval, reduceCtorEq])
        (refine W.c1w (ref05_with w0 p (subSs (shiftG n) () p.l).1 _) ?_; simp only [go_sem, seval, reduceCtorEq, withT])
        (refine W.fg (hok) (d := (withT p (subSs (shiftG n) () p.l).1).v) (by simp only [r34, go_sem, seval, reduceCtorEq, withT]; rfl) (by simp only [resV, go_sem, seval, reduceCtorEq, withT]; exact wk_here) ?_ (hl := by (first | exact .c _ | (simp only [go_sem, seval, reduceCtorEq, withT]; done))))
        exact ⟨rfl, rfl⟩
theorem ref05_Apply (w0 : World) (s : List Typ) (p : Typ) : nodesT p ≤ 1000000 → ∀ σ : H, DC Tryz.prog w0 36 [.c (tysC s), p.v] σ (Same (subS (applyG s) () p).1.v σ) := by
  refine Typ.ind (P := fun p => nodesT p ≤ 1000000 → ∀ σ : H, DC Tryz.prog w0 36 [.c (tysC s), p.v] σ (Same (subS (applyG s) () p).1.v σ)) (fun p ih hb σ => ?_) p
  refine k36.go rfl (fun hok hsz => ?_)
  have hlen := typ_len hsz (List.mem_cons_of_mem _ (List.mem_cons_self ..))
  rw [subS_eq]
  by_cases hk : p.k = 1
  · have n1 : (p.k == 1) = true := by simpa using hk
    rw [if_pos hk]
    show W _ _ _ (Lamb.Fin _ _ (Same (applyT s p.n).v σ)) _ _
    unfold applyT
    by_cases h0 : 0 ≤ p.n
    · have h0' : p.n ≥ 0 := h0
      by_cases h1 : p.n < s.length
      · rw [if_pos ⟨h0, h1⟩]
        generalize hv : p.n = v at *
        obtain ⟨n, rfl⟩ := Int.eq_ofNat_of_zero_le h0
        have hn : n < s.length := by omega
        have hx : s[n]? = some s[n] := List.getElem?_eq_getElem hn
        have hd : s.getD (n : Int).toNat .none = s[n] := by simp [List.getD, hx]
        rw [hd]
        ((try refine W.a ?_); simp only [go_sem, seval, reduceCtorEq, c36, n1, hv, nat0, h0', h1])
        refine W.yes rfl ?_
        ((try refine W.a ?_); simp only [go_sem, seval, reduceCtorEq, nat0, h0', h1])
        refine W.yes rfl ?_
        ((try refine W.a ?_); simp only [go_sem, seval, reduceCtorEq, nat0, h0, h0', h1, hx])
        (refine W.fg (hok) (d := s[n].v) (by simp only [r36, go_sem, seval, reduceCtorEq]; rfl) (by simp only [resV, go_sem, seval, reduceCtorEq]; exact wk_here) ?_)
        exact ⟨rfl, rfl⟩
      · rw [if_neg (fun h => h1 h.2)]
        ((try refine W.a ?_); simp only [go_sem, seval, reduceCtorEq, c36, n1, h0', h1])
        refine W.yes rfl ?_
        ((try refine W.a ?_); simp only [go_sem, seval, reduceCtorEq, h0', h1])
        refine W.no rfl ?_
        ((try refine W.a ?_); simp only [go_sem, seval, reduceCtorEq])
        (refine W.fg (hok) (d := (Typ.var p.n).v) (by simp only [r36, go_sem, seval, reduceCtorEq, Typ.var]; rfl) (by simp only [resV, go_sem, seval, reduceCtorEq, Typ.var]; exact wk_here) ?_ (hl := by (first | exact .c _ | (simp only [go_sem, seval, reduceCtorEq, Typ.var]; done))))
        exact ⟨rfl, rfl⟩
    · have h0' : ¬ p.n ≥ 0 := h0
      rw [if_neg (fun h => h0 h.1)]
      ((try refine W.a ?_); simp only [go_sem, seval, reduceCtorEq, c36, n1, h0'])
      refine W.yes rfl ?_
      ((try refine W.a ?_); simp only [go_sem, seval, reduceCtorEq, h0'])
      refine W.no rfl ?_
      ((try refine W.a ?_); simp only [go_sem, seval, reduceCtorEq])
      (refine W.fg (hok) (d := (Typ.var p.n).v) (by simp only [r36, go_sem, seval, reduceCtorEq, Typ.var]; rfl) (by simp only [resV, go_sem, seval, reduceCtorEq, Typ.var]; exact wk_here) ?_ (hl := by (first | exact .c _ | (simp only [go_sem, seval, reduceCtorEq, Typ.var]; done))))
      exact ⟨rfl, rfl⟩
  · have n1 : (p.k == 1) = false := by simpa using hk
    rw [if_neg hk]
    have hls := len_nodes p.l
    have hbs := nodesT_eq p
    ((try refine W.a ?_); simp only [go_sem, seval, reduceCtorEq, c36, n1])
    refine W.no rfl ?_
    ((try refine W.a ?_); simp only [go_sem, seval, reduceCtorEq])
    refine W.own 5 32 4 rfl ?_
    refine W.loopP (fun i => i ≤ p.l.length) (fun i => ⟨(((((base.put (some 0) (.c (tysC s))).put (some 3) (.ptr σ.length 0)).put (some 4) (.ptr (σ.length + 1) 0)).put (some 5) (.osl (σ.length + 2) ((subSs (applyG s) () (p.l.take i)).1.map Typ.cs))).put (some 6) (I i)), σ ++ [.cells p.v.cellsV, .cells [I 0, S [], I 0, .csl []], .spare 32 4 i]⟩) (fun i => p.l.length - i) 0 (Nat.zero_le _) ?_ (fun i hi => ?_)
    · simp only [go_sem, seval, reduceCtorEq, List.take_zero, subSs]
      (refine Lew.env ?_; exact lee_here)
    · by_cases hlt : i < p.l.length
      · have h1 : ((i : Int) < (p.l.length : Int)) := by omega
        have hx : p.l[i]? = some p.l[i] := List.getElem?_eq_getElem hlt
        have hw := wrap_next hlt hlen
        have htk := subSs_take (applyG s) () hlt
        have hb1 : (i + 1) * 56 ≤ 140737488355328 := by omega
        have hb2 : i + 1 ≤ 140737488355328 := by omega
        have hlk : (subSs (applyG s) () (p.l.take i)).1.length = i := by rw [subSs_len, List.length_take]; omega
        have hc := ih p.l[i] (List.getElem_mem hlt) (by have := nodes_of (List.getElem_mem hlt); omega)
        generalize subSs (applyG s) () (p.l.take i) = acc at htk hlk
        obtain ⟨ac, st⟩ := acc
        simp only at htk hlk
        generalize p.l[i] = x at *
        ((try refine W.a ?_); simp only [go_sem, seval, reduceCtorEq, h1])
        refine W.yes rfl ?_
        ((try refine W.a ?_); simp only [go_sem, seval, reduceCtorEq, h1, nat0, hx])
        (refine W.c1 (hc _) ?_; simp only [go_sem, seval, reduceCtorEq, hb1, hb2, hlk, hw])
        refine .inv ⟨i + 1, hlt, by omega, ?_⟩
        rw [htk]
        simp only [go_sem, seval, reduceCtorEq, List.map_append]
        (refine Lew.env ?_; exact lee_here)
      · have h1 : ¬ ((i : Int) < (p.l.length : Int)) := by omega
        have : p.l.take i = p.l := List.take_of_length_le (by omega)
        ((try refine W.a ?_); simp only [go_sem, seval, reduceCtorEq, h1])
        refine W.no rfl ?_
        rw [this]
        ((try refine W.a ?_); simp only [go_sem, seval, reduceCtorEq])
        (refine W.c1w (ref05_with w0 p (subSs (applyG s) () p.l).1 _) ?_; simp only [go_sem, seval, reduceCtorEq, withT])
        (refine W.fg (hok) (d := (withT p (subSs (applyG s) () p.l).1).v) (by simp only [r36, go_sem, seval, reduceCtorEq, withT]; rfl) (by simp only [resV, go_sem, seval, reduceCtorEq, withT]; exact wk_here) ?_ (hl := by (first | exact .c _ | (simp only [go_sem, seval, reduceCtorEq, withT]; done))))
        exact ⟨rfl, rfl⟩
end
section

theorem strconv_ItoaD {w0 : World} (hG : Glob w0) (n : Int) (h0 : -9223372036854775808 ≤ n) (h1 : n ≤ 9223372036854775807) (σ : H) : DC Tryz.prog w0 75 [I n] σ (Same (S (Lib.itoa n)) σ) := by
  refine DC.of_calls (enters_fn Tryz.func75 (by kernel_rfl) rfl) fun κ w vs hrep hfit => ?_
  obtain ⟨v, ys, rfl, hv, hfit⟩ := hfit.cons_inv
  have := hfit.nil_inv
  subst this
  cases hv with
  | c hv =>
    cases hv with
    | int _ _ =>
      refine ⟨_, .c (.str _ (by have := Lib.itoa_length_le n h0 h1; unfold maxLen; omega)), (itoaC n w h0 h1 (hG.ext hrep.ext)).mono ?_⟩
      rintro e w' ⟨rfl, hb⟩
      exact ⟨rfl, hb⟩
theorem strings_JoinD {w0 : World} (l : List Str) (sep : Str) (hj : (Lib.join l sep).length ≤ 100000000) (hn : l.length ≤ 100000000) (σ : H) : DC Tryz.prog w0 77 [.c (.sl (strsR l)), S sep] σ (Same (S (Lib.join l sep)) σ) := by
  refine DC.of_calls (enters_fn Tryz.func77 (by kernel_rfl) rfl) fun κ w vs hrep hfit => ?_
  obtain ⟨v, ys, rfl, hv, hfit⟩ := hfit.cons_inv
  obtain ⟨u, zs, rfl, hu, hfit⟩ := hfit.cons_inv
  have := hfit.nil_inv
  subst this
  cases hu with
  | c hu =>
    cases hu with
    | str _ hls =>
      cases hv with
      | c hv =>
        generalize hr : strsR l = rows at hv
        cases hv with
        | sl rows s A cap xs h0 h1 h2 h3 h4 h5 =>
          subst hr
          have hlen : (strsR l).length = l.length := by simp [strsR]
          rw [hlen] at h1 h3 ⊢
          cases l with
          | nil =>
            refine ⟨_, .c (.str _ (by rw [Lib.join_nil]; decide)), (Tryz.strings_Join_none A cap (bs sep) w).mono ?_⟩
            rintro e w' ⟨rfl, rfl⟩
            exact ⟨rfl, Below.refl _ _⟩
          | cons a r =>
            obtain ⟨b, o, rfl, hm⟩ := h4 (by simp [strsR])
            have hs : s = 1 := by
              have := h0 [C.str a] (by simp [strsR])
              simpa using this.symm
            subst hs
            have hc : ∀ (j : Nat) x, ((a :: r).map bs)[j]? = some x → w.cell? ⟨b, o + j, none⟩ = some (.string x) := fun j x hx => by
              rw [List.getElem?_map] at hx
              have hj' : j < (a :: r).length := by
                rcases Nat.lt_or_ge j (a :: r).length with h | h
                · exact h
                · rw [List.getElem?_eq_none h] at hx; cases hx
              rw [List.getElem?_eq_getElem hj'] at hx
              injection hx with hx
              subst hx
              have hx1 : j < xs.length := by rw [h3]; omega
              have e1 : (strsR (a :: r))[j]'(by rw [hlen]; exact hj') = [C.str (a :: r)[j]] := by simp only [strsR, List.getElem_map]
              have h6 := h5 j (by rw [hlen]; exact hj') 0 (by rw [e1]; exact Nat.zero_lt_one)
              have h7 := hm j hx1
              rw [List.getElem?_eq_getElem hx1] at h7
              have h8 := hrep.mem _ _ _ h7
              rw [h8]
              have e2 : xs.getD (j * 1 + 0) undef = xs[j] := by simp [List.getD, hx1]
              rw [e2] at h6
              simp only [e1, List.getElem_cons_zero] at h6
              generalize xs[j] = y at h6
              cases h6
              rfl
            have hbk : b < w.heap.size := by
              have := hc 0 (bs a) rfl
              exact cell_lt this
            have hmap : ((a :: r).map bs).map (fun x => x.data.toList) = a :: r := by
              rw [List.map_map]
              have : (fun x : ByteArray => x.data.toList) ∘ bs = id := by funext x; rfl
              rw [this, List.map_id]
            have hJ := Tryz.strings_Join b o cap ((a :: r).map bs) (bs sep) w hc hbk (by simp only [List.length_map]; simp only [List.length_cons] at hn ⊢; omega) (by rw [List.length_map]; exact h1) (by rw [hmap]; show (Lib.join (a :: r) sep).length ≤ _; omega)
            rw [hmap, List.length_map] at hJ
            refine ⟨_, .c (.str _ (by unfold maxLen; omega)), hJ.mono ?_⟩
            rintro e w' ⟨rfl, hb⟩
            exact ⟨rfl, hb⟩
theorem ty_put (w0 : World) (s : Str) (b : Bool) (hs : s.length ≤ 100000000) (σ : H) : DC Tryz.prog w0 76 [S s, B b] σ (Same (S (putL s b)) σ) := by
  refine k76.go rfl (fun hok hsz => ?_)
  have h1 : 1 + s.length ≤ 9223372036854775807 := by omega
  have h2 : s.length + 1 + 1 ≤ 9223372036854775807 := by omega
  have h3 : s.length + 1 ≤ 9223372036854775806 := by omega
  have h4 : s.length ≤ 9223372036854775805 := by omega
  ((try refine W.a ?_); simp only [go_sem, seval, reduceCtorEq, c76])
  cases b
  · refine W.no rfl ?_
    ((try refine W.a ?_); simp only [go_sem, seval, reduceCtorEq])
    (refine W.fs (hok) (by simp only [r76, go_sem, seval, reduceCtorEq]; rfl) ?_; simp only [resV]; try exact V.wk.rfl _)
  · refine W.yes rfl ?_
    ((try refine W.a ?_); simp only [go_sem, seval, reduceCtorEq, h1, h2, h3, h4])
    (refine W.fs (hok) (by simp only [r76, go_sem, seval, reduceCtorEq]; rfl) ?_; simp only [resV]; try exact V.wk.rfl _)
end
section
attribute [local go_sem] Typ.v Typ.cs_eq tk_mk tname_mk tn_mk tl_mk tysC

theorem ty_TextVar {w0 : World} (hG : Glob w0) (p : Typ) (hk : p.k = 1) (hn : inI p.n) (σ : H) : DC Tryz.prog w0 40 [p.v] σ (Same (S (textT p)) σ) := by
  refine k40.go rfl (fun hok hsz => ?_)
  rw [text_var hk]
  by_cases h0 : p.n < 0
  · rw [if_pos h0]
    ((try refine W.a ?_); simp only [go_sem, seval, reduceCtorEq, c40, hk, h0])
    refine W.yes rfl ?_
    ((try refine W.a ?_); simp only [go_sem, seval, reduceCtorEq])
    (refine W.fs (hok) (by simp only [r40, go_sem, seval, reduceCtorEq]; rfl) ?_; simp only [resV]; try exact V.wk.rfl _)
  · rw [if_neg h0]
    obtain ⟨_, hn⟩ := hn
    have e1 : p.n.tmod 26 = p.n % 26 := Int.tmod_eq_emod_of_nonneg (by omega)
    have e2 : p.n.tdiv 26 = p.n / 26 := Int.tdiv_eq_ediv_of_nonneg (by omega)
    have w1 : IntKind.i64.wrap (65 + p.n % 26) = 65 + p.n % 26 := by rw [wrap_in] <;> omega
    have w2 : IntKind.u8.wrap (65 + p.n % 26) = 65 + p.n % 26 := by
      unfold IntKind.wrap IntKind.bits IntKind.signed
      simp
      omega
    have w3 : IntKind.i64.wrap (p.n / 26) = p.n / 26 := by rw [wrap_in] <;> omega
    ((try refine W.a ?_); simp only [go_sem, seval, reduceCtorEq, c40, hk, h0])
    refine W.no rfl ?_
    ((try refine W.a ?_); simp only [go_sem, seval, reduceCtorEq])
    refine W.yes rfl ?_
    ((try refine W.a ?_); simp only [go_sem, seval, reduceCtorEq, e1, e2, w1, w2, w3])
    unfold varL
    by_cases h1 : 0 < p.n / 26
    · have h2 : p.n / 26 > 0 := h1
      have h3 := Lib.itoa_length_le (p.n / 26) (by omega) (by omega)
      have h4 : 1 + (Lib.itoa (p.n / 26)).length ≤ 9223372036854775807 := by omega
      rw [if_pos h1]
      ((try refine W.a ?_); simp only [go_sem, seval, reduceCtorEq, h2])
      refine W.yes rfl ?_
      ((try refine W.a ?_); simp only [go_sem, seval, reduceCtorEq])
      (refine W.c1 (strconv_ItoaD hG (p.n / 26) (by omega) (by omega) _) ?_; simp only [go_sem, seval, reduceCtorEq, h4])
      (refine W.fs (hok) (by simp only [r40, go_sem, seval, reduceCtorEq]; rfl) ?_; simp only [resV]; try exact V.wk.rfl _)
    · have h2 : ¬ p.n / 26 > 0 := h1
      rw [if_neg h1]
      ((try refine W.a ?_); simp only [go_sem, seval, reduceCtorEq, h2])
      refine W.no rfl ?_
      ((try refine W.a ?_); simp only [go_sem, seval, reduceCtorEq])
      (refine W.fs (hok) (by simp only [r40, go_sem, seval, reduceCtorEq]; rfl) ?_; simp only [resV]; try exact V.wk.rfl _)
theorem ty_TextArr {w0 : World} (p a b : Typ) (hA : arrowT p = true) (hl : p.l = [a, b]) (hn : (textT p).length ≤ 1000000) (σ : H)
    (ha : ∀ σ, DC Tryz.prog w0 40 [a.v] σ (Same (S (textT a)) σ)) (hb : ∀ σ, DC Tryz.prog w0 40 [b.v] σ (Same (S (textT b)) σ)) : DC Tryz.prog w0 40 [p.v] σ (Same (S (textT p)) σ) := by
  refine k40.go rfl (fun hok hsz => ?_)
  have hA' := hA
  simp only [arrowT, Bool.and_eq_true, beq_iff_eq] at hA'
  have nk : (p.k == 1) = false := by rw [hA'.1]; rfl
  obtain ⟨hn1, hn2⟩ := text_arr_len hA hl
  rw [text_arr hA hl]
  have h1 : (putL (textT a) (arrowT a)).length + 4 ≤ 9223372036854775807 := by omega
  have h2 : (putL (textT a) (arrowT a)).length + 4 + (textT b).length ≤ 9223372036854775807 := by omega
  have h3 : (putL (textT a) (arrowT a)).length + (4 + (textT b).length) ≤ 9223372036854775807 := by omega
  have h4 : (putL (textT a) (arrowT a)).length ≤ 9223372036854775803 := by omega
  ((try refine W.a ?_); simp only [go_sem, seval, reduceCtorEq, c40, nk])
  refine W.no rfl ?_
  ((try refine W.a ?_); simp only [go_sem, seval, reduceCtorEq, nk])
  refine W.no rfl ?_
  ((try refine W.a ?_); simp only [go_sem, seval, reduceCtorEq])
  (refine W.c1 (ty_arrow w0 p _) ?_; simp only [go_sem, seval, reduceCtorEq, hA])
  refine W.yes rfl ?_
  ((try refine W.a ?_); simp only [go_sem, seval, reduceCtorEq])
  apply W.dregE (List.cons_ne_nil _ _)
  case hc =>
    (apply CanonE.advPO; simp only [go_sem, seval, reduceCtorEq, hl])
    (apply CanonE.call (ha _); (case hg => rfl); (case hf => rfl); (case ha => first | rfl | simp))
    (apply CanonE.advPO; simp only [go_sem, seval, reduceCtorEq, hl])
    (apply CanonE.call (ty_arrow w0 a _); (case hg => rfl); (case hf => rfl); (case ha => first | rfl | simp))
    (apply CanonE.advPO; simp only [go_sem, seval, reduceCtorEq])
    (apply CanonE.call (ty_put w0 (textT a) (arrowT a) (by omega) _); (case hg => rfl); (case hf => rfl); (case ha => first | rfl | simp))
    (apply CanonE.advPO; simp only [go_sem, seval, reduceCtorEq, hl])
    (apply CanonE.call (hb _); (case hg => rfl); (case hf => rfl); (case ha => first | rfl | simp))
    (apply CanonE.advPO; simp only [go_sem, seval, reduceCtorEq, h1, h2, h3, h4])
    exact CanonE.nil
  ((try refine W.a ?_); simp only [go_sem, seval, reduceCtorEq])
  (refine W.fs (hok) (by simp only [r40, go_sem, seval, reduceCtorEq]; rfl) ?_; simp only [resV]; try exact V.wk.rfl _)
theorem many_of {x : Typ} (h : (x.k != 1) = true) : decide ((x.l.length : Int) > 0) = manyT x := by
  unfold manyT
  rw [h, Bool.true_and]
  apply decide_eq_decide.2
  omega
theorem many_no {x : Typ} (h : (x.k != 1) = false) : manyT x = false := by
  unfold manyT
  rw [h, Bool.false_and]
def txtL (l : List Typ) : List Str := l.map fun x => putL (textT x) (manyT x)
theorem ty_TextCon {w0 : World} (p : Typ) (hk : p.k ≠ 1) (hA : arrowT p = false) (hn : (textT p).length ≤ 1000000) (σ : H)
    (ih : ∀ x ∈ p.l, ∀ σ, DC Tryz.prog w0 40 [x.v] σ (Same (S (textT x)) σ)) : DC Tryz.prog w0 40 [p.v] σ (Same (S (textT p)) σ) := by
  refine k40.go rfl (fun hok hsz => ?_)
  have nk : (p.k == 1) = false := by simpa using hk
  obtain ⟨hn1, hn2⟩ := text_con_len hk hA
  have hlen : p.l.length ≤ 9223372036854775807 := by omega
  have hj : (Lib.join (p.name :: txtL p.l) [32]).length ≤ 100000000 := by
    have := text_con hk hA
    unfold txtL
    rw [← this]; omega
  have hj2 : (p.name :: txtL p.l).length ≤ 100000000 := by simp [txtL]; omega
  rw [text_con hk hA]
  ((try refine W.a ?_); simp only [go_sem, seval, reduceCtorEq, c40, nk])
  refine W.no rfl ?_
  ((try refine W.a ?_); simp only [go_sem, seval, reduceCtorEq, nk])
  refine W.no rfl ?_
  ((try refine W.a ?_); simp only [go_sem, seval, reduceCtorEq])
  (refine W.c1 (ty_arrow w0 p _) ?_; simp only [go_sem, seval, reduceCtorEq, hA])
  refine W.no rfl ?_
  ((try refine W.a ?_); simp only [go_sem, seval, reduceCtorEq])
  refine W.loopP (fun i => i ≤ p.l.length) (fun i => match i with
    | 0 => ⟨(((((base.put (some 1) (.ptr σ.length 0)).put (some 5) (.csl [[C.str p.name]])).put (some 63) (.c (tysC p.l))).put (some 64) (I p.l.length)).put (some 65) (I 0)), σ ++ [.cells p.v.cellsV]⟩
    | i + 1 => ⟨(((((base.put (some 1) (.ptr σ.length 0)).put (some 5) (.osl (σ.length + 2) ([C.str p.name] :: strsR (txtL (p.l.take (i + 1)))))).put (some 63) (.c (tysC p.l))).put (some 64) (I p.l.length)).put (some 65) (I ((i + 1 : Nat) : Int))), σ ++ [.cells p.v.cellsV, .gone, .spare 9 1 (i + 2)]⟩) (fun i => p.l.length - i) 0 (Nat.zero_le _) ?_ (fun i hi => ?_)
  · (refine Lew.env ?_; exact lee_here)
  · by_cases hlt : i < p.l.length
    · have hx : p.l[i]? = some p.l[i] := List.getElem?_eq_getElem hlt
      have hw := wrap_next hlt hlen
      have hmem : p.l[i] ∈ p.l := List.getElem_mem hlt
      have hc := ih _ hmem
      obtain ⟨hn3, hn4⟩ := hn2 _ hmem
      have hm : ∀ q, (p.l[i].k != 1) = q → q = (p.l[i].k != 1) := fun q h => h.symm
      have htk : txtL (p.l.take (i + 1)) = txtL (p.l.take i) ++ [putL (textT p.l[i]) (manyT p.l[i])] := by
        unfold txtL
        rw [List.take_succ_eq_append_getElem hlt, List.map_append]; rfl
      generalize p.l[i] = x at hx hc hn3 hn4 hm htk hmem
      rcases i with _ | i
      · have h1 : ((0 : Int) < (p.l.length : Int)) := by omega
        ((try refine W.a ?_); simp only [go_sem, seval, reduceCtorEq, h1])
        refine W.yes rfl ?_
        ((try refine W.a ?_); simp only [go_sem, seval, reduceCtorEq, h1, hx])
        cases hq : (x.k != 1)
        · have hmm := many_no hq
          rw [hmm] at htk
          apply W.dregE (List.cons_ne_nil _ _)
          case hc =>
            (apply CanonE.advPO; simp only [go_sem, seval, reduceCtorEq])
            (apply CanonE.call (hc _); (case hg => rfl); (case hf => rfl); (case ha => first | rfl | simp))
            (apply CanonE.advPO; simp only [go_sem, seval, reduceCtorEq, hq])
            (apply CanonE.call (ty_put w0 (textT x) false (by omega) _); (case hg => rfl); (case hf => rfl); (case ha => first | rfl | simp))
            (apply CanonE.advPO; simp only [go_sem, seval, reduceCtorEq, hq, ne_eq, not_false_eq_true, or_true])
            exact CanonE.nil
          ((try refine W.a ?_); simp only [go_sem, seval, reduceCtorEq, hw])
          refine .inv ⟨1, by omega, by omega, ?_⟩
          simp only [htk, strsR, List.map_append, List.map_cons, List.map_nil]
          (refine Lew.cutL (hok) ?_ (by simp) (by simp) ?_ ?_ ?_; exact lee_here; ((try simp only [okB, wkB, go_sem, seval, reduceCtorEq]) <;> omega); (simp only [List.length_cons, List.length_nil, Nat.reduceAdd, List.take_succ_cons, List.take_zero, wkB, and_true]; (repeat' (refine And.intro ?_ ?_)) <;> (first | exact Blk.wk.rfl _ | exact Blk.wk.gone _ | (refine Blk.wk_cells ?_ rfl; (exact wk_here)))); (repeat' (first | exact LowE.base _ | (refine LowE.put ?_ (by first | exact .c _ | ((try simp only [okB, wkB, go_sem, seval, reduceCtorEq]) <;> omega))))))
        · have hmm := many_of hq
          apply W.dregE (List.cons_ne_nil _ _)
          case hc =>
            (apply CanonE.advPO; simp only [go_sem, seval, reduceCtorEq])
            (apply CanonE.call (hc _); (case hg => rfl); (case hf => rfl); (case ha => first | rfl | simp))
            (apply CanonE.advPO; simp only [go_sem, seval, reduceCtorEq, hq, hmm])
            (apply CanonE.call (ty_put w0 (textT x) (manyT x) (by omega) _); (case hg => rfl); (case hf => rfl); (case ha => first | rfl | simp))
            (apply CanonE.advPO; simp only [go_sem, seval, reduceCtorEq, hq, ne_eq, not_false_eq_true, or_true])
            exact CanonE.nil
          ((try refine W.a ?_); simp only [go_sem, seval, reduceCtorEq, hw])
          refine .inv ⟨1, by omega, by omega, ?_⟩
          simp only [htk, strsR, List.map_append, List.map_cons, List.map_nil]
          (refine Lew.cutL (hok) ?_ (by simp) (by simp) ?_ ?_ ?_; exact lee_here; ((try simp only [okB, wkB, go_sem, seval, reduceCtorEq]) <;> omega); (simp only [List.length_cons, List.length_nil, Nat.reduceAdd, List.take_succ_cons, List.take_zero, wkB, and_true]; (repeat' (refine And.intro ?_ ?_)) <;> (first | exact Blk.wk.rfl _ | exact Blk.wk.gone _ | (refine Blk.wk_cells ?_ rfl; (exact wk_here)))); (repeat' (first | exact LowE.base _ | (refine LowE.put ?_ (by first | exact .c _ | ((try simp only [okB, wkB, go_sem, seval, reduceCtorEq]) <;> omega))))))
      · have h1 : (((i + 1 : Nat) : Int) < (p.l.length : Int)) := by omega
        have hlk : (strsR (txtL (p.l.take (i + 1)))).length = i + 1 := by
          simp only [strsR, txtL, List.length_map, List.length_take]
          omega
        have hb1 : (i + 2 + 1) * 16 ≤ 140737488355328 := by omega
        have hb2 : i + 2 + 1 ≤ 140737488355328 := by omega
        ((try refine W.a ?_); simp only [go_sem, seval, reduceCtorEq, h1])
        refine W.yes rfl ?_
        ((try refine W.a ?_); simp only [go_sem, seval, reduceCtorEq, h1, nat0, hx])
        cases hq : (x.k != 1)
        · have hmm := many_no hq
          rw [hmm] at htk
          apply W.dregE (List.cons_ne_nil _ _)
          case hc =>
            (apply CanonE.advPO; simp only [go_sem, seval, reduceCtorEq])
            (apply CanonE.call (hc _); (case hg => rfl); (case hf => rfl); (case ha => first | rfl | simp))
            (apply CanonE.advPO; simp only [go_sem, seval, reduceCtorEq, hq])
            (apply CanonE.call (ty_put w0 (textT x) false (by omega) _); (case hg => rfl); (case hf => rfl); (case ha => first | rfl | simp))
            (apply CanonE.advPO; simp only [go_sem, seval, reduceCtorEq, hq, hb1, hb2, hlk])
            exact CanonE.nil
          ((try refine W.a ?_); simp only [go_sem, seval, reduceCtorEq, hw])
          refine .inv ⟨i + 2, hlt, by omega, ?_⟩
          simp only [htk, strsR, List.map_append, List.map_cons, List.map_nil]
          (refine Lew.cutL (hok) ?_ (by simp) (by simp) ?_ ?_ ?_; exact lee_here; ((try simp only [okB, wkB, go_sem, seval, reduceCtorEq]) <;> omega); (simp only [List.length_cons, List.length_nil, Nat.reduceAdd, List.take_succ_cons, List.take_zero, wkB, and_true]; (repeat' (refine And.intro ?_ ?_)) <;> (first | exact Blk.wk.rfl _ | exact Blk.wk.gone _ | (refine Blk.wk_cells ?_ rfl; (exact wk_here)))); (repeat' (first | exact LowE.base _ | (refine LowE.put ?_ (by first | exact .c _ | ((try simp only [okB, wkB, go_sem, seval, reduceCtorEq]) <;> omega))))))
        · have hmm := many_of hq
          apply W.dregE (List.cons_ne_nil _ _)
          case hc =>
            (apply CanonE.advPO; simp only [go_sem, seval, reduceCtorEq])
            (apply CanonE.call (hc _); (case hg => rfl); (case hf => rfl); (case ha => first | rfl | simp))
            (apply CanonE.advPO; simp only [go_sem, seval, reduceCtorEq, hq, hmm])
            (apply CanonE.call (ty_put w0 (textT x) (manyT x) (by omega) _); (case hg => rfl); (case hf => rfl); (case ha => first | rfl | simp))
            (apply CanonE.advPO; simp only [go_sem, seval, reduceCtorEq, hq, hb1, hb2, hlk])
            exact CanonE.nil
          ((try refine W.a ?_); simp only [go_sem, seval, reduceCtorEq, hw])
          refine .inv ⟨i + 2, hlt, by omega, ?_⟩
          simp only [htk, strsR, List.map_append, List.map_cons, List.map_nil]
          (refine Lew.cutL (hok) ?_ (by simp) (by simp) ?_ ?_ ?_; exact lee_here; ((try simp only [okB, wkB, go_sem, seval, reduceCtorEq]) <;> omega); (simp only [List.length_cons, List.length_nil, Nat.reduceAdd, List.take_succ_cons, List.take_zero, wkB, and_true]; (repeat' (refine And.intro ?_ ?_)) <;> (first | exact Blk.wk.rfl _ | exact Blk.wk.gone _ | (refine Blk.wk_cells ?_ rfl; (exact wk_here)))); (repeat' (first | exact LowE.base _ | (refine LowE.put ?_ (by first | exact .c _ | ((try simp only [okB, wkB, go_sem, seval, reduceCtorEq]) <;> omega))))))
    · have htk : p.l.take i = p.l := List.take_of_length_le (by omega)
      rcases i with _ | i
      · have h1 : ¬ ((0 : Int) < (p.l.length : Int)) := by omega
        have hnil : p.l = [] := List.eq_nil_of_length_eq_zero (by omega)
        have hJ := strings_JoinD (w0 := w0) (p.name :: txtL p.l) [32] hj hj2
        rw [hnil] at hJ
        ((try refine W.a ?_); simp only [go_sem, seval, reduceCtorEq, h1])
        refine W.no rfl ?_
        ((try refine W.a ?_); simp only [go_sem, seval, reduceCtorEq])
        (refine W.c1w (hJ _) ?_; simp only [go_sem, seval, reduceCtorEq])
        rw [hnil]
        (refine W.fs (hok) (by simp only [r40, go_sem, seval, reduceCtorEq]; rfl) ?_; simp only [resV]; try exact V.wk.rfl _)
      · have h1 : ¬ (((i + 1 : Nat) : Int) < (p.l.length : Int)) := by omega
        have hJ := strings_JoinD (w0 := w0) (p.name :: txtL p.l) [32] hj hj2
        ((try refine W.a ?_); simp only [go_sem, seval, reduceCtorEq, h1])
        refine W.no rfl ?_
        rw [htk]
        ((try refine W.a ?_); simp only [go_sem, seval, reduceCtorEq])
        (refine W.c1w (hJ _) ?_; simp only [go_sem, seval, reduceCtorEq])
        (refine W.fs (hok) (by simp only [r40, go_sem, seval, reduceCtorEq]; rfl) ?_; simp only [resV]; try exact V.wk.rfl _)
theorem ty_Text {w0 : World} (hG : Glob w0) (p : Typ) : OkT p → (textT p).length ≤ 1000000 → ∀ (σ : H), DC Tryz.prog w0 40 [p.v] σ (Same (S (textT p)) σ) := by
  induction p using Typ.ind with
  | h p ih =>
    intro hO hn σ
    by_cases hk : p.k = 1
    · exact ty_TextVar hG p hk hO.n σ
    · cases hA : arrowT p
      · exact ty_TextCon p hk hA hn σ fun x hx => ih x hx (hO.mem hx) (by have := ((text_con_len hk hA).2 x hx).2; omega)
      · obtain ⟨a, b, hl⟩ := arrow_parts hA
        have ha : a ∈ p.l := by rw [hl]; simp
        have hb : b ∈ p.l := by rw [hl]; simp
        obtain ⟨hn1, hn2⟩ := text_arr_len hA hl
        exact ty_TextArr p a b hA hl hn σ (ih a ha (hO.mem ha) (by omega)) (ih b hb (hO.mem hb) (by omega))
end
section
attribute [local go_sem] Typ.v Typ.cs_eq tk_mk tname_mk tn_mk tl_mk tysC

theorem law05_long (w0 : World) (p : Typ) : ∀ (σ : H), DC Tryz.prog w0 58 [p.v] σ (Same (B (longT p)) σ) := by
  induction p using Typ.ind with
  | h p ih =>
  intro σ
  refine k58.go rfl (fun hok hsz => ?_)
  have hlen := typ_len hsz (List.mem_cons_self ..)
  ((try refine W.a ?_); simp only [go_sem, seval, reduceCtorEq, c58])
  rw [longT_eq]
  refine W.test rfl (fun h => ?_) (fun h => ?_)
  · ((try refine W.a ?_); simp only [go_sem, seval, reduceCtorEq])
    (refine W.fs (hok) (by simp only [r58, go_sem, seval, reduceCtorEq]; rfl) ?_; simp only [resV]; try exact V.wk.rfl _)
    rw [h, Bool.true_or]
    exact .rfl _
  · rw [h, Bool.false_or]
    ((try refine W.a ?_); simp only [go_sem, seval, reduceCtorEq])
    refine W.loopP (fun i => i ≤ p.l.length ∧ UpTo longT p.l i) (fun i => ⟨(((base.put (some 1) (.ptr σ.length 0)).put (some 2) (B false)).put (some 3) (I (i : Nat))), σ ++ [.cells p.v.cellsV]⟩) (fun i => p.l.length - i) 0 ⟨Nat.zero_le _, upTo_zero⟩ ?_ (fun i hi => ?_)
    · (refine Lew.env ?_; exact lee_here)
    · obtain ⟨hi, hinv⟩ := hi
      by_cases hlt : i < p.l.length
      · have h1 : ((i : Int) < (p.l.length : Int)) := by omega
        have hx : p.l[i]? = some p.l[i] := List.getElem?_eq_getElem hlt
        have hw : IntKind.i64.wrap ((i : Int) + 1) = ((i + 1 : Nat) : Int) := wrap_next hlt hlen
        ((try refine W.a ?_); simp only [go_sem, seval, reduceCtorEq, h1])
        refine W.yes rfl ?_
        ((try refine W.a ?_); simp only [go_sem, seval, reduceCtorEq, h1, nat0, hx])
        (refine W.c1 (ih p.l[i] (List.getElem_mem hlt) _) ?_; simp only [go_sem, seval, reduceCtorEq])
        refine W.test rfl (fun h2 => ?_) (fun h2 => ?_)
        · ((try refine W.a ?_); simp only [go_sem, seval, reduceCtorEq])
          (refine W.fs (hok) (by simp only [r58, go_sem, seval, reduceCtorEq]; rfl) ?_; simp only [resV]; try exact V.wk.rfl _)
          rw [List.any_eq_true.2 ⟨_, List.getElem_mem hlt, h2⟩]
          exact .rfl _
        · ((try refine W.a ?_); simp only [go_sem, seval, reduceCtorEq, hw])
          refine .inv ⟨i + 1, ⟨hlt, upTo_next hinv hlt h2⟩, by omega, ?_⟩
          (refine Lew.env ?_; exact lee_here)
      · have h1 : ¬ ((i : Int) < (p.l.length : Int)) := by omega
        ((try refine W.a ?_); simp only [go_sem, seval, reduceCtorEq, h1])
        refine W.no rfl ?_
        ((try refine W.a ?_); simp only [go_sem, seval, reduceCtorEq])
        (refine W.fs (hok) (by simp only [r58, go_sem, seval, reduceCtorEq]; rfl) ?_; simp only [resV]; try exact V.wk.rfl _)
        rw [List.any_eq_false.2 (fun x hx => by obtain ⟨j, hj, rfl⟩ := List.getElem_of_mem hx; rw [hinv j hj (by omega)]; decide)]
        exact .rfl _
def overT (p : Typ) : Bool := decide (leftT p 120 < 0) || longT p
theorem law05_over (w0 : World) (p : Typ) (σ : H) : DC Tryz.prog w0 27 [p.v] σ (Same (B (overT p)) σ) := by
  refine k27.go rfl (fun hok hsz => ?_)
  unfold overT
  ((try refine W.a ?_); simp only [go_sem, seval, reduceCtorEq, c27])
  (refine W.c1 (ref05_Large w0 p 120 (by decide) (by decide) _) ?_; simp only [go_sem, seval, reduceCtorEq])
  cases hq : decide (leftT p 120 < 0)
  · ((try refine W.a ?_); simp only [go_sem, seval, reduceCtorEq])
    (refine W.c1 (law05_long w0 p _) ?_; simp only [go_sem, seval, reduceCtorEq])
    (refine W.fs (hok) (by simp only [r27, go_sem, seval, reduceCtorEq]; rfl) ?_; simp only [resV]; try exact V.wk.rfl _)
  · ((try refine W.a ?_); simp only [go_sem, seval, reduceCtorEq])
    (refine W.fs (hok) (by simp only [r27, go_sem, seval, reduceCtorEq]; rfl) ?_; simp only [resV]; try exact V.wk.rfl _)
theorem over_no {p : Typ} (h : overT p = false) : nodesT p ≤ 120 ∧ longT p = false := by
  unfold overT at h
  rw [Bool.or_eq_false_iff] at h
  have := small_of (n := 120) (by decide) h.1
  exact ⟨by omega, h.2⟩
def tsrc0 : List UInt8 := [40, 65, 32, 45, 62, 32, 111, 41, 32, 45, 62, 32, 108, 105, 115, 116, 32, 65, 32, 45, 62, 32, 66]
def typ0 : Typ := .arr (.arr (.var 0) (.con [111])) (.arr (.mk 0 [108, 105, 115, 116] 0 [.var 0]) (.var 1))
theorem tsrc0_read : tyTypeF 60 (lexL tsrc0).toks 0 0 [] = some (.ok (typ0, 10, [[65], [66]])) := by kernel_rfl
theorem typ0_ok : OkT typ0 := by
  have hv : ∀ n, 0 ≤ n → n ≤ 1 → OkT (.var n) := fun n h h' => .mk (by decide) (by unfold inI; omega) (fun x hx => by cases hx)
  have hi : inI 0 := by decide
  have h2 : inI 2 := by decide
  refine .mk h2 hi fun x hx => ?_
  simp only [List.mem_cons, List.not_mem_nil, or_false] at hx
  rcases hx with rfl | rfl
  · refine .mk h2 hi fun x hx => ?_
    simp only [List.mem_cons, List.not_mem_nil, or_false] at hx
    rcases hx with rfl | rfl
    · exact hv 0 (by decide) (by decide)
    · exact .mk hi hi fun x hx => by cases hx
  · refine .mk h2 hi fun x hx => ?_
    simp only [List.mem_cons, List.not_mem_nil, or_false] at hx
    rcases hx with rfl | rfl
    · refine .mk hi hi fun x hx => ?_
      simp only [List.mem_cons, List.not_mem_nil, or_false] at hx
      subst hx
      exact hv 0 (by decide) (by decide)
    · exact hv 1 (by decide) (by decide)
theorem typ0_text : textT typ0 = tsrc0 := by kernel_rfl
theorem typ0_vars : varsT 0 typ0 = 2 := by kernel_rfl
theorem typ0_valid : validT typ0 = true := by kernel_rfl
theorem typ0_size : sizeT typ0 = 8 := by kernel_rfl
theorem typ0_parts : partsT typ0 = ([.arr (.var 0) (.con [111]), .mk 0 [108, 105, 115, 116] 0 [.var 0]], .var 1) := by kernel_rfl
theorem typ0_depth : depthT typ0 ≤ 1000000 := of_decide_eq_true (by kernel_rfl)
theorem law05_works {w0 : World} (hG : Glob w0) (σ : H) : DC Tryz.prog w0 24 [] σ (Same (B true) σ) := by
  refine k24.go rfl (fun hok hsz => ?_)
  have e0 : DC Tryz.prog w0 39 [S tsrc0] σ (Same (.tup [.c (toksC (lexL tsrc0).toks), I (lexL tsrc0).err, I (lexL tsrc0).pos]) σ) := lex_Lex hG tsrc0 (by decide) σ
  have e1 : ∀ σ, DC Tryz.prog w0 25 [.c (toksC (lexL tsrc0).toks), I 0] σ (Same (.tup [typ0.v, I 10, I 0, I 0]) σ) := fun σ => by
    have := ty_Read w0 (lexL tsrc0).toks 0 (of_decide_eq_true (by kernel_rfl)) σ
    have hr : tyFrom (lexL tsrc0).toks 0 = .ok (typ0, 10, [[65], [66]]) := by
      have e : ((0 : Nat) : Int) = 0 := rfl
      rw [← e, tyFrom_nat (Nat.zero_le _), tyT_eq ⟨60, tsrc0_read⟩]
    rw [hr] at this
    exact this
  have e2 : ∀ σ, DC Tryz.prog w0 30 [typ0.v] σ (Same (.tup [.c (tysC [.arr (.var 0) (.con [111]), .mk 0 [108, 105, 115, 116] 0 [.var 0]]), (Typ.var 1).v]) σ) := fun σ => by
    have := ty_Parts w0 typ0 typ0_depth σ
    rw [typ0_parts] at this
    exact this
  have e3 : ∀ σ, DC Tryz.prog w0 28 [typ0.v] σ (Same (B true) σ) := fun σ => by
    have := ty_Valid w0 typ0 σ
    rw [typ0_valid] at this
    exact this
  have e4 : ∀ σ, DC Tryz.prog w0 40 [typ0.v] σ (Same (S tsrc0) σ) := fun σ => by
    have := ty_Text hG typ0 typ0_ok (by rw [typ0_text]; decide) σ
    rw [typ0_text] at this
    exact this
  have e5 : ∀ σ, DC Tryz.prog w0 54 [typ0.v] σ (Same (I 2) σ) := fun σ => by
    have := ty_Vars w0 typ0 (by rw [typ0_size]; decide) σ
    rw [typ0_vars] at this
    exact this
  have e6 : ∀ σ, DC Tryz.prog w0 55 [typ0.v] σ (Same (I 8) σ) := fun σ => by
    have := ty_Size w0 typ0 (by rw [typ0_size]; decide) σ
    rw [typ0_size] at this
    exact this
  generalize typ0 = t at *
  ((try refine W.a ?_); simp only [go_sem, seval, reduceCtorEq, c24])
  (refine W.c1 (e0) ?_; simp only [go_sem, seval, reduceCtorEq])
  (refine W.c1 (e1 _) ?_; simp only [go_sem, seval, reduceCtorEq])
  (refine W.c1 (e2 _) ?_; simp only [go_sem, seval, reduceCtorEq, Typ.var])
  (refine W.c1 (e3 _) ?_; simp only [go_sem, seval, reduceCtorEq])
  (refine W.c1 (e4 _) ?_; simp only [go_sem, seval, reduceCtorEq, tsrc0])
  (refine W.c1 (e5 _) ?_; simp only [go_sem, seval, reduceCtorEq])
  (refine W.c1 (e6 _) ?_; simp only [go_sem, seval, reduceCtorEq])
  (refine W.fs (hok) (by simp only [r24, go_sem, seval, reduceCtorEq]; rfl) ?_; simp only [resV]; try exact V.wk.rfl _)
end
end Go.Proofs.YtohcnohllbjlcaaGreatDoor
namespace Go.Lamb
open Go Go.RowKit
theorem norm_len (p : Typ) : ∀ vs : List Int, (subS normG vs p).2.length ≤ vs.length + nodesT p := by
  induction p using Typ.ind with
  | h p ih =>
    intro vs
    rw [subS_eq, nodesT_eq]
    split
    · have := (iadd_len vs p.n).1
      show (iadd vs p.n).length ≤ _
      omega
    · have key : ∀ l : List Typ, (∀ x ∈ l, x ∈ p.l) → ∀ vs : List Int, (subSs normG vs l).2.length ≤ vs.length + nodesTs l := by
        intro l
        induction l with
        | nil => intro _ vs; simp [subSs]
        | cons x l ihl =>
          intro hs vs
          rw [subSs, nodesTs]
          have h1 := ih x (hs x (List.mem_cons_self ..)) vs
          have h2 := ihl (fun y hy => hs y (List.mem_cons_of_mem _ hy)) (subS normG vs x).2
          simp only
          omega
      have := key p.l (fun x hx => hx) vs
      simp only
      omega
theorem norms_len : ∀ (l : List Typ) (vs : List Int), (subSs normG vs l).2.length ≤ vs.length + nodesTs l
  | [], vs => by simp [subSs]
  | x :: l, vs => by
    rw [subSs, nodesTs]
    have h1 := norm_len x vs
    have h2 := norms_len l (subS normG vs x).2
    simp only
    omega
theorem nodesTs_add : ∀ (l r : List Typ), nodesTs (l ++ r) = nodesTs l + nodesTs r
  | [], r => by simp [nodesTs]
  | x :: l, r => by rw [List.cons_append, nodesTs, nodesTs, nodesTs_add l r]; omega
theorem nodesTs_at {l : List Typ} {i : Nat} (h : i < l.length) : nodesTs (l.take i) + nodesT l[i] ≤ nodesTs l := by
  have h1 := nodesTs_add (l.take (i + 1)) (l.drop (i + 1))
  rw [List.take_append_drop, List.take_succ_eq_append_getElem h, nodesTs_add, nodesTs, nodesTs] at h1
  omega
def intsR (l : List Int) : List (List C) := l.map fun x => [C.int .i64 x]
end Go.Lamb
namespace Go.Proofs.YtohcnohllbjlcaaGreatDoor
open Go.RowKit Go.Lamb
attribute [local go_sem] advO_skip advO_reg advO_seq advO_block advO_exit advO_endb advO_opsNil advO_ops advG_yes advG_no advG_none advS_some advS_none advO_cond advO_loop advO_dreg advO_ret advO_bad advO_inv advO_nil advO_zero wantedV Lamb.step ev_t ev_k put_some put_none argEnv popTo cellsAt V.cellsV V.rows V.toC toCs fillV bytesC byteRows appV rowsV boundV boundL binV binInt binStr eqC eqL V.isNil leaves V.leaf Ins.quiet Ins.pure List.getD_cons_zero List.getD_cons_succ List.getD_nil List.all_cons List.all_nil List.length_cons List.length_nil List.take_succ_cons List.take_zero List.drop_succ_cons List.drop_zero List.cons_append List.nil_append List.append_nil List.append_assoc List.map_cons List.map_nil List.getElem?_cons_zero List.getElem?_cons_succ List.length_append List.length_set hget0 hget hset0 hset hsets hgs0 hgs hss0 hss List.set_cons_zero List.set_cons_succ List.forall_mem_cons List.not_mem_nil false_implies implies_true Option.map_some Bool.and_true Bool.true_and Bool.not_not Bool.not_true Bool.not_false Bool.and_self Bool.or_true Bool.true_or Bool.or_false Bool.false_or Bool.and_false Bool.false_and Bool.false_eq_true beq_self_eq_true and_self and_true true_and if_true if_false Nat.zero_add Nat.add_zero Nat.le_refl Int.toNat_natCast decide_true decide_false beq_t beq_f List.length_map List.getElem?_map I S B opsC toksC OpT.v OpT.cs OpT.zero Tok.v Tok.cs Pre.v Pre.cs_eq k_mk name_mk n_mk l_mk pos_mk Pre.app applyL natCast0 natCast1 natCast2 AOp.o AOp.m AOp.f AOp.l AOp.d AOp.n AOp.x AOp.s AOp.k AOp.y AOp.z EOp.q low_c low_void low_any low_csl low_nilf low_ptr low_osl low_agg low_tup low_fn resEval advPO_nil advPO_loud advPO_quiet pL_yes pL_no pLS_some pLS_none pQ_yes pQ_no pQS_some pQS_loud eq_self Nat.sub_zero
def nmX (m : Nat) (vs : List Int) : Blk := .cells [.osl m (intsR vs)]
def nmY (vs : List Int) : Blk := .spare 3 1 vs.length
abbrev nms (σ : H) (b m : Nat) (vs : List Int) : H := rs σ b m (nmX m vs) (nmY vs)
theorem nms_ok {σ : H} {b m : Nat} (D : Two σ b m) {X Y : Blk} (h : H.ok (rs σ b m X Y)) (vs : List Int) : H.ok (nms σ b m vs) :=
  rs_ok D h (fun cs tg hc x hx => by
    unfold nmX at hc
    injection hc with hc _
    subst hc
    simp only [List.mem_cons, List.not_mem_nil, or_false] at hx
    subst hx
    exact .osl D.lv) (fun cs tg hc => by unfold nmY at hc; cases hc)
attribute [local go_sem] nmX nmY rs_len rs_g0 rs_g rs_s0 rs_s rs_sv Typ.v Typ.cs_eq tk_mk tname_mk tn_mk tl_mk tysC
theorem nms_push (σ : H) (b m : Nat) (vs : List Int) (x : Int) : nms σ b m (vs ++ [x]) = rs σ b m (.cells [.osl m (intsR vs ++ [[C.int .i64 x]])]) (.spare 3 1 (vs.length + 1)) := by
  show rs σ b m (nmX m (vs ++ [x])) (nmY (vs ++ [x])) = _
  simp only [nmX, nmY, intsR, List.map_append, List.map_cons, List.map_nil, List.length_append, List.length_cons, List.length_nil]
theorem ref05_of (w0 : World) (vs : List Int) (n : Int) (σ : H) (b m : Nat) (D : Two σ b m) (hv : vs.length ≤ 3000000) :
    DC Tryz.prog w0 115 [.ptr b 0, I n] (nms σ b m vs) (Same (I (inum vs n : Nat)) (nms σ b m (iadd vs n))) := by
  refine k115.go rfl (fun hok hsz => ?_)
  have hlr : (intsR vs).length = vs.length := by simp [intsR]
  ((try refine W.a ?_); simp only [go_sem, seval, reduceCtorEq, c115, rsA D])
  refine W.loopP (fun i => i ≤ vs.length ∧ UpTo (· == n) vs i) (fun i => ⟨((((base.put (some 0) (.ptr b 0)).put (some 1) (I n)).put (some 4) (I 0)).put (some 5) (I (i : Nat))), nms σ b m vs⟩) (fun i => vs.length - i) 0 ⟨Nat.zero_le _, upTo_zero⟩ ?_ (fun i hi => ?_)
  · (refine Lew.env ?_; exact lee_here)
  · obtain ⟨hi, hinv⟩ := hi
    by_cases hlt : i < vs.length
    · have h1 : ((i : Int) < (vs.length : Int)) := by omega
      have hx : (intsR vs)[i]? = some [C.int .i64 vs[i]] := by simp [intsR, hlt]
      have hw : IntKind.i64.wrap ((i : Int) + 1) = ((i + 1 : Nat) : Int) := wrap_next hlt (by omega)
      ((try refine W.a ?_); simp only [go_sem, seval, reduceCtorEq, rsA D, hlr, h1])
      refine W.yes rfl ?_
      ((try refine W.a ?_); simp only [go_sem, seval, reduceCtorEq, rsA D, hlr, h1, nat0, hx])
      refine W.test rfl (fun h => ?_) (fun h => ?_)
      · have hk : inum vs n = i ∧ iadd vs n = vs := by
          have e : vs.findIdx? (· == n) = some i := List.findIdx?_eq_some_iff_getElem.2 ⟨hlt, h, fun j hj => by have := hinv j (by omega) hj; simpa using this⟩
          unfold inum iadd
          rw [e]
          exact ⟨rfl, rfl⟩
        rw [hk.1, hk.2]
        ((try refine W.a ?_); simp only [go_sem, seval, reduceCtorEq])
        (refine W.fs (hok) (by simp only [r115, go_sem, seval, reduceCtorEq]; rfl) ?_; simp only [resV]; try exact V.wk.rfl _)
      · ((try refine W.a ?_); simp only [go_sem, seval, reduceCtorEq, hw])
        refine .inv ⟨i + 1, ⟨hlt, upTo_next hinv hlt h⟩, by omega, ?_⟩
        (refine Lew.env ?_; exact lee_here)
    · have h1 : ¬ ((i : Int) < (vs.length : Int)) := by omega
      have hk : inum vs n = vs.length ∧ iadd vs n = vs ++ [n] := by
        have e : vs.findIdx? (· == n) = none := List.findIdx?_eq_none_iff.2 fun x hx => by obtain ⟨j, hj, rfl⟩ := List.getElem_of_mem hx; exact hinv j hj (by omega)
        unfold inum iadd
        rw [e]
        exact ⟨rfl, rfl⟩
      have hb1 : (vs.length + 1) * 8 ≤ 140737488355328 := by omega
      have hb2 : vs.length + 1 ≤ 140737488355328 := by omega
      have hw : IntKind.i64.wrap (((vs.length + 1 : Nat) : Int) - 1) = ((vs.length : Nat) : Int) := by rw [wrap_in] <;> omega
      rw [hk.1, hk.2, nms_push]
      have hok2 := nms_ok D hok (vs ++ [n])
      rw [nms_push] at hok2
      ((try refine W.a ?_); simp only [go_sem, seval, reduceCtorEq, rsA D, hlr, h1])
      refine W.no rfl ?_
      ((try refine W.a ?_); simp only [go_sem, seval, reduceCtorEq, rsA D, hlr, hb1, hb2, hw])
      (refine W.fs (hok2) (by simp only [r115, go_sem, seval, reduceCtorEq]; rfl) ?_; simp only [resV]; try exact V.wk.rfl _)
theorem ref05_norm (w0 : World) (p : Typ) : nodesT p ≤ 1000000 → ∀ (σ : H) (b m : Nat) (D : Two σ b m) (vs : List Int), vs.length + nodesT p ≤ 2000000 → DC Tryz.prog w0 72 [.ptr b 0, p.v] (nms σ b m vs) (Same (subS normG vs p).1.v (nms σ b m (subS normG vs p).2)) := by
  refine Typ.ind (P := fun p => nodesT p ≤ 1000000 → ∀ (σ : H) (b m : Nat) (D : Two σ b m) (vs : List Int), vs.length + nodesT p ≤ 2000000 → DC Tryz.prog w0 72 [.ptr b 0, p.v] (nms σ b m vs) (Same (subS normG vs p).1.v (nms σ b m (subS normG vs p).2))) (fun p ih hb σ b m D vs hv => ?_) p
  refine k72.go rfl (fun hok hsz => ?_)
  have hlen := typ_len hsz (List.mem_cons_of_mem _ (List.mem_cons_self ..))
  rw [subS_eq]
  by_cases hk : p.k = 1
  · have n1 : (p.k == 1) = true := by simpa using hk
    rw [if_pos hk]
    show W _ _ _ (Lamb.Fin _ _ (Same (Typ.var (inum vs p.n : Nat)).v (nms σ b m (iadd vs p.n)))) _ _
    ((try refine W.a ?_); simp only [go_sem, seval, reduceCtorEq, c72, n1, rsA D])
    refine W.yes rfl ?_
    ((try refine W.a ?_); simp only [go_sem, seval, reduceCtorEq, rsA D])
    (refine W.c1 (DC.lift D (fun D' => ref05_of w0 vs p.n _ b m D' (by omega))) ?_; simp only [go_sem, seval, reduceCtorEq, rsA D])
    (refine W.fg (nms_ok D hok (iadd vs p.n)) (d := (Typ.var (inum vs p.n : Nat)).v) (by simp only [r72, go_sem, seval, reduceCtorEq, Typ.var]; rfl) (by simp only [resV, go_sem, seval, reduceCtorEq, Typ.var]; exact wk_here) ?_ (hl := by (first | exact .c _ | (simp only [go_sem, seval, reduceCtorEq, Typ.var]; done))))
    exact ⟨rfl, rfl⟩
  · have n1 : (p.k == 1) = false := by simpa using hk
    rw [if_neg hk]
    have hls := len_nodes p.l
    have hbs := nodesT_eq p
    ((try refine W.a ?_); simp only [go_sem, seval, reduceCtorEq, c72, n1, rsA D])
    refine W.no rfl ?_
    ((try refine W.a ?_); simp only [go_sem, seval, reduceCtorEq, rsA D])
    refine W.own 5 32 4 rfl ?_
    refine W.loopP (fun i => i ≤ p.l.length) (fun i => ⟨(((((base.put (some 0) (.ptr b 0)).put (some 3) (.ptr σ.length 0)).put (some 4) (.ptr (σ.length + 1) 0)).put (some 5) (.osl (σ.length + 2) ((subSs normG vs (p.l.take i)).1.map Typ.cs))).put (some 6) (I i)), nms σ b m (subSs normG vs (p.l.take i)).2 ++ [.cells p.v.cellsV, .cells [I 0, S [], I 0, .csl []], .spare 32 4 i]⟩) (fun i => p.l.length - i) 0 (Nat.zero_le _) ?_ (fun i hi => ?_)
    · simp only [go_sem, seval, reduceCtorEq, List.take_zero, subSs]
      (refine Lew.env ?_; exact lee_here)
    · by_cases hlt : i < p.l.length
      · have h1 : ((i : Int) < (p.l.length : Int)) := by omega
        have hx : p.l[i]? = some p.l[i] := List.getElem?_eq_getElem hlt
        have hw := wrap_next hlt hlen
        have htk := subSs_take normG vs hlt
        have hb1 : (i + 1) * 56 ≤ 140737488355328 := by omega
        have hb2 : i + 1 ≤ 140737488355328 := by omega
        have hlk : (subSs normG vs (p.l.take i)).1.length = i := by rw [subSs_len, List.length_take]; omega
        have hvl := norms_len (p.l.take i) vs
        have hna := nodesTs_at hlt
        have hc := ih p.l[i] (List.getElem_mem hlt) (by have := nodes_of (List.getElem_mem hlt); omega)
        generalize subSs normG vs (p.l.take i) = acc at htk hlk hvl
        obtain ⟨ac, st⟩ := acc
        simp only at htk hlk hvl
        have hst : st.length + nodesT p.l[i] ≤ 2000000 := by omega
        generalize p.l[i] = x at *
        ((try refine W.a ?_); simp only [go_sem, seval, reduceCtorEq, h1, rsA D])
        refine W.yes rfl ?_
        ((try refine W.a ?_); simp only [go_sem, seval, reduceCtorEq, h1, nat0, hx, rsA D])
        (refine W.c1 (DC.lift D (fun D' => hc _ b m D' st hst)) ?_; simp only [go_sem, seval, reduceCtorEq, rsA D, hb1, hb2, hlk, hw])
        refine .inv ⟨i + 1, hlt, by omega, ?_⟩
        rw [htk]
        simp only [go_sem, seval, reduceCtorEq, List.map_append]
        (refine Lew.env ?_; exact lee_here)
      · have h1 : ¬ ((i : Int) < (p.l.length : Int)) := by omega
        have : p.l.take i = p.l := List.take_of_length_le (by omega)
        ((try refine W.a ?_); simp only [go_sem, seval, reduceCtorEq, h1, rsA D])
        refine W.no rfl ?_
        rw [this]
        ((try refine W.a ?_); simp only [go_sem, seval, reduceCtorEq, rsA D])
        (refine W.c1w (ref05_with w0 p (subSs normG vs p.l).1 _) ?_; simp only [go_sem, seval, reduceCtorEq, withT, rsA D])
        (refine W.fg (nms_ok D hok (subSs normG vs p.l).2) (d := (withT p (subSs normG vs p.l).1).v) (by simp only [r72, go_sem, seval, reduceCtorEq, withT]; rfl) (by simp only [resV, go_sem, seval, reduceCtorEq, withT]; exact wk_here) ?_ (hl := by (first | exact .c _ | (simp only [go_sem, seval, reduceCtorEq, withT]; done))))
        exact ⟨rfl, rfl⟩
theorem nm_new (σ : H) (A B X Y X' Y' : Blk) : rs (σ ++ [A, B, X, Y]) (σ.length + 2) (σ.length + 3) X' Y' = σ ++ [A, B, X', Y'] := by
  unfold rs
  rw [List.set_append_right _ _ (by omega), List.set_append_right _ _ (by omega)]
  simp [Nat.add_sub_cancel_left]
theorem ref05_Norm (w0 : World) (p : Typ) (hp : nodesT p ≤ 1000000) (σ : H) : DC Tryz.prog w0 38 [p.v] σ (Same (normT p).v σ) := by
  refine k38.go rfl (fun hok hsz => ?_)
  ((try refine W.a ?_); simp only [go_sem, seval, reduceCtorEq, c38])
  refine W.ownCell (σ.length + 2) 0 3 1 (cs := [.csl []]) (tg := none) ?_ rfl ?_
  · simp only [hget, List.getElem?_cons_succ, List.getElem?_cons_zero]
  · ((try refine W.a ?_); simp only [go_sem, seval, reduceCtorEq])
    have hh : ∀ X Y, DC Tryz.prog w0 72 [.ptr (σ.length + 2) 0, p.v] (σ ++ [X, Y, .cells [.osl (σ.length + 3) []], .spare 3 1 0]) (Same (subS normG [] p).1.v (σ ++ [X, Y, nmX (σ.length + 3) (subS normG [] p).2, nmY (subS normG [] p).2])) := fun X Y => by
      have := ref05_norm w0 p hp (σ ++ [X, Y, X, X]) (σ.length + 2) (σ.length + 3) ⟨by omega, by simp, by simp⟩ [] (by simp; omega)
      unfold nms at this
      rw [nm_new, nm_new] at this
      exact this
    unfold normT
    generalize subS normG [] p = u at hh ⊢
    (refine W.c1 (hh _ _) ?_; simp only [go_sem, seval, reduceCtorEq])
    (refine W.fg (hok) (d := u.1.v) (by simp only [r38, go_sem, seval, reduceCtorEq]; rfl) (by simp only [resV, go_sem, seval, reduceCtorEq]; exact wk_here) ?_)
    exact ⟨rfl, rfl⟩
theorem law05_TyChanges {w0 : World} (hG : Glob w0) (s : List Typ) (p : Typ) (n : Int) (σ : H) : DC Tryz.prog w0 8 [.c (tysC s), p.v, I n] σ (Same (B true) σ) := by
  refine k8.go rfl (fun hok hsz => ?_)
  ((try refine W.a ?_); simp only [go_sem, seval, reduceCtorEq, c8])
  (refine W.c1 (law05_works hG _) ?_; simp only [go_sem, seval, reduceCtorEq])
  refine W.no rfl ?_
  ((try refine W.a ?_); simp only [go_sem, seval, reduceCtorEq])
  (refine W.c1 (law05_over w0 p _) ?_; simp only [go_sem, seval, reduceCtorEq])
  cases ho : overT p
  case true =>
    ((try refine W.a ?_); simp only [go_sem, seval, reduceCtorEq])
    refine W.yes rfl ?_
    ((try refine W.a ?_); simp only [go_sem, seval, reduceCtorEq])
    (refine W.fs (hok) (by simp only [r8, go_sem, seval, reduceCtorEq]; rfl) ?_; simp only [resV]; try exact V.wk.rfl _)
  by_cases hl : s.length ≤ 20
  case neg =>
    have h1 : ((s.length : Int) > 20) := by omega
    ((try refine W.a ?_); simp only [go_sem, seval, reduceCtorEq, h1])
    refine W.yes rfl ?_
    ((try refine W.a ?_); simp only [go_sem, seval, reduceCtorEq])
    (refine W.fs (hok) (by simp only [r8, go_sem, seval, reduceCtorEq]; rfl) ?_; simp only [resV]; try exact V.wk.rfl _)
  have h1 : ¬ ((s.length : Int) > 20) := by omega
  obtain ⟨hn, _⟩ := over_no ho
  have hn' : nodesT p ≤ 1000000 := by omega
  ((try refine W.a ?_); simp only [go_sem, seval, reduceCtorEq, h1])
  refine W.no rfl ?_
  ((try refine W.a ?_); simp only [go_sem, seval, reduceCtorEq])
  refine W.loopP (fun i => i ≤ s.length) (fun i => ⟨((((((base.put (some 0) (.c (tysC s))).put (some 2) (I n)).put (some 4) (.ptr σ.length 0)).put (some 6) (B false)).put (some 7) (B true)).put (some 9) (I (i : Nat))), σ ++ [.cells p.v.cellsV]⟩) (fun i => s.length - i) 0 (Nat.zero_le _) ?_ (fun i hi => ?_)
  · (refine Lew.env ?_; exact lee_here)
  by_cases hlt : i < s.length
  · have h2 : ((i : Int) < (s.length : Int)) := by omega
    have hx : s[i]? = some s[i] := List.getElem?_eq_getElem hlt
    have hw : IntKind.i64.wrap ((i : Int) + 1) = ((i + 1 : Nat) : Int) := wrap_next hlt (by omega)
    ((try refine W.a ?_); simp only [go_sem, seval, reduceCtorEq, h2])
    refine W.yes rfl ?_
    ((try refine W.a ?_); simp only [go_sem, seval, reduceCtorEq, h2, nat0, hx])
    (refine W.c1 (law05_over w0 s[i] _) ?_; simp only [go_sem, seval, reduceCtorEq])
    refine W.test rfl (fun h3 => ?_) (fun h3 => ?_)
    · ((try refine W.a ?_); simp only [go_sem, seval, reduceCtorEq])
      (refine W.fs (hok) (by simp only [r8, go_sem, seval, reduceCtorEq]; rfl) ?_; simp only [resV]; try exact V.wk.rfl _)
    · ((try refine W.a ?_); simp only [go_sem, seval, reduceCtorEq, hw])
      refine .inv ⟨i + 1, hlt, by omega, ?_⟩
      (refine Lew.env ?_; exact lee_here)
  · have h2 : ¬ ((i : Int) < (s.length : Int)) := by omega
    have a1 := fun σ => ty_Shift w0 p n hn' σ
    have b1 := fun σ => ref05_Shift w0 n p hn' σ
    have a2 := fun σ => ty_Apply w0 s p hn' σ
    have b2 := fun σ => ref05_Apply w0 s p hn' σ
    have a3 := fun σ => ty_Norm w0 p hn' σ
    have b3 := fun σ => ref05_Norm w0 p hn' σ
    generalize (subS (shiftG n) () p).1 = u1 at a1 b1
    generalize (subS (applyG s) () p).1 = u2 at a2 b2
    generalize normT p = u3 at a3 b3
    ((try refine W.a ?_); simp only [go_sem, seval, reduceCtorEq, h2])
    refine W.no rfl ?_
    ((try refine W.a ?_); simp only [go_sem, seval, reduceCtorEq])
    apply W.dregE (List.cons_ne_nil _ _)
    case hc =>
      (apply CanonE.advPO; simp only [go_sem, seval, reduceCtorEq])
      (apply CanonE.call (a1 _); (case hg => rfl); (case hf => rfl); (case ha => first | rfl | simp))
      (apply CanonE.advPO; simp only [go_sem, seval, reduceCtorEq])
      (apply CanonE.call (b1 _); (case hg => rfl); (case hf => rfl); (case ha => first | rfl | simp))
      (apply CanonE.advPO; simp only [go_sem, seval, reduceCtorEq])
      (apply CanonE.call (ref05_Same w0 u1 u1 _); (case hg => rfl); (case hf => rfl); (case ha => first | rfl | simp))
      (apply CanonE.advPO; simp only [go_sem, seval, reduceCtorEq, sameTy_refl])
      exact CanonE.nil
    ((try refine W.a ?_); simp only [go_sem, seval, reduceCtorEq])
    apply W.dregE (List.cons_ne_nil _ _)
    case hc =>
      (apply CanonE.advPO; simp only [go_sem, seval, reduceCtorEq])
      (apply CanonE.call (a2 _); (case hg => rfl); (case hf => rfl); (case ha => first | rfl | simp))
      (apply CanonE.advPO; simp only [go_sem, seval, reduceCtorEq])
      (apply CanonE.call (b2 _); (case hg => rfl); (case hf => rfl); (case ha => first | rfl | simp))
      (apply CanonE.advPO; simp only [go_sem, seval, reduceCtorEq])
      (apply CanonE.call (ref05_Same w0 u2 u2 _); (case hg => rfl); (case hf => rfl); (case ha => first | rfl | simp))
      (apply CanonE.advPO; simp only [go_sem, seval, reduceCtorEq, sameTy_refl])
      exact CanonE.nil
    ((try refine W.a ?_); simp only [go_sem, seval, reduceCtorEq])
    apply W.dregE (List.cons_ne_nil _ _)
    case hc =>
      (apply CanonE.advPO; simp only [go_sem, seval, reduceCtorEq])
      (apply CanonE.call (a3 _); (case hg => rfl); (case hf => rfl); (case ha => first | rfl | simp))
      (apply CanonE.advPO; simp only [go_sem, seval, reduceCtorEq])
      (apply CanonE.call (b3 _); (case hg => rfl); (case hf => rfl); (case ha => first | rfl | simp))
      (apply CanonE.advPO; simp only [go_sem, seval, reduceCtorEq])
      (apply CanonE.call (ref05_Same w0 u3 u3 _); (case hg => rfl); (case hf => rfl); (case ha => first | rfl | simp))
      (apply CanonE.advPO; simp only [go_sem, seval, reduceCtorEq, sameTy_refl])
      exact CanonE.nil
    ((try refine W.a ?_); simp only [go_sem, seval, reduceCtorEq])
    (refine W.fs (hok) (by simp only [r8, go_sem, seval, reduceCtorEq]; rfl) ?_; simp only [resV]; try exact V.wk.rfl _)
end Go.Proofs.YtohcnohllbjlcaaGreatDoor
