/-
  The code of some functions, without addresses.
  The code of some functions, without addresses.
  The code of some functions, without addresses.
  Walks: operators are found by their names.
  The code of some functions, without addresses.
  Walks: the reader's small functions.
  Walks: the type reader's small functions.
  Walks: a type one deeper; an atom.
  Walks: a type: what is behind its first part.
  Walks: ty.Read.
  The code of some functions, without addresses.
  Walks: operators are declared.
  Walks: when types are the same, which may be; what a type takes; how many types and variables there are in one.
  The code of some functions, without addresses.
  Walks: the reader's small functions, more of them.
  Walks: what an operator makes of two trees.
  Walks: an expression one deeper; brackets; an atom.
  The code of some functions, without addresses.
  Walks: the document's reader, its small functions.
  Walks: the document's type reader, its small functions.
  Walks: the document's type reader: an atom.
  Walks: the document's type reader: a type; its Read.
  Walks: the document's Read of types; which types are the same, and how large they are.
  Walks: how many types and variables there are in a type.
  Walks: a type with others in the place of variables (ty.replace), whatever the function that tells them.
  The code of some functions, without addresses.
-/
import Derived.Test.YtohcnohllbjlcaaGreatDoorChecked
import Derived.Test.YtohcnohllbjlcaaGreatDoorQJ12
import Derived.Test.YtohcnohllbjlcaaGreatDoorQJ10
import Derived.Test.YtohcnohllbjlcaaGreatDoorQTyA2
import Derived.Test.YtohcnohllbjlcaaGreatDoorQLexC
set_option linter.unusedSimpArgs false
set_option linter.unusedVariables false
set_option maxHeartbeats 8000000
set_option maxRecDepth 20000
namespace Go.Proofs.YtohcnohllbjlcaaGreatDoor
open Go.RowKit Go.Lamb
/-- ty.Text -/
def c40 : AC :=
  .seq (.reg [.o 1 (.box (.t 0)), .o 2 (.mov (.k (.c (.str []))))])
  (.seq (.block 0 (.seq (.reg [.f 9 0 1, .l 10 9, .o 11 (.bin .eql (.t 10) (.k (.c (.int .i64 1)))), .m 12 11, .y 13 (.fadd 2 (.t 1)) 12, .y 14 (.load1 (.t 13)) 12, .y 15 (.bin .lss (.t 14) (.k (.c (.int .i64 0)))) 12, .o 16 (.pick (.t 12) (.t 15) (.k (.c (.bool false)))), .m 8 16])
  (.cond (.t 8)
  (.seq (.reg [.o 2 (.mov (.k (.c (.str [63]))))])
  (.ret))
  (.seq (.reg [.f 18 0 1, .l 19 18, .o 20 (.bin .eql (.t 19) (.k (.c (.int .i64 1)))), .m 17 20])
  (.cond (.t 17)
  (.seq (.reg [.f 21 2 1, .l 22 21, .o 23 (.bin .rem (.t 22) (.k (.c (.int .i64 26)))), .o 24 (.bin .add (.k (.c (.int .i64 65))) (.t 23)), .o 25 (.conv .u8 (.t 24)), .o 26 (.bsl 1 [(.t 25)]), .o 27 (.b2s (.t 26)), .m 3 27])
  (.seq (.seq (.reg [.f 28 2 1, .l 29 28, .o 30 (.bin .quo (.t 29) (.k (.c (.int .i64 26)))), .m 4 30])
  (.seq (.reg [.m 31 4, .o 32 (.bin .gtr (.t 31) (.k (.c (.int .i64 0))))])
  (.cond (.t 32)
  (.reg [.m 33 3, .m 34 4, .k 35 75 [(.t 34)], .o 36 (.bin .add (.t 33) (.t 35)), .m 3 36])
  (.skip))))
  (.seq (.reg [.m 37 3, .m 2 37])
  (.ret))))
  (.seq (.reg [.d 39 4 1, .k 40 60 [(.t 39)], .m 38 40])
  (.cond (.t 38)
  (.seq (.dreg [.f 41 3 1, .l 42 41, .o 43 (.iadd 4 (.t 42) (.k (.c (.int .i64 0)))), .d 44 4 43, .k 45 40 [(.t 44)], .f 46 3 1, .l 47 46, .o 48 (.iadd 4 (.t 47) (.k (.c (.int .i64 0)))), .d 49 4 48, .k 50 60 [(.t 49)], .k 51 76 [(.t 45), (.t 50)], .o 52 (.bin .add (.t 51) (.k (.c (.str [32, 45, 62, 32])))), .f 53 3 1, .l 54 53, .o 55 (.iadd 4 (.t 54) (.k (.c (.int .i64 1)))), .d 56 4 55, .k 57 40 [(.t 56)], .o 58 (.bin .add (.t 52) (.t 57)), .m 2 58]
    [.q (.f 41 3 1), .q (.l 42 41), .q (.o 43 (.iadd 4 (.t 42) (.k (.c (.int .i64 0))))), .q (.d 44 4 43), ⟨.k 45 40 [(.t 44)], true, 0⟩, .q (.f 46 3 1), .q (.l 47 46), .q (.o 48 (.iadd 4 (.t 47) (.k (.c (.int .i64 0))))), .q (.d 49 4 48), ⟨.k 50 60 [(.t 49)], true, 1⟩, ⟨.k 51 76 [(.t 45), (.t 50)], true, 2⟩, .q (.f 53 3 1), .q (.l 54 53), .q (.o 55 (.iadd 4 (.t 54) (.k (.c (.int .i64 1))))), .q (.d 56 4 55), ⟨.k 57 40 [(.t 56)], true, 3⟩, ⟨.o 52 (.bin .add (.t 51) (.k (.c (.str [32, 45, 62, 32])))), false, 3⟩, ⟨.o 58 (.bin .add (.t 52) (.t 57)), false, 4⟩, ⟨.m 2 58, false, 4⟩])
  (.ret))
  (.skip))))))))
  (.seq (.reg [.f 59 1 1, .l 60 59, .o 61 (.bsl 1 [(.t 60)]), .m 5 61])
  (.seq (.seq (.reg [.f 62 3 1, .l 63 62, .o 64 (.lenr (.t 63)), .o 65 (.mov (.k (.c (.int .i64 0))))])
  (.block 1 (.loop (.seq (.reg [.o 66 (.bin .lss (.t 65) (.t 64))])
  (.seq (.cond (.t 66)
  (.skip)
  (.exit 1))
  (.seq (.block 2 (.seq (.reg [.o 67 (.iadd 4 (.t 63) (.t 65)), .d 68 4 67, .o 7 (.box (.k (.agg [.c (.int .i64 0), .c (.str []), .c (.int .i64 0), .csl []]))), .s 4 7 68])
  (.dreg [.m 69 5, .d 70 4 7, .k 71 40 [(.t 70)], .f 72 0 7, .l 73 72, .o 74 (.bin .neq (.t 73) (.k (.c (.int .i64 1)))), .m 75 74, .y 76 (.fadd 3 (.t 7)) 75, .y 77 (.load1 (.t 76)) 75, .y 78 (.lenr (.t 77)) 75, .y 79 (.bin .gtr (.t 78) (.k (.c (.int .i64 0)))) 75, .o 80 (.pick (.t 75) (.t 79) (.k (.c (.bool false)))), .k 81 76 [(.t 71), (.t 80)], .o 82 (.bsl 1 [(.t 81)]), .o 83 (.app 9 1 16 (.t 69) (.t 82)), .m 5 83]
    [.q (.d 70 4 7), ⟨.k 71 40 [(.t 70)], true, 0⟩, .q (.f 72 0 7), .q (.l 73 72), .q (.o 74 (.bin .neq (.t 73) (.k (.c (.int .i64 1))))), ⟨.m 75 74, false, 1⟩, ⟨.y 76 (.fadd 3 (.t 7)) 75, false, 1⟩, ⟨.y 77 (.load1 (.t 76)) 75, false, 1⟩, ⟨.y 78 (.lenr (.t 77)) 75, false, 1⟩, ⟨.y 79 (.bin .gtr (.t 78) (.k (.c (.int .i64 0)))) 75, false, 1⟩, ⟨.o 80 (.pick (.t 75) (.t 79) (.k (.c (.bool false)))), false, 1⟩, ⟨.k 81 76 [(.t 71), (.t 80)], true, 1⟩, .q (.m 69 5), ⟨.o 82 (.bsl 1 [(.t 81)]), false, 2⟩, ⟨.o 83 (.app 9 1 16 (.t 69) (.t 82)), true, 2⟩, ⟨.m 5 83, false, 3⟩])))
  (.reg [.o 84 (.bin .add (.t 65) (.k (.c (.int .i64 1)))), .m 65 84])))))))
  (.seq (.reg [.m 85 5, .k 86 77 [(.t 85), (.k (.c (.str [32])))], .m 2 86])
  (.ret)))))
def r40 : List ResV := [.tmp 2]
theorem k40 : CodeIs Tryz.prog 40 1 Tryz.f40 c40 r40 := ⟨by kernel_rfl, Tryz.func40, rfl, by kernel_rfl, by kernel_rfl, by decide, enters_fn Tryz.func40 (by kernel_rfl) rfl⟩
/-- ty.put -/
def c76 : AC :=
  .seq (.reg [.o 4 (.mov (.k (.c (.str []))))])
  (.seq (.seq (.reg [.m 5 1])
  (.cond (.t 5)
  (.seq (.reg [.m 6 0, .o 7 (.bin .add (.k (.c (.str [40]))) (.t 6)), .o 8 (.bin .add (.t 7) (.k (.c (.str [41])))), .m 4 8])
  (.ret))
  (.skip)))
  (.seq (.reg [.m 9 0, .m 4 9])
  (.ret)))
def r76 : List ResV := [.tmp 4]
theorem k76 : CodeIs Tryz.prog 76 2 Tryz.f76 c76 r76 := ⟨by kernel_rfl, Tryz.func76, rfl, by kernel_rfl, by kernel_rfl, by decide, enters_fn Tryz.func76 (by kernel_rfl) rfl⟩
/-- ty.arrow -/
def c60 : AC :=
  .seq (.reg [.o 1 (.box (.t 0)), .o 2 (.mov (.k (.c (.bool false))))])
  (.seq (.reg [.f 3 0 1, .l 4 3, .o 5 (.bin .eql (.t 4) (.k (.c (.int .i64 2)))), .m 6 5, .y 7 (.fadd 3 (.t 1)) 6, .y 8 (.load1 (.t 7)) 6, .y 9 (.lenr (.t 8)) 6, .y 10 (.bin .eql (.t 9) (.k (.c (.int .i64 2)))) 6, .o 11 (.pick (.t 6) (.t 10) (.k (.c (.bool false)))), .m 2 11])
  (.ret))
def r60 : List ResV := [.tmp 2]
theorem k60 : CodeIs Tryz.prog 60 1 Tryz.f60 c60 r60 := ⟨by kernel_rfl, Tryz.func60, rfl, by kernel_rfl, by kernel_rfl, by decide, enters_fn Tryz.func60 (by kernel_rfl) rfl⟩
/-- ty.Parts -/
def c30 : AC :=
  .seq (.reg [.o 1 (.box (.t 0)), .o 2 (.mov (.k (.csl []))), .o 3 (.box (.k (.agg [.c (.int .i64 0), .c (.str []), .c (.int .i64 0), .csl []])))])
  (.seq (.reg [.o 4 (.mov (.k (.csl [])))])
  (.seq (.block 0 (.loop (.seq (.seq (.reg [.d 5 4 1, .k 6 60 [(.t 5)]])
  (.cond (.t 6)
  (.skip)
  (.exit 0)))
  (.block 1 (.dreg [.m 7 4, .f 8 3 1, .l 9 8, .o 10 (.iadd 4 (.t 9) (.k (.c (.int .i64 0)))), .d 11 4 10, .o 12 (.bsl 4 [(.t 11)]), .o 13 (.app 32 4 56 (.t 7) (.t 12)), .f 14 3 1, .l 15 14, .o 16 (.iadd 4 (.t 15) (.k (.c (.int .i64 1)))), .d 17 4 16, .m 4 13, .s 4 1 17]
    [.q (.m 7 4), .q (.f 8 3 1), .q (.l 9 8), .q (.o 10 (.iadd 4 (.t 9) (.k (.c (.int .i64 0))))), .q (.d 11 4 10), .q (.o 12 (.bsl 4 [(.t 11)])), ⟨.o 13 (.app 32 4 56 (.t 7) (.t 12)), true, 0⟩, .q (.f 14 3 1), .q (.l 15 14), .q (.o 16 (.iadd 4 (.t 15) (.k (.c (.int .i64 1))))), .q (.d 17 4 16), ⟨.m 4 13, false, 1⟩, ⟨.s 4 1 17, true, 1⟩])))))
  (.seq (.dreg [.m 18 4, .d 19 4 1, .m 2 18, .s 4 3 19]
    [.q (.m 18 4), .q (.d 19 4 1), .q (.m 2 18), ⟨.s 4 3 19, true, 0⟩])
  (.ret))))
def r30 : List ResV := [.tmp 2, .celln 4 3]
theorem k30 : CodeIs Tryz.prog 30 1 Tryz.f30 c30 r30 := ⟨by kernel_rfl, Tryz.func30, rfl, by kernel_rfl, by kernel_rfl, by decide, enters_fn Tryz.func30 (by kernel_rfl) rfl⟩
/-- ty.Valid -/
def c28 : AC :=
  .seq (.reg [.o 1 (.box (.t 0)), .o 2 (.mov (.k (.c (.bool false))))])
  (.seq (.reg [.o 3 (.mov (.k (.c (.bool false))))])
  (.seq (.seq (.reg [.f 4 0 1, .l 5 4])
  (.block 0 (.seq (.reg [.o 7 (.bin .eql (.t 5) (.k (.c (.int .i64 0)))), .m 6 7])
  (.cond (.t 6)
  (.reg [.f 8 1 1, .l 9 8, .k 10 59 [(.t 9)], .m 11 10, .y 12 (.fadd 2 (.t 1)) 11, .y 13 (.load1 (.t 12)) 11, .y 14 (.bin .eql (.t 13) (.k (.c (.int .i64 0)))) 11, .o 15 (.pick (.t 11) (.t 14) (.k (.c (.bool false)))), .m 3 15])
  (.seq (.reg [.o 17 (.bin .eql (.t 5) (.k (.c (.int .i64 1)))), .m 16 17])
  (.cond (.t 16)
  (.reg [.f 18 1 1, .l 19 18, .o 20 (.bin .eql (.t 19) (.k (.c (.str [])))), .m 21 20, .y 22 (.fadd 2 (.t 1)) 21, .y 23 (.load1 (.t 22)) 21, .y 24 (.bin .geq (.t 23) (.k (.c (.int .i64 0)))) 21, .o 25 (.pick (.t 21) (.t 24) (.k (.c (.bool false)))), .m 26 25, .y 27 (.fadd 2 (.t 1)) 26, .y 28 (.load1 (.t 27)) 26, .y 29 (.bin .leq (.t 28) (.k (.c (.int .i64 4611686018427387904)))) 26, .o 30 (.pick (.t 26) (.t 29) (.k (.c (.bool false)))), .m 31 30, .y 32 (.fadd 3 (.t 1)) 31, .y 33 (.load1 (.t 32)) 31, .y 34 (.lenr (.t 33)) 31, .y 35 (.bin .eql (.t 34) (.k (.c (.int .i64 0)))) 31, .o 36 (.pick (.t 31) (.t 35) (.k (.c (.bool false)))), .m 3 36])
  (.seq (.reg [.o 38 (.bin .eql (.t 5) (.k (.c (.int .i64 2)))), .m 37 38])
  (.cond (.t 37)
  (.reg [.f 39 1 1, .l 40 39, .o 41 (.bin .eql (.t 40) (.k (.c (.str [])))), .m 42 41, .y 43 (.fadd 2 (.t 1)) 42, .y 44 (.load1 (.t 43)) 42, .y 45 (.bin .eql (.t 44) (.k (.c (.int .i64 0)))) 42, .o 46 (.pick (.t 42) (.t 45) (.k (.c (.bool false)))), .m 47 46, .y 48 (.loadn 4 (.t 1)) 47, .y 49 (.call (.k (.fn 60 [])) [(.t 48)]) 47, .o 50 (.pick (.t 47) (.t 49) (.k (.c (.bool false)))), .m 3 50])
  (.skip)))))))))
  (.seq (.reg [.m 51 3, .m 52 51, .y 53 (.fadd 3 (.t 1)) 52, .y 54 (.load1 (.t 53)) 52, .y 55 (.call (.k (.fn 61 [])) [(.t 54), (.k (.fn 62 []))]) 52, .y 56 (.un .not (.t 55)) 52, .o 57 (.pick (.t 52) (.t 56) (.k (.c (.bool false)))), .m 2 57])
  (.ret))))
def r28 : List ResV := [.tmp 2]
theorem k28 : CodeIs Tryz.prog 28 1 Tryz.f28 c28 r28 := ⟨by kernel_rfl, Tryz.func28, rfl, by kernel_rfl, by kernel_rfl, by decide, enters_fn Tryz.func28 (by kernel_rfl) rfl⟩
/-- ty.Valid$1 -/
def c62 : AC :=
  .seq (.reg [.o 1 (.box (.t 0)), .o 2 (.mov (.k (.c (.bool false))))])
  (.seq (.reg [.d 3 4 1, .k 4 28 [(.t 3)], .o 5 (.un .not (.t 4)), .m 2 5])
  (.ret))
def r62 : List ResV := [.tmp 2]
theorem k62 : CodeIs Tryz.prog 62 1 Tryz.f62 c62 r62 := ⟨by kernel_rfl, Tryz.func62, rfl, by kernel_rfl, by kernel_rfl, by decide, enters_fn Tryz.func62 (by kernel_rfl) rfl⟩
/-- ty.Size -/
def c55 : AC :=
  .seq (.reg [.o 1 (.box (.t 0)), .o 2 (.mov (.k (.c (.int .i64 0))))])
  (.seq (.reg [.o 3 (.mov (.k (.c (.int .i64 1))))])
  (.seq (.seq (.reg [.f 6 0 1, .l 7 6, .o 8 (.bin .neq (.t 7) (.k (.c (.int .i64 1))))])
  (.cond (.t 8)
  (.seq (.reg [.f 9 3 1, .l 10 9, .o 11 (.lenr (.t 10)), .o 12 (.mov (.k (.c (.int .i64 0))))])
  (.block 0 (.loop (.seq (.reg [.o 13 (.bin .lss (.t 12) (.t 11))])
  (.seq (.cond (.t 13)
  (.skip)
  (.exit 0))
  (.seq (.block 1 (.seq (.reg [.o 14 (.iadd 4 (.t 10) (.t 12)), .d 15 4 14, .o 5 (.box (.k (.agg [.c (.int .i64 0), .c (.str []), .c (.int .i64 0), .csl []]))), .s 4 5 15])
  (.reg [.m 16 3, .d 17 4 5, .k 18 55 [(.t 17)], .o 19 (.bin .add (.t 16) (.t 18)), .m 3 19])))
  (.reg [.o 20 (.bin .add (.t 12) (.k (.c (.int .i64 1)))), .m 12 20])))))))
  (.skip)))
  (.seq (.reg [.m 21 3, .m 2 21])
  (.ret))))
def r55 : List ResV := [.tmp 2]
theorem k55 : CodeIs Tryz.prog 55 1 Tryz.f55 c55 r55 := ⟨by kernel_rfl, Tryz.func55, rfl, by kernel_rfl, by kernel_rfl, by decide, enters_fn Tryz.func55 (by kernel_rfl) rfl⟩
/-- ty.Vars -/
def c54 : AC :=
  .seq (.reg [.o 1 (.box (.t 0)), .o 2 (.mov (.k (.c (.int .i64 0))))])
  (.seq (.reg [.o 3 (.box (.k (.c (.int .i64 0)))), ⟨none, .store 1 (.t 3) (.k (.c (.int .i64 0))), none⟩])
  (.seq (.reg [.d 4 4 1, .o 5 (.mkfn 99 [(.t 3)]), .k 6 66 [(.t 4), (.t 5)]])
  (.seq (.reg [.l 7 3, .m 2 7])
  (.ret))))
def r54 : List ResV := [.tmp 2]
theorem k54 : CodeIs Tryz.prog 54 1 Tryz.f54 c54 r54 := ⟨by kernel_rfl, Tryz.func54, rfl, by kernel_rfl, by kernel_rfl, by decide, enters_fn Tryz.func54 (by kernel_rfl) rfl⟩
/-- ty.Vars$1 -/
def c99 : AC :=
  .seq (.reg [.o 3 (.box (.k (.agg [.c (.int .i64 0), .c (.str []), .c (.int .i64 0), .csl []])))])
  (.seq (.reg [.l 4 1, .m 5 0, .o 6 (.mx (.t 5) (.k (.c (.int .i64 (-1))))), .o 7 (.bin .add (.t 6) (.k (.c (.int .i64 1)))), .o 8 (.mx (.t 4) (.t 7)), .s 1 1 8])
  (.seq (.reg [.o 9 (.build [.c (.int .i64 0), .c (.str []), .c (.int .i64 0), .csl []] []), .s 4 3 9])
  (.ret)))
def r99 : List ResV := [.celln 4 3]
theorem k99 : CodeIs Tryz.prog 99 2 Tryz.f99 c99 r99 := ⟨by kernel_rfl, Tryz.func99, rfl, by kernel_rfl, by kernel_rfl, by decide, enters_fn Tryz.func99 (by kernel_rfl) rfl⟩
/-- ty.replace -/
def c66 : AC :=
  .seq (.reg [.o 2 (.box (.t 0)), .o 4 (.box (.k (.agg [.c (.int .i64 0), .c (.str []), .c (.int .i64 0), .csl []])))])
  (.seq (.seq (.reg [.f 8 0 2, .l 9 8, .o 10 (.bin .eql (.t 9) (.k (.c (.int .i64 1))))])
  (.cond (.t 10)
  (.seq (.reg [.m 11 1, .f 12 2 2, .l 13 12, .o 14 (.call (.t 11) [(.t 13)]), .s 4 4 14])
  (.ret))
  (.skip)))
  (.seq (.reg [.f 15 1 2, .l 16 15, .o 17 (.build [.c (.int .i64 0), .c (.str []), .c (.int .i64 0), .csl []] [(0, 1, (.k (.c (.int .i64 0)))), (1, 1, (.t 16))]), .o 5 (.box (.k (.agg [.c (.int .i64 0), .c (.str []), .c (.int .i64 0), .csl []]))), .s 4 5 17])
  (.seq (.seq (.reg [.d 18 4 2, .k 19 60 [(.t 18)]])
  (.cond (.t 19)
  (.reg [.o 20 (.build [.c (.int .i64 0), .c (.str []), .c (.int .i64 0), .csl []] [(0, 1, (.k (.c (.int .i64 2))))]), .s 4 5 20])
  (.skip)))
  (.seq (.seq (.reg [.f 21 3 2, .l 22 21, .o 23 (.lenr (.t 22)), .o 24 (.mov (.k (.c (.int .i64 0))))])
  (.block 0 (.loop (.seq (.reg [.o 25 (.bin .lss (.t 24) (.t 23))])
  (.seq (.cond (.t 25)
  (.skip)
  (.exit 0))
  (.seq (.block 1 (.seq (.reg [.o 26 (.iadd 4 (.t 22) (.t 24)), .d 27 4 26, .o 7 (.box (.k (.agg [.c (.int .i64 0), .c (.str []), .c (.int .i64 0), .csl []]))), .s 4 7 27])
  (.dreg [.f 28 3 5, .l 29 28, .d 30 4 7, .m 31 1, .k 32 66 [(.t 30), (.t 31)], .o 33 (.bsl 4 [(.t 32)]), .o 34 (.app 32 4 56 (.t 29) (.t 33)), .f 35 3 5, .s 1 35 34]
    [.q (.d 30 4 7), .q (.m 31 1), ⟨.k 32 66 [(.t 30), (.t 31)], true, 0⟩, .q (.f 28 3 5), .q (.l 29 28), ⟨.o 33 (.bsl 4 [(.t 32)]), false, 1⟩, ⟨.o 34 (.app 32 4 56 (.t 29) (.t 33)), true, 1⟩, ⟨.f 35 3 5, false, 2⟩, ⟨.s 1 35 34, true, 2⟩])))
  (.reg [.o 36 (.bin .add (.t 24) (.k (.c (.int .i64 1)))), .m 24 36])))))))
  (.seq (.reg [.d 37 4 5, .s 4 4 37])
  (.ret))))))
def r66 : List ResV := [.celln 4 4]
theorem k66 : CodeIs Tryz.prog 66 2 Tryz.f66 c66 r66 := ⟨by kernel_rfl, Tryz.func66, rfl, by kernel_rfl, by kernel_rfl, by decide, enters_fn Tryz.func66 (by kernel_rfl) rfl⟩
/-- lambentlaw05.works -/
def c24 : AC :=
  .seq (.reg [.o 0 (.mov (.k (.c (.bool false))))])
  (.seq (.reg [.k 12 39 [(.k (.c (.str [40, 65, 32, 45, 62, 32, 111, 41, 32, 45, 62, 32, 108, 105, 115, 116, 32, 65, 32, 45, 62, 32, 66])))], .m 11 12, .x 13 11 0, .x 14 11 1, .x 15 11 2, .m 1 13, .m 2 14, .m 3 15])
  (.seq (.reg [.m 17 1, .k 18 25 [(.t 17), (.k (.c (.int .i64 0)))], .m 16 18, .x 19 16 0, .x 20 16 1, .x 21 16 2, .x 22 16 3, .o 4 (.box (.k (.agg [.c (.int .i64 0), .c (.str []), .c (.int .i64 0), .csl []]))), .s 4 4 19, .m 5 20, .m 6 21, .m 7 22])
  (.seq (.reg [.d 24 4 4, .k 25 30 [(.t 24)], .m 23 25, .x 26 23 0, .x 27 23 1, .o 9 (.box (.k (.agg [.c (.int .i64 0), .c (.str []), .c (.int .i64 0), .csl []]))), .m 8 26, .s 4 9 27])
  (.seq (.reg [.d 28 4 4, .k 29 28 [(.t 28)], .m 10 29])
  (.seq (.reg [.m 30 5, .o 31 (.bin .eql (.t 30) (.k (.c (.int .i64 10)))), .m 32 31, .y 33 (.mov (.t 6)) 32, .y 34 (.bin .eql (.t 33) (.k (.c (.int .i64 0)))) 32, .o 35 (.pick (.t 32) (.t 34) (.k (.c (.bool false)))), .m 36 35, .y 37 (.loadn 4 (.t 4)) 36, .y 38 (.call (.k (.fn 40 [])) [(.t 37)]) 36, .y 39 (.bin .eql (.t 38) (.k (.c (.str [40, 65, 32, 45, 62, 32, 111, 41, 32, 45, 62, 32, 108, 105, 115, 116, 32, 65, 32, 45, 62, 32, 66])))) 36, .o 40 (.pick (.t 36) (.t 39) (.k (.c (.bool false)))), .m 41 40, .y 42 (.loadn 4 (.t 4)) 41, .y 43 (.call (.k (.fn 54 [])) [(.t 42)]) 41, .y 44 (.bin .eql (.t 43) (.k (.c (.int .i64 2)))) 41, .o 45 (.pick (.t 41) (.t 44) (.k (.c (.bool false)))), .m 46 45, .y 47 (.mov (.t 8)) 46, .y 48 (.lenr (.t 47)) 46, .y 49 (.bin .eql (.t 48) (.k (.c (.int .i64 2)))) 46, .o 50 (.pick (.t 46) (.t 49) (.k (.c (.bool false)))), .m 51 50, .y 52 (.fadd 0 (.t 9)) 51, .y 53 (.load1 (.t 52)) 51, .y 54 (.bin .eql (.t 53) (.k (.c (.int .i64 1)))) 51, .o 55 (.pick (.t 51) (.t 54) (.k (.c (.bool false)))), .m 56 55, .y 57 (.fadd 2 (.t 9)) 56, .y 58 (.load1 (.t 57)) 56, .y 59 (.bin .eql (.t 58) (.k (.c (.int .i64 1)))) 56, .o 60 (.pick (.t 56) (.t 59) (.k (.c (.bool false)))), .m 61 60, .y 62 (.mov (.t 10)) 61, .o 63 (.pick (.t 61) (.t 62) (.k (.c (.bool false)))), .m 64 63, .y 65 (.loadn 4 (.t 4)) 64, .y 66 (.call (.k (.fn 55 [])) [(.t 65)]) 64, .y 67 (.bin .eql (.t 66) (.k (.c (.int .i64 8)))) 64, .o 68 (.pick (.t 64) (.t 67) (.k (.c (.bool false)))), .m 0 68])
  (.ret))))))
def r24 : List ResV := [.tmp 0]
theorem k24 : CodeIs Tryz.prog 24 0 Tryz.f24 c24 r24 := ⟨by kernel_rfl, Tryz.func24, rfl, by kernel_rfl, by kernel_rfl, by decide, enters_fn Tryz.func24 (by kernel_rfl) rfl⟩
/-- lambentlaw05.over -/
def c27 : AC :=
  .seq (.reg [.o 1 (.box (.t 0)), .o 2 (.mov (.k (.c (.bool false))))])
  (.seq (.reg [.d 3 4 1, .k 4 29 [(.t 3), (.k (.c (.int .i64 120)))], .m 5 4, .z 6 (.loadn 4 (.t 1)) 5, .z 7 (.call (.k (.fn 58 [])) [(.t 6)]) 5, .o 8 (.pick (.t 5) (.k (.c (.bool true))) (.t 7)), .m 2 8])
  (.ret))
def r27 : List ResV := [.tmp 2]
theorem k27 : CodeIs Tryz.prog 27 1 Tryz.f27 c27 r27 := ⟨by kernel_rfl, Tryz.func27, rfl, by kernel_rfl, by kernel_rfl, by decide, enters_fn Tryz.func27 (by kernel_rfl) rfl⟩
/-- lambentlaw05.long -/
def c58 : AC :=
  .seq (.reg [.o 1 (.box (.t 0)), .o 2 (.mov (.k (.c (.bool false))))])
  (.seq (.seq (.reg [.f 5 1 1, .l 6 5, .o 7 (.lens (.t 6)), .o 8 (.bin .gtr (.t 7) (.k (.c (.int .i64 60))))])
  (.cond (.t 8)
  (.seq (.reg [.o 2 (.mov (.k (.c (.bool true))))])
  (.ret))
  (.skip)))
  (.seq (.seq (.reg [.o 3 (.mov (.k (.c (.int .i64 0))))])
  (.block 0 (.loop (.seq (.seq (.reg [.m 9 3, .f 10 3 1, .l 11 10, .o 12 (.lenr (.t 11)), .o 13 (.bin .lss (.t 9) (.t 12))])
  (.cond (.t 13)
  (.skip)
  (.exit 0)))
  (.seq (.block 1 (.seq (.reg [.f 16 3 1, .l 17 16, .m 18 3, .o 19 (.iadd 4 (.t 17) (.t 18)), .d 20 4 19, .k 21 58 [(.t 20)], .m 4 21])
  (.seq (.reg [.m 22 4])
  (.cond (.t 22)
  (.seq (.reg [.o 2 (.mov (.k (.c (.bool true))))])
  (.ret))
  (.skip)))))
  (.reg [.m 14 3, .o 15 (.bin .add (.t 14) (.k (.c (.int .i64 1)))), .m 3 15]))))))
  (.seq (.reg [.o 2 (.mov (.k (.c (.bool false))))])
  (.ret))))
def r58 : List ResV := [.tmp 2]
theorem k58 : CodeIs Tryz.prog 58 1 Tryz.f58 c58 r58 := ⟨by kernel_rfl, Tryz.func58, rfl, by kernel_rfl, by kernel_rfl, by decide, enters_fn Tryz.func58 (by kernel_rfl) rfl⟩
/-- lambentlaw05.TyReads -/
def c6 : AC :=
  .seq (.reg [.o 4 (.mov (.k (.c (.bool false))))])
  (.seq (.reg [.k 16 24 [], .m 5 16])
  (.seq (.seq (.reg [.m 17 5, .o 18 (.un .not (.t 17))])
  (.cond (.t 18)
  (.seq (.reg [.o 4 (.mov (.k (.c (.bool false))))])
  (.ret))
  (.skip)))
  (.seq (.seq (.reg [.m 19 0, .o 20 (.lenr (.t 19)), .o 21 (.bin .gtr (.t 20) (.k (.c (.int .i64 600))))])
  (.cond (.t 21)
  (.seq (.reg [.m 22 5, .m 4 22])
  (.ret))
  (.skip)))
  (.seq (.seq (.reg [.o 6 (.mov (.k (.c (.int .i64 0))))])
  (.block 0 (.loop (.seq (.seq (.reg [.m 23 6, .m 24 0, .o 25 (.lenr (.t 24)), .o 26 (.bin .lss (.t 23) (.t 25))])
  (.cond (.t 26)
  (.skip)
  (.exit 0)))
  (.seq (.block 1 (.seq (.reg [.m 29 0, .m 30 6, .o 31 (.iadd 4 (.t 29) (.t 30)), .f 32 1 31, .l 33 32, .o 34 (.lens (.t 33)), .o 35 (.bin .gtr (.t 34) (.k (.c (.int .i64 60))))])
  (.cond (.t 35)
  (.seq (.reg [.m 36 5, .m 4 36])
  (.ret))
  (.skip))))
  (.reg [.m 27 6, .o 28 (.bin .add (.t 27) (.k (.c (.int .i64 1)))), .m 6 28]))))))
  (.seq (.reg [.m 38 0, .m 39 1, .k 40 25 [(.t 38), (.t 39)], .m 37 40, .x 41 37 0, .x 42 37 1, .x 43 37 2, .x 44 37 3, .o 7 (.box (.k (.agg [.c (.int .i64 0), .c (.str []), .c (.int .i64 0), .csl []]))), .s 4 7 41, .m 8 42, .m 9 43, .m 10 44])
  (.seq (.reg [.m 46 0, .m 47 1, .k 48 26 [(.t 46), (.t 47)], .m 45 48, .x 49 45 0, .x 50 45 1, .x 51 45 2, .x 52 45 3, .o 11 (.box (.k (.agg [.c (.int .i64 0), .c (.str []), .c (.int .i64 0), .csl []]))), .s 4 11 49, .m 12 50, .m 13 51, .m 14 52])
  (.seq (.reg [.d 53 4 7, .d 54 4 11, .k 55 21 [(.t 53), (.t 54)], .m 15 55])
  (.seq (.reg [.m 56 5, .m 57 56, .y 58 (.mov (.t 15)) 57, .o 59 (.pick (.t 57) (.t 58) (.k (.c (.bool false)))), .m 60 59, .y 61 (.mov (.t 8)) 60, .y 62 (.mov (.t 12)) 60, .y 63 (.bin .eql (.t 61) (.t 62)) 60, .o 64 (.pick (.t 60) (.t 63) (.k (.c (.bool false)))), .m 65 64, .y 66 (.mov (.t 9)) 65, .y 67 (.mov (.t 13)) 65, .y 68 (.bin .eql (.t 66) (.t 67)) 65, .o 69 (.pick (.t 65) (.t 68) (.k (.c (.bool false)))), .m 70 69, .y 71 (.mov (.t 10)) 70, .y 72 (.mov (.t 14)) 70, .y 73 (.bin .eql (.t 71) (.t 72)) 70, .o 74 (.pick (.t 70) (.t 73) (.k (.c (.bool false)))), .m 4 74])
  (.ret)))))))))
def r6 : List ResV := [.tmp 4]
/-- slices.ContainsFunc[[]api.Ty,api.Ty] -/
def c61 : AC :=
  .seq (.reg [.o 4 (.mov (.k (.c (.bool false))))])
  (.seq (.reg [.m 5 0, .m 6 1, .k 7 112 [(.t 5), (.t 6)], .o 8 (.bin .geq (.t 7) (.k (.c (.int .i64 0)))), .m 4 8])
  (.ret))
def r61 : List ResV := [.tmp 4]
theorem k61 : CodeIs Tryz.prog 61 2 Tryz.f61 c61 r61 := ⟨by kernel_rfl, Tryz.func61, rfl, by kernel_rfl, by kernel_rfl, by decide, enters_fn Tryz.func61 (by kernel_rfl) rfl⟩
/-- slices.IndexFunc[[]api.Ty,api.Ty] -/
def c112 : AC :=
  .seq (.reg [.o 4 (.mov (.k (.c (.int .i64 0))))])
  (.seq (.seq (.reg [.m 6 0, .o 7 (.lenr (.t 6)), .o 8 (.mov (.k (.c (.int .i64 0))))])
  (.block 0 (.loop (.seq (.reg [.o 9 (.bin .lss (.t 8) (.t 7))])
  (.seq (.cond (.t 9)
  (.skip)
  (.exit 0))
  (.seq (.block 1 (.seq (.reg [.m 10 8, .m 5 10])
  (.seq (.reg [.m 11 1, .m 12 0, .m 13 5, .o 14 (.iadd 4 (.t 12) (.t 13)), .d 15 4 14, .o 16 (.call (.t 11) [(.t 15)])])
  (.cond (.t 16)
  (.seq (.reg [.m 17 5, .m 4 17])
  (.ret))
  (.skip)))))
  (.reg [.o 18 (.bin .add (.t 8) (.k (.c (.int .i64 1)))), .m 8 18])))))))
  (.seq (.reg [.o 4 (.mov (.k (.c (.int .i64 (-1)))))])
  (.ret)))
def r112 : List ResV := [.tmp 4]
theorem k112 : CodeIs Tryz.prog 112 2 Tryz.f112 c112 r112 := ⟨by kernel_rfl, Tryz.func112, rfl, by kernel_rfl, by kernel_rfl, by decide, enters_fn Tryz.func112 (by kernel_rfl) rfl⟩
/-- slices.EqualFunc[[]api.Ty,[]api.Ty,api.Ty,api.Ty] -/
def c64 : AC :=
  .seq (.reg [.o 6 (.mov (.k (.c (.bool false))))])
  (.seq (.seq (.reg [.m 10 0, .o 11 (.lenr (.t 10)), .m 12 1, .o 13 (.lenr (.t 12)), .o 14 (.bin .neq (.t 11) (.t 13))])
  (.cond (.t 14)
  (.seq (.reg [.o 6 (.mov (.k (.c (.bool false))))])
  (.ret))
  (.skip)))
  (.seq (.seq (.reg [.m 15 0, .o 16 (.lenr (.t 15)), .o 17 (.mov (.k (.c (.int .i64 0))))])
  (.block 0 (.loop (.seq (.reg [.o 18 (.bin .lss (.t 17) (.t 16))])
  (.seq (.cond (.t 18)
  (.skip)
  (.exit 0))
  (.seq (.block 1 (.seq (.reg [.m 19 17, .o 20 (.iadd 4 (.t 15) (.t 17)), .d 21 4 20, .o 8 (.box (.k (.agg [.c (.int .i64 0), .c (.str []), .c (.int .i64 0), .csl []]))), .m 7 19, .s 4 8 21])
  (.seq (.reg [.m 22 1, .m 23 7, .o 24 (.iadd 4 (.t 22) (.t 23)), .d 25 4 24, .o 9 (.box (.k (.agg [.c (.int .i64 0), .c (.str []), .c (.int .i64 0), .csl []]))), .s 4 9 25])
  (.seq (.reg [.m 26 2, .d 27 4 8, .d 28 4 9, .o 29 (.call (.t 26) [(.t 27), (.t 28)]), .o 30 (.un .not (.t 29))])
  (.cond (.t 30)
  (.seq (.reg [.o 6 (.mov (.k (.c (.bool false))))])
  (.ret))
  (.skip))))))
  (.reg [.o 31 (.bin .add (.t 17) (.k (.c (.int .i64 1)))), .m 17 31])))))))
  (.seq (.reg [.o 6 (.mov (.k (.c (.bool true))))])
  (.ret))))
def r64 : List ResV := [.tmp 6]
theorem k64 : CodeIs Tryz.prog 64 3 Tryz.f64 c64 r64 := ⟨by kernel_rfl, Tryz.func64, rfl, by kernel_rfl, by kernel_rfl, by decide, enters_fn Tryz.func64 (by kernel_rfl) rfl⟩
/-- ty.Same -/
def c31 : AC :=
  .seq (.reg [.o 2 (.box (.t 0)), .o 3 (.box (.t 1)), .o 4 (.mov (.k (.c (.bool false))))])
  (.seq (.reg [.f 5 0 2, .l 6 5, .f 7 0 3, .l 8 7, .o 9 (.bin .eql (.t 6) (.t 8)), .m 10 9, .y 11 (.fadd 1 (.t 2)) 10, .y 12 (.load1 (.t 11)) 10, .y 13 (.fadd 1 (.t 3)) 10, .y 14 (.load1 (.t 13)) 10, .y 15 (.bin .eql (.t 12) (.t 14)) 10, .o 16 (.pick (.t 10) (.t 15) (.k (.c (.bool false)))), .m 17 16, .y 18 (.fadd 2 (.t 2)) 17, .y 19 (.load1 (.t 18)) 17, .y 20 (.fadd 2 (.t 3)) 17, .y 21 (.load1 (.t 20)) 17, .y 22 (.bin .eql (.t 19) (.t 21)) 17, .o 23 (.pick (.t 17) (.t 22) (.k (.c (.bool false)))), .m 24 23, .y 25 (.fadd 3 (.t 2)) 24, .y 26 (.load1 (.t 25)) 24, .y 27 (.fadd 3 (.t 3)) 24, .y 28 (.load1 (.t 27)) 24, .y 29 (.call (.k (.fn 64 [])) [(.t 26), (.t 28), (.k (.fn 31 []))]) 24, .o 30 (.pick (.t 24) (.t 29) (.k (.c (.bool false)))), .m 4 30])
  (.ret))
def r31 : List ResV := [.tmp 4]
theorem k31 : CodeIs Tryz.prog 31 2 Tryz.f31 c31 r31 := ⟨by kernel_rfl, Tryz.func31, rfl, by kernel_rfl, by kernel_rfl, by decide, enters_fn Tryz.func31 (by kernel_rfl) rfl⟩
end Go.Proofs.YtohcnohllbjlcaaGreatDoor
namespace Go.Proofs.YtohcnohllbjlcaaGreatDoor
open Go.RowKit Go.Lamb
/-- (*ty.reader).tok -/
def c100 : AC :=
  .seq (.reg [.o 2 (.box (.k (.agg [.c (.int .i64 0), .c (.str []), .c (.int .i64 0), .c (.int .i64 0)])))])
  (.seq (.seq (.dreg [.m 3 0, .n 4 3, .f 5 1 4, .l 6 5, .o 7 (.bin .leq (.k (.c (.int .i64 0))) (.t 6)), .m 8 7, .y 9 (.mov (.t 0)) 8, .y 10 (.nilck (.t 9)) 8, .y 11 (.fadd 1 (.t 10)) 8, .y 12 (.load1 (.t 11)) 8, .y 13 (.mov (.t 0)) 8, .y 14 (.nilck (.t 13)) 8, .y 15 (.fadd 0 (.t 14)) 8, .y 16 (.load1 (.t 15)) 8, .y 17 (.lenr (.t 16)) 8, .y 18 (.bin .lss (.t 12) (.t 17)) 8, .o 19 (.pick (.t 8) (.t 18) (.k (.c (.bool false))))]
    [.q (.m 3 0), .q (.n 4 3), .q (.f 5 1 4), .q (.l 6 5), .q (.o 7 (.bin .leq (.k (.c (.int .i64 0))) (.t 6))), .q (.m 8 7), .q (.y 9 (.mov (.t 0)) 8), .q (.y 10 (.nilck (.t 9)) 8), .q (.y 11 (.fadd 1 (.t 10)) 8), .q (.y 12 (.load1 (.t 11)) 8), .q (.y 13 (.mov (.t 0)) 8), .q (.y 14 (.nilck (.t 13)) 8), .q (.y 15 (.fadd 0 (.t 14)) 8), .q (.y 16 (.load1 (.t 15)) 8), .q (.y 17 (.lenr (.t 16)) 8), .q (.y 18 (.bin .lss (.t 12) (.t 17)) 8), .q (.o 19 (.pick (.t 8) (.t 18) (.k (.c (.bool false)))))])
  (.cond (.t 19)
  (.seq (.dreg [.m 20 0, .n 21 20, .f 22 0 21, .l 23 22, .m 24 0, .n 25 24, .f 26 1 25, .l 27 26, .o 28 (.iadd 4 (.t 23) (.t 27)), .d 29 4 28, .s 4 2 29]
    [.q (.m 20 0), .q (.n 21 20), .q (.f 22 0 21), .q (.l 23 22), .q (.m 24 0), .q (.n 25 24), .q (.f 26 1 25), .q (.l 27 26), .q (.o 28 (.iadd 4 (.t 23) (.t 27))), .q (.d 29 4 28), ⟨.s 4 2 29, true, 0⟩])
  (.ret))
  (.skip)))
  (.seq (.seq (.reg [.m 30 0, .n 31 30, .f 32 0 31, .l 33 32, .o 34 (.lenr (.t 33)), .o 35 (.bin .gtr (.t 34) (.k (.c (.int .i64 0))))])
  (.cond (.t 35)
  (.seq (.dreg [.m 36 0, .n 37 36, .f 38 0 37, .l 39 38, .m 40 0, .n 41 40, .f 42 0 41, .l 43 42, .o 44 (.lenr (.t 43)), .o 45 (.bin .sub (.t 44) (.k (.c (.int .i64 1)))), .o 46 (.iadd 4 (.t 39) (.t 45)), .f 47 3 46, .l 48 47, .o 49 (.build [.c (.int .i64 0), .c (.str []), .c (.int .i64 0), .c (.int .i64 0)] [(3, 1, (.t 48))]), .s 4 2 49]
    [.q (.m 36 0), .q (.n 37 36), .q (.f 38 0 37), .q (.l 39 38), .q (.m 40 0), .q (.n 41 40), .q (.f 42 0 41), .q (.l 43 42), .q (.o 44 (.lenr (.t 43))), .q (.o 45 (.bin .sub (.t 44) (.k (.c (.int .i64 1))))), .q (.o 46 (.iadd 4 (.t 39) (.t 45))), .q (.f 47 3 46), .q (.l 48 47), .q (.o 49 (.build [.c (.int .i64 0), .c (.str []), .c (.int .i64 0), .c (.int .i64 0)] [(3, 1, (.t 48))])), ⟨.s 4 2 49, true, 0⟩])
  (.ret))
  (.skip)))
  (.seq (.reg [.o 50 (.build [.c (.int .i64 0), .c (.str []), .c (.int .i64 0), .c (.int .i64 0)] []), .s 4 2 50])
  (.ret))))
def r100 : List ResV := [.celln 4 2]
theorem k100 : CodeIs Tryz.prog 100 1 Tryz.f100 c100 r100 := ⟨by kernel_rfl, Tryz.func100, rfl, by kernel_rfl, by kernel_rfl, by decide, enters_fn Tryz.func100 (by kernel_rfl) rfl⟩
/-- (*ty.reader).fail -/
def c139 : AC :=
  .seq (.reg [.m 6 0, .n 7 6, .f 8 3 7, .l 9 8, .o 10 (.bin .eql (.t 9) (.k (.c (.int .i64 0))))])
  (.cond (.t 10)
  (.reg [.m 11 0, .m 12 0, .m 13 1, .m 14 2, .n 15 11, .f 16 3 15, .s 1 16 13, .n 17 12, .f 18 4 17, .s 1 18 14])
  (.skip))
def r139 : List ResV := []
theorem k139 : CodeIs Tryz.prog 139 3 Tryz.f139 c139 r139 := ⟨by kernel_rfl, Tryz.func139, rfl, by kernel_rfl, by kernel_rfl, by decide, enters_fn Tryz.func139 (by kernel_rfl) rfl⟩
/-- (*ty.reader).begins -/
def c102 : AC :=
  .seq (.reg [.o 2 (.mov (.k (.c (.bool false))))])
  (.seq (.seq (.reg [.m 3 0, .k 4 100 [(.t 3)], .o 5 (.field1 0 (.t 4))])
  (.block 0 (.seq (.seq (.reg [.o 7 (.bin .eql (.t 5) (.k (.c (.int .i64 1)))), .m 6 7])
  (.cond (.t 6)
  (.skip)
  (.seq (.reg [.o 8 (.bin .eql (.t 5) (.k (.c (.int .i64 2)))), .m 6 8])
  (.cond (.t 6)
  (.skip)
  (.reg [.o 9 (.bin .eql (.t 5) (.k (.c (.int .i64 5)))), .m 6 9])))))
  (.cond (.t 6)
  (.seq (.reg [.o 2 (.mov (.k (.c (.bool true))))])
  (.ret))
  (.skip)))))
  (.seq (.reg [.o 2 (.mov (.k (.c (.bool false))))])
  (.ret)))
def r102 : List ResV := [.tmp 2]
theorem k102 : CodeIs Tryz.prog 102 1 Tryz.f102 c102 r102 := ⟨by kernel_rfl, Tryz.func102, rfl, by kernel_rfl, by kernel_rfl, by decide, enters_fn Tryz.func102 (by kernel_rfl) rfl⟩
/-- slices.Index[[]string,string] -/
def c158 : AC :=
  .seq (.reg [.o 4 (.mov (.k (.c (.int .i64 0))))])
  (.seq (.seq (.reg [.m 6 0, .o 7 (.lenr (.t 6)), .o 8 (.mov (.k (.c (.int .i64 0))))])
  (.block 0 (.loop (.seq (.reg [.o 9 (.bin .lss (.t 8) (.t 7))])
  (.seq (.cond (.t 9)
  (.skip)
  (.exit 0))
  (.seq (.block 1 (.seq (.reg [.m 10 8, .m 5 10])
  (.seq (.reg [.m 11 1, .m 12 0, .m 13 5, .o 14 (.iadd 1 (.t 12) (.t 13)), .l 15 14, .o 16 (.bin .eql (.t 11) (.t 15))])
  (.cond (.t 16)
  (.seq (.reg [.m 17 5, .m 4 17])
  (.ret))
  (.skip)))))
  (.reg [.o 18 (.bin .add (.t 8) (.k (.c (.int .i64 1)))), .m 8 18])))))))
  (.seq (.reg [.o 4 (.mov (.k (.c (.int .i64 (-1)))))])
  (.ret)))
def r158 : List ResV := [.tmp 4]
theorem k158 : CodeIs Tryz.prog 158 2 Tryz.f158 c158 r158 := ⟨by kernel_rfl, Tryz.func158, rfl, by kernel_rfl, by kernel_rfl, by decide, enters_fn Tryz.func158 (by kernel_rfl) rfl⟩
/-- ty.variable -/
def c68 : AC :=
  .seq (.reg [.o 2 (.box (.k (.agg [.c (.int .i64 0), .c (.str []), .c (.int .i64 0), .csl []])))])
  (.seq (.reg [.m 3 0, .o 4 (.build [.c (.int .i64 0), .c (.str []), .c (.int .i64 0), .csl []] [(0, 1, (.k (.c (.int .i64 1)))), (2, 1, (.t 3))]), .s 4 2 4])
  (.ret))
def r68 : List ResV := [.celln 4 2]
theorem k68 : CodeIs Tryz.prog 68 1 Tryz.f68 c68 r68 := ⟨by kernel_rfl, Tryz.func68, rfl, by kernel_rfl, by kernel_rfl, by decide, enters_fn Tryz.func68 (by kernel_rfl) rfl⟩
/-- (*ty.reader).variable -/
def c140 : AC :=
  .seq (.reg [.o 4 (.box (.k (.agg [.c (.int .i64 0), .c (.str []), .c (.int .i64 0), .csl []])))])
  (.seq (.reg [.m 6 0, .n 7 6, .f 8 2 7, .l 9 8, .m 10 1, .k 11 158 [(.t 9), (.t 10)], .m 5 11])
  (.seq (.seq (.reg [.m 12 5, .o 13 (.bin .lss (.t 12) (.k (.c (.int .i64 0))))])
  (.cond (.t 13)
  (.seq (.reg [.m 14 0, .n 15 14, .f 16 2 15, .l 17 16, .o 18 (.lenr (.t 17)), .m 5 18])
  (.reg [.m 19 0, .m 20 0, .n 21 20, .f 22 2 21, .l 23 22, .m 24 1, .o 25 (.bsl 1 [(.t 24)]), .o 26 (.app 9 1 16 (.t 23) (.t 25)), .n 27 19, .f 28 2 27, .s 1 28 26]))
  (.skip)))
  (.seq (.reg [.m 29 5, .k 30 68 [(.t 29)], .s 4 4 30])
  (.ret))))
def r140 : List ResV := [.celln 4 4]
theorem k140 : CodeIs Tryz.prog 140 2 Tryz.f140 c140 r140 := ⟨by kernel_rfl, Tryz.func140, rfl, by kernel_rfl, by kernel_rfl, by decide, enters_fn Tryz.func140 (by kernel_rfl) rfl⟩
/-- (*ty.reader).inner -/
def c103 : AC :=
  .seq (.reg [.o 5 (.box (.t 2)), .o 6 (.box (.k (.agg [.c (.int .i64 0), .c (.str []), .c (.int .i64 0), .csl []])))])
  (.seq (.seq (.reg [.m 7 1, .o 8 (.bin .geq (.t 7) (.k (.c (.int .i64 200))))])
  (.cond (.t 8)
  (.seq (.reg [.m 9 0, .f 10 3 5, .l 11 10, .k 12 139 [(.t 9), (.k (.c (.int .i64 31))), (.t 11)]])
  (.seq (.reg [.o 13 (.build [.c (.int .i64 0), .c (.str []), .c (.int .i64 0), .csl []] []), .s 4 6 13])
  (.ret)))
  (.skip)))
  (.seq (.reg [.m 14 0, .m 15 1, .o 16 (.bin .add (.t 15) (.k (.c (.int .i64 1)))), .k 17 56 [(.t 14), (.t 16)], .s 4 6 17])
  (.ret)))
def r103 : List ResV := [.celln 4 6]
theorem k103 : CodeIs Tryz.prog 103 3 Tryz.f103 c103 r103 := ⟨by kernel_rfl, Tryz.func103, rfl, by kernel_rfl, by kernel_rfl, by decide, enters_fn Tryz.func103 (by kernel_rfl) rfl⟩
/-- (*ty.reader).atom -/
def c101 : AC :=
  .seq (.reg [.o 4 (.box (.k (.agg [.c (.int .i64 0), .c (.str []), .c (.int .i64 0), .csl []])))])
  (.seq (.reg [.m 8 0, .k 9 100 [(.t 8)], .o 5 (.box (.k (.agg [.c (.int .i64 0), .c (.str []), .c (.int .i64 0), .c (.int .i64 0)]))), .s 4 5 9])
  (.seq (.seq (.reg [.m 10 0, .k 11 102 [(.t 10)], .o 12 (.un .not (.t 11))])
  (.cond (.t 12)
  (.seq (.reg [.m 13 0, .f 14 3 5, .l 15 14, .k 16 139 [(.t 13), (.k (.c (.int .i64 50))), (.t 15)]])
  (.seq (.reg [.o 17 (.build [.c (.int .i64 0), .c (.str []), .c (.int .i64 0), .csl []] []), .s 4 4 17])
  (.ret)))
  (.skip)))
  (.seq (.reg [.m 18 0, .n 19 18, .f 20 1 19, .l 21 20, .o 22 (.bin .add (.t 21) (.k (.c (.int .i64 1)))), .n 23 18, .f 24 1 23, .s 1 24 22])
  (.seq (.seq (.reg [.f 25 0 5, .l 26 25])
  (.block 0 (.seq (.reg [.o 28 (.bin .eql (.t 26) (.k (.c (.int .i64 1)))), .m 27 28])
  (.cond (.t 27)
  (.seq (.reg [.f 29 1 5, .l 30 29, .o 31 (.build [.c (.int .i64 0), .c (.str []), .c (.int .i64 0), .csl []] [(0, 1, (.k (.c (.int .i64 0)))), (1, 1, (.t 30))]), .s 4 4 31])
  (.ret))
  (.seq (.reg [.o 33 (.bin .eql (.t 26) (.k (.c (.int .i64 2)))), .m 32 33])
  (.cond (.t 32)
  (.seq (.reg [.m 34 0, .f 35 1 5, .l 36 35, .k 37 140 [(.t 34), (.t 36)], .s 4 4 37])
  (.ret))
  (.skip)))))))
  (.seq (.reg [.m 38 0, .m 39 1, .d 40 4 5, .k 41 103 [(.t 38), (.t 39), (.t 40)], .o 6 (.box (.k (.agg [.c (.int .i64 0), .c (.str []), .c (.int .i64 0), .csl []]))), .s 4 6 41])
  (.seq (.seq (.reg [.m 42 0, .k 43 100 [(.t 42)], .o 7 (.box (.k (.agg [.c (.int .i64 0), .c (.str []), .c (.int .i64 0), .c (.int .i64 0)]))), .s 4 7 43])
  (.seq (.reg [.f 44 0 7, .l 45 44, .o 46 (.bin .neq (.t 45) (.k (.c (.int .i64 6))))])
  (.cond (.t 46)
  (.reg [.m 47 0, .f 48 3 7, .l 49 48, .k 50 139 [(.t 47), (.k (.c (.int .i64 50))), (.t 49)]])
  (.skip))))
  (.seq (.reg [.m 51 0, .n 52 51, .f 53 1 52, .l 54 53, .o 55 (.bin .add (.t 54) (.k (.c (.int .i64 1)))), .n 56 51, .f 57 1 56, .s 1 57 55])
  (.seq (.reg [.d 58 4 6, .s 4 4 58])
  (.ret)))))))))
def r101 : List ResV := [.celln 4 4]
theorem k101 : CodeIs Tryz.prog 101 2 Tryz.f101 c101 r101 := ⟨by kernel_rfl, Tryz.func101, rfl, by kernel_rfl, by kernel_rfl, by decide, enters_fn Tryz.func101 (by kernel_rfl) rfl⟩
/-- (*ty.reader).read -/
def c56 : AC :=
  .seq (.reg [.o 4 (.box (.k (.agg [.c (.int .i64 0), .c (.str []), .c (.int .i64 0), .csl []])))])
  (.seq (.reg [.m 8 0, .k 9 100 [(.t 8)], .o 10 (.field1 0 (.t 9)), .o 11 (.bin .eql (.t 10) (.k (.c (.int .i64 1)))), .m 5 11])
  (.seq (.reg [.m 12 0, .m 13 1, .k 14 101 [(.t 12), (.t 13)], .o 6 (.box (.k (.agg [.c (.int .i64 0), .c (.str []), .c (.int .i64 0), .csl []]))), .s 4 6 14])
  (.seq (.block 0 (.loop (.seq (.seq (.reg [.m 15 5, .m 16 15, .y 17 (.mov (.t 0)) 16, .y 18 (.nilck (.t 17)) 16, .y 19 (.fadd 3 (.t 18)) 16, .y 20 (.load1 (.t 19)) 16, .y 21 (.bin .eql (.t 20) (.k (.c (.int .i64 0)))) 16, .o 22 (.pick (.t 16) (.t 21) (.k (.c (.bool false)))), .m 23 22, .y 24 (.mov (.t 0)) 23, .y 25 (.call (.k (.fn 102 [])) [(.t 24)]) 23, .o 26 (.pick (.t 23) (.t 25) (.k (.c (.bool false))))])
  (.cond (.t 26)
  (.skip)
  (.exit 0)))
  (.block 1 (.dreg [.f 27 3 6, .l 28 27, .m 29 0, .m 30 1, .k 31 101 [(.t 29), (.t 30)], .o 32 (.bsl 4 [(.t 31)]), .o 33 (.app 32 4 56 (.t 28) (.t 32)), .f 34 3 6, .s 1 34 33]
    [.q (.m 29 0), .q (.m 30 1), ⟨.k 31 101 [(.t 29), (.t 30)], true, 0⟩, .q (.f 27 3 6), .q (.l 28 27), ⟨.o 32 (.bsl 4 [(.t 31)]), false, 1⟩, ⟨.o 33 (.app 32 4 56 (.t 28) (.t 32)), true, 1⟩, ⟨.f 34 3 6, false, 2⟩, ⟨.s 1 34 33, true, 2⟩])))))
  (.seq (.reg [.m 35 0, .k 36 100 [(.t 35)], .o 7 (.box (.k (.agg [.c (.int .i64 0), .c (.str []), .c (.int .i64 0), .c (.int .i64 0)]))), .s 4 7 36])
  (.seq (.seq (.reg [.m 37 0, .n 38 37, .f 39 3 38, .l 40 39, .o 41 (.bin .neq (.t 40) (.k (.c (.int .i64 0)))), .m 42 41, .z 43 (.fadd 0 (.t 7)) 42, .z 44 (.load1 (.t 43)) 42, .z 45 (.bin .neq (.t 44) (.k (.c (.int .i64 4)))) 42, .o 46 (.pick (.t 42) (.k (.c (.bool true))) (.t 45)), .m 47 46, .z 48 (.fadd 1 (.t 7)) 47, .z 49 (.load1 (.t 48)) 47, .z 50 (.bin .neq (.t 49) (.k (.c (.str [45, 62])))) 47, .o 51 (.pick (.t 47) (.k (.c (.bool true))) (.t 50))])
  (.cond (.t 51)
  (.seq (.reg [.d 52 4 6, .s 4 4 52])
  (.ret))
  (.skip)))
  (.seq (.reg [.m 53 0, .n 54 53, .f 55 1 54, .l 56 55, .o 57 (.bin .add (.t 56) (.k (.c (.int .i64 1)))), .n 58 53, .f 59 1 58, .s 1 59 57])
  (.seq (.dreg [.m 60 0, .m 61 1, .d 62 4 7, .k 63 103 [(.t 60), (.t 61), (.t 62)], .d 64 4 6, .o 65 (.bsl 4 [(.t 64)]), .k 66 32 [(.t 63), (.t 65)], .s 4 4 66]
    [.q (.m 60 0), .q (.m 61 1), .q (.d 62 4 7), ⟨.k 63 103 [(.t 60), (.t 61), (.t 62)], true, 0⟩, .q (.d 64 4 6), .q (.o 65 (.bsl 4 [(.t 64)])), ⟨.k 66 32 [(.t 63), (.t 65)], true, 1⟩, ⟨.s 4 4 66, true, 2⟩])
  (.ret))))))))
def r56 : List ResV := [.celln 4 4]
theorem k56 : CodeIs Tryz.prog 56 2 Tryz.f56 c56 r56 := ⟨by kernel_rfl, Tryz.func56, rfl, by kernel_rfl, by kernel_rfl, by decide, enters_fn Tryz.func56 (by kernel_rfl) rfl⟩
/-- ty.Read -/
def c25 : AC :=
  .seq (.reg [.o 4 (.box (.k (.agg [.c (.int .i64 0), .c (.str []), .c (.int .i64 0), .csl []]))), .o 5 (.mov (.k (.c (.int .i64 0)))), .o 6 (.mov (.k (.c (.int .i64 0)))), .o 7 (.mov (.k (.c (.int .i64 0))))])
  (.seq (.reg [.m 10 0, .m 11 1, .o 12 (.build [.csl [], .c (.int .i64 0), .csl [], .c (.int .i64 0), .c (.int .i64 0)] [(0, 1, (.t 10)), (1, 1, (.t 11))]), .o 13 (.box (.t 12)), .m 8 13])
  (.seq (.reg [.m 14 8, .k 15 56 [(.t 14), (.k (.c (.int .i64 0)))], .o 9 (.box (.k (.agg [.c (.int .i64 0), .c (.str []), .c (.int .i64 0), .csl []]))), .s 4 9 15])
  (.seq (.seq (.reg [.m 16 8, .n 17 16, .f 18 3 17, .l 19 18, .o 20 (.bin .neq (.t 19) (.k (.c (.int .i64 0))))])
  (.cond (.t 20)
  (.seq (.dreg [.o 21 (.build [.c (.int .i64 0), .c (.str []), .c (.int .i64 0), .csl []] []), .m 22 1, .m 23 8, .n 24 23, .f 25 3 24, .l 26 25, .m 27 8, .n 28 27, .f 29 4 28, .l 30 29, .s 4 4 21, .m 5 22, .m 6 26, .m 7 30]
    [.q (.o 21 (.build [.c (.int .i64 0), .c (.str []), .c (.int .i64 0), .csl []] [])), ⟨.s 4 4 21, true, 0⟩, .q (.m 22 1), .q (.m 23 8), .q (.n 24 23), .q (.f 25 3 24), .q (.l 26 25), .q (.m 27 8), .q (.n 28 27), .q (.f 29 4 28), .q (.l 30 29), ⟨.m 5 22, false, 1⟩, ⟨.m 6 26, false, 1⟩, ⟨.m 7 30, false, 1⟩])
  (.ret))
  (.skip)))
  (.seq (.dreg [.d 31 4 9, .m 32 8, .n 33 32, .f 34 1 33, .l 35 34, .s 4 4 31, .m 5 35, .o 6 (.mov (.k (.c (.int .i64 0)))), .o 7 (.mov (.k (.c (.int .i64 0))))]
    [.q (.d 31 4 9), ⟨.s 4 4 31, true, 0⟩, .q (.m 32 8), .q (.n 33 32), .q (.f 34 1 33), .q (.l 35 34), ⟨.m 5 35, false, 1⟩, ⟨.o 6 (.mov (.k (.c (.int .i64 0)))), false, 1⟩, ⟨.o 7 (.mov (.k (.c (.int .i64 0)))), false, 1⟩])
  (.ret)))))
def r25 : List ResV := [.celln 4 4, .tmp 5, .tmp 6, .tmp 7]
theorem k25 : CodeIs Tryz.prog 25 2 Tryz.f25 c25 r25 := ⟨by kernel_rfl, Tryz.func25, rfl, by kernel_rfl, by kernel_rfl, by decide, enters_fn Tryz.func25 (by kernel_rfl) rfl⟩
end Go.Proofs.YtohcnohllbjlcaaGreatDoor
namespace Go.Proofs.YtohcnohllbjlcaaGreatDoor
open Go.RowKit Go.Lamb
/-- slices.IndexFunc[[]api.Op,api.Op] -/
def c175 : AC :=
  .seq (.reg [.o 4 (.mov (.k (.c (.int .i64 0))))])
  (.seq (.seq (.reg [.m 6 0, .o 7 (.lenr (.t 6)), .o 8 (.mov (.k (.c (.int .i64 0))))])
  (.block 0 (.loop (.seq (.reg [.o 9 (.bin .lss (.t 8) (.t 7))])
  (.seq (.cond (.t 9)
  (.skip)
  (.exit 0))
  (.seq (.block 1 (.seq (.reg [.m 10 8, .m 5 10])
  (.seq (.reg [.m 11 1, .m 12 0, .m 13 5, .o 14 (.iadd 3 (.t 12) (.t 13)), .d 15 3 14, .o 16 (.call (.t 11) [(.t 15)])])
  (.cond (.t 16)
  (.seq (.reg [.m 17 5, .m 4 17])
  (.ret))
  (.skip)))))
  (.reg [.o 18 (.bin .add (.t 8) (.k (.c (.int .i64 1)))), .m 8 18])))))))
  (.seq (.reg [.o 4 (.mov (.k (.c (.int .i64 (-1)))))])
  (.ret)))
end Go.Proofs.YtohcnohllbjlcaaGreatDoor
namespace Go.Proofs.YtohcnohllbjlcaaGreatDoor
open Go.RowKit Go.Lamb
attribute [local go_sem] advO_skip advO_reg advO_seq advO_block advO_exit advO_endb advO_opsNil advO_ops advG_yes advG_no advG_none advS_some advS_none advO_cond advO_loop advO_dreg advO_ret advO_bad advO_inv advO_nil advO_zero wantedV Lamb.step ev_t ev_k put_some put_none argEnv popTo cellsAt V.cellsV V.rows V.toC toCs fillV bytesC byteRows appV rowsV boundV boundL binV binInt binStr eqC eqL V.isNil leaves V.leaf Ins.quiet Ins.pure List.getD_cons_zero List.getD_cons_succ List.getD_nil List.all_cons List.all_nil List.length_cons List.length_nil List.take_succ_cons List.take_zero List.drop_succ_cons List.drop_zero List.cons_append List.nil_append List.append_nil List.append_assoc List.map_cons List.map_nil List.getElem?_cons_zero List.getElem?_cons_succ List.length_append List.length_set hget0 hget hset0 hset hsets hgs0 hgs hss0 hss List.set_cons_zero List.set_cons_succ List.forall_mem_cons List.not_mem_nil false_implies implies_true Option.map_some Bool.and_true Bool.true_and Bool.not_not Bool.not_true Bool.not_false Bool.and_self Bool.or_true Bool.true_or Bool.or_false Bool.false_or Bool.and_false Bool.false_and Bool.false_eq_true beq_self_eq_true and_self and_true true_and if_true if_false Nat.zero_add Nat.add_zero Nat.le_refl Int.toNat_natCast decide_true decide_false beq_t beq_f List.length_map List.getElem?_map I S B opsC toksC OpT.v OpT.cs OpT.zero Tok.v Tok.cs Pre.v Pre.cs_eq k_mk name_mk n_mk l_mk pos_mk Pre.app applyL natCast0 natCast1 natCast2 AOp.o AOp.m AOp.f AOp.l AOp.d AOp.n AOp.x AOp.s AOp.k AOp.y AOp.z EOp.q low_c low_void low_any low_csl low_nilf low_ptr low_osl low_agg low_tup low_fn resEval advPO_nil advPO_loud advPO_quiet pL_yes pL_no pLS_some pLS_none pQ_yes pQ_no pQS_some pQS_loud eq_self Nat.sub_zero

end Go.Proofs.YtohcnohllbjlcaaGreatDoor
namespace Go.Proofs.YtohcnohllbjlcaaGreatDoor
open Go.RowKit Go.Lamb
--absent /-- (*read.reader).tok -/
--absent /-- (*read.reader).operator -/
--absent /-- (*read.reader).begins -/
--absent /-- (*read.reader).lambda -/
--absent /-- (read.wrong).ok -/
--absent /-- read.apply -/
--absent /-- (*read.reader).inner -/
--absent /-- (*read.reader).brackets -/
--absent /-- (*read.reader).atom -/
--absent /-- (*read.reader).operand -/
--absent /-- (*read.reader).expr -/
--absent /-- read.Read -/
end Go.Proofs.YtohcnohllbjlcaaGreatDoor
namespace Go.Proofs.YtohcnohllbjlcaaGreatDoor
open Go.RowKit Go.Lamb

theorem tokL_in {t : List Tok} {i : Nat} (h : i < t.length) : tokL t i = t[i] := by rw [tokL, List.getElem?_eq_getElem h]; rfl
theorem tokL_out {t : List Tok} {i : Nat} (h : t.length ≤ i) : tokL t i = ⟨0, [], 0, lastPos t⟩ := by rw [tokL, List.getElem?_eq_none h]; rfl
theorem lastPos_at {t : List Tok} (h : 0 < t.length) : ∃ x, t[t.length - 1]? = some x ∧ lastPos t = x.pos := by
  refine ⟨t[t.length - 1], List.getElem?_eq_getElem (by omega), ?_⟩
  rw [lastPos, List.getLast?_eq_getElem?, List.getElem?_eq_getElem (by omega)]
  rfl
end Go.Proofs.YtohcnohllbjlcaaGreatDoor
namespace Go.Proofs.YtohcnohllbjlcaaGreatDoor
open Go.RowKit Go.Lamb
attribute [local go_sem] advO_skip advO_reg advO_seq advO_block advO_exit advO_endb advO_opsNil advO_ops advG_yes advG_no advG_none advS_some advS_none advO_cond advO_loop advO_dreg advO_ret advO_bad advO_inv advO_nil advO_zero wantedV Lamb.step ev_t ev_k put_some put_none argEnv popTo cellsAt V.cellsV V.rows V.toC toCs fillV bytesC byteRows appV rowsV boundV boundL binV binInt binStr eqC eqL V.isNil leaves V.leaf Ins.quiet Ins.pure List.getD_cons_zero List.getD_cons_succ List.getD_nil List.all_cons List.all_nil List.length_cons List.length_nil List.take_succ_cons List.take_zero List.drop_succ_cons List.drop_zero List.cons_append List.nil_append List.append_nil List.append_assoc List.map_cons List.map_nil List.getElem?_cons_zero List.getElem?_cons_succ List.length_append List.length_set hget0 hget hset0 hset hsets hgs0 hgs hss0 hss List.set_cons_zero List.set_cons_succ List.forall_mem_cons List.not_mem_nil false_implies implies_true Option.map_some Bool.and_true Bool.true_and Bool.not_not Bool.not_true Bool.not_false Bool.and_self Bool.or_true Bool.true_or Bool.or_false Bool.false_or Bool.and_false Bool.false_and Bool.false_eq_true beq_self_eq_true and_self and_true true_and if_true if_false Nat.zero_add Nat.add_zero Nat.le_refl Int.toNat_natCast decide_true decide_false beq_t beq_f List.length_map List.getElem?_map I S B opsC toksC OpT.v OpT.cs OpT.zero Tok.v Tok.cs Pre.v Pre.cs_eq k_mk name_mk n_mk l_mk pos_mk Pre.app applyL natCast0 natCast1 natCast2 AOp.o AOp.m AOp.f AOp.l AOp.d AOp.n AOp.x AOp.s AOp.k AOp.y AOp.z EOp.q low_c low_void low_any low_csl low_nilf low_ptr low_osl low_agg low_tup low_fn resEval advPO_nil advPO_loud advPO_quiet pL_yes pL_no pLS_some pLS_none pQ_yes pQ_no pQS_some pQS_loud eq_self Nat.sub_zero
section

def strsR (l : List Str) : List (List C) := l.map fun s => [C.str s]
/-- The type reader's blocks. -/
def tyX (t : List Tok) (i : Int) (v : Nat) (vs : List Str) (e p : Int) : Blk := .cells [.c (toksC t), I i, .osl v (strsR vs), I e, I p]
def tyY (vs : List Str) : Blk := .spare 9 1 vs.length
abbrev tys (σ : H) (b v : Nat) (t : List Tok) (i : Int) (vs : List Str) (e p : Int) : H := rs σ b v (tyX t i v vs e p) (tyY vs)
theorem tys_ok {σ : H} {b v : Nat} (D : Two σ b v) {X Y : Blk} (h : H.ok (rs σ b v X Y)) (t : List Tok) (i : Int) (vs : List Str) (e p : Int) : H.ok (tys σ b v t i vs e p) :=
  rs_ok D h (fun cs tg hc x hx => by
    unfold tyX at hc
    injection hc with hc _
    subst hc
    simp only [List.mem_cons, List.not_mem_nil, or_false] at hx
    rcases hx with rfl | rfl | rfl | rfl | rfl
    · exact .c _
    · exact .c _
    · exact .osl D.lv
    · exact .c _
    · exact .c _) (fun cs tg hc => by unfold tyY at hc; cases hc)
attribute [local go_sem] tyX tyY rs_len rs_g0 rs_g rs_s0 rs_s rs_sv Typ.v Typ.cs_eq tk_mk tname_mk tn_mk tl_mk tysC
theorem ty_tok (w0 : World) (t : List Tok) (i : Int) (vs : List Str) (e p : Int) (σ : H) (b v : Nat) (D : Two σ b v) (hl : t.length ≤ 1000000) :
    DC Tryz.prog w0 100 [.ptr b 0] (tys σ b v t i vs e p) (Same (tokI t i).v (tys σ b v t i vs e p)) := by
  refine k100.go rfl (fun hok hsz => ?_)
  by_cases h : 0 ≤ i ∧ i < t.length
  · obtain ⟨h0, h1⟩ := h
    obtain ⟨n, rfl⟩ := Int.eq_ofNat_of_zero_le h0
    rw [tokI_nat]
    have h1' : n < t.length := by omega
    have hx : t[n]? = some t[n] := List.getElem?_eq_getElem h1'
    ((try refine W.a ?_); simp only [go_sem, seval, reduceCtorEq, c100, rsA D])
    (apply W.dregE (List.cons_ne_nil _ _); case hc => ((apply CanonE.advPO; simp only [go_sem, seval, reduceCtorEq, rsA D, h0, h1]); exact CanonE.nil))
    ((try refine W.a ?_); simp only [go_sem, seval, reduceCtorEq])
    refine W.yes rfl ?_
    ((try refine W.a ?_); simp only [go_sem, seval, reduceCtorEq])
    (apply W.dregE (List.cons_ne_nil _ _); case hc => ((apply CanonE.advPO; simp only [go_sem, seval, reduceCtorEq, rsA D, h0, h1, hx]); exact CanonE.nil))
    ((try refine W.a ?_); simp only [go_sem, seval, reduceCtorEq])
    (refine W.fs (hok) (by simp only [r100, go_sem, seval, reduceCtorEq, rsA D]; rfl) ?_ (hl := by (first | exact .c _ | (simp only [go_sem, seval, reduceCtorEq, rsA D]; done))); simp only [resV, rsA D]; try exact V.wk.rfl _)
    rw [tokL_in h1']
    (all_goals exact wk_here)
  · have ht : tokI t i = ⟨0, [], 0, lastPos t⟩ := by
      unfold tokI
      split
      · rw [tokL_out (by omega)]
      · rfl
    rw [ht]
    have two : (¬ 0 ≤ i) ∨ (0 ≤ i ∧ ¬ i < (t.length : Int)) := by
      by_cases h0 : 0 ≤ i
      · exact .inr ⟨h0, fun h1 => h ⟨h0, h1⟩⟩
      · exact .inl h0
    rcases two with h0 | ⟨h0, h1⟩
    all_goals
      ((try refine W.a ?_); simp only [go_sem, seval, reduceCtorEq, c100, rsA D])
      first
        | ((apply W.dregE (List.cons_ne_nil _ _); case hc => ((apply CanonE.advPO; simp only [go_sem, seval, reduceCtorEq, rsA D, h0, h1]); exact CanonE.nil)))
        | ((apply W.dregE (List.cons_ne_nil _ _); case hc => ((apply CanonE.advPO; simp only [go_sem, seval, reduceCtorEq, rsA D, h0]); exact CanonE.nil)))
      ((try refine W.a ?_); simp only [go_sem, seval, reduceCtorEq])
      refine W.no rfl ?_
      ((try refine W.a ?_); simp only [go_sem, seval, reduceCtorEq, rsA D])
      by_cases hz : 0 < t.length
      · have h2 : ((t.length : Int) > 0) := by omega
        have hw2 : IntKind.i64.wrap ((t.length : Int) - 1) = ((t.length - 1 : Nat) : Int) := by rw [wrap_in] <;> omega
        obtain ⟨x, hx, hp⟩ := lastPos_at hz
        have h3 : (((t.length - 1 : Nat) : Int) < (t.length : Int)) := by omega
        ((try refine W.a ?_); simp only [go_sem, seval, reduceCtorEq, h2])
        refine W.yes rfl ?_
        ((try refine W.a ?_); simp only [go_sem, seval, reduceCtorEq])
        (apply W.dregE (List.cons_ne_nil _ _); case hc => ((apply CanonE.advPO; simp only [go_sem, seval, reduceCtorEq, rsA D, hw2, nat0, h3, hx]); exact CanonE.nil))
        ((try refine W.a ?_); simp only [go_sem, seval, reduceCtorEq])
        (refine W.fs (hok) (by simp only [r100, go_sem, seval, reduceCtorEq, rsA D]; rfl) ?_ (hl := by (first | exact .c _ | (simp only [go_sem, seval, reduceCtorEq, rsA D]; done))); simp only [resV, rsA D]; try exact V.wk.rfl _)
        rw [hp]
        (all_goals exact wk_here)
      · have h2 : ¬ ((t.length : Int) > 0) := by omega
        have : t = [] := List.eq_nil_of_length_eq_zero (by omega)
        ((try refine W.a ?_); simp only [go_sem, seval, reduceCtorEq, h2])
        refine W.no rfl ?_
        ((try refine W.a ?_); simp only [go_sem, seval, reduceCtorEq, rsA D])
        (refine W.fs (hok) (by simp only [r100, go_sem, seval, reduceCtorEq, rsA D]; rfl) ?_ (hl := by (first | exact .c _ | (simp only [go_sem, seval, reduceCtorEq, rsA D]; done))); simp only [resV, rsA D]; try exact V.wk.rfl _)
        subst this
        (all_goals exact wk_here)
theorem ty_fail (w0 : World) (t : List Tok) (i : Int) (vs : List Str) (e p e' p' : Int) (σ : H) (b v : Nat) (D : Two σ b v) :
    DC Tryz.prog w0 139 [.ptr b 0, I e', I p'] (tys σ b v t i vs e p) (Same (.tup []) (tys σ b v t i vs (if e = 0 then e' else e) (if e = 0 then p' else p))) := by
  refine k139.go rfl (fun hok hsz => ?_)
  by_cases he : e = 0
  · subst he
    ((try refine W.a ?_); simp only [go_sem, seval, reduceCtorEq, c139, rsA D])
    refine W.yes rfl ?_
    ((try refine W.a ?_); simp only [go_sem, seval, reduceCtorEq, rsA D])
    (refine W.done (Fin.sameW (tys_ok D hok t i vs e' p') (by (first | rfl | exact List.length_set .. | simp)) (by simp only [r139, go_sem, seval, reduceCtorEq]; rfl) ?_ (by (first | exact .c _ | (simp only [go_sem, seval, reduceCtorEq]; done))) (by (first | rfl | exact (List.append_nil _).symm))); simp only [resV]; try exact V.wk.rfl _)
  · have he' : (e == 0) = false := by simpa using he
    ((try refine W.a ?_); simp only [go_sem, seval, reduceCtorEq, c139, rsA D, he'])
    refine W.no rfl ?_
    ((try refine W.a ?_); simp only [go_sem, seval, reduceCtorEq])
    rw [if_neg he, if_neg he]
    (refine W.done (Fin.sameW (hok) (by (first | rfl | exact List.length_set .. | simp)) (by simp only [r139, go_sem, seval, reduceCtorEq]; rfl) ?_ (by (first | exact .c _ | (simp only [go_sem, seval, reduceCtorEq]; done))) (by (first | rfl | exact (List.append_nil _).symm))); simp only [resV]; try exact V.wk.rfl _)
theorem ty_begins (w0 : World) (t : List Tok) (i : Int) (vs : List Str) (e p : Int) (σ : H) (b v : Nat) (D : Two σ b v) (hl : t.length ≤ 1000000) :
    DC Tryz.prog w0 102 [.ptr b 0] (tys σ b v t i vs e p) (Same (B (tyBegins (tokI t i))) (tys σ b v t i vs e p)) := by
  refine k102.go rfl (fun hok hsz => ?_)
  ((try refine W.a ?_); simp only [go_sem, seval, reduceCtorEq, c102])
  (refine W.c1 (ty_tok w0 t i vs e p σ b v D hl) ?_; simp only [go_sem, seval, reduceCtorEq])
  generalize tokI t i = x
  (((try refine W.a ?_); (try simp only [bne, go_sem, seval, reduceCtorEq, *])); (repeat' (first | (refine W.yes rfl ?_; (refine W.a ?_; simp only [bne, go_sem, seval, reduceCtorEq, *])) | (refine W.no rfl ?_; (refine W.a ?_; simp only [bne, go_sem, seval, reduceCtorEq, *])) | (refine W.testn rfl (fun hT => ?_) (fun hT => ?_) <;> (refine W.a ?_; simp only [bne, go_sem, seval, reduceCtorEq, *])) | (refine W.test rfl (fun hT => ?_) (fun hT => ?_) <;> (refine W.a ?_; simp only [bne, go_sem, seval, reduceCtorEq, *])) | (refine advG_ifn _ _ _ _ (fun hT => ?_) (fun hT => ?_) <;> simp only [bne, go_sem, seval, reduceCtorEq, *]) | (refine advG_if _ _ _ _ (fun hT => ?_) (fun hT => ?_) <;> simp only [bne, go_sem, seval, reduceCtorEq, *]))))
  all_goals (refine W.fs (hok) (by simp only [r102, go_sem, seval, reduceCtorEq]; rfl) ?_; simp only [resV]; (first | exact V.wk.rfl _ | (refine wk_bool ?_; clear hsz hok; rw [tyBegins] <;> ((try simp only [beq_iff_eq, beq_eq_false_iff_ne, ne_eq, decide_eq_true_eq, decide_eq_false_iff_not] at *); first | (exfalso; omega) | (simp [beq_iff_eq, *]; done) | (simp [beq_iff_eq, *]; omega) | (simp [beq_iff_eq, *])))))
theorem slices_Index (w0 : World) (l : List Str) (s : Str) (σ : H) : DC Tryz.prog w0 158 [.c (.sl (strsR l)), S s] σ (Same (I (idxI (· == s) l)) σ) := by
  refine k158.go rfl (fun hok hsz => ?_)
  have hlen : l.length ≤ 9223372036854775807 := sz_rows (hsz _ (List.mem_cons_self ..))
  ((try refine W.a ?_); simp only [go_sem, seval, reduceCtorEq, c158, strsR])
  refine W.loopP (fun i => i ≤ l.length ∧ UpTo (· == s) l i) (fun i => ⟨((((base.put (some 0) (.c (.sl (strsR l)))).put (some 1) (S s)).put (some 7) (I l.length)).put (some 8) (I (i : Nat))), σ⟩) (fun i => l.length - i) 0 ⟨Nat.zero_le _, upTo_zero⟩ ?_ (fun i hi => ?_)
  · (refine Lew.env ?_; exact lee_here)
  · obtain ⟨hi, hinv⟩ := hi
    by_cases hlt : i < l.length
    · have h1 : ((i : Int) < (l.length : Int)) := by omega
      have hx : l[i]? = some l[i] := List.getElem?_eq_getElem hlt
      have hw : IntKind.i64.wrap ((i : Int) + 1) = ((i + 1 : Nat) : Int) := wrap_next hlt hlen
      ((try refine W.a ?_); simp only [go_sem, seval, reduceCtorEq, h1])
      refine W.yes rfl ?_
      ((try refine W.a ?_); simp only [go_sem, seval, reduceCtorEq, strsR, h1, nat0, hx])
      refine W.test rfl (fun h => ?_) (fun h => ?_)
      · ((try refine W.a ?_); simp only [go_sem, seval, reduceCtorEq])
        (refine W.ret (Fin.same hok (by simp only [resEval, r158, go_sem, seval, reduceCtorEq]; rfl) ?_ (by first | exact .c _ | (simp only [go_sem, seval, reduceCtorEq]; done)) (by first | exact ⟨[], (List.append_nil _).symm⟩ | exact ⟨_, rfl⟩)); simp only [resV])
        rw [idxI_at hinv hlt (by simp only [beq_iff_eq] at h ⊢; exact h.symm)]
      · ((try refine W.a ?_); simp only [go_sem, seval, reduceCtorEq, hw])
        refine .inv ⟨i + 1, ⟨hlt, upTo_next hinv hlt (by simp only [beq_eq_false_iff_ne] at h ⊢; exact fun e => h e.symm)⟩, by omega, ?_⟩
        (refine Lew.env ?_; exact lee_here)
    · have h1 : ¬ ((i : Int) < (l.length : Int)) := by omega
      ((try refine W.a ?_); simp only [go_sem, seval, reduceCtorEq, h1])
      refine W.no rfl ?_
      ((try refine W.a ?_); simp only [go_sem, seval, reduceCtorEq])
      (refine W.ret (Fin.same hok (by simp only [resEval, r158, go_sem, seval, reduceCtorEq]; rfl) ?_ (by first | exact .c _ | (simp only [go_sem, seval, reduceCtorEq]; done)) (by first | exact ⟨[], (List.append_nil _).symm⟩ | exact ⟨_, rfl⟩)); simp only [resV])
      rw [idxI_none (fun j hj => hinv j hj (by omega))]
theorem ty_variable1 (w0 : World) (n : Int) (σ : H) : DC Tryz.prog w0 68 [I n] σ (Same (Typ.var n).v σ) := by
  refine k68.go rfl (fun hok hsz => ?_)
  ((try refine W.a ?_); simp only [go_sem, seval, reduceCtorEq, c68])
  (refine W.fg (hok) (d := (Typ.var n).v) (by simp only [r68, go_sem, seval, reduceCtorEq, Typ.v, Typ.var, tk_mk, tname_mk, tn_mk, tl_mk]; rfl) (by simp only [resV, go_sem, seval, reduceCtorEq, Typ.v, Typ.var, tk_mk, tname_mk, tn_mk, tl_mk]; exact wk_here) ?_ (hl := by (first | exact .c _ | (simp only [go_sem, seval, reduceCtorEq, Typ.v, Typ.var, tk_mk, tname_mk, tn_mk, tl_mk]; done))))
  exact ⟨rfl, rfl⟩
theorem vnum_no {vs : List Str} {s : Str} (h : idxI (· == s) vs = -1) : vnum vs s = vs.length ∧ vadd vs s = vs ++ [s] := by
  unfold idxI at h
  unfold vnum vadd
  cases hf : vs.findIdx? (· == s) with
  | none => simp
  | some k => rw [hf] at h; simp only at h; omega
theorem vnum_yes {vs : List Str} {s : Str} {k : Nat} (h : idxI (· == s) vs = k) : vnum vs s = k ∧ vadd vs s = vs := by
  unfold idxI at h
  unfold vnum vadd
  cases hf : vs.findIdx? (· == s) with
  | none => rw [hf] at h; simp only at h; omega
  | some j => rw [hf] at h; simp only at h; simp; omega
theorem tys_push (σ : H) (b v : Nat) (t : List Tok) (i : Int) (vs : List Str) (s : Str) (e p : Int) : tys σ b v t i (vs ++ [s]) e p = rs σ b v (.cells [.c (toksC t), I i, .osl v (strsR vs ++ [[C.str s]]), I e, I p]) (.spare 9 1 (vs.length + 1)) := by
  show rs σ b v (tyX t i v (vs ++ [s]) e p) (tyY (vs ++ [s])) = _
  simp only [tyX, tyY, strsR, List.map_append, List.map_cons, List.map_nil, List.length_append, List.length_cons, List.length_nil]
theorem ty_variable (w0 : World) (t : List Tok) (i : Int) (vs : List Str) (e p : Int) (s : Str) (σ : H) (b v : Nat) (D : Two σ b v) (hv : vs.length ≤ 1000000) :
    DC Tryz.prog w0 140 [.ptr b 0, S s] (tys σ b v t i vs e p) (Same (Typ.var (vnum vs s)).v (tys σ b v t i (vadd vs s) e p)) := by
  refine k140.go rfl (fun hok hsz => ?_)
  rcases idxI_cases (· == s) vs with ⟨h, h'⟩ | ⟨k, hk, h, h'⟩
  · obtain ⟨q1, q2⟩ := vnum_no h
    have hb1 : (vs.length + 1) * 16 ≤ 140737488355328 := by omega
    have hb2 : vs.length + 1 ≤ 140737488355328 := by omega
    ((try refine W.a ?_); simp only [go_sem, seval, reduceCtorEq, c140, rsA D])
    (refine W.c1w (slices_Index w0 vs s _) ?_; simp only [go_sem, seval, reduceCtorEq, h, show ((-1 : Int) < 0) = True from by decide])
    refine W.yes rfl ?_
    ((try refine W.a ?_); simp only [go_sem, seval, reduceCtorEq, rsA D, strsR, hb1, hb2])
    rw [q1, q2, tys_push]
    have hok2 := tys_ok D hok t i (vs ++ [s]) e p
    rw [tys_push] at hok2
    (refine W.c1 (ty_variable1 w0 (vs.length : Int) _) ?_; simp only [go_sem, seval, reduceCtorEq, Typ.var])
    (refine W.fg (hok2) (d := (Typ.var (vs.length : Int)).v) (by simp only [r140, go_sem, seval, reduceCtorEq, Typ.v, Typ.var, tk_mk, tname_mk, tn_mk, tl_mk]; rfl) (by simp only [resV, go_sem, seval, reduceCtorEq, Typ.v, Typ.var, tk_mk, tname_mk, tn_mk, tl_mk]; exact wk_here) ?_ (hl := by (first | exact .c _ | (simp only [go_sem, seval, reduceCtorEq, Typ.v, Typ.var, tk_mk, tname_mk, tn_mk, tl_mk]; done))))
    exact ⟨rfl, rfl⟩
  · obtain ⟨q1, q2⟩ := vnum_yes h
    have h1 : ¬ ((k : Int) < 0) := by omega
    ((try refine W.a ?_); simp only [go_sem, seval, reduceCtorEq, c140, rsA D])
    (refine W.c1w (slices_Index w0 vs s _) ?_; simp only [go_sem, seval, reduceCtorEq, h, h1])
    refine W.no rfl ?_
    ((try refine W.a ?_); simp only [go_sem, seval, reduceCtorEq])
    rw [q1, q2]
    (refine W.c1 (ty_variable1 w0 (k : Int) _) ?_; simp only [go_sem, seval, reduceCtorEq, Typ.var])
    (refine W.fg (hok) (d := (Typ.var (k : Int)).v) (by simp only [r140, go_sem, seval, reduceCtorEq, Typ.v, Typ.var, tk_mk, tname_mk, tn_mk, tl_mk]; rfl) (by simp only [resV, go_sem, seval, reduceCtorEq, Typ.v, Typ.var, tk_mk, tname_mk, tn_mk, tl_mk]; exact wk_here) ?_ (hl := by (first | exact .c _ | (simp only [go_sem, seval, reduceCtorEq, Typ.v, Typ.var, tk_mk, tname_mk, tn_mk, tl_mk]; done))))
    exact ⟨rfl, rfl⟩
end
section

def atomV (nm : Bool) (u : Typ) : V := if nm then .agg [I u.k, S u.name, I u.n, .csl []] else u.v
abbrev tyo (σ : H) (b v : Nat) (t : List Tok) (o : TyO) : H := tys σ b v t o.j o.ws o.e o.p
def TyTypeOK (w0 : World) (f : Nat) : Prop := ∀ (t : List Tok) (depth i : Nat) (vs : List Str) (r : TyR) (o : TyO) (σ : H) (b v : Nat), tyTypeF f t depth i vs = some r → tyTypeG f t depth i vs = some o → Two σ b v → t.length ≤ 1000000 → vs.length ≤ i → i ≤ t.length → depth ≤ 200 →
  DC Tryz.prog w0 56 [.ptr b 0, I depth] (tys σ b v t i vs 0 0) (Same o.u.v (tyo σ b v t o))
def TyAtomOK (w0 : World) (f : Nat) : Prop := ∀ (t : List Tok) (depth i : Nat) (vs : List Str) (r : TyR) (o : TyO) (σ : H) (b v : Nat), tyAtomF f t depth i vs = some r → tyAtomG f t depth i vs = some o → Two σ b v → t.length ≤ 1000000 → vs.length ≤ i → i ≤ t.length → depth ≤ 200 →
  DC Tryz.prog w0 101 [.ptr b 0, I depth] (tys σ b v t i vs 0 0) (Same (atomV ((tokL t i).kind == 1) o.u) (tyo σ b v t o))
attribute [local go_sem] tyX tyY rs_len rs_g0 rs_g rs_s0 rs_s rs_sv Typ.v Typ.cs_eq tk_mk tname_mk tn_mk tl_mk tysC
def innerT (f : Nat) (t : List Tok) (depth i : Nat) (vs : List Str) (pos : Int) : Option TyR := if 200 ≤ depth then some (.error ⟨31, pos⟩) else tyTypeF f t (depth + 1) i vs
def innerO (f : Nat) (t : List Tok) (depth i : Nat) (vs : List Str) (pos : Int) : Option TyO := if 200 ≤ depth then some ⟨.none, (i : Nat), vs, 31, pos⟩ else tyTypeG f t (depth + 1) i vs
theorem ty_inner {w0 : World} {f : Nat} (hE : TyTypeOK w0 f) (t : List Tok) (depth i : Nat) (vs : List Str) (k : Tok) (r : TyR) (o : TyO) (σ : H) (b v : Nat) (h : innerT f t depth i vs k.pos = some r) (ho : innerO f t depth i vs k.pos = some o) (D : Two σ b v) (ht : t.length ≤ 1000000) (hv : vs.length ≤ i) (hi : i ≤ t.length) (hd : depth ≤ 200) :
    DC Tryz.prog w0 103 [.ptr b 0, I depth, k.v] (tys σ b v t i vs 0 0) (Same o.u.v (tyo σ b v t o)) := by
  refine k103.go rfl (fun hok hsz => ?_)
  rw [innerT] at h
  rw [innerO] at ho
  by_cases hc : 200 ≤ depth
  · rw [if_pos hc] at h ho
    injection ho with ho
    subst ho
    have h1 : (depth : Int) ≥ 200 := by omega
    ((try refine W.a ?_); simp only [go_sem, seval, reduceCtorEq, c103, rsA D, h1])
    refine W.yes rfl ?_
    ((try refine W.a ?_); simp only [go_sem, seval, reduceCtorEq, rsA D])
    (refine W.c1 (DC.lift D (fun D' => ty_fail w0 t i vs 0 0 31 k.pos _ b v D')) ?_; simp only [go_sem, seval, reduceCtorEq, rsA D])
    (refine W.fg (tys_ok D hok t i vs 31 k.pos) (d := Typ.none.v) (by simp only [r103, go_sem, seval, reduceCtorEq, Typ.v, Typ.none, tk_mk, tname_mk, tn_mk, tl_mk]; rfl) (by simp only [resV, go_sem, seval, reduceCtorEq, Typ.v, Typ.none, tk_mk, tname_mk, tn_mk, tl_mk]; exact wk_here) ?_ (hl := by (first | exact .c _ | (simp only [go_sem, seval, reduceCtorEq, Typ.v, Typ.none, tk_mk, tname_mk, tn_mk, tl_mk]; done))))
    exact ⟨rfl, rfl⟩
  · rw [if_neg hc] at h ho
    have h1 : ¬ (depth : Int) ≥ 200 := by omega
    have hw : IntKind.i64.wrap ((depth : Int) + 1) = ((depth + 1 : Nat) : Int) := wrap_next (n := 201) (by omega) (by omega)
    ((try refine W.a ?_); simp only [go_sem, seval, reduceCtorEq, c103, rsA D, h1])
    refine W.no rfl ?_
    ((try refine W.a ?_); simp only [go_sem, seval, reduceCtorEq, hw])
    (refine W.c1 (DC.lift D (fun D' => hE t (depth + 1) i vs r o _ b v h ho D' ht hv hi (by omega))) ?_; simp only [go_sem, seval, reduceCtorEq, rsA D])
    (refine W.fg (tys_ok D hok t o.j o.ws o.e o.p) (d := o.u.v) (by simp only [r103, go_sem, seval, reduceCtorEq, Typ.v]; rfl) (by simp only [resV, go_sem, seval, reduceCtorEq, Typ.v]; exact wk_here) ?_ (hl := by (first | exact .c _ | (simp only [go_sem, seval, reduceCtorEq, Typ.v]; done))))
    exact ⟨rfl, rfl⟩
theorem ty_pos {f : Nat} {t : List Tok} {depth i : Nat} {vs : List Str} {pos : Int} {r : TyR} {o : TyO} (h : innerT f t depth i vs pos = some r) (ho : innerO f t depth i vs pos = some o) (ht : t.length ≤ 1000000) : o.e = 0 → o.p = 0 := fun he => by
  unfold innerT at h
  unfold innerO at ho
  by_cases hc : 200 ≤ depth
  · rw [if_pos hc] at ho
    injection ho with ho
    subst ho
    exact absurd he (by show ¬ (31 : Int) = 0; decide)
  · rw [if_neg hc] at h ho
    obtain ⟨o', h1, h2⟩ := (ty_out f).2.2.2 _ _ _ _ _ ht h
    rw [ho] at h1
    injection h1 with h1
    subst h1
    cases r with
    | ok x =>
      obtain ⟨u, j, ws⟩ := x
      have : o = ⟨u, (j : Nat), ws, 0, 0⟩ := h2
      rw [this]
    | error x =>
      obtain ⟨q1, _, q3⟩ := h2
      rw [← q1, he] at q3
      cases q3
theorem tyAtomF_eq (f : Nat) (t : List Tok) (depth i : Nat) (vs : List Str) : tyAtomF (f + 1) t depth i vs =
    if (tokL t i).kind = 1 then some (.ok (.con (tokL t i).text, i + 1, vs))
    else if (tokL t i).kind = 2 then some (.ok (.var (vnum vs (tokL t i).text), i + 1, vadd vs (tokL t i).text))
    else if (tokL t i).kind = 5 then
      match innerT f t depth (i + 1) vs (tokL t i).pos with
        | none => none
        | some (.error b) => some (.error b)
        | some (.ok (u, j, ws)) => if (tokL t j).kind = 6 then some (.ok (u, j + 1, ws)) else some (.error ⟨50, (tokL t j).pos⟩)
    else some (.error ⟨50, (tokL t i).pos⟩) := by
  rw [tyAtomF]
  unfold innerT
  by_cases hd : 200 ≤ depth
  · simp only [if_pos hd]
  · simp only [if_neg hd]
    rfl
theorem ty_atom {w0 : World} {f : Nat} (hE : TyTypeOK w0 f) : TyAtomOK w0 (f + 1) := by
  intro t depth i vs r o σ b v h ho D ht hv hi hd
  rw [tyAtomF_eq] at h
  rw [tyAtomG] at ho
  refine k101.go rfl (fun hok hsz => ?_)
  have hw : IntKind.i64.wrap ((i : Int) + 1) = ((i + 1 : Nat) : Int) := by rw [wrap_in] <;> omega
  ((try refine W.a ?_); simp only [go_sem, seval, reduceCtorEq, c101, rsA D])
  (refine W.c1 (DC.lift D (fun D' => ty_tok w0 t i vs 0 0 _ b v D' ht)) ?_; simp only [go_sem, seval, reduceCtorEq, rsA D, tokI_nat])
  (refine W.c1 (DC.lift D (fun D' => ty_begins w0 t i vs 0 0 _ b v D' ht)) ?_; simp only [go_sem, seval, reduceCtorEq, rsA D, tokI_nat])
  cases hB : tyBegins (tokL t i)
  · refine W.yes rfl ?_
    simp only [tyBegins, Bool.or_eq_false_iff, decide_eq_false_iff_not] at hB
    rw [if_neg hB.1.1, if_neg hB.1.2, if_neg hB.2] at ho
    have n1 : ((tokL t i).kind == 1) = false := by simpa using hB.1.1
    injection ho with ho
    subst ho
    ((try refine W.a ?_); simp only [go_sem, seval, reduceCtorEq, rsA D, n1])
    (refine W.c1 (DC.lift D (fun D' => ty_fail w0 t i vs 0 0 50 (tokL t i).pos _ b v D')) ?_; simp only [go_sem, seval, reduceCtorEq, rsA D])
    (refine W.fg (tys_ok D hok t i vs 50 (tokL t i).pos) (d := Typ.none.v) (by simp only [r101, go_sem, seval, reduceCtorEq, Typ.v, Typ.none, tk_mk, tname_mk, tn_mk, tl_mk]; rfl) (by simp only [resV, go_sem, seval, reduceCtorEq, Typ.v, Typ.none, tk_mk, tname_mk, tn_mk, tl_mk]; exact wk_here) ?_ (hl := by (first | exact .c _ | (simp only [go_sem, seval, reduceCtorEq, Typ.v, Typ.none, tk_mk, tname_mk, tn_mk, tl_mk]; done))))
    exact ⟨rfl, rfl⟩
  · refine W.no rfl ?_
    have hil : i < t.length := tyBegins_lt (by rw [hB]; decide)
    by_cases h1 : (tokL t i).kind = 1
    · rw [if_pos h1] at ho
      injection ho with ho
      subst ho
      ((try refine W.a ?_); simp only [go_sem, seval, reduceCtorEq, rsA D, hw, h1])
      refine W.yes rfl ?_
      ((try refine W.a ?_); simp only [go_sem, seval, reduceCtorEq, rsA D])
      (refine W.fg (tys_ok D hok t ((i + 1 : Nat) : Int) vs 0 0) (d := atomV true (.con (tokL t i).text)) (by simp only [r101, go_sem, seval, reduceCtorEq, atomV, if_true, Typ.con, tk_mk, tname_mk, tn_mk, tl_mk]; rfl) (by simp only [resV, go_sem, seval, reduceCtorEq, atomV, if_true, Typ.con, tk_mk, tname_mk, tn_mk, tl_mk]; exact wk_here) ?_ (hl := by (first | exact .c _ | (simp only [go_sem, seval, reduceCtorEq, atomV, if_true, Typ.con, tk_mk, tname_mk, tn_mk, tl_mk]; done))))
      exact ⟨rfl, rfl⟩
    · rw [if_neg h1] at h ho
      have n1 : ((tokL t i).kind == 1) = false := by simpa using h1
      by_cases h2 : (tokL t i).kind = 2
      · rw [if_pos h2] at ho
        injection ho with ho
        subst ho
        ((try refine W.a ?_); simp only [go_sem, seval, reduceCtorEq, rsA D, hw, h2])
        refine W.no rfl ?_
        ((try refine W.a ?_); simp only [go_sem, seval, reduceCtorEq, rsA D])
        refine W.yes rfl ?_
        ((try refine W.a ?_); simp only [go_sem, seval, reduceCtorEq, rsA D])
        (refine W.c1 (DC.lift D (fun D' => ty_variable w0 t ((i + 1 : Nat) : Int) vs 0 0 (tokL t i).text _ b v D' (by omega))) ?_; simp only [go_sem, seval, reduceCtorEq, rsA D])
        (refine W.fg (tys_ok D hok t ((i + 1 : Nat) : Int) (vadd vs (tokL t i).text) 0 0) (d := (Typ.var (vnum vs (tokL t i).text)).v) (by simp only [r101, go_sem, seval, reduceCtorEq, Typ.v, Typ.var, tk_mk, tname_mk, tn_mk, tl_mk]; rfl) (by simp only [resV, go_sem, seval, reduceCtorEq, Typ.v, Typ.var, tk_mk, tname_mk, tn_mk, tl_mk]; exact wk_here) ?_ (hl := by (first | exact .c _ | (simp only [go_sem, seval, reduceCtorEq, Typ.v, Typ.var, tk_mk, tname_mk, tn_mk, tl_mk]; done))))
        exact ⟨rfl, rfl⟩
      · rw [if_neg h2] at h ho
        have n2 : ((tokL t i).kind == 2) = false := by simpa using h2
        have h5 : (tokL t i).kind = 5 := by
          simp only [tyBegins, Bool.or_eq_true, decide_eq_true_eq] at hB
          rcases hB with (hB | hB) | hB
          · exact absurd hB h1
          · exact absurd hB h2
          · exact hB
        rw [if_pos h5] at h ho
        ((try refine W.a ?_); simp only [go_sem, seval, reduceCtorEq, rsA D, hw, n1, n2])
        refine W.no rfl ?_
        ((try refine W.a ?_); simp only [go_sem, seval, reduceCtorEq, rsA D, n2])
        refine W.no rfl ?_
        ((try refine W.a ?_); simp only [go_sem, seval, reduceCtorEq, rsA D])
        cases hr : innerT f t depth (i + 1) vs (tokL t i).pos with
        | none => rw [hr] at h; cases h
        | some y =>
          cases hro : innerO f t depth (i + 1) vs (tokL t i).pos with
          | none =>
            unfold innerO at hro
            rw [hro] at ho; cases ho
          | some x =>
            have hro' := hro
            unfold innerO at hro'
            rw [hro'] at ho
            injection ho with ho
            subst ho
            (refine W.c1 (DC.lift D (fun D' => ty_inner hE t depth (i + 1) vs (tokL t i) y x _ b v hr hro D' ht (by omega) (by omega) hd)) ?_; simp only [go_sem, seval, reduceCtorEq, rsA D])
            (refine W.c1 (DC.lift D (fun D' => ty_tok w0 t x.j x.ws x.e x.p _ b v D' ht)) ?_; simp only [go_sem, seval, reduceCtorEq, rsA D])
            by_cases h6 : (tokI t x.j).kind = 6
            · have hcl : closeO t x = ⟨x.u, IntKind.i64.wrap (x.j + 1), x.ws, x.e, x.p⟩ ∨ (x.e = 0 ∧ closeO t x = ⟨x.u, IntKind.i64.wrap (x.j + 1), x.ws, 0, 0⟩) := by
                unfold closeO
                by_cases he : x.e = 0
                · right; simp only [if_pos he, if_pos h6]; exact ⟨he, trivial⟩
                · left; simp only [if_neg he]
              have hp : x.e = 0 → x.p = 0 := ty_pos hr hro ht
              have hcl' : closeO t x = ⟨x.u, IntKind.i64.wrap (x.j + 1), x.ws, x.e, x.p⟩ := by
                rcases hcl with hcl | ⟨he, hcl⟩
                · exact hcl
                · rw [hcl, he, hp he]
              rw [hcl']
              ((try refine W.a ?_); simp only [go_sem, seval, reduceCtorEq, rsA D, h6, show ((6 : Int) != 6) = false from rfl])
              refine W.no rfl ?_
              ((try refine W.a ?_); simp only [go_sem, seval, reduceCtorEq, rsA D])
              (refine W.fg (tys_ok D hok t (IntKind.i64.wrap (x.j + 1)) x.ws x.e x.p) (d := x.u.v) (by simp only [r101, go_sem, seval, reduceCtorEq, Typ.v]; rfl) (by simp only [resV, go_sem, seval, reduceCtorEq, Typ.v]; exact wk_here) ?_ (hl := by (first | exact .c _ | (simp only [go_sem, seval, reduceCtorEq, Typ.v]; done))))
              exact ⟨rfl, rfl⟩
            · have n6 : ((tokI t x.j).kind != 6) = true := by simpa using h6
              have hcl : closeO t x = ⟨x.u, IntKind.i64.wrap (x.j + 1), x.ws, if x.e = 0 then 50 else x.e, if x.e = 0 then (tokI t x.j).pos else x.p⟩ := by
                unfold closeO
                simp only [if_neg h6]
              rw [hcl]
              ((try refine W.a ?_); simp only [go_sem, seval, reduceCtorEq, rsA D, n6])
              refine W.yes rfl ?_
              ((try refine W.a ?_); simp only [go_sem, seval, reduceCtorEq, rsA D])
              (refine W.c1 (DC.lift D (fun D' => ty_fail w0 t x.j x.ws x.e x.p 50 (tokI t x.j).pos _ b v D')) ?_; simp only [go_sem, seval, reduceCtorEq, rsA D])
              (refine W.fg (tys_ok D hok t (IntKind.i64.wrap (x.j + 1)) x.ws (if x.e = 0 then 50 else x.e) (if x.e = 0 then (tokI t x.j).pos else x.p)) (d := x.u.v) (by simp only [r101, go_sem, seval, reduceCtorEq, Typ.v]; rfl) (by simp only [resV, go_sem, seval, reduceCtorEq, Typ.v]; exact wk_here) ?_ (hl := by (first | exact .c _ | (simp only [go_sem, seval, reduceCtorEq, Typ.v]; done))))
              exact ⟨rfl, rfl⟩
end
section
attribute [local go_sem] tyX tyY rs_len rs_g0 rs_g rs_s0 rs_s rs_sv Typ.v Typ.cs_eq tk_mk tname_mk tn_mk tl_mk tysC

theorem ty_Arrow1 (w0 : World) (to u : Typ) (σ : H) : DC Tryz.prog w0 32 [to.v, .c (.sl [[.int .i64 u.k, .str u.name, .int .i64 u.n, .sl (u.l.map Typ.cs)]])] σ (Same (Typ.arr u to).v σ) := by
  have h := ty_Arrow w0 to [u] (by simp) σ
  unfold tysC at h
  rw [List.map_cons, List.map_nil, Typ.cs_eq] at h
  exact h
/-- The code behind the loop. -/
def tyTailC : AC := match c56 with
  | .seq _ (.seq _ (.seq _ (.seq _ x))) => x
  | _ => .skip
theorem ty_tailW {w0 : World} {f : Nat} (hE : ∀ g, g ≤ f → TyTypeOK w0 g) {t : List Tok} {depth : Nat} {r : TyR} {o2 o : TyO} {σ : H} {b v : Nat} (D : Two σ b v) (ht : t.length ≤ 1000000) (hd : depth ≤ 200)
    (hin : (o2.e ≠ 0 ∧ o = o2) ∨ (∃ j : Nat, o2 = ⟨o2.u, (j : Nat), o2.ws, 0, 0⟩ ∧ tyTailF f t depth j o2.ws o2.u = some r ∧ tyTailG f t depth o2 = some o ∧ j ≤ t.length ∧ o2.ws.length ≤ j))
    {x3 : V} (hx : x3 = .c (tysC o2.u.l) ∨ ∃ q, x3 = .osl q (o2.u.l.map Typ.cs)) (ex : H) {ρ : Env} (e0 : ρ 0 = .ptr b 0) (e1 : ρ 1 = I depth) (e4 : ρ 4 = .ptr σ.length 0) (e6 : ρ 6 = .ptr (σ.length + 1) 0) (hok : H.ok (tys σ b v t 0 [] 0 0)) :
    W Tryz.prog w0 σ.length (Lamb.Fin r56 σ.length (Same o.u.v (tyo σ b v t o))) [.code tyTailC] ⟨ρ, tyo σ b v t o2 ++ (.cells [I 0, S [], I 0, .csl []] :: .cells [I o2.u.k, S o2.u.name, I o2.u.n, x3] :: ex)⟩ := by
  have hlen : (tyo σ b v t o2).length = σ.length := rs_len _ _
  rcases hin with ⟨hne, rfl⟩ | ⟨j, hj, hF, hG, hjl, hws⟩
  · have hb : (o.e != 0) = true := by simpa using hne
    rcases hx with rfl | ⟨q, rfl⟩
    all_goals
      ((try refine W.a ?_); simp only [go_sem, seval, reduceCtorEq, tyTailC, c56, rsA D, e0, e1, e4, e6])
      (refine W.c1 (DC.lift D (fun D' => ty_tok w0 t o.j o.ws o.e o.p _ b v D' ht)) ?_; simp only [go_sem, seval, reduceCtorEq, rsA D, hb, e0, e1, e4, e6])
      refine W.yes rfl ?_
      ((try refine W.a ?_); simp only [go_sem, seval, reduceCtorEq, rsA D, e0, e1, e4, e6])
      (refine W.fg (tys_ok D hok t o.j o.ws o.e o.p) (d := o.u.v) (by simp only [r56, go_sem, seval, reduceCtorEq, Typ.v, e4]; rfl) (by simp only [resV, go_sem, seval, reduceCtorEq, Typ.v, e4]; exact wk_here) ?_ (hl := by (first | exact .c _ | (simp only [go_sem, seval, reduceCtorEq, Typ.v, e4]; done))))
      exact ⟨rfl, rfl⟩
  · rw [hj] at hG ⊢
    generalize o2.u = u at *
    generalize o2.ws = ws at *
    obtain ⟨f', rfl⟩ : ∃ f', f = f' + 1 := by
      cases f with
      | zero => simp [tyTailF] at hF
      | succ f' => exact ⟨f', rfl⟩
    rw [tyTailF] at hF
    rw [tyTailG] at hG
    simp only [tokI_nat, true_and] at hG
    by_cases hc : (tokL t j).kind = 4 ∧ (tokL t j).text = [45, 62]
    · rw [if_pos hc] at hF hG
      have hw : IntKind.i64.wrap ((j : Int) + 1) = ((j + 1 : Nat) : Int) := by rw [wrap_in] <;> omega
      have hjl' := tokL_lt (t := t) (i := j) (by rw [hc.1]; decide)
      have et : ((j : Int) + 1).toNat = j + 1 := by omega
      have hI : ∃ ri oi, innerT f' t depth (j + 1) ws (tokL t j).pos = some ri ∧ innerO f' t depth (j + 1) ws (tokL t j).pos = some oi ∧ o = ⟨.arr u oi.u, oi.j, oi.ws, oi.e, oi.p⟩ := by
        unfold innerT innerO
        by_cases c4 : 200 ≤ depth
        · rw [if_pos c4] at hG
          injection hG with hG
          simp only [if_pos c4]
          exact ⟨_, _, rfl, rfl, by rw [← hG, hw]⟩
        · rw [if_neg c4] at hF hG
          simp only [if_neg c4]
          rw [et] at hG
          cases hy : tyTypeF f' t (depth + 1) (j + 1) ws with
          | none => rw [hy] at hF; cases hF
          | some ry =>
            cases hz : tyTypeG f' t (depth + 1) (j + 1) ws with
            | none => rw [hz] at hG; cases hG
            | some oy =>
              rw [hz] at hG
              injection hG with hG
              exact ⟨_, _, rfl, rfl, hG.symm⟩
      obtain ⟨ri, oi, hri, hoi, rfl⟩ := hI
      have k4 : ((tokL t j).kind != 4) = false := by simpa using hc.1
      have ktx : ((tokL t j).text != [45, 62]) = false := by simpa using hc.2
      have ktx2 : ((tokL t j).text == [45, 62]) = true := by simpa using hc.2
      rcases hx with rfl | ⟨q, rfl⟩
      all_goals
        ((try refine W.a ?_); simp only [go_sem, seval, reduceCtorEq, tyTailC, c56, rsA D, e0, e1, e4, e6])
        (refine W.c1 (DC.lift D (fun D' => ty_tok w0 t j ws 0 0 _ b v D' ht)) ?_; simp only [go_sem, seval, reduceCtorEq, rsA D, e0, e1, e4, e6, tokI_nat, k4, ktx, ktx2])
        refine W.no rfl ?_
        ((try refine W.a ?_); simp only [go_sem, seval, reduceCtorEq, rsA D, e0, e1, e4, e6, hw])
        apply W.dregE (List.cons_ne_nil _ _)
        case hc =>
          (apply CanonE.advPO; simp only [go_sem, seval, reduceCtorEq, rsA D, e0, e1, e4, e6])
          (apply CanonE.call (DC.lift D (fun D' => ty_inner (hE f' (by omega)) t depth (j + 1) ws (tokL t j) ri oi _ b v hri hoi D' ht (by omega) (by omega) hd)); (case hg => rfl); (case hf => rfl); (case ha => first | rfl | simp))
          (apply CanonE.advPO; simp only [go_sem, seval, reduceCtorEq, rsA D, e0, e1, e4, e6])
          (apply CanonE.callw (ty_Arrow1 w0 oi.u u _); (case hg => rfl); (case hf => rfl); (case ha => rfl); (case hw => ((exact wk_here))))
          (apply CanonE.advPO; simp only [go_sem, seval, reduceCtorEq, rsA D, e0, e1, e4, e6, Typ.arr])
          exact CanonE.nil
        ((try refine W.a ?_); simp only [go_sem, seval, reduceCtorEq, rsA D, e4])
        (refine W.fg (tys_ok D hok t oi.j oi.ws oi.e oi.p) (d := (Typ.arr u oi.u).v) (by simp only [r56, go_sem, seval, reduceCtorEq, Typ.v, Typ.arr, tk_mk, tname_mk, tn_mk, tl_mk, Typ.cs_eq, e4]; rfl) (by simp only [resV, go_sem, seval, reduceCtorEq, Typ.v, Typ.arr, tk_mk, tname_mk, tn_mk, tl_mk, Typ.cs_eq, e4]; exact wk_here) ?_ (hl := by (first | exact .c _ | (simp only [go_sem, seval, reduceCtorEq, Typ.v, Typ.arr, tk_mk, tname_mk, tn_mk, tl_mk, Typ.cs_eq, e4]; done))))
        exact ⟨rfl, rfl⟩
    · rw [if_neg hc] at hG
      injection hG with hG
      subst hG
      have two : ((tokL t j).kind != 4) = true ∨ (((tokL t j).kind != 4) = false ∧ ((tokL t j).text == [45, 62]) = false) := by
        cases ho : ((tokL t j).kind != 4)
        · refine .inr ⟨rfl, ?_⟩
          cases h6 : ((tokL t j).text == [45, 62])
          · rfl
          · exact absurd ⟨by simpa using ho, by simpa using h6⟩ hc
        · exact .inl rfl
      rcases hx with rfl | ⟨q, rfl⟩ <;> rcases two with k4 | ⟨k4, ktx⟩
      all_goals
        ((try refine W.a ?_); simp only [go_sem, seval, reduceCtorEq, tyTailC, c56, rsA D, e0, e1, e4, e6])
        first
          | ((refine W.c1 (DC.lift D (fun D' => ty_tok w0 t j ws 0 0 _ b v D' ht)) ?_; simp only [go_sem, seval, reduceCtorEq, rsA D, e0, e1, e4, e6, tokI_nat, k4, ktx])
             refine W.yes rfl ?_)
          | ((refine W.c1 (DC.lift D (fun D' => ty_tok w0 t j ws 0 0 _ b v D' ht)) ?_; simp only [go_sem, seval, reduceCtorEq, rsA D, e0, e1, e4, e6, tokI_nat, k4])
             refine W.yes rfl ?_)
        ((try refine W.a ?_); simp only [go_sem, seval, reduceCtorEq, rsA D, e0, e1, e4, e6])
        (refine W.fg (tys_ok D hok t j ws 0 0) (d := u.v) (by simp only [r56, go_sem, seval, reduceCtorEq, Typ.v, e4]; rfl) (by simp only [resV, go_sem, seval, reduceCtorEq, Typ.v, e4]; exact wk_here) ?_ (hl := by (first | exact .c _ | (simp only [go_sem, seval, reduceCtorEq, Typ.v, e4]; done))))
        exact ⟨rfl, rfl⟩
structure ArgO where
  g : Nat
  o : TyO
theorem ty_read {w0 : World} {f : Nat} (hA : ∀ g, g ≤ f → TyAtomOK w0 g) (hE : ∀ g, g ≤ f → TyTypeOK w0 g) : TyTypeOK w0 (f + 1) := by
  intro t depth i vs r o σ b v h ho D ht hv hi hd
  rw [tyTypeF] at h
  rw [tyTypeG] at ho
  refine k56.go rfl (fun hok hsz => ?_)
  have hok0 : H.ok (tys σ b v t 0 [] 0 0) := tys_ok D hok t 0 [] 0 0
  ((try refine W.a ?_); simp only [go_sem, seval, reduceCtorEq, c56, rsA D])
  (refine W.c1 (DC.lift D (fun D' => ty_tok w0 t i vs 0 0 _ b v D' ht)) ?_; simp only [go_sem, seval, reduceCtorEq, rsA D, tokI_nat])
  cases ha : tyAtomF f t depth i vs with
  | none => rw [ha] at h; cases h
  | some ra =>
    rw [ha] at h
    obtain ⟨oa, hoa, hOa⟩ := (ty_out f).1 _ _ _ _ _ ht ha
    rw [hoa] at ho
    simp only at ho
    cases hk : ((tokL t i).kind == 1)
    · have hk1 : ¬ (tokL t i).kind = 1 := by simpa using hk
      rw [if_neg hk1] at ho
      simp only at ho
      have hin : (oa.e ≠ 0 ∧ o = oa) ∨ (∃ j : Nat, oa = ⟨oa.u, (j : Nat), oa.ws, 0, 0⟩ ∧ tyTailF f t depth j oa.ws oa.u = some r ∧ tyTailG f t depth oa = some o ∧ j ≤ t.length ∧ oa.ws.length ≤ j) := by
        cases ra with
        | error x =>
          obtain ⟨q1, q2, q3⟩ := hOa
          have hne : oa.e ≠ 0 := by rw [q1]; simpa using q3
          left
          refine ⟨hne, ?_⟩
          cases f with
          | zero => simp [tyAtomF] at ha
          | succ f' => rw [tail_stop hne] at ho; injection ho with ho; exact ho.symm
        | ok x =>
          obtain ⟨u, j, ws⟩ := x
          have hO' : oa = ⟨u, (j : Nat), ws, 0, 0⟩ := hOa
          have b1 := (ty_bounds f).1 _ _ _ _ _ _ _ ha
          simp only [if_neg hk1] at h
          right
          subst hO'
          exact ⟨j, rfl, h, ho, b1.2.1, by show ws.length ≤ j; omega⟩
      (refine W.c1 (DC.lift D (fun D' => hA f (Nat.le_refl f) t depth i vs ra oa _ b v ha hoa D' ht hv hi hd)) ?_; simp only [go_sem, seval, reduceCtorEq, rsA D, hk, atomV, Bool.false_eq_true, if_false])
      refine W.loopP (fun _ : Unit => True) (fun _ => ⟨(((((base.put (some 0) (.ptr b 0)).put (some 1) (I depth)).put (some 4) (.ptr σ.length 0)).put (some 5) (B false)).put (some 6) (.ptr (σ.length + 1) 0)), tyo σ b v t oa ++ [.cells [I 0, S [], I 0, .csl []], .cells [I oa.u.k, S oa.u.name, I oa.u.n, .c (tysC oa.u.l)]]⟩) (fun _ => 0) () trivial ?_ (fun x hx => ?_)
      · (refine Lew.env ?_; exact lee_here)
      · ((try refine W.a ?_); simp only [go_sem, seval, reduceCtorEq, rsA D])
        refine W.no rfl ?_
        (refine W.advO 1 _ _ ?_; simp only [go_sem])
        refine ty_tailW hE D ht hd hin (.inl rfl) [] ?_ ?_ ?_ ?_ hok0 <;> rfl
    · have hk1 : (tokL t i).kind = 1 := by simpa using hk
      rw [if_pos hk1] at ho
      have hoa' : oa = ⟨.con (tokL t i).text, (i + 1 : Nat), vs, 0, 0⟩ := by
        cases f with
        | zero => simp [tyAtomF] at ha
        | succ f' =>
          rw [tyAtomG, if_pos hk1] at hoa
          injection hoa with hoa
          exact hoa.symm
      have hil : i < t.length := tokL_lt (by rw [hk1]; decide)
      subst hoa'
      have hraE : ra = .ok (.con (tokL t i).text, i + 1, vs) := by
        cases f with
        | zero => simp [tyAtomF] at ha
        | succ f' =>
          rw [tyAtomF, if_pos hk1] at ha
          injection ha with ha
          exact ha.symm
      subst hraE
      simp only [if_pos hk1] at h
      cases hg : tyArgsF f t depth (i + 1) vs (.con (tokL t i).text) with
      | none => rw [hg] at h; cases h
      | some r1 =>
        rw [hg] at h
        cases hgo : tyArgsG f t depth ⟨.con (tokL t i).text, (i + 1 : Nat), vs, 0, 0⟩ with
        | none => rw [hgo] at ho; cases ho
        | some o1 =>
          rw [hgo] at ho
          simp only at ho
          (refine W.c1 (DC.lift D (fun D' => hA f (Nat.le_refl f) t depth i vs _ _ _ b v ha hoa D' ht hv hi hd)) ?_; simp only [go_sem, seval, reduceCtorEq, rsA D, hk, atomV, if_true, Typ.con])
          refine W.ownCell (σ.length + 1) 3 32 4 (cs := [.c (.int .i64 0), .c (.str (tokL t i).text), .c (.int .i64 0), .csl []]) (tg := none) ?_ rfl ?_
          · simp only [rs_g, List.getElem?_cons_succ, List.getElem?_cons_zero]
          · ((try refine W.a ?_); simp only [go_sem, seval, reduceCtorEq, rsA D])
            obtain ⟨o1', ho1', hO1⟩ := (ty_out f).2.1 _ _ _ _ _ _ ht hg
            rw [hgo] at ho1'
            injection ho1' with ho1'
            subst ho1'
            have b1 := (ty_bounds f).1 _ _ _ _ _ _ _ ha
            have hf0 : 0 < f := by
              cases f with
              | zero => simp [tyAtomF] at ha
              | succ f' => omega
            have hin : (o1.e ≠ 0 ∧ o = o1) ∨ (∃ j : Nat, o1 = ⟨o1.u, (j : Nat), o1.ws, 0, 0⟩ ∧ tyTailF f t depth j o1.ws o1.u = some r ∧ tyTailG f t depth o1 = some o ∧ j ≤ t.length ∧ o1.ws.length ≤ j) := by
              cases r1 with
              | error x =>
                obtain ⟨q1, q2, q3⟩ := hO1
                have hne : o1.e ≠ 0 := by rw [q1]; simpa using q3
                left
                refine ⟨hne, ?_⟩
                obtain ⟨f', rfl⟩ : ∃ f', f = f' + 1 := ⟨f - 1, by omega⟩
                rw [tail_stop hne] at ho
                injection ho with ho
                exact ho.symm
              | ok x =>
                obtain ⟨u, j, ws⟩ := x
                have hO' : o1 = ⟨u, (j : Nat), ws, 0, 0⟩ := hO1
                have b2 := (ty_bounds f).2.1 _ _ _ _ _ _ _ _ hg b1.2.1
                right
                subst hO'
                exact ⟨j, rfl, h, ho, b2.2.1, by show ws.length ≤ j; omega⟩
            refine W.loopP (fun x : ArgO => tyArgsG x.g t depth x.o = some o1 ∧ x.g ≤ f ∧ 0 < x.g ∧ (x.o.e ≠ 0 ∨ ∃ (j : Nat) (ra : TyR), x.o.j = j ∧ x.o.e = 0 ∧ x.o.p = 0 ∧ tyArgsF x.g t depth j x.o.ws x.o.u = some ra ∧ j ≤ t.length ∧ x.o.ws.length ≤ j ∧ x.o.u.l.length ≤ j))
              (fun x => ⟨(((((base.put (some 0) (.ptr b 0)).put (some 1) (I depth)).put (some 4) (.ptr σ.length 0)).put (some 5) (B true)).put (some 6) (.ptr (σ.length + 1) 0)), tyo σ b v t x.o ++ [.cells [I 0, S [], I 0, .csl []], .cells [I x.o.u.k, S x.o.u.name, I x.o.u.n, .osl (σ.length + 2) (x.o.u.l.map Typ.cs)], .spare 32 4 x.o.u.l.length]⟩)
              (fun x => x.g) ⟨f, ⟨.con (tokL t i).text, (i + 1 : Nat), vs, 0, 0⟩⟩ ⟨hgo, Nat.le_refl f, hf0, .inr ⟨i + 1, r1, rfl, rfl, rfl, hg, by omega, by show vs.length ≤ i + 1; omega, Nat.zero_le _⟩⟩ ?_ (fun x hx => ?_)
            · (refine Lew.env ?_; exact lee_here)
            · obtain ⟨g, ⟨u, j', ws, e, p⟩⟩ := x
              obtain ⟨hG, hgf, hg0, hst⟩ := hx
              simp only at hG hgf hg0 hst
              obtain ⟨g', rfl⟩ : ∃ g', g = g' + 1 := ⟨g - 1, by omega⟩
              rcases hst with hne | ⟨j, ra', rfl, rfl, rfl, hF, hjl, hwl, hul⟩
              · rw [args_stop hne] at hG
                injection hG with hG
                subst hG
                have hb : (e == 0) = false := by simpa using hne
                ((try refine W.a ?_); simp only [go_sem, seval, reduceCtorEq, rsA D, hb])
                refine W.no rfl ?_
                (refine W.advO 1 _ _ ?_; simp only [go_sem])
                refine ty_tailW hE D ht hd hin (.inr ⟨_, rfl⟩) [_] ?_ ?_ ?_ ?_ hok0 <;> rfl
              · rw [tyArgsG] at hG
                rw [tyArgsF] at hF
                simp only [tokI_nat, true_and, Int.toNat_natCast] at hG
                ((try refine W.a ?_); simp only [go_sem, seval, reduceCtorEq, rsA D])
                (refine W.c1 (DC.lift D (fun D' => ty_begins w0 t j ws 0 0 _ b v D' ht)) ?_; simp only [go_sem, seval, reduceCtorEq, rsA D, tokI_nat])
                cases hB : tyBegins (tokL t j)
                · rw [if_neg (by rw [hB]; decide)] at hG
                  injection hG with hG
                  subst hG
                  ((try refine W.a ?_); simp only [go_sem, seval, reduceCtorEq, hB])
                  refine W.no rfl ?_
                  (refine W.advO 1 _ _ ?_; simp only [go_sem])
                  refine ty_tailW hE D ht hd hin (.inr ⟨_, rfl⟩) [_] ?_ ?_ ?_ ?_ hok0 <;> rfl
                · rw [if_neg (by rw [hB]; decide)] at hF
                  rw [if_pos hB] at hG
                  have hjl' := tyBegins_lt (t := t) (i := j) (by rw [hB]; decide)
                  cases ha' : tyAtomF g' t depth j ws with
                  | none => rw [ha'] at hF; cases hF
                  | some rb =>
                    rw [ha'] at hF
                    obtain ⟨a, hag, haO⟩ := (ty_out g').1 _ _ _ _ _ ht ha'
                    rw [hag] at hG
                    simp only at hG
                    have hgp : 0 < g' := by
                      cases g' with
                      | zero => simp [tyAtomF] at ha'
                      | succ k => omega
                    have hal : ((tokL t j).kind == 1) = true → a.u.l = [] := fun hk2 => by
                      cases g' with
                      | zero => simp [tyAtomF] at ha'
                      | succ k =>
                        rw [tyAtomG, if_pos (by simpa using hk2)] at hag
                        injection hag with hag
                        rw [← hag]; rfl
                    have hbd1 : (u.l.length + 1) * 56 ≤ 140737488355328 := by omega
                    have hbd2 : u.l.length + 1 ≤ 140737488355328 := by omega
                    have hinv : tyArgsG g' t depth ⟨u.put a.u, a.j, a.ws, a.e, a.p⟩ = some o1 ∧ g' ≤ f ∧ 0 < g' ∧ (a.e ≠ 0 ∨ ∃ (k : Nat) (rc : TyR), a.j = k ∧ a.e = 0 ∧ a.p = 0 ∧ tyArgsF g' t depth k a.ws (u.put a.u) = some rc ∧ k ≤ t.length ∧ a.ws.length ≤ k ∧ (u.put a.u).l.length ≤ k) := by
                      refine ⟨hG, by omega, hgp, ?_⟩
                      cases rb with
                      | error x =>
                        obtain ⟨q1, q2, q3⟩ := haO
                        left; rw [q1]; simpa using q3
                      | ok x =>
                        obtain ⟨ua, k, ws'⟩ := x
                        have hO' : a = ⟨ua, (k : Nat), ws', 0, 0⟩ := haO
                        have b2 := (ty_bounds g').1 _ _ _ _ _ _ _ ha'
                        subst hO'
                        right
                        refine ⟨k, _, rfl, rfl, rfl, hF, b2.2.1, by show ws'.length ≤ k; omega, ?_⟩
                        simp only [Typ.put, tl_mk, List.length_append, List.length_cons, List.length_nil]
                        omega
                    ((try refine W.a ?_); simp only [go_sem, seval, reduceCtorEq, hB])
                    refine W.yes rfl ?_
                    ((try refine W.a ?_); simp only [go_sem, seval, reduceCtorEq, rsA D])
                    cases hk2 : ((tokL t j).kind == 1)
                    · apply W.dregE (List.cons_ne_nil _ _)
                      case hc =>
                        (apply CanonE.advPO; simp only [go_sem, seval, reduceCtorEq, rsA D])
                        (apply CanonE.call (DC.lift D (fun D' => hA g' (by omega) t depth j ws rb a _ b v ha' hag D' ht hwl hjl hd)); (case hg => rfl); (case hf => rfl); (case ha => first | rfl | simp))
                        (apply CanonE.advPO; simp only [go_sem, seval, reduceCtorEq, rsA D, hk2, atomV, Bool.false_eq_true, if_false, hbd1, hbd2])
                        exact CanonE.nil
                      ((try refine W.a ?_); simp only [go_sem, seval, reduceCtorEq, rsA D])
                      refine .inv ⟨⟨g', ⟨u.put a.u, a.j, a.ws, a.e, a.p⟩⟩, hinv, by simp, ?_⟩
                      simp only [go_sem, seval, reduceCtorEq, Typ.put, tk_mk, tname_mk, tn_mk, tl_mk, List.map_append, List.length_append, rsA D]
                      (refine Lew.env ?_; exact lee_here)
                    · have hal' := hal hk2
                      apply W.dregE (List.cons_ne_nil _ _)
                      case hc =>
                        (apply CanonE.advPO; simp only [go_sem, seval, reduceCtorEq, rsA D])
                        (apply CanonE.call (DC.lift D (fun D' => hA g' (by omega) t depth j ws rb a _ b v ha' hag D' ht hwl hjl hd)); (case hg => rfl); (case hf => rfl); (case ha => first | rfl | simp))
                        (apply CanonE.advPO; simp only [go_sem, seval, reduceCtorEq, rsA D, hk2, atomV, if_true, hbd1, hbd2])
                        exact CanonE.nil
                      ((try refine W.a ?_); simp only [go_sem, seval, reduceCtorEq, rsA D])
                      refine .inv ⟨⟨g', ⟨u.put a.u, a.j, a.ws, a.e, a.p⟩⟩, hinv, by simp, ?_⟩
                      simp only [go_sem, seval, reduceCtorEq, Typ.put, tk_mk, tname_mk, tn_mk, tl_mk, hal', List.map_append, List.length_append, rsA D]
                      (refine Lew.env ?_; exact lee_here)
theorem ty_all (w0 : World) : ∀ f, (∀ g, g ≤ f → TyAtomOK w0 g) ∧ (∀ g, g ≤ f → TyTypeOK w0 g)
  | 0 => ⟨fun g hg => by
      have : g = 0 := by omega
      subst this
      intro t depth i vs r o σ b v h
      simp [tyAtomF] at h, fun g hg => by
      have : g = 0 := by omega
      subst this
      intro t depth i vs r o σ b v h
      simp [tyTypeF] at h⟩
  | f + 1 => by
    obtain ⟨h1, h2⟩ := ty_all w0 f
    refine ⟨fun g hg => ?_, fun g hg => ?_⟩
    · rcases Nat.lt_or_ge f g with h | h
      · have : g = f + 1 := by omega
        subst this
        exact ty_atom (h2 f (Nat.le_refl f))
      · exact h1 g h
    · rcases Nat.lt_or_ge f g with h | h
      · have : g = f + 1 := by omega
        subst this
        exact ty_read h1 h2
      · exact h2 g h
end
section
attribute [local go_sem] tyX tyY rs_len rs_g0 rs_g rs_s0 rs_s rs_sv Typ.v Typ.cs_eq tk_mk tname_mk tn_mk tl_mk tysC

theorem ty_atom_out (w0 : World) (t : List Tok) (depth : Nat) (i : Int) (hB : tyBegins (tokI t i) = false) (σ : H) (b v : Nat) (D : Two σ b v) (ht : t.length ≤ 1000000) :
    DC Tryz.prog w0 101 [.ptr b 0, I depth] (tys σ b v t i [] 0 0) (Same Typ.none.v (tys σ b v t i [] 50 (tokI t i).pos)) := by
  refine k101.go rfl (fun hok hsz => ?_)
  ((try refine W.a ?_); simp only [go_sem, seval, reduceCtorEq, c101, rsA D])
  (refine W.c1 (DC.lift D (fun D' => ty_tok w0 t i [] 0 0 _ b v D' ht)) ?_; simp only [go_sem, seval, reduceCtorEq, rsA D])
  (refine W.c1 (DC.lift D (fun D' => ty_begins w0 t i [] 0 0 _ b v D' ht)) ?_; simp only [go_sem, seval, reduceCtorEq, rsA D, hB])
  refine W.yes rfl ?_
  ((try refine W.a ?_); simp only [go_sem, seval, reduceCtorEq, rsA D])
  (refine W.c1 (DC.lift D (fun D' => ty_fail w0 t i [] 0 0 50 (tokI t i).pos _ b v D')) ?_; simp only [go_sem, seval, reduceCtorEq, rsA D])
  (refine W.fg (tys_ok D hok t i [] 50 (tokI t i).pos) (d := Typ.none.v) (by simp only [r101, go_sem, seval, reduceCtorEq, Typ.v, Typ.none, tk_mk, tname_mk, tn_mk, tl_mk]; rfl) (by simp only [resV, go_sem, seval, reduceCtorEq, Typ.v, Typ.none, tk_mk, tname_mk, tn_mk, tl_mk]; exact wk_here) ?_ (hl := by (first | exact .c _ | (simp only [go_sem, seval, reduceCtorEq, Typ.v, Typ.none, tk_mk, tname_mk, tn_mk, tl_mk]; done))))
  exact ⟨rfl, rfl⟩
theorem ty_read_out (w0 : World) (t : List Tok) (i : Int) (hB : tyBegins (tokI t i) = false) (σ : H) (b v : Nat) (D : Two σ b v) (ht : t.length ≤ 1000000) :
    DC Tryz.prog w0 56 [.ptr b 0, I 0] (tys σ b v t i [] 0 0) (Same Typ.none.v (tys σ b v t i [] 50 (tokI t i).pos)) := by
  refine k56.go rfl (fun hok hsz => ?_)
  have hk : ((tokI t i).kind == 1) = false := by
    simp only [tyBegins, Bool.or_eq_false_iff, decide_eq_false_iff_not] at hB
    simpa using hB.1.1
  ((try refine W.a ?_); simp only [go_sem, seval, reduceCtorEq, c56, rsA D])
  (refine W.c1 (DC.lift D (fun D' => ty_tok w0 t i [] 0 0 _ b v D' ht)) ?_; simp only [go_sem, seval, reduceCtorEq, rsA D, hk])
  (refine W.c1 (DC.lift D (fun D' => ty_atom_out w0 t 0 i hB _ b v D' ht)) ?_; simp only [go_sem, seval, reduceCtorEq, rsA D, Typ.none])
  refine W.loopP (fun _ : Unit => True) (fun _ => ⟨(((((base.put (some 0) (.ptr b 0)).put (some 1) (I (0 : Nat))).put (some 4) (.ptr σ.length 0)).put (some 5) (B false)).put (some 6) (.ptr (σ.length + 1) 0)), tyo σ b v t ⟨.none, i, [], 50, (tokI t i).pos⟩ ++ [.cells [I 0, S [], I 0, .csl []], .cells [I 0, S [], I 0, .c (tysC [])]]⟩) (fun _ => 0) () trivial ?_ (fun x hx => ?_)
  · (refine Lew.env ?_; exact lee_here)
  · ((try refine W.a ?_); simp only [go_sem, seval, reduceCtorEq, rsA D])
    refine W.no rfl ?_
    (refine W.advO 1 _ _ ?_; simp only [go_sem])
    refine ty_tailW (ty_all w0 0).2 (o2 := ⟨.none, i, [], 50, (tokI t i).pos⟩) (o := ⟨.none, i, [], 50, (tokI t i).pos⟩) (r := .error ⟨50, 0⟩) D ht (Nat.zero_le _) (.inl ⟨by show (50 : Int) ≠ 0; decide, rfl⟩) (.inl rfl) [] ?_ ?_ ?_ ?_ (tys_ok D hok t 0 [] 0 0) <;> rfl
def tyReadV (from_ : Int) : TyR → V
  | .ok (u, j, _) => .tup [u.v, I (j : Nat), I 0, I 0]
  | .error x => .tup [Typ.none.v, I from_, I x.e, I x.pos]
theorem rs_new (σ : H) (B X Y X' Y' : Blk) : rs (σ ++ [B, X, Y]) (σ.length + 1) (σ.length + 2) X' Y' = σ ++ [B, X', Y'] := by
  unfold rs
  rw [List.set_append_right _ _ (by omega), List.set_append_right _ _ (by omega)]
  simp [Nat.add_sub_cancel_left]
theorem two_new (σ : H) (B X Y : Blk) : Two (σ ++ [B, X, Y]) (σ.length + 1) (σ.length + 2) := ⟨by omega, by simp, by simp⟩
theorem ty_ReadO (w0 : World) (t : List Tok) (i : Int) (o : TyO) (r : TyR) (hO : TOut r o) (σ : H)
    (hc : ∀ (σ : H) (b v : Nat), Two σ b v → DC Tryz.prog w0 56 [.ptr b 0, I 0] (tys σ b v t i [] 0 0) (Same o.u.v (tyo σ b v t o))) :
    DC Tryz.prog w0 25 [.c (toksC t), I i] σ (Same (tyReadV i r) σ) := by
  refine k25.go rfl (fun hok hsz => ?_)
  ((try refine W.a ?_); simp only [go_sem, seval, reduceCtorEq, c25])
  refine W.ownCell (σ.length + 1) 2 9 1 (cs := [.c (toksC t), I i, .csl [], I 0, I 0]) (tg := none) ?_ rfl ?_
  · simp only [hget, List.getElem?_cons_succ, List.getElem?_cons_zero]; rfl
  · ((try refine W.a ?_); simp only [go_sem, seval, reduceCtorEq])
    have hh : ∀ X, DC Tryz.prog w0 56 [.ptr (σ.length + 1) 0, I 0] (σ ++ [X, .cells [.c (toksC t), I i, .osl (σ.length + 2) [], I 0, I 0], .spare 9 1 0]) (Same o.u.v (σ ++ [X, tyX t o.j (σ.length + 2) o.ws o.e o.p, tyY o.ws])) := fun X => by
      have := hc (σ ++ [X, X, X]) (σ.length + 1) (σ.length + 2) (two_new σ X X X)
      unfold tyo tys at this
      rw [rs_new, rs_new] at this
      exact this
    (refine W.c1 (hh _) ?_; simp only [go_sem, seval, reduceCtorEq])
    cases r with
    | ok x =>
      obtain ⟨u, j, ws⟩ := x
      have hO' : o = ⟨u, (j : Nat), ws, 0, 0⟩ := hO
      subst hO'
      ((try refine W.a ?_); simp only [go_sem, seval, reduceCtorEq])
      refine W.no rfl ?_
      ((try refine W.a ?_); simp only [go_sem, seval, reduceCtorEq])
      (apply W.dregE (List.cons_ne_nil _ _); case hc => ((apply CanonE.advPO; simp only [go_sem, seval, reduceCtorEq]); exact CanonE.nil))
      ((try refine W.a ?_); simp only [go_sem, seval, reduceCtorEq])
      (refine W.fs (hok) (by simp only [r25, go_sem, seval, reduceCtorEq, tyReadV, Typ.v]; rfl) ?_ (hl := by (first | exact .c _ | (simp only [go_sem, seval, reduceCtorEq, tyReadV, Typ.v]; done))); simp only [resV, tyReadV, Typ.v]; try exact V.wk.rfl _)
      (all_goals exact wk_here)
    | error x =>
      obtain ⟨q1, q2, q3⟩ := hO
      have hb : (o.e != 0) = true := by rw [q1, bne, q3]; rfl
      ((try refine W.a ?_); simp only [go_sem, seval, reduceCtorEq, hb])
      refine W.yes rfl ?_
      ((try refine W.a ?_); simp only [go_sem, seval, reduceCtorEq])
      (apply W.dregE (List.cons_ne_nil _ _); case hc => ((apply CanonE.advPO; simp only [go_sem, seval, reduceCtorEq]); exact CanonE.nil))
      ((try refine W.a ?_); simp only [go_sem, seval, reduceCtorEq])
      rw [q1, q2]
      (refine W.fs (hok) (by simp only [r25, go_sem, seval, reduceCtorEq, tyReadV, Typ.v, Typ.none, tk_mk, tname_mk, tn_mk, tl_mk, List.map_nil]; rfl) ?_ (hl := by (first | exact .c _ | (simp only [go_sem, seval, reduceCtorEq, tyReadV, Typ.v, Typ.none, tk_mk, tname_mk, tn_mk, tl_mk, List.map_nil]; done))); simp only [resV, tyReadV, Typ.v, Typ.none, tk_mk, tname_mk, tn_mk, tl_mk, List.map_nil]; try exact V.wk.rfl _)
      (all_goals exact wk_here)
/-- ty.Read, wherever it begins. -/
noncomputable def tyFrom (t : List Tok) (i : Int) : TyR := if 0 ≤ i ∧ i ≤ t.length then tyT t i.toNat else .error ⟨50, lastPos t⟩
theorem tyFrom_nat {t : List Tok} {i : Nat} (h : i ≤ t.length) : tyFrom t (i : Int) = tyT t i := by
  unfold tyFrom
  rw [if_pos ⟨by omega, by omega⟩, Int.toNat_natCast]
theorem tokI_out {t : List Tok} {i : Int} (h : ¬ (0 ≤ i ∧ i ≤ t.length)) : tokI t i = ⟨0, [], 0, lastPos t⟩ := by
  unfold tokI
  split
  · rw [tokL_out (by omega)]
  · rfl
theorem ty_Read (w0 : World) (t : List Tok) (i : Int) (ht : t.length ≤ 1000000) (σ : H) : DC Tryz.prog w0 25 [.c (toksC t), I i] σ (Same (tyReadV i (tyFrom t i)) σ) := by
  by_cases h : 0 ≤ i ∧ i ≤ t.length
  · obtain ⟨n, rfl⟩ := Int.eq_ofNat_of_zero_le h.1
    rw [tyFrom_nat (by omega)]
    obtain ⟨f, hf⟩ := tyT_is t n
    obtain ⟨o, ho, hO⟩ := (ty_out f).2.2.2 _ _ _ _ _ ht hf
    exact ty_ReadO w0 t n o _ hO σ fun σ b v D => (ty_all w0 f).2 f (Nat.le_refl f) t 0 n [] _ o σ b v hf ho D ht (Nat.zero_le _) (by omega) (Nat.zero_le _)
  · have hto := tokI_out h
    have hB : tyBegins (tokI t i) = false := by rw [hto]; rfl
    unfold tyFrom
    rw [if_neg h]
    refine ty_ReadO w0 t i ⟨.none, i, [], 50, (tokI t i).pos⟩ (.error ⟨50, lastPos t⟩) ⟨rfl, by rw [hto], rfl⟩ σ fun σ b v D => ty_read_out w0 t i hB σ b v D ht
end
end Go.Proofs.YtohcnohllbjlcaaGreatDoor
namespace Go.Proofs.YtohcnohllbjlcaaGreatDoor
open Go.RowKit Go.Lamb
--absent /-- source.Words -/
--absent /-- (*source.reader).tok -/
--absent /-- (*source.reader).fail -/
--absent /-- (*source.reader).is -/
--absent /-- (*source.reader).take -/
--absent /-- (*source.reader).names -/
--absent /-- source.texts -/
--absent /-- (*source.reader).kind -/
--absent /-- (*source.reader).typed -/
--absent /-- (*source.reader).operator -/
--absent /-- (*source.reader).clause -/
--absent /-- (*source.reader).end -/
--absent /-- (*source.reader).sentence -/
--absent /-- source.Read -/
--absent /-- source.Query -/
--absent /-- slices.Contains[[]string,string] -/
--absent /-- slices.Contains[[]api.TokKind,api.TokKind] -/
--absent /-- slices.Index[[]api.TokKind,api.TokKind] -/
end Go.Proofs.YtohcnohllbjlcaaGreatDoor
namespace Go.Proofs.YtohcnohllbjlcaaGreatDoor
open Go.RowKit Go.Lamb
attribute [local go_sem] advO_skip advO_reg advO_seq advO_block advO_exit advO_endb advO_opsNil advO_ops advG_yes advG_no advG_none advS_some advS_none advO_cond advO_loop advO_dreg advO_ret advO_bad advO_inv advO_nil advO_zero wantedV Lamb.step ev_t ev_k put_some put_none argEnv popTo cellsAt V.cellsV V.rows V.toC toCs fillV bytesC byteRows appV rowsV boundV boundL binV binInt binStr eqC eqL V.isNil leaves V.leaf Ins.quiet Ins.pure List.getD_cons_zero List.getD_cons_succ List.getD_nil List.all_cons List.all_nil List.length_cons List.length_nil List.take_succ_cons List.take_zero List.drop_succ_cons List.drop_zero List.cons_append List.nil_append List.append_nil List.append_assoc List.map_cons List.map_nil List.getElem?_cons_zero List.getElem?_cons_succ List.length_append List.length_set hget0 hget hset0 hset hsets hgs0 hgs hss0 hss List.set_cons_zero List.set_cons_succ List.forall_mem_cons List.not_mem_nil false_implies implies_true Option.map_some Bool.and_true Bool.true_and Bool.not_not Bool.not_true Bool.not_false Bool.and_self Bool.or_true Bool.true_or Bool.or_false Bool.false_or Bool.and_false Bool.false_and Bool.false_eq_true beq_self_eq_true and_self and_true true_and if_true if_false Nat.zero_add Nat.add_zero Nat.le_refl Int.toNat_natCast decide_true decide_false beq_t beq_f List.length_map List.getElem?_map I S B opsC toksC OpT.v OpT.cs OpT.zero Tok.v Tok.cs Pre.v Pre.cs_eq k_mk name_mk n_mk l_mk pos_mk Pre.app applyL natCast0 natCast1 natCast2 AOp.o AOp.m AOp.f AOp.l AOp.d AOp.n AOp.x AOp.s AOp.k AOp.y AOp.z EOp.q low_c low_void low_any low_csl low_nilf low_ptr low_osl low_agg low_tup low_fn resEval advPO_nil advPO_loud advPO_quiet pL_yes pL_no pLS_some pLS_none pQ_yes pQ_no pQS_some pQS_loud eq_self Nat.sub_zero
section

/-- A contract over worlds of what looks at a text and tells a bool. -/
theorem DC.of_text {w0 : World} {f : FuncId} {s : List UInt8} {b : Bool} {σ : H} (hen : Enters Tryz.prog f) (h : ∀ w, s.length ≤ maxLen → Calls Tryz.prog f #[.string (bs s)] w (Ret (.bool b) w)) : DC Tryz.prog w0 f [S s] σ (Same (B b) σ) := by
  refine DC.of_calls hen fun κ w vs hrep hfit => ?_
  obtain ⟨v, ys, rfl, hv, hfit⟩ := hfit.cons_inv
  have := hfit.nil_inv
  subst this
  cases hv with
  | c hv =>
    cases hv with
    | str _ hl =>
      refine ⟨.bool b, .c (.bool b), (h w hl).mono ?_⟩
      rintro e w' ⟨rfl, rfl⟩
      exact ⟨rfl, Below.refl _ _⟩
theorem lex_IsNameD (w0 : World) (s : List UInt8) (σ : H) : DC Tryz.prog w0 59 [S s] σ (Same (B (isNameB s)) σ) :=
  DC.of_text (enters_fn Tryz.func59 (by kernel_rfl) rfl) fun w hs => lex_IsName (bs s) w hs
end
section
attribute [local go_sem] Typ.v Typ.cs_eq tk_mk tname_mk tn_mk tl_mk tysC

theorem sz_row_len {α : Type} {f : α → List C} {l : List α} {x : V} {args : List V} (h : ∀ y ∈ args, V.Sz y) (hx : x ∈ args) (e : x = .c (.sl (l.map f))) : l.length ≤ 9223372036854775807 := by
  subst e
  exact sz_rows (h _ hx)
theorem IndexFunc_ty (w0 : World) (l : List Typ) (f : FuncId) (caps : List V) (p : Typ → Bool) (σ : H) (hp : ∀ o ∈ l, DC Tryz.prog w0 f (o.v :: caps) σ (Same (B (p o)) σ)) : DC Tryz.prog w0 112 [.c (.sl (l.map Typ.cs)), .fn f caps] σ (Same (I (idxI p l)) σ) := by
  refine k112.go rfl (fun hok hsz => ?_)
  have hlen := sz_row_len hsz (List.mem_cons_self ..) rfl
  ((try refine W.a ?_); simp only [go_sem, seval, reduceCtorEq, c112])
  refine W.loopP (fun i => i ≤ l.length ∧ UpTo p l i) (fun i => ⟨((((base.put (some 0) (.c (.sl (l.map Typ.cs)))).put (some 1) (.fn f caps)).put (some 7) (I l.length)).put (some 8) (I i)), σ⟩) (fun i => l.length - i) 0 ⟨Nat.zero_le _, upTo_zero⟩ ?_ (fun i hi => ?_)
  · (refine Lew.env ?_; exact lee_here)
  · obtain ⟨hi, hinv⟩ := hi
    by_cases hlt : i < l.length
    · have h1 : ((i : Int) < (l.length : Int)) := by omega
      have hx : l[i]? = some l[i] := List.getElem?_eq_getElem hlt
      ((try refine W.a ?_); simp only [go_sem, seval, reduceCtorEq, h1])
      refine W.yes rfl ?_
      ((try refine W.a ?_); simp only [go_sem, seval, reduceCtorEq, h1, nat0, hx])
      (refine W.c1 (hp l[i] (List.getElem_mem hlt)) ?_; simp only [go_sem, seval, reduceCtorEq])
      refine W.test rfl (fun h => ?_) (fun h => ?_)
      · ((try refine W.a ?_); simp only [go_sem, seval, reduceCtorEq])
        (refine W.ret (Fin.same hok (by simp only [resEval, r112, go_sem, seval, reduceCtorEq]; rfl) ?_ (by first | exact .c _ | (simp only [go_sem, seval, reduceCtorEq]; done)) (by first | exact ⟨[], (List.append_nil _).symm⟩ | exact ⟨_, rfl⟩)); simp only [resV])
        rw [idxI_at hinv hlt h]
      · have hw := wrap_next hlt hlen
        ((try refine W.a ?_); simp only [go_sem, seval, reduceCtorEq, hw])
        refine .inv ⟨i + 1, ⟨hlt, upTo_next hinv hlt h⟩, by omega, ?_⟩
        (refine Lew.env ?_; exact lee_here)
    · have h1 : ¬ ((i : Int) < (l.length : Int)) := by omega
      ((try refine W.a ?_); simp only [go_sem, seval, reduceCtorEq, h1])
      refine W.no rfl ?_
      ((try refine W.a ?_); simp only [go_sem, seval, reduceCtorEq])
      (refine W.ret (Fin.same hok (by simp only [resEval, r112, go_sem, seval, reduceCtorEq]; rfl) ?_ (by first | exact .c _ | (simp only [go_sem, seval, reduceCtorEq]; done)) (by first | exact ⟨[], (List.append_nil _).symm⟩ | exact ⟨_, rfl⟩)); simp only [resV])
      rw [idxI_none (fun j hj => hinv j hj (by omega))]
theorem idxI_geq {α : Type} (p : α → Bool) (l : List α) : decide (idxI p l ≥ 0) = l.any p := by
  rcases idxI_cases p l with ⟨h, h'⟩ | ⟨i, hi, h, h'⟩
  · rw [h]
    rw [idxI_none_iff] at h
    have : l.any p = false := by simpa using h
    rw [this]; decide
  · rw [h]
    have : l.any p = true := by
      rw [List.any_eq_true]
      rw [List.find?_eq_some_iff_getElem] at h'
      exact ⟨l[i], List.getElem_mem hi, h'.1⟩
    rw [this]; simp
theorem ContainsFunc_ty (w0 : World) (l : List Typ) (f : FuncId) (caps : List V) (p : Typ → Bool) (σ : H) (hp : ∀ o ∈ l, DC Tryz.prog w0 f (o.v :: caps) σ (Same (B (p o)) σ)) : DC Tryz.prog w0 61 [.c (.sl (l.map Typ.cs)), .fn f caps] σ (Same (B (l.any p)) σ) := by
  refine k61.go rfl (fun hok hsz => ?_)
  ((try refine W.a ?_); simp only [go_sem, seval, reduceCtorEq, c61])
  (refine W.c1 (IndexFunc_ty w0 l f caps p σ hp) ?_; simp only [go_sem, seval, reduceCtorEq])
  (refine W.fs (hok) (by simp only [r61, go_sem, seval, reduceCtorEq]; rfl) ?_; simp only [resV]; (first | exact V.wk.rfl _ | (refine wk_bool ?_; clear hsz hok; rw [idxI_geq] <;> ((try simp only [beq_iff_eq, beq_eq_false_iff_ne, ne_eq, decide_eq_true_eq, decide_eq_false_iff_not] at *); first | (exfalso; omega) | (simp [*]; done) | (simp [*]; omega) | (simp [*])))))
theorem EqualFunc_ty (w0 : World) (l r : List Typ) (f : FuncId) (p : Typ → Typ → Bool) (hp : ∀ x ∈ l, ∀ y σ, DC Tryz.prog w0 f [x.v, Typ.v y] σ (Same (B (p x y)) σ)) (σ : H) : DC Tryz.prog w0 64 [.c (.sl (l.map Typ.cs)), .c (.sl (r.map Typ.cs)), .fn f []] σ (Same (B (zipAll p l r)) σ) := by
  refine k64.go rfl (fun hok hsz => ?_)
  have hlen := sz_row_len hsz (List.mem_cons_self ..) rfl
  by_cases hlr : l.length = r.length
  · have hb : ((l.length : Int) != (r.length : Int)) = false := by simp [hlr]
    ((try refine W.a ?_); simp only [go_sem, seval, reduceCtorEq, c64, hb])
    refine W.no rfl ?_
    ((try refine W.a ?_); simp only [go_sem, seval, reduceCtorEq])
    refine W.loopP (fun i => i ≤ l.length ∧ ∀ j (hj : j < l.length) (hj' : j < r.length), j < i → p l[j] r[j] = true) (fun i => ⟨(((((base.put (some 1) (.c (.sl (r.map Typ.cs)))).put (some 2) (.fn f [])).put (some 15) (.c (.sl (l.map Typ.cs)))).put (some 16) (I l.length)).put (some 17) (I i)), σ⟩) (fun i => l.length - i) 0 ⟨Nat.zero_le _, fun _ _ _ h => absurd h (by omega)⟩ ?_ (fun i hi => ?_)
    · (refine Lew.env ?_; exact lee_here)
    · obtain ⟨hi, hinv⟩ := hi
      by_cases hlt : i < l.length
      · have h1 : ((i : Int) < (l.length : Int)) := by omega
        have h2 : ((i : Int) < (r.length : Int)) := by omega
        have hltr : i < r.length := by omega
        have hx : l[i]? = some l[i] := List.getElem?_eq_getElem hlt
        have hy : r[i]? = some r[i] := List.getElem?_eq_getElem hltr
        ((try refine W.a ?_); simp only [go_sem, seval, reduceCtorEq, h1])
        refine W.yes rfl ?_
        ((try refine W.a ?_); simp only [go_sem, seval, reduceCtorEq, h1, h2, nat0, hx, hy])
        (refine W.c1 (hp l[i] (List.getElem_mem hlt) r[i] _) ?_; simp only [go_sem, seval, reduceCtorEq])
        refine W.test rfl (fun h => ?_) (fun h => ?_)
        · ((try refine W.a ?_); simp only [go_sem, seval, reduceCtorEq])
          (refine W.fs (hok) (by simp only [r64, go_sem, seval, reduceCtorEq]; rfl) ?_; simp only [resV]; try exact V.wk.rfl _)
          rw [zipAll_no hlt hltr (by simpa using h)]
          exact .rfl _
        · have hw := wrap_next hlt hlen
          ((try refine W.a ?_); simp only [go_sem, seval, reduceCtorEq, hw])
          refine .inv ⟨i + 1, ⟨hlt, fun j hj hj' hji => ?_⟩, by omega, ?_⟩
          · rcases Nat.lt_succ_iff_lt_or_eq.1 hji with h' | h'
            · exact hinv j hj hj' h'
            · subst h'; simpa using h
          · (refine Lew.drop ?_ (Nat.le_refl _) (hok) ?_; exact lee_here; (repeat' (first | exact LowE.base _ | (refine LowE.put ?_ (by first | exact .c _ | (simp only [go_sem, seval, reduceCtorEq]; done) | exact V.low_fn_nil _ _)))))
      · have h1 : ¬ ((i : Int) < (l.length : Int)) := by omega
        ((try refine W.a ?_); simp only [go_sem, seval, reduceCtorEq, h1])
        refine W.no rfl ?_
        ((try refine W.a ?_); simp only [go_sem, seval, reduceCtorEq])
        (refine W.fs (hok) (by simp only [r64, go_sem, seval, reduceCtorEq]; rfl) ?_; simp only [resV]; try exact V.wk.rfl _)
        rw [zipAll_yes hlr (fun j hj hj' => hinv j hj hj' (by omega))]
        exact .rfl _
  · have hb : ((l.length : Int) != (r.length : Int)) = true := bne_iff_ne.2 (by omega)
    ((try refine W.a ?_); simp only [go_sem, seval, reduceCtorEq, c64, hb])
    refine W.yes rfl ?_
    ((try refine W.a ?_); simp only [go_sem, seval, reduceCtorEq])
    (refine W.fs (hok) (by simp only [r64, go_sem, seval, reduceCtorEq]; rfl) ?_; simp only [resV]; try exact V.wk.rfl _)
    rw [zipAll_len hlr]
    exact .rfl _
theorem ty_Same (w0 : World) (p : Typ) : ∀ (q : Typ) (σ : H), DC Tryz.prog w0 31 [p.v, q.v] σ (Same (B (sameTy p q)) σ) := by
  refine Typ.ind (P := fun p => ∀ (q : Typ) (σ : H), DC Tryz.prog w0 31 [p.v, q.v] σ (Same (B (sameTy p q)) σ)) (fun p ih q σ => ?_) p
  refine k31.go rfl (fun hok hsz => ?_)
  (((try refine W.a ?_); (try simp only [bne, go_sem, seval, reduceCtorEq, c31, *])); (repeat' (first | (refine W.yes rfl ?_; (refine W.a ?_; simp only [bne, go_sem, seval, reduceCtorEq, c31, *])) | (refine W.no rfl ?_; (refine W.a ?_; simp only [bne, go_sem, seval, reduceCtorEq, c31, *])) | (refine W.c1 (EqualFunc_ty w0 p.l q.l 31 sameTy (fun x hx y σ => ih x hx y σ) _) ?_; simp only [bne, go_sem, seval, reduceCtorEq, c31, *]) | (refine W.testn rfl (fun hT => ?_) (fun hT => ?_) <;> (refine W.a ?_; simp only [bne, go_sem, seval, reduceCtorEq, c31, *])) | (refine W.test rfl (fun hT => ?_) (fun hT => ?_) <;> (refine W.a ?_; simp only [bne, go_sem, seval, reduceCtorEq, c31, *])) | (refine advG_ifn _ _ _ _ (fun hT => ?_) (fun hT => ?_) <;> simp only [bne, go_sem, seval, reduceCtorEq, c31, *]) | (refine advG_if _ _ _ _ (fun hT => ?_) (fun hT => ?_) <;> simp only [bne, go_sem, seval, reduceCtorEq, c31, *]))))
  all_goals (refine W.fs (hok) (by simp only [r31, go_sem, seval, reduceCtorEq]; rfl) ?_; simp only [resV]; (first | exact V.wk.rfl _ | (refine wk_bool ?_; clear hsz hok; rw [sameTy_eq] <;> ((try simp only [beq_iff_eq, beq_eq_false_iff_ne, ne_eq, decide_eq_true_eq, decide_eq_false_iff_not] at *); first | (exfalso; omega) | (simp [*]; done) | (simp [*]; omega) | (simp [*])))))
theorem any_all {α : Type} (l : List α) (p : α → Bool) : (l.any fun q => !p q) = !l.all p := by
  induction l with
  | nil => rfl
  | cons x l ih => simp only [List.any_cons, List.all_cons, ih]; cases p x <;> simp
theorem len_ne {n : Nat} (k : Nat) : ((n : Int) == (k : Int)) = (n == k) := by
  rw [Bool.eq_iff_iff]; simp; omega
theorem ty_arrow (w0 : World) (p : Typ) (σ : H) : DC Tryz.prog w0 60 [p.v] σ (Same (B (arrowT p)) σ) := by
  refine k60.go rfl (fun hok hsz => ?_)
  have l2 := len_ne (n := p.l.length) 2
  simp only [natCast2] at l2
  unfold arrowT
  (((try refine W.a ?_); (try simp only [bne, go_sem, seval, reduceCtorEq, c60, l2, *])); (repeat' (first | (refine W.yes rfl ?_; (refine W.a ?_; simp only [bne, go_sem, seval, reduceCtorEq, c60, l2, *])) | (refine W.no rfl ?_; (refine W.a ?_; simp only [bne, go_sem, seval, reduceCtorEq, c60, l2, *])) | (refine W.testn rfl (fun hT => ?_) (fun hT => ?_) <;> (refine W.a ?_; simp only [bne, go_sem, seval, reduceCtorEq, c60, l2, *])) | (refine W.test rfl (fun hT => ?_) (fun hT => ?_) <;> (refine W.a ?_; simp only [bne, go_sem, seval, reduceCtorEq, c60, l2, *])) | (refine advG_ifn _ _ _ _ (fun hT => ?_) (fun hT => ?_) <;> simp only [bne, go_sem, seval, reduceCtorEq, c60, l2, *]) | (refine advG_if _ _ _ _ (fun hT => ?_) (fun hT => ?_) <;> simp only [bne, go_sem, seval, reduceCtorEq, c60, l2, *]))))
  all_goals (refine W.fs (hok) (by simp only [r60, go_sem, seval, reduceCtorEq]; rfl) ?_; simp only [resV]; (first | exact V.wk.rfl _ | (refine wk_bool ?_; clear hsz hok; ((try simp only [beq_iff_eq, beq_eq_false_iff_ne, ne_eq, decide_eq_true_eq, decide_eq_false_iff_not] at *); first | (exfalso; omega) | (simp [*]; done) | (simp [*]; omega) | (simp [*])))))
theorem nodeT_eq (p : Typ) : nodeT p = if p.k = 0 then isNameB p.name && p.n == 0 else if p.k = 1 then p.name == [] && decide (0 ≤ p.n) && decide (p.n ≤ 4611686018427387904) && p.l.length == 0 else if p.k = 2 then p.name == [] && p.n == 0 && arrowT p else false := by
  unfold nodeT arrowT
  by_cases h2 : p.k = 2
  · simp [h2]
  · simp [h2]
theorem ty_Valid1 (w0 : World) (p : Typ) (b : Bool) (σ : H) (hp : ∀ τ, DC Tryz.prog w0 28 [p.v] τ (Same (B b) τ)) : DC Tryz.prog w0 62 [p.v] σ (Same (B (!b)) σ) := by
  refine k62.go rfl (fun hok hsz => ?_)
  ((try refine W.a ?_); simp only [go_sem, seval, reduceCtorEq, c62])
  (refine W.c1 (hp _) ?_; simp only [go_sem, seval, reduceCtorEq])
  (refine W.fs (hok) (by simp only [r62, go_sem, seval, reduceCtorEq]; rfl) ?_; simp only [resV]; try exact V.wk.rfl _)
theorem ty_Valid (w0 : World) (p : Typ) : ∀ (σ : H), DC Tryz.prog w0 28 [p.v] σ (Same (B (validT p)) σ) := by
  refine Typ.ind (P := fun p => ∀ (σ : H), DC Tryz.prog w0 28 [p.v] σ (Same (B (validT p)) σ)) (fun p ih σ => ?_) p
  refine k28.go rfl (fun hok hsz => ?_)
  have hC := fun σ => ContainsFunc_ty w0 p.l 62 [] (fun q => !validT q) σ (fun q hq => ty_Valid1 w0 q _ _ (fun τ => ih q hq τ))
  have l0 := len_ne (n := p.l.length) 0
  have l2 := len_ne (n := p.l.length) 2
  simp only [natCast0, natCast2] at l0 l2
  (((try refine W.a ?_); (try simp only [bne, go_sem, seval, reduceCtorEq, c28, l0, l2, *])); (repeat' (first | (refine W.yes rfl ?_; (refine W.a ?_; simp only [bne, go_sem, seval, reduceCtorEq, c28, l0, l2, *])) | (refine W.no rfl ?_; (refine W.a ?_; simp only [bne, go_sem, seval, reduceCtorEq, c28, l0, l2, *])) | (refine W.c1 (lex_IsNameD w0 p.name _) ?_; simp only [bne, go_sem, seval, reduceCtorEq, c28, l0, l2, *]) | (refine W.c1 (ty_arrow w0 p _) ?_; simp only [bne, go_sem, seval, reduceCtorEq, c28, l0, l2, *]) | (refine W.c1 (hC _) ?_; simp only [bne, go_sem, seval, reduceCtorEq, c28, l0, l2, *]) | (refine W.testn rfl (fun hT => ?_) (fun hT => ?_) <;> (refine W.a ?_; simp only [bne, go_sem, seval, reduceCtorEq, c28, l0, l2, *])) | (refine W.test rfl (fun hT => ?_) (fun hT => ?_) <;> (refine W.a ?_; simp only [bne, go_sem, seval, reduceCtorEq, c28, l0, l2, *])) | (refine advG_ifn _ _ _ _ (fun hT => ?_) (fun hT => ?_) <;> simp only [bne, go_sem, seval, reduceCtorEq, c28, l0, l2, *]) | (refine advG_if _ _ _ _ (fun hT => ?_) (fun hT => ?_) <;> simp only [bne, go_sem, seval, reduceCtorEq, c28, l0, l2, *]))))
  all_goals (refine W.fs (hok) (by simp only [r28, go_sem, seval, reduceCtorEq]; rfl) ?_; simp only [resV]; (first | exact V.wk.rfl _ | (refine wk_bool ?_; clear hsz hok; rw [validT_eq] <;> ((try simp only [beq_iff_eq, beq_eq_false_iff_ne, ne_eq, decide_eq_true_eq, decide_eq_false_iff_not] at *); first | (exfalso; omega) | (simp [nodeT_eq, any_all, *]; done) | (simp [nodeT_eq, any_all, *]; omega) | (simp [nodeT_eq, any_all, *])))))
theorem ty_Parts (w0 : World) (p : Typ) (hb : depthT p ≤ 1000000) (σ : H) : DC Tryz.prog w0 30 [p.v] σ (Same (.tup [.c (tysC (partsT p).1), (partsT p).2.v]) σ) := by
  refine k30.go rfl (fun hok hsz => ?_)
  ((try refine W.a ?_); simp only [go_sem, seval, reduceCtorEq, c30])
  refine W.own 4 32 4 rfl ?_
  ((try refine W.a ?_); simp only [go_sem, seval, reduceCtorEq])
  refine W.loopP (α := List Typ × Typ) (fun x => (x.1 ++ (partsT x.2).1, (partsT x.2).2) = partsT p ∧ x.1.length + depthT x.2 ≤ depthT p) (fun x => ⟨(((base.put (some 1) (.ptr σ.length 0)).put (some 3) (.ptr (σ.length + 1) 0)).put (some 4) (.osl (σ.length + 2) (x.1.map Typ.cs))), σ ++ [.cells x.2.v.cellsV, .cells [I 0, S [], I 0, .csl []], .spare 32 4 x.1.length]⟩) (fun x => depthT x.2) ([], p) ⟨rfl, by simp⟩ ?_ (fun x hx => ?_)
  · (refine Lew.env ?_; exact lee_here)
  · obtain ⟨acc, q⟩ := x
    obtain ⟨hp, hd⟩ := hx
    simp only at hp hd
    ((try refine W.a ?_); simp only [go_sem, seval, reduceCtorEq])
    cases hA : arrowT q
    · (refine W.c1 (ty_arrow w0 q _) ?_; simp only [go_sem, seval, reduceCtorEq, hA])
      refine W.no rfl ?_
      ((try refine W.a ?_); simp only [go_sem, seval, reduceCtorEq])
      rw [partsT_no hA, List.append_nil] at hp
      (apply W.dregE (List.cons_ne_nil _ _); case hc => ((apply CanonE.advPO; simp only [go_sem, seval, reduceCtorEq]); exact CanonE.nil))
      ((try refine W.a ?_); simp only [go_sem, seval, reduceCtorEq])
      rw [← hp]
      (refine W.fs (hok) (by simp only [r30, go_sem, seval, reduceCtorEq]; rfl) ?_; simp only [resV]; try exact V.wk.rfl _)
      (all_goals exact wk_here)
    · obtain ⟨a, b, hl⟩ := arrow_parts hA
      rw [partsT_yes hA hl] at hp
      have hda : depthT b < depthT q := depth_of (by rw [hl]; simp)
      have hb1 : (acc.length + 1) * 56 ≤ 140737488355328 := by omega
      have hb2 : acc.length + 1 ≤ 140737488355328 := by omega
      (refine W.c1 (ty_arrow w0 q _) ?_; simp only [go_sem, seval, reduceCtorEq, hA])
      refine W.yes rfl ?_
      ((try refine W.a ?_); simp only [go_sem, seval, reduceCtorEq])
      (apply W.dregE (List.cons_ne_nil _ _); case hc => ((apply CanonE.advPO; simp only [go_sem, seval, reduceCtorEq, hl, hb1, hb2]); exact CanonE.nil))
      ((try refine W.a ?_); simp only [go_sem, seval, reduceCtorEq])
      refine .inv ⟨(acc ++ [a], b), ⟨by rw [← hp]; simp, by simp; omega⟩, by simp only; omega, ?_⟩
      simp only [go_sem, seval, reduceCtorEq, List.map_append]
      (refine Lew.env ?_; exact lee_here)
end
end Go.Proofs.YtohcnohllbjlcaaGreatDoor
namespace Go.Proofs.YtohcnohllbjlcaaGreatDoor
open Go.RowKit Go.Lamb
/-- lambentref05.Same -/
def c21 : AC :=
  .seq (.reg [.o 2 (.box (.t 0)), .o 3 (.box (.t 1)), .o 4 (.mov (.k (.c (.bool false))))])
  (.seq (.seq (.reg [.f 7 0 2, .l 8 7, .f 9 0 3, .l 10 9, .o 11 (.bin .neq (.t 8) (.t 10)), .m 12 11, .z 13 (.fadd 1 (.t 2)) 12, .z 14 (.load1 (.t 13)) 12, .z 15 (.fadd 1 (.t 3)) 12, .z 16 (.load1 (.t 15)) 12, .z 17 (.bin .neq (.t 14) (.t 16)) 12, .o 18 (.pick (.t 12) (.k (.c (.bool true))) (.t 17)), .m 19 18, .z 20 (.fadd 2 (.t 2)) 19, .z 21 (.load1 (.t 20)) 19, .z 22 (.fadd 2 (.t 3)) 19, .z 23 (.load1 (.t 22)) 19, .z 24 (.bin .neq (.t 21) (.t 23)) 19, .o 25 (.pick (.t 19) (.k (.c (.bool true))) (.t 24)), .m 26 25, .z 27 (.fadd 3 (.t 2)) 26, .z 28 (.load1 (.t 27)) 26, .z 29 (.lenr (.t 28)) 26, .z 30 (.fadd 3 (.t 3)) 26, .z 31 (.load1 (.t 30)) 26, .z 32 (.lenr (.t 31)) 26, .z 33 (.bin .neq (.t 29) (.t 32)) 26, .o 34 (.pick (.t 26) (.k (.c (.bool true))) (.t 33))])
  (.cond (.t 34)
  (.seq (.reg [.o 4 (.mov (.k (.c (.bool false))))])
  (.ret))
  (.skip)))
  (.seq (.seq (.reg [.o 5 (.mov (.k (.c (.int .i64 0))))])
  (.block 0 (.loop (.seq (.seq (.reg [.m 35 5, .f 36 3 2, .l 37 36, .o 38 (.lenr (.t 37)), .o 39 (.bin .lss (.t 35) (.t 38))])
  (.cond (.t 39)
  (.skip)
  (.exit 0)))
  (.seq (.block 1 (.seq (.dreg [.f 42 3 2, .l 43 42, .m 44 5, .o 45 (.iadd 4 (.t 43) (.t 44)), .d 46 4 45, .f 47 3 3, .l 48 47, .m 49 5, .o 50 (.iadd 4 (.t 48) (.t 49)), .d 51 4 50, .k 52 21 [(.t 46), (.t 51)], .m 6 52]
    [.q (.f 42 3 2), .q (.l 43 42), .q (.m 44 5), .q (.o 45 (.iadd 4 (.t 43) (.t 44))), .q (.d 46 4 45), .q (.f 47 3 3), .q (.l 48 47), .q (.m 49 5), .q (.o 50 (.iadd 4 (.t 48) (.t 49))), .q (.d 51 4 50), ⟨.k 52 21 [(.t 46), (.t 51)], true, 0⟩, ⟨.m 6 52, false, 1⟩])
  (.seq (.reg [.m 53 6, .o 54 (.un .not (.t 53))])
  (.cond (.t 54)
  (.seq (.reg [.o 4 (.mov (.k (.c (.bool false))))])
  (.ret))
  (.skip)))))
  (.reg [.m 40 5, .o 41 (.bin .add (.t 40) (.k (.c (.int .i64 1)))), .m 5 41]))))))
  (.seq (.reg [.o 4 (.mov (.k (.c (.bool true))))])
  (.ret))))
/-- lambentref05.left -/
def c63 : AC :=
  .seq (.reg [.o 2 (.box (.t 0)), .o 4 (.mov (.k (.c (.int .i64 0))))])
  (.seq (.reg [.m 7 1, .o 8 (.bin .sub (.t 7) (.k (.c (.int .i64 1)))), .m 5 8])
  (.seq (.seq (.reg [.o 6 (.mov (.k (.c (.int .i64 0))))])
  (.block 0 (.loop (.seq (.seq (.reg [.m 9 6, .f 10 3 2, .l 11 10, .o 12 (.lenr (.t 11)), .o 13 (.bin .lss (.t 9) (.t 12)), .m 14 13, .y 15 (.mov (.t 5)) 14, .y 16 (.bin .geq (.t 15) (.k (.c (.int .i64 0)))) 14, .o 17 (.pick (.t 14) (.t 16) (.k (.c (.bool false))))])
  (.cond (.t 17)
  (.skip)
  (.exit 0)))
  (.seq (.block 1 (.reg [.f 20 3 2, .l 21 20, .m 22 6, .o 23 (.iadd 4 (.t 21) (.t 22)), .d 24 4 23, .m 25 5, .k 26 63 [(.t 24), (.t 25)], .m 5 26]))
  (.reg [.m 18 6, .o 19 (.bin .add (.t 18) (.k (.c (.int .i64 1)))), .m 6 19]))))))
  (.seq (.reg [.m 27 5, .m 4 27])
  (.ret))))
def r63 : List ResV := [.tmp 4]
theorem k63 : CodeIs Tryz.prog 63 2 Tryz.f63 c63 r63 := ⟨by kernel_rfl, Tryz.func63, rfl, by kernel_rfl, by kernel_rfl, by decide, enters_fn Tryz.func63 (by kernel_rfl) rfl⟩
/-- lambentref05.Large -/
def c29 : AC :=
  .seq (.reg [.o 2 (.box (.t 0)), .o 4 (.mov (.k (.c (.bool false))))])
  (.seq (.reg [.d 6 4 2, .m 7 1, .k 8 63 [(.t 6), (.t 7)], .m 5 8])
  (.seq (.reg [.m 9 5, .o 10 (.bin .lss (.t 9) (.k (.c (.int .i64 0)))), .m 4 10])
  (.ret)))
def r29 : List ResV := [.tmp 4]
theorem k29 : CodeIs Tryz.prog 29 2 Tryz.f29 c29 r29 := ⟨by kernel_rfl, Tryz.func29, rfl, by kernel_rfl, by kernel_rfl, by decide, enters_fn Tryz.func29 (by kernel_rfl) rfl⟩
end Go.Proofs.YtohcnohllbjlcaaGreatDoor
namespace Go.Proofs.YtohcnohllbjlcaaGreatDoor
open Go.RowKit Go.Lamb

end Go.Proofs.YtohcnohllbjlcaaGreatDoor
namespace Go.Proofs.YtohcnohllbjlcaaGreatDoor
open Go.RowKit Go.Lamb

end Go.Proofs.YtohcnohllbjlcaaGreatDoor
namespace Go.Proofs.YtohcnohllbjlcaaGreatDoor
open Go.RowKit Go.Lamb

def Tok.zero : Tok := ⟨0, [], 0, 0⟩
end Go.Proofs.YtohcnohllbjlcaaGreatDoor
namespace Go.Proofs.YtohcnohllbjlcaaGreatDoor
open Go.RowKit Go.Lamb
end Go.Proofs.YtohcnohllbjlcaaGreatDoor
namespace Go.Proofs.YtohcnohllbjlcaaGreatDoor
open Go.RowKit Go.Lamb
attribute [local go_sem] advO_skip advO_reg advO_seq advO_block advO_exit advO_endb advO_opsNil advO_ops advG_yes advG_no advG_none advS_some advS_none advO_cond advO_loop advO_dreg advO_ret advO_bad advO_inv advO_nil advO_zero wantedV Lamb.step ev_t ev_k put_some put_none argEnv popTo cellsAt V.cellsV V.rows V.toC toCs fillV bytesC byteRows appV rowsV boundV boundL binV binInt binStr eqC eqL V.isNil leaves V.leaf Ins.quiet Ins.pure List.getD_cons_zero List.getD_cons_succ List.getD_nil List.all_cons List.all_nil List.length_cons List.length_nil List.take_succ_cons List.take_zero List.drop_succ_cons List.drop_zero List.cons_append List.nil_append List.append_nil List.append_assoc List.map_cons List.map_nil List.getElem?_cons_zero List.getElem?_cons_succ List.length_append List.length_set hget0 hget hset0 hset hsets hgs0 hgs hss0 hss List.set_cons_zero List.set_cons_succ List.forall_mem_cons List.not_mem_nil false_implies implies_true Option.map_some Bool.and_true Bool.true_and Bool.not_not Bool.not_true Bool.not_false Bool.and_self Bool.or_true Bool.true_or Bool.or_false Bool.false_or Bool.and_false Bool.false_and Bool.false_eq_true beq_self_eq_true and_self and_true true_and if_true if_false Nat.zero_add Nat.add_zero Nat.le_refl Int.toNat_natCast decide_true decide_false beq_t beq_f List.length_map List.getElem?_map I S B opsC toksC OpT.v OpT.cs OpT.zero Tok.v Tok.cs Pre.v Pre.cs_eq k_mk name_mk n_mk l_mk pos_mk Pre.app applyL natCast0 natCast1 natCast2 AOp.o AOp.m AOp.f AOp.l AOp.d AOp.n AOp.x AOp.s AOp.k AOp.y AOp.z EOp.q low_c low_void low_any low_csl low_nilf low_ptr low_osl low_agg low_tup low_fn resEval advPO_nil advPO_loud advPO_quiet pL_yes pL_no pLS_some pLS_none pQ_yes pQ_no pQS_some pQS_loud eq_self Nat.sub_zero
section

end
section

/-- The document's type reader's blocks. -/
def tqX (t : List Tok) (i : Int) (v : Nat) (vs : List Str) (e p : Int) : Blk := .cells [.c (toksC t), I i, I e, I p, .osl v (strsR vs)]
abbrev tqs (σ : H) (b v : Nat) (t : List Tok) (i : Int) (vs : List Str) (e p : Int) : H := rs σ b v (tqX t i v vs e p) (tyY vs)
attribute [local go_sem] tqX tyY rs_len rs_g0 rs_g rs_s0 rs_s rs_sv Typ.v Typ.cs_eq tk_mk tname_mk tn_mk tl_mk tysC
end
section

abbrev tqo (σ : H) (b v : Nat) (t : List Tok) (o : TyO) : H := tqs σ b v t o.j o.ws o.e o.p
attribute [local go_sem] tqX tyY rs_len rs_g0 rs_g rs_s0 rs_s rs_sv Typ.v Typ.cs_eq tk_mk tname_mk tn_mk tl_mk tysC
end
section
attribute [local go_sem] tqX tyY rs_len rs_g0 rs_g rs_s0 rs_s rs_sv Typ.v Typ.cs_eq tk_mk tname_mk tn_mk tl_mk tysC

end
section
attribute [local go_sem] tqX tyY rs_len rs_g0 rs_g rs_s0 rs_s rs_sv Typ.v Typ.cs_eq tk_mk tname_mk tn_mk tl_mk tysC

theorem typ_len {p : Typ} {args : List V} (h : ∀ y ∈ args, V.Sz y) (hx : p.v ∈ args) : p.l.length ≤ 9223372036854775807 := by
  have := h _ hx
  rw [Typ.v, sz_agg] at this
  exact sz_rows (this (.c (.sl (p.l.map Typ.cs))) (by simp))
theorem ref05_left (w0 : World) (p : Typ) : ∀ (n : Int), 0 ≤ n → n ≤ 1000000 → ∀ (σ : H), DC Tryz.prog w0 63 [p.v, I n] σ (Same (I (leftT p n)) σ) := by
  refine Typ.ind (P := fun p => ∀ (n : Int), 0 ≤ n → n ≤ 1000000 → ∀ (σ : H), DC Tryz.prog w0 63 [p.v, I n] σ (Same (I (leftT p n)) σ)) (fun p ih n hn hn' σ => ?_) p
  refine k63.go rfl (fun hok hsz => ?_)
  have hlen := typ_len hsz (List.mem_cons_self ..)
  have hw0 : IntKind.i64.wrap (n - 1) = n - 1 := by rw [wrap_in] <;> omega
  ((try refine W.a ?_); simp only [go_sem, seval, reduceCtorEq, c63, hw0])
  refine W.loopP (α := Nat × Int) (fun x => x.1 ≤ p.l.length ∧ -1 ≤ x.2 ∧ x.2 ≤ 1000000 ∧ leftTs (p.l.drop x.1) x.2 = leftT p n) (fun x => ⟨((((base.put (some 2) (.ptr σ.length 0)).put (some 4) (I 0)).put (some 5) (I x.2)).put (some 6) (I (x.1 : Nat))), σ ++ [.cells p.v.cellsV]⟩) (fun x => p.l.length - x.1) (0, n - 1) ⟨Nat.zero_le _, by simp only; omega, by simp only; omega, by rw [leftT_eq]; rfl⟩ ?_ (fun x hi => ?_)
  · (refine Lew.env ?_; exact lee_here)
  · obtain ⟨i, m⟩ := x
    obtain ⟨hi, hm, hm', hinv⟩ := hi
    simp only at hi hm hm' hinv
    by_cases hlt : i < p.l.length
    · have h1 : ((i : Int) < (p.l.length : Int)) := by omega
      have hx : p.l[i]? = some p.l[i] := List.getElem?_eq_getElem hlt
      have hw : IntKind.i64.wrap ((i : Int) + 1) = ((i + 1 : Nat) : Int) := wrap_next hlt hlen
      by_cases h0 : 0 ≤ m
      · have h0' : m ≥ 0 := h0
        ((try refine W.a ?_); simp only [go_sem, seval, reduceCtorEq, h1, h0'])
        refine W.yes rfl ?_
        ((try refine W.a ?_); simp only [go_sem, seval, reduceCtorEq, h1, nat0, hx])
        (refine W.c1 (ih p.l[i] (List.getElem_mem hlt) m h0 hm' _) ?_; simp only [go_sem, seval, reduceCtorEq, hw])
        have := leftT_le p.l[i] m h0
        refine .inv ⟨(i + 1, leftT p.l[i] m), ⟨hlt, this.1, by simp only; omega, by rw [← hinv, leftTs_step hlt h0]⟩, by simp only; omega, ?_⟩
        (refine Lew.env ?_; exact lee_here)
      · have h0' : ¬ m ≥ 0 := h0
        ((try refine W.a ?_); simp only [go_sem, seval, reduceCtorEq, h1, h0'])
        refine W.no rfl ?_
        ((try refine W.a ?_); simp only [go_sem, seval, reduceCtorEq])
        (refine W.fs (hok) (by simp only [r63, go_sem, seval, reduceCtorEq]; rfl) ?_; simp only [resV]; try exact V.wk.rfl _)
        rw [← hinv, leftTs_neg h0]
        exact .rfl _
    · have h1 : ¬ ((i : Int) < (p.l.length : Int)) := by omega
      ((try refine W.a ?_); simp only [go_sem, seval, reduceCtorEq, h1])
      refine W.no rfl ?_
      ((try refine W.a ?_); simp only [go_sem, seval, reduceCtorEq])
      (refine W.fs (hok) (by simp only [r63, go_sem, seval, reduceCtorEq]; rfl) ?_; simp only [resV]; try exact V.wk.rfl _)
      rw [← hinv, leftTs_end (by omega)]
      exact .rfl _
theorem ref05_Large (w0 : World) (p : Typ) (n : Int) (hn : 0 ≤ n) (hn' : n ≤ 1000000) (σ : H) : DC Tryz.prog w0 29 [p.v, I n] σ (Same (B (decide (leftT p n < 0))) σ) := by
  refine k29.go rfl (fun hok hsz => ?_)
  ((try refine W.a ?_); simp only [go_sem, seval, reduceCtorEq, c29])
  (refine W.c1 (ref05_left w0 p n hn hn' _) ?_; simp only [go_sem, seval, reduceCtorEq])
  (refine W.fs (hok) (by simp only [r29, go_sem, seval, reduceCtorEq]; rfl) ?_; simp only [resV]; try exact V.wk.rfl _)
end
section
attribute [local go_sem] Typ.v Typ.cs_eq tk_mk tname_mk tn_mk tl_mk tysC rz_len rz_g0 rz_g rz_s0 rz_s rz_sb

theorem sizeTs_mem {x : Typ} : ∀ {l : List Typ}, x ∈ l → sizeT x ≤ sizeTs l
  | [], h => by simp at h
  | y :: l, h => by
    rw [sizeTs]
    rcases List.mem_cons.1 h with rfl | h
    · omega
    · have := sizeTs_mem h; omega
theorem sizeTs_take (l : List Typ) (i : Nat) (h : i < l.length) : sizeTs (l.take (i + 1)) = sizeTs (l.take i) + sizeT l[i] ∧ sizeTs (l.take (i + 1)) ≤ sizeTs l := by
  have h1 : l.take (i + 1) = l.take i ++ [l[i]] := List.take_succ_eq_append_getElem h
  have h2 : sizeTs (l.take (i + 1)) = sizeTs (l.take i) + sizeT l[i] := by
    rw [h1, sizeTs_add]; simp [sizeTs]
  refine ⟨h2, ?_⟩
  have h3 := sizeTs_add (l.take (i + 1)) (l.drop (i + 1))
  rw [List.take_append_drop] at h3
  omega
theorem ty_Size (w0 : World) (p : Typ) : sizeT p ≤ 1000000 → ∀ (σ : H), DC Tryz.prog w0 55 [p.v] σ (Same (I (sizeT p : Nat)) σ) := by
  refine Typ.ind (P := fun p => sizeT p ≤ 1000000 → ∀ (σ : H), DC Tryz.prog w0 55 [p.v] σ (Same (I (sizeT p : Nat)) σ)) (fun p ih hb σ => ?_) p
  refine k55.go rfl (fun hok hsz => ?_)
  have hlen := typ_len hsz (List.mem_cons_self ..)
  rw [sizeT_eq] at hb ⊢
  by_cases hk : p.k = 1
  · have n1 : (p.k != 1) = false := by simpa using hk
    ((try refine W.a ?_); simp only [go_sem, seval, reduceCtorEq, c55, n1])
    refine W.no rfl ?_
    ((try refine W.a ?_); simp only [go_sem, seval, reduceCtorEq])
    rw [if_pos hk]
    (refine W.fs (hok) (by simp only [r55, go_sem, seval, reduceCtorEq]; rfl) ?_; simp only [resV]; try exact V.wk.rfl _)
    (all_goals exact wk_here)
  · have n1 : (p.k != 1) = true := by simpa using hk
    rw [if_neg hk] at hb ⊢
    ((try refine W.a ?_); simp only [go_sem, seval, reduceCtorEq, c55, n1])
    refine W.yes rfl ?_
    ((try refine W.a ?_); simp only [go_sem, seval, reduceCtorEq])
    refine W.loopP (fun i => i ≤ p.l.length) (fun i => ⟨((((base.put (some 3) (I ((1 + sizeTs (p.l.take i) : Nat) : Int))).put (some 10) (.c (tysC p.l))).put (some 11) (I p.l.length)).put (some 12) (I i)), σ⟩) (fun i => p.l.length - i) 0 (Nat.zero_le _) ?_ (fun i hi => ?_)
    · (refine Lew.drop ?_ (Nat.le_refl _) (hok) ?_; exact lee_here; (repeat' (first | exact LowE.base _ | (refine LowE.put ?_ (by first | exact .c _ | (simp only [go_sem, seval, reduceCtorEq]; done) | exact V.low_fn_nil _ _)))))
    · by_cases hlt : i < p.l.length
      · have h1 : ((i : Int) < (p.l.length : Int)) := by omega
        have hx : p.l[i]? = some p.l[i] := List.getElem?_eq_getElem hlt
        obtain ⟨s1, s2⟩ := sizeTs_take p.l i hlt
        have hw := wrap_next hlt hlen
        have hs : IntKind.i64.wrap (((1 + sizeTs (p.l.take i) : Nat) : Int) + ((sizeT p.l[i] : Nat) : Int)) = ((1 + sizeTs (p.l.take (i + 1)) : Nat) : Int) := by rw [wrap_in] <;> omega
        ((try refine W.a ?_); simp only [go_sem, seval, reduceCtorEq, h1])
        refine W.yes rfl ?_
        ((try refine W.a ?_); simp only [go_sem, seval, reduceCtorEq, h1, nat0, hx])
        (refine W.c1 (ih p.l[i] (List.getElem_mem hlt) (by omega) _) ?_; simp only [go_sem, seval, reduceCtorEq, hs, hw])
        refine .inv ⟨i + 1, hlt, by omega, ?_⟩
        (refine Lew.drop ?_ (Nat.le_refl _) (hok) ?_; exact lee_here; (repeat' (first | exact LowE.base _ | (refine LowE.put ?_ (by first | exact .c _ | (simp only [go_sem, seval, reduceCtorEq]; done) | exact V.low_fn_nil _ _)))))
      · have h1 : ¬ ((i : Int) < (p.l.length : Int)) := by omega
        have : p.l.take i = p.l := List.take_of_length_le (by omega)
        ((try refine W.a ?_); simp only [go_sem, seval, reduceCtorEq, h1])
        refine W.no rfl ?_
        ((try refine W.a ?_); simp only [go_sem, seval, reduceCtorEq])
        rw [this]
        (refine W.fs (hok) (by simp only [r55, go_sem, seval, reduceCtorEq]; rfl) ?_; simp only [resV]; try exact V.wk.rfl _)
        (all_goals exact wk_here)
def varB (n : Int) : Blk := .cells [I n]
attribute [local go_sem] varB
theorem ty_Vars1 (w0 : World) (n v : Int) (σ : H) (b : Nat) (D : b < σ.length) : DC Tryz.prog w0 99 [I v, .ptr b 0] (rz σ b (varB n)) (Same Typ.none.v (rz σ b (varB (varMax n v)))) := by
  refine k99.go rfl (fun hok hsz => ?_)
  have hokv : H.ok (rz σ b (varB (varMax n v))) := rz_ok D hok (fun cs tg hc x hx => by
    unfold varB at hc
    injection hc with hc _
    subst hc
    simp only [List.mem_cons, List.not_mem_nil, or_false] at hx
    subst hx; exact .c _)
  have e : Typ.none.v = .agg [I 0, S [], I 0, .c (.sl [])] := rfl
  rw [e]
  unfold varMax at hokv ⊢
  ((try refine W.a ?_); simp only [go_sem, seval, reduceCtorEq, c99, rzA D])
  (refine W.fg (hokv) (d := .agg [I 0, S [], I 0, .c (.sl [])]) (by simp only [r99, go_sem, seval, reduceCtorEq]; rfl) (by simp only [resV, go_sem, seval, reduceCtorEq]; exact wk_here) ?_)
  exact ⟨rfl, rfl⟩
theorem varB_ok {σ : H} {b : Nat} (D : b < σ.length) {X : Blk} (h : H.ok (rz σ b X)) (n : Int) : H.ok (rz σ b (varB n)) := rz_ok D h (fun cs tg hc x hx => by
  unfold varB at hc
  injection hc with hc _
  subst hc
  simp only [List.mem_cons, List.not_mem_nil, or_false] at hx
  subst hx; exact .c _)
theorem sizeT_pos (p : Typ) : 1 ≤ sizeT p := by rw [sizeT_eq]; split <;> omega
theorem len_size : ∀ l : List Typ, l.length ≤ sizeTs l
  | [] => by simp
  | x :: l => by rw [sizeTs, List.length_cons]; have := len_size l; have := sizeT_pos x; omega
theorem ty_replaceV (w0 : World) (p : Typ) : sizeT p ≤ 1000000 → ∀ (n : Int) (σ : H) (b : Nat) (D : b < σ.length), DC Tryz.prog w0 66 [p.v, .fn 99 [.ptr b 0]] (rz σ b (varB n)) (Same (noneT p).v (rz σ b (varB (varsT n p)))) := by
  refine Typ.ind (P := fun p => sizeT p ≤ 1000000 → ∀ (n : Int) (σ : H) (b : Nat) (D : b < σ.length), DC Tryz.prog w0 66 [p.v, .fn 99 [.ptr b 0]] (rz σ b (varB n)) (Same (noneT p).v (rz σ b (varB (varsT n p))))) (fun p ih hb n σ b D => ?_) p
  refine k66.go rfl (fun hok hsz => ?_)
  have hlen := typ_len hsz (List.mem_cons_self ..)
  rw [noneT_eq, varsT_eq]
  by_cases hk : p.k = 1
  · have n1 : (p.k == 1) = true := by simpa using hk
    rw [if_pos hk, if_pos hk]
    ((try refine W.a ?_); simp only [go_sem, seval, reduceCtorEq, c66, n1, rzA D])
    refine W.yes rfl ?_
    ((try refine W.a ?_); simp only [go_sem, seval, reduceCtorEq, rzA D])
    (refine W.c1 (DC.lift1 D (fun D' => ty_Vars1 w0 n p.n _ b D')) ?_; simp only [go_sem, seval, reduceCtorEq, rzA D, Typ.none])
    (refine W.fg (varB_ok D hok (varMax n p.n)) (d := Typ.none.v) (by simp only [r66, go_sem, seval, reduceCtorEq, Typ.none]; rfl) (by simp only [resV, go_sem, seval, reduceCtorEq, Typ.none]; exact wk_here) ?_ (hl := by (first | exact .c _ | (simp only [go_sem, seval, reduceCtorEq, Typ.none]; done))))
    exact ⟨rfl, rfl⟩
  · have n1 : (p.k == 1) = false := by simpa using hk
    rw [if_neg hk, if_neg hk]
    ((try refine W.a ?_); simp only [go_sem, seval, reduceCtorEq, c66, n1, rzA D])
    refine W.no rfl ?_
    ((try refine W.a ?_); simp only [go_sem, seval, reduceCtorEq, rzA D])
    have hls := len_size p.l
    have hbs : sizeTs p.l ≤ 1000000 := by rw [sizeT_eq, if_neg hk] at hb; omega
    cases hA : arrowT p
    · (refine W.c1 (ty_arrow w0 p _) ?_; simp only [go_sem, seval, reduceCtorEq, hA, rzA D])
      refine W.no rfl ?_
      ((try refine W.a ?_); simp only [go_sem, seval, reduceCtorEq, rzA D])
      refine W.ownCell (σ.length + 2) 3 32 4 (cs := [I 0, S p.name, I 0, .csl []]) (tg := none) ?_ rfl ?_
      · simp only [rz_g, List.getElem?_cons_succ, List.getElem?_cons_zero, I, S]
      · ((try refine W.a ?_); simp only [go_sem, seval, reduceCtorEq, rzA D])
        refine W.loopP (fun i => i ≤ p.l.length) (fun i => ⟨((((((base.put (some 1) (.fn 99 [.ptr b 0])).put (some 4) (.ptr (σ.length + 1) 0)).put (some 5) (.ptr (σ.length + 2) 0)).put (some 22) (.c (tysC p.l))).put (some 23) (I p.l.length)).put (some 24) (I i)), rz σ b (varB (varsTs n (p.l.take i))) ++ [.cells p.v.cellsV, .cells [I 0, S [], I 0, .csl []], .cells [I 0, S p.name, I 0, .osl (σ.length + 3) (((p.l.take i).map noneT).map Typ.cs)], .spare 32 4 i]⟩) (fun i => p.l.length - i) 0 (Nat.zero_le _) ?_ (fun i hi => ?_)
        · simp only [go_sem, seval, reduceCtorEq, List.take_zero, varsTs]
          (refine Lew.env ?_; exact lee_here)
        · by_cases hlt : i < p.l.length
          · have h1 : ((i : Int) < (p.l.length : Int)) := by omega
            have hx : p.l[i]? = some p.l[i] := List.getElem?_eq_getElem hlt
            have hw := wrap_next hlt hlen
            have htk : p.l.take (i + 1) = p.l.take i ++ [p.l[i]] := List.take_succ_eq_append_getElem hlt
            have hvt : varsTs n (p.l.take (i + 1)) = varsT (varsTs n (p.l.take i)) p.l[i] := by rw [htk, varsTs_add, varsTs, varsTs]
            have hb1 : (i + 1) * 56 ≤ 140737488355328 := by omega
            have hb2 : i + 1 ≤ 140737488355328 := by omega
            have hlk : (p.l.take i).length = i := by rw [List.length_take]; omega
            have hsz' : sizeT p.l[i] ≤ 1000000 := Nat.le_trans (sizeTs_mem (List.getElem_mem hlt)) (by omega)
            ((try refine W.a ?_); simp only [go_sem, seval, reduceCtorEq, h1, rzA D])
            refine W.yes rfl ?_
            ((try refine W.a ?_); simp only [go_sem, seval, reduceCtorEq, h1, nat0, hx, rzA D])
            apply W.dregE (List.cons_ne_nil _ _)
            case hc =>
              (apply CanonE.advPO; simp only [go_sem, seval, reduceCtorEq, rzA D])
              (apply CanonE.call (DC.lift1 D (fun D' => ih p.l[i] (List.getElem_mem hlt) hsz' (varsTs n (p.l.take i)) _ b D')); (case hg => rfl); (case hf => rfl); (case ha => first | rfl | simp))
              (apply CanonE.advPO; simp only [go_sem, seval, reduceCtorEq, rzA D, hb1, hb2, hlk])
              exact CanonE.nil
            ((try refine W.a ?_); simp only [go_sem, seval, reduceCtorEq, hw, rzA D])
            refine .inv ⟨i + 1, hlt, by omega, ?_⟩
            rw [hvt, htk]
            simp only [go_sem, seval, reduceCtorEq, List.map_append]
            (refine Lew.cutL (varB_ok D hok (varsT (varsTs n (p.l.take i)) p.l[i])) ?_ (by simp) (by simp) ?_ ?_ ?_; exact lee_here; ((try simp only [okB, wkB, go_sem, seval, reduceCtorEq, rz_len]) <;> omega); (simp only [List.length_cons, List.length_nil, Nat.reduceAdd, List.take_succ_cons, List.take_zero, wkB, and_true]; (repeat' (refine And.intro ?_ ?_)) <;> (first | exact Blk.wk.rfl _ | exact Blk.wk.gone _ | (refine Blk.wk_cells ?_ rfl; (exact wk_here)))); (repeat' (first | exact LowE.base _ | (refine LowE.put ?_ (by first | exact .c _ | ((try simp only [okB, wkB, go_sem, seval, reduceCtorEq, rz_len]) <;> omega))))))
          · have h1 : ¬ ((i : Int) < (p.l.length : Int)) := by omega
            have : p.l.take i = p.l := List.take_of_length_le (by omega)
            ((try refine W.a ?_); simp only [go_sem, seval, reduceCtorEq, h1, rzA D])
            refine W.no rfl ?_
            rw [this]
            ((try refine W.a ?_); simp only [go_sem, seval, reduceCtorEq, rzA D])
            (refine W.fg (varB_ok D hok (varsTs n p.l)) (d := .agg [I 0, S p.name, I 0, .c (.sl ((p.l.map noneT).map Typ.cs))]) (by simp only [r66, go_sem, seval, reduceCtorEq]; rfl) (by simp only [resV, go_sem, seval, reduceCtorEq]; exact wk_here) ?_)
            exact ⟨rfl, rfl⟩
    · (refine W.c1 (ty_arrow w0 p _) ?_; simp only [go_sem, seval, reduceCtorEq, hA, rzA D])
      refine W.yes rfl ?_
      ((try refine W.a ?_); simp only [go_sem, seval, reduceCtorEq, rzA D])
      refine W.ownCell (σ.length + 2) 3 32 4 (cs := [I 2, S [], I 0, .csl []]) (tg := none) ?_ rfl ?_
      · simp only [rz_g, List.getElem?_cons_succ, List.getElem?_cons_zero, I, S]
      · ((try refine W.a ?_); simp only [go_sem, seval, reduceCtorEq, rzA D])
        refine W.loopP (fun i => i ≤ p.l.length) (fun i => ⟨((((((base.put (some 1) (.fn 99 [.ptr b 0])).put (some 4) (.ptr (σ.length + 1) 0)).put (some 5) (.ptr (σ.length + 2) 0)).put (some 22) (.c (tysC p.l))).put (some 23) (I p.l.length)).put (some 24) (I i)), rz σ b (varB (varsTs n (p.l.take i))) ++ [.cells p.v.cellsV, .cells [I 0, S [], I 0, .csl []], .cells [I 2, S [], I 0, .osl (σ.length + 3) (((p.l.take i).map noneT).map Typ.cs)], .spare 32 4 i]⟩) (fun i => p.l.length - i) 0 (Nat.zero_le _) ?_ (fun i hi => ?_)
        · simp only [go_sem, seval, reduceCtorEq, List.take_zero, varsTs]
          (refine Lew.env ?_; exact lee_here)
        · by_cases hlt : i < p.l.length
          · have h1 : ((i : Int) < (p.l.length : Int)) := by omega
            have hx : p.l[i]? = some p.l[i] := List.getElem?_eq_getElem hlt
            have hw := wrap_next hlt hlen
            have htk : p.l.take (i + 1) = p.l.take i ++ [p.l[i]] := List.take_succ_eq_append_getElem hlt
            have hvt : varsTs n (p.l.take (i + 1)) = varsT (varsTs n (p.l.take i)) p.l[i] := by rw [htk, varsTs_add, varsTs, varsTs]
            have hb1 : (i + 1) * 56 ≤ 140737488355328 := by omega
            have hb2 : i + 1 ≤ 140737488355328 := by omega
            have hlk : (p.l.take i).length = i := by rw [List.length_take]; omega
            have hsz' : sizeT p.l[i] ≤ 1000000 := Nat.le_trans (sizeTs_mem (List.getElem_mem hlt)) (by omega)
            ((try refine W.a ?_); simp only [go_sem, seval, reduceCtorEq, h1, rzA D])
            refine W.yes rfl ?_
            ((try refine W.a ?_); simp only [go_sem, seval, reduceCtorEq, h1, nat0, hx, rzA D])
            apply W.dregE (List.cons_ne_nil _ _)
            case hc =>
              (apply CanonE.advPO; simp only [go_sem, seval, reduceCtorEq, rzA D])
              (apply CanonE.call (DC.lift1 D (fun D' => ih p.l[i] (List.getElem_mem hlt) hsz' (varsTs n (p.l.take i)) _ b D')); (case hg => rfl); (case hf => rfl); (case ha => first | rfl | simp))
              (apply CanonE.advPO; simp only [go_sem, seval, reduceCtorEq, rzA D, hb1, hb2, hlk])
              exact CanonE.nil
            ((try refine W.a ?_); simp only [go_sem, seval, reduceCtorEq, hw, rzA D])
            refine .inv ⟨i + 1, hlt, by omega, ?_⟩
            rw [hvt, htk]
            simp only [go_sem, seval, reduceCtorEq, List.map_append]
            (refine Lew.cutL (varB_ok D hok (varsT (varsTs n (p.l.take i)) p.l[i])) ?_ (by simp) (by simp) ?_ ?_ ?_; exact lee_here; ((try simp only [okB, wkB, go_sem, seval, reduceCtorEq, rz_len]) <;> omega); (simp only [List.length_cons, List.length_nil, Nat.reduceAdd, List.take_succ_cons, List.take_zero, wkB, and_true]; (repeat' (refine And.intro ?_ ?_)) <;> (first | exact Blk.wk.rfl _ | exact Blk.wk.gone _ | (refine Blk.wk_cells ?_ rfl; (exact wk_here)))); (repeat' (first | exact LowE.base _ | (refine LowE.put ?_ (by first | exact .c _ | ((try simp only [okB, wkB, go_sem, seval, reduceCtorEq, rz_len]) <;> omega))))))
          · have h1 : ¬ ((i : Int) < (p.l.length : Int)) := by omega
            have : p.l.take i = p.l := List.take_of_length_le (by omega)
            ((try refine W.a ?_); simp only [go_sem, seval, reduceCtorEq, h1, rzA D])
            refine W.no rfl ?_
            rw [this]
            ((try refine W.a ?_); simp only [go_sem, seval, reduceCtorEq, rzA D])
            (refine W.fg (varB_ok D hok (varsTs n p.l)) (d := .agg [I 2, S [], I 0, .c (.sl ((p.l.map noneT).map Typ.cs))]) (by simp only [r66, go_sem, seval, reduceCtorEq]; rfl) (by simp only [resV, go_sem, seval, reduceCtorEq]; exact wk_here) ?_)
            exact ⟨rfl, rfl⟩
theorem ty_Vars (w0 : World) (p : Typ) (hb : sizeT p ≤ 1000000) (σ : H) : DC Tryz.prog w0 54 [p.v] σ (Same (I (varsT 0 p)) σ) := by
  refine k54.go rfl (fun hok hsz => ?_)
  have hr : ∀ m : Int, rz (σ ++ [.cells p.v.cellsV, varB 0]) (σ.length + 1) (varB m) = σ ++ [.cells p.v.cellsV, varB m] := fun m => by
    unfold rz
    rw [List.set_append_right _ _ (by omega)]
    simp [Nat.add_sub_cancel_left]
  have hc := ty_replaceV w0 p hb 0 (σ ++ [.cells p.v.cellsV, varB 0]) (σ.length + 1) (by simp)
  rw [hr, hr] at hc
  ((try refine W.a ?_); simp only [go_sem, seval, reduceCtorEq, c54])
  (refine W.c1 (hc) ?_; simp only [go_sem, seval, reduceCtorEq])
  (refine W.fs (hok) (by simp only [r54, go_sem, seval, reduceCtorEq]; rfl) ?_; simp only [resV]; try exact V.wk.rfl _)
end
section

/-- A function that hands back types, and turns its own blocks only. -/
structure Repl {α : Type} (w0 : World) (g : α → Int → Typ × α) (F : V) (τ : α → H) (N : Nat) : Prop where
  len : ∀ s, (τ s).length = N
  ok : ∀ s s' L, H.ok (τ s ++ L) → H.ok (τ s' ++ L)
  low : V.low N F
  call : ∃ f caps, F = .fn f caps ∧ ∀ L s v, DC Tryz.prog w0 f (I v :: caps) (τ s ++ L) (Same (g s v).1.v (τ (g s v).2 ++ L))
theorem Repl.more {α : Type} {w0 : World} {g : α → Int → Typ × α} {F : V} {τ : α → H} {N : Nat} (h : Repl w0 g F τ N) (M : H) : Repl w0 g F (fun s => τ s ++ M) (N + M.length) := by
  obtain ⟨f, caps, hF, hc⟩ := h.call
  refine ⟨fun s => by simp [h.len], fun s s' L hk => ?_, V.low_mono (Nat.le_add_right _ _) h.low, f, caps, hF, fun L s v => ?_⟩
  · simp only [List.append_assoc] at hk ⊢
    exact h.ok s s' _ hk
  · simp only [List.append_assoc]
    exact hc (M ++ L) s v
section
variable {τ : Nat → H}
theorem at_g0 {σ : H} {N : Nat} (h : σ.length = N) (x : Blk) (L : H) : (σ ++ x :: L)[N]? = some x := by subst h; exact hget0 σ (x :: L)
theorem at_g {σ : H} {N : Nat} (h : σ.length = N) (k : Nat) (L : H) : (σ ++ L)[N + k]? = L[k]? := by subst h; exact hget σ L k
theorem at_s0 {σ : H} {N : Nat} (h : σ.length = N) (x : Blk) (L : H) : (σ ++ L).set N x = σ ++ L.set 0 x := by subst h; exact hset0 σ L x
theorem at_s {σ : H} {N : Nat} (h : σ.length = N) (k : Nat) (x : Blk) (L : H) : (σ ++ L).set (N + k) x = σ ++ L.set k x := by subst h; exact hset σ L k x
end
attribute [local go_sem] Typ.v Typ.cs_eq tk_mk tname_mk tn_mk tl_mk tysC
theorem ty_replaceG {α : Type} (w0 : World) (g : α → Int → Typ × α) (F : V) (p : Typ) : nodesT p ≤ 1000000 → ∀ (τ : α → H) (N : Nat), Repl w0 g F τ N → ∀ s, DC Tryz.prog w0 66 [p.v, F] (τ s) (Same (subS g s p).1.v (τ (subS g s p).2)) := by
  refine Typ.ind (P := fun p => nodesT p ≤ 1000000 → ∀ (τ : α → H) (N : Nat), Repl w0 g F τ N → ∀ s, DC Tryz.prog w0 66 [p.v, F] (τ s) (Same (subS g s p).1.v (τ (subS g s p).2))) (fun p ih hb τ N hR s => ?_) p
  refine k66.go rfl (fun hok hsz => ?_)
  have hlen := typ_len hsz (List.mem_cons_self ..)
  have hl0 := hR.len
  have tg0 : ∀ s x L, (τ s ++ x :: L)[N]? = some x := fun s => at_g0 (hl0 s)
  have tg : ∀ s k L, (τ s ++ L)[N + k]? = L[k]? := fun s => at_g (hl0 s)
  have ts0 : ∀ s x L, (τ s ++ L).set N x = τ s ++ L.set 0 x := fun s => at_s0 (hl0 s)
  have ts : ∀ s k x L, (τ s ++ L).set (N + k) x = τ s ++ L.set k x := fun s => at_s (hl0 s)
  have hok1 : ∀ s', H.ok (τ s') := fun s' => by
    have := hR.ok s s' [] (by rw [List.append_nil]; exact hok)
    rwa [List.append_nil] at this
  have hlowF : ∀ k, V.low (N + k) F := fun k => V.low_mono (Nat.le_add_right _ _) hR.low
  rw [subS_eq, hl0 s]
  by_cases hk : p.k = 1
  · have n1 : (p.k == 1) = true := by simpa using hk
    rw [if_pos hk]
    obtain ⟨f, caps, hF, hc⟩ := hR.call
    ((try refine W.a ?_); simp only [go_sem, seval, reduceCtorEq, c66, n1, hl0, tg0, tg, ts0, ts])
    refine W.yes rfl ?_
    ((try refine W.a ?_); simp only [go_sem, seval, reduceCtorEq, hl0, tg0, tg, ts0, ts])
    refine W.c1 (hc _ s p.n) ?_ (hf := hF)
    simp only [go_sem, seval, reduceCtorEq, hl0, tg0, tg, ts0, ts]
    (refine W.fg (hok1 _) (d := (g s p.n).1.v) (by simp only [r66, go_sem, seval, reduceCtorEq, tg0, tg]; rfl) (by simp only [resV, go_sem, seval, reduceCtorEq, tg0, tg]; exact wk_here) ?_ (hl := by (first | exact .c _ | (simp only [go_sem, seval, reduceCtorEq, tg0, tg]; done))) (hn := hl0 _))
    exact ⟨rfl, rfl⟩
  · have n1 : (p.k == 1) = false := by simpa using hk
    rw [if_neg hk]
    ((try refine W.a ?_); simp only [go_sem, seval, reduceCtorEq, c66, n1, hl0, tg0, tg, ts0, ts])
    refine W.no rfl ?_
    ((try refine W.a ?_); simp only [go_sem, seval, reduceCtorEq, hl0, tg0, tg, ts0, ts])
    have hls := len_nodes p.l
    have hbs := nodesT_eq p
    cases hA : arrowT p
    · (refine W.c1 (ty_arrow w0 p _) ?_; simp only [go_sem, seval, reduceCtorEq, hA, hl0, tg0, tg, ts0, ts])
      refine W.no rfl ?_
      ((try refine W.a ?_); simp only [go_sem, seval, reduceCtorEq, hl0, tg0, tg, ts0, ts])
      refine W.ownCell (N + 2) 3 32 4 (cs := [I 0, S p.name, I 0, .csl []]) (tg := none) ?_ rfl ?_
      · simp only [tg, List.getElem?_cons_succ, List.getElem?_cons_zero, I, S]
      · ((try refine W.a ?_); simp only [go_sem, seval, reduceCtorEq, hl0, tg0, tg, ts0, ts])
        refine W.loopP (fun i => i ≤ p.l.length) (fun i => ⟨((((((base.put (some 1) (F)).put (some 4) (.ptr (N + 1) 0)).put (some 5) (.ptr (N + 2) 0)).put (some 22) (.c (tysC p.l))).put (some 23) (I p.l.length)).put (some 24) (I i)), τ (subSs g s (p.l.take i)).2 ++ [.cells p.v.cellsV, .cells [I 0, S [], I 0, .csl []], .cells [I 0, S p.name, I 0, .osl (N + 3) ((subSs g s (p.l.take i)).1.map Typ.cs)], .spare 32 4 i]⟩) (fun i => p.l.length - i) 0 (Nat.zero_le _) ?_ (fun i hi => ?_)
        · simp only [go_sem, seval, reduceCtorEq, List.take_zero, subSs]
          (refine Lew.env ?_; exact lee_here)
        · by_cases hlt : i < p.l.length
          · have h1 : ((i : Int) < (p.l.length : Int)) := by omega
            have hx : p.l[i]? = some p.l[i] := List.getElem?_eq_getElem hlt
            have hw := wrap_next hlt hlen
            have htk := subSs_take g s hlt
            have hb1 : (i + 1) * 56 ≤ 140737488355328 := by omega
            have hb2 : i + 1 ≤ 140737488355328 := by omega
            have hlk : (subSs g s (p.l.take i)).1.length = i := by rw [subSs_len, List.length_take]; omega
            have hsz' : nodesT p.l[i] ≤ 1000000 := by have := nodes_of (List.getElem_mem hlt); omega
            have hc := ih p.l[i] (List.getElem_mem hlt) hsz'
            generalize subSs g s (p.l.take i) = acc at htk hlk
            obtain ⟨ac, st⟩ := acc
            simp only at htk hlk
            generalize p.l[i] = x at *
            ((try refine W.a ?_); simp only [go_sem, seval, reduceCtorEq, h1, hl0, tg0, tg, ts0, ts])
            refine W.yes rfl ?_
            ((try refine W.a ?_); simp only [go_sem, seval, reduceCtorEq, h1, nat0, hx, hl0, tg0, tg, ts0, ts])
            apply W.dregE (List.cons_ne_nil _ _)
            case hc =>
              (apply CanonE.advPO; simp only [go_sem, seval, reduceCtorEq, hl0, tg0, tg, ts0, ts])
              (apply CanonE.call (hc (fun s => τ s ++ _) _ (hR.more _) st); (case hg => rfl); (case hf => rfl); (case ha => first | rfl | simp))
              (apply CanonE.advPO; simp only [go_sem, seval, reduceCtorEq, hl0, tg0, tg, ts0, ts, hb1, hb2, hlk])
              exact CanonE.nil
            ((try refine W.a ?_); simp only [go_sem, seval, reduceCtorEq, hw, hl0, tg0, tg, ts0, ts])
            refine .inv ⟨i + 1, hlt, by omega, ?_⟩
            rw [htk]
            simp only [go_sem, seval, reduceCtorEq, List.map_append]
            (refine Lew.cutL (hok1 _) ?_ (by rw [hl0]; simp) (by simp) ?_ ?_ ?_; exact lee_here; ((try simp only [okB, wkB, go_sem, seval, reduceCtorEq, hl0, hlowF]) <;> omega); (simp only [List.length_cons, List.length_nil, Nat.reduceAdd, List.take_succ_cons, List.take_zero, wkB, and_true]; (repeat' (refine And.intro ?_ ?_)) <;> (first | exact Blk.wk.rfl _ | exact Blk.wk.gone _ | (refine Blk.wk_cells ?_ rfl; (exact wk_here)))); (repeat' (first | exact LowE.base _ | (refine LowE.put ?_ (by first | exact .c _ | ((try simp only [okB, wkB, go_sem, seval, reduceCtorEq, hl0, hlowF]) <;> omega))))))
          · have h1 : ¬ ((i : Int) < (p.l.length : Int)) := by omega
            have : p.l.take i = p.l := List.take_of_length_le (by omega)
            ((try refine W.a ?_); simp only [go_sem, seval, reduceCtorEq, h1, hl0, tg0, tg, ts0, ts])
            refine W.no rfl ?_
            rw [this]
            ((try refine W.a ?_); simp only [go_sem, seval, reduceCtorEq, hl0, tg0, tg, ts0, ts])
            (refine W.fg (hok1 _) (d := .agg [I 0, S p.name, I 0, .c (.sl ((subSs g s p.l).1.map Typ.cs))]) (by simp only [r66, go_sem, seval, reduceCtorEq, tg0, tg]; rfl) (by simp only [resV, go_sem, seval, reduceCtorEq, tg0, tg]; exact wk_here) ?_ (hl := by (first | exact .c _ | (simp only [go_sem, seval, reduceCtorEq, tg0, tg]; done))) (hn := hl0 _))
            exact ⟨rfl, rfl⟩
    · (refine W.c1 (ty_arrow w0 p _) ?_; simp only [go_sem, seval, reduceCtorEq, hA, hl0, tg0, tg, ts0, ts])
      refine W.yes rfl ?_
      ((try refine W.a ?_); simp only [go_sem, seval, reduceCtorEq, hl0, tg0, tg, ts0, ts])
      refine W.ownCell (N + 2) 3 32 4 (cs := [I 2, S [], I 0, .csl []]) (tg := none) ?_ rfl ?_
      · simp only [tg, List.getElem?_cons_succ, List.getElem?_cons_zero, I, S]
      · ((try refine W.a ?_); simp only [go_sem, seval, reduceCtorEq, hl0, tg0, tg, ts0, ts])
        refine W.loopP (fun i => i ≤ p.l.length) (fun i => ⟨((((((base.put (some 1) (F)).put (some 4) (.ptr (N + 1) 0)).put (some 5) (.ptr (N + 2) 0)).put (some 22) (.c (tysC p.l))).put (some 23) (I p.l.length)).put (some 24) (I i)), τ (subSs g s (p.l.take i)).2 ++ [.cells p.v.cellsV, .cells [I 0, S [], I 0, .csl []], .cells [I 2, S [], I 0, .osl (N + 3) ((subSs g s (p.l.take i)).1.map Typ.cs)], .spare 32 4 i]⟩) (fun i => p.l.length - i) 0 (Nat.zero_le _) ?_ (fun i hi => ?_)
        · simp only [go_sem, seval, reduceCtorEq, List.take_zero, subSs]
          (refine Lew.env ?_; exact lee_here)
        · by_cases hlt : i < p.l.length
          · have h1 : ((i : Int) < (p.l.length : Int)) := by omega
            have hx : p.l[i]? = some p.l[i] := List.getElem?_eq_getElem hlt
            have hw := wrap_next hlt hlen
            have htk := subSs_take g s hlt
            have hb1 : (i + 1) * 56 ≤ 140737488355328 := by omega
            have hb2 : i + 1 ≤ 140737488355328 := by omega
            have hlk : (subSs g s (p.l.take i)).1.length = i := by rw [subSs_len, List.length_take]; omega
            have hsz' : nodesT p.l[i] ≤ 1000000 := by have := nodes_of (List.getElem_mem hlt); omega
            have hc := ih p.l[i] (List.getElem_mem hlt) hsz'
            generalize subSs g s (p.l.take i) = acc at htk hlk
            obtain ⟨ac, st⟩ := acc
            simp only at htk hlk
            generalize p.l[i] = x at *
            ((try refine W.a ?_); simp only [go_sem, seval, reduceCtorEq, h1, hl0, tg0, tg, ts0, ts])
            refine W.yes rfl ?_
            ((try refine W.a ?_); simp only [go_sem, seval, reduceCtorEq, h1, nat0, hx, hl0, tg0, tg, ts0, ts])
            apply W.dregE (List.cons_ne_nil _ _)
            case hc =>
              (apply CanonE.advPO; simp only [go_sem, seval, reduceCtorEq, hl0, tg0, tg, ts0, ts])
              (apply CanonE.call (hc (fun s => τ s ++ _) _ (hR.more _) st); (case hg => rfl); (case hf => rfl); (case ha => first | rfl | simp))
              (apply CanonE.advPO; simp only [go_sem, seval, reduceCtorEq, hl0, tg0, tg, ts0, ts, hb1, hb2, hlk])
              exact CanonE.nil
            ((try refine W.a ?_); simp only [go_sem, seval, reduceCtorEq, hw, hl0, tg0, tg, ts0, ts])
            refine .inv ⟨i + 1, hlt, by omega, ?_⟩
            rw [htk]
            simp only [go_sem, seval, reduceCtorEq, List.map_append]
            (refine Lew.cutL (hok1 _) ?_ (by rw [hl0]; simp) (by simp) ?_ ?_ ?_; exact lee_here; ((try simp only [okB, wkB, go_sem, seval, reduceCtorEq, hl0, hlowF]) <;> omega); (simp only [List.length_cons, List.length_nil, Nat.reduceAdd, List.take_succ_cons, List.take_zero, wkB, and_true]; (repeat' (refine And.intro ?_ ?_)) <;> (first | exact Blk.wk.rfl _ | exact Blk.wk.gone _ | (refine Blk.wk_cells ?_ rfl; (exact wk_here)))); (repeat' (first | exact LowE.base _ | (refine LowE.put ?_ (by first | exact .c _ | ((try simp only [okB, wkB, go_sem, seval, reduceCtorEq, hl0, hlowF]) <;> omega))))))
          · have h1 : ¬ ((i : Int) < (p.l.length : Int)) := by omega
            have : p.l.take i = p.l := List.take_of_length_le (by omega)
            ((try refine W.a ?_); simp only [go_sem, seval, reduceCtorEq, h1, hl0, tg0, tg, ts0, ts])
            refine W.no rfl ?_
            rw [this]
            ((try refine W.a ?_); simp only [go_sem, seval, reduceCtorEq, hl0, tg0, tg, ts0, ts])
            (refine W.fg (hok1 _) (d := .agg [I 2, S [], I 0, .c (.sl ((subSs g s p.l).1.map Typ.cs))]) (by simp only [r66, go_sem, seval, reduceCtorEq, tg0, tg]; rfl) (by simp only [resV, go_sem, seval, reduceCtorEq, tg0, tg]; exact wk_here) ?_ (hl := by (first | exact .c _ | (simp only [go_sem, seval, reduceCtorEq, tg0, tg]; done))) (hn := hl0 _))
            exact ⟨rfl, rfl⟩
end
end Go.Proofs.YtohcnohllbjlcaaGreatDoor
namespace Go.Proofs.YtohcnohllbjlcaaGreatDoor
open Go.RowKit Go.Lamb
/-- ty.Norm -/
def c37 : AC :=
  .seq (.reg [.o 1 (.box (.t 0)), .o 2 (.box (.k (.agg [.c (.int .i64 0), .c (.str []), .c (.int .i64 0), .csl []])))])
  (.seq (.reg [.o 4 (.mkmap), .o 3 (.box (.k (.nilm))), .s 1 3 4])
  (.seq (.reg [.d 5 4 1, .o 6 (.mkfn 71 [(.t 3)]), .k 7 66 [(.t 5), (.t 6)], .s 4 2 7])
  (.ret)))
def r37 : List ResV := [.celln 4 2]
theorem k37 : CodeIs Tryz.prog 37 1 Tryz.f37 c37 r37 := ⟨by kernel_rfl, Tryz.func37, rfl, by kernel_rfl, by kernel_rfl, by decide, enters_fn Tryz.func37 (by kernel_rfl) rfl⟩
/-- ty.Norm$1 -/
def c71 : AC :=
  .seq (.reg [.o 3 (.box (.k (.agg [.c (.int .i64 0), .c (.str []), .c (.int .i64 0), .csl []])))])
  (.seq (.reg [.l 7 1, .m 8 0, .o 9 (.look true (.i .i64) (.int .i64 0) (.t 7) (.t 8)), .m 6 9, .x 10 6 0, .x 11 6 1, .m 4 10, .m 5 11])
  (.seq (.seq (.reg [.m 12 5, .o 13 (.un .not (.t 12))])
  (.cond (.t 13)
  (.seq (.reg [.l 14 1, .o 15 (.lenm (.t 14)), .m 4 15])
  (.reg [.l 16 1, .m 17 0, .m 18 4, ⟨none, .mupd (.i .i64) (.t 16) (.t 17) (.t 18), none⟩]))
  (.skip)))
  (.seq (.reg [.m 19 4, .k 20 68 [(.t 19)], .s 4 3 20])
  (.ret))))
def r71 : List ResV := [.celln 4 3]
theorem k71 : CodeIs Tryz.prog 71 2 Tryz.f71 c71 r71 := ⟨by kernel_rfl, Tryz.func71, rfl, by kernel_rfl, by kernel_rfl, by decide, enters_fn Tryz.func71 (by kernel_rfl) rfl⟩
/-- lambentlaw05.TyBack -/
def c9 : AC :=
  .seq (.reg [.o 1 (.box (.t 0)), .o 2 (.mov (.k (.c (.bool false))))])
  (.seq (.reg [.k 16 24 [], .m 3 16])
  (.seq (.seq (.reg [.m 17 3, .o 18 (.un .not (.t 17))])
  (.cond (.t 18)
  (.seq (.reg [.o 2 (.mov (.k (.c (.bool false))))])
  (.ret))
  (.skip)))
  (.seq (.reg [.d 19 4 1, .k 20 27 [(.t 19)], .m 4 20])
  (.seq (.seq (.reg [.m 21 4])
  (.cond (.t 21)
  (.seq (.reg [.m 22 3, .m 2 22])
  (.ret))
  (.skip)))
  (.seq (.reg [.d 23 4 1, .k 24 28 [(.t 23)], .m 5 24])
  (.seq (.seq (.reg [.m 25 5, .o 26 (.un .not (.t 25))])
  (.cond (.t 26)
  (.seq (.reg [.m 27 3, .m 2 27])
  (.ret))
  (.skip)))
  (.seq (.reg [.d 28 4 1, .k 29 37 [(.t 28)], .o 6 (.box (.k (.agg [.c (.int .i64 0), .c (.str []), .c (.int .i64 0), .csl []]))), .s 4 6 29])
  (.seq (.reg [.d 31 4 1, .k 32 40 [(.t 31)], .k 33 39 [(.t 32)], .m 30 33, .x 34 30 0, .x 35 30 1, .x 36 30 2, .m 7 34, .m 8 35, .m 9 36])
  (.seq (.seq (.reg [.m 37 8, .o 38 (.bin .neq (.t 37) (.k (.c (.int .i64 0))))])
  (.cond (.t 38)
  (.seq (.reg [.o 2 (.mov (.k (.c (.bool false))))])
  (.ret))
  (.skip)))
  (.seq (.reg [.m 40 7, .k 41 25 [(.t 40), (.k (.c (.int .i64 0)))], .m 39 41, .x 42 39 0, .x 43 39 1, .x 44 39 2, .x 45 39 3, .o 10 (.box (.k (.agg [.c (.int .i64 0), .c (.str []), .c (.int .i64 0), .csl []]))), .s 4 10 42, .m 11 43, .m 12 44, .m 13 45])
  (.seq (.reg [.d 46 4 10, .d 47 4 6, .k 48 31 [(.t 46), (.t 47)], .m 14 48])
  (.seq (.dreg [.d 49 4 6, .k 50 37 [(.t 49)], .d 51 4 6, .k 52 31 [(.t 50), (.t 51)], .m 15 52]
    [.q (.d 49 4 6), ⟨.k 50 37 [(.t 49)], true, 0⟩, .q (.d 51 4 6), ⟨.k 52 31 [(.t 50), (.t 51)], true, 1⟩, ⟨.m 15 52, false, 2⟩])
  (.seq (.reg [.m 53 3, .m 54 53, .y 55 (.mov (.t 14)) 54, .o 56 (.pick (.t 54) (.t 55) (.k (.c (.bool false)))), .m 57 56, .y 58 (.mov (.t 15)) 57, .o 59 (.pick (.t 57) (.t 58) (.k (.c (.bool false)))), .m 60 59, .y 61 (.mov (.t 11)) 60, .y 62 (.mov (.t 7)) 60, .y 63 (.lenr (.t 62)) 60, .y 64 (.bin .sub (.t 63) (.k (.c (.int .i64 1)))) 60, .y 65 (.bin .eql (.t 61) (.t 64)) 60, .o 66 (.pick (.t 60) (.t 65) (.k (.c (.bool false)))), .m 67 66, .y 68 (.mov (.t 12)) 67, .y 69 (.bin .eql (.t 68) (.k (.c (.int .i64 0)))) 67, .o 70 (.pick (.t 67) (.t 69) (.k (.c (.bool false)))), .m 2 70])
  (.ret))))))))))))))
def r9 : List ResV := [.tmp 2]
theorem k9 : CodeIs Tryz.prog 9 1 Tryz.f9 c9 r9 := ⟨by kernel_rfl, Tryz.func9, rfl, by kernel_rfl, by kernel_rfl, by decide, enters_fn Tryz.func9 (by kernel_rfl) rfl⟩
end Go.Proofs.YtohcnohllbjlcaaGreatDoor
