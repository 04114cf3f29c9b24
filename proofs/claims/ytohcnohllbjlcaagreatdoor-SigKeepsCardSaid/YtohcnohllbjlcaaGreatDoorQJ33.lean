/-
  The code of some functions, without addresses.
  The code of some functions, without addresses.
  The code of some functions, without addresses.
  The code of some functions, without addresses.
  The code of some functions, without addresses.
  Walks: operators are found by their names.
  The code of some functions, without addresses.
  Walks: the reader's small functions.
  Walks: the type reader's small functions.
  Walks: a type one deeper; an atom.
  Walks: a type: what is behind its first part.
  Walks: ty.Read.
  The code of some functions, without addresses.
  Walks: operators are declared.
  Walks: when types are the same, which may be; what a type takes; how many types and variables there are in one.
  Walks: the source reader's small functions.
  Walks: names, and how many arrows there are.
  Walks: the reader's small functions, more of them.
  Walks: what an operator makes of two trees.
  Walks: an expression one deeper; brackets; an atom.
  Walks: brackets.
  Walks: an atom.
  Walks: atoms, applied.
  Walks: an expression.
  Walks: Read.
  Walks: sentences, each kind of them.
  Walks: sentences with types, operators, clauses.
  Walks: operators' sentences.
  Walks: a sentence.
  The code of some functions, without addresses.
  Walks: the first operators.
  Walks: rows of operators, one behind the other.
  Walks: the first operators, all of them.
  Walks: source.Read, source.Query.
  Walks: source.Query.
  The code of some functions, without addresses.
  Walks: a tree is the same as itself.
  Walks: the document's examples of sentences; which operators are the same.
  The code of some functions, without addresses.
  The code of some functions, without addresses.
  The code of some functions, without addresses.
  Walks: the document's reader, its small functions.
  Walks: the document's type reader, its small functions.
  Walks: the document's type reader: an atom.
  Walks: the document's type reader: a type; its Read.
-/
import Derived.Test.YtohcnohllbjlcaaGreatDoorChecked
import Derived.Test.YtohcnohllbjlcaaGreatDoorQJ13
import Derived.Test.YtohcnohllbjlcaaGreatDoorQJ11
import Derived.Test.YtohcnohllbjlcaaGreatDoorQTyA2
import Derived.Test.YtohcnohllbjlcaaGreatDoorQLexC
import Derived.Test.YtohcnohllbjlcaaGreatDoorQGrow
import Derived.Test.YtohcnohllbjlcaaGreatDoorQLxD
import Derived.Test.YtohcnohllbjlcaaGreatDoorQLexGl
import Derived.Test.YtohcnohllbjlcaaGreatDoorQLexBk
set_option linter.unusedSimpArgs false
set_option linter.unusedVariables false
set_option maxHeartbeats 8000000
set_option maxRecDepth 20000
namespace Go.Proofs.YtohcnohllbjlcaaGreatDoor
open Go.RowKit Go.Lamb
/-- sig.first[api.Kinded] -/
def c50 : AC :=
  .seq (.reg [.o 4 (.box (.k (.agg [.c (.str []), .c (.int .i64 0)]))), .o 5 (.mov (.k (.c (.bool false))))])
  (.seq (.seq (.reg [.m 9 0, .o 10 (.lenr (.t 9)), .o 11 (.mov (.k (.c (.int .i64 0))))])
  (.block 0 (.loop (.seq (.reg [.o 12 (.bin .lss (.t 11) (.t 10))])
  (.seq (.cond (.t 12)
  (.skip)
  (.exit 0))
  (.seq (.block 1 (.seq (.reg [.o 13 (.iadd 2 (.t 9) (.t 11)), .d 14 2 13, .o 7 (.box (.k (.agg [.c (.str []), .c (.int .i64 0)]))), .s 2 7 14])
  (.seq (.reg [.m 15 1, .d 16 2 7, .o 17 (.call (.t 15) [(.t 16)])])
  (.cond (.t 17)
  (.seq (.reg [.d 18 2 7, .s 2 4 18, .o 5 (.mov (.k (.c (.bool true))))])
  (.ret))
  (.skip)))))
  (.reg [.o 19 (.bin .add (.t 11) (.k (.c (.int .i64 1)))), .m 11 19])))))))
  (.seq (.reg [.o 8 (.box (.k (.agg [.c (.str []), .c (.int .i64 0)])))])
  (.seq (.reg [.d 20 2 8, .s 2 4 20, .o 5 (.mov (.k (.c (.bool false))))])
  (.ret))))
def r50 : List ResV := [.celln 2 4, .tmp 5]
theorem k50 : CodeIs Tryz.prog 50 2 Tryz.f50 c50 r50 := ⟨by kernel_rfl, Tryz.func50, rfl, by kernel_rfl, by kernel_rfl, by decide, enters_fn Tryz.func50 (by kernel_rfl) rfl⟩
/-- sig.Kind$1 -/
def c51 : AC :=
  .seq (.reg [.o 2 (.box (.t 0)), .o 3 (.mov (.k (.c (.bool false))))])
  (.seq (.reg [.f 4 0 2, .l 5 4, .l 6 1, .o 7 (.bin .eql (.t 5) (.t 6)), .m 3 7])
  (.ret))
def r51 : List ResV := [.tmp 3]
theorem k51 : CodeIs Tryz.prog 51 2 Tryz.f51 c51 r51 := ⟨by kernel_rfl, Tryz.func51, rfl, by kernel_rfl, by kernel_rfl, by decide, enters_fn Tryz.func51 (by kernel_rfl) rfl⟩
/-- sig.Kind -/
def c17 : AC :=
  .seq (.reg [.o 2 (.box (.t 0)), .o 3 (.box (.t 1)), .o 4 (.mov (.k (.c (.int .i64 0)))), .o 5 (.mov (.k (.c (.bool false))))])
  (.seq (.reg [.f 9 0 2, .l 10 9, .o 11 (.mkfn 51 [(.t 3)]), .k 12 50 [(.t 10), (.t 11)], .m 8 12, .x 13 8 0, .x 14 8 1, .o 6 (.box (.k (.agg [.c (.str []), .c (.int .i64 0)]))), .s 2 6 13, .m 7 14])
  (.seq (.reg [.f 15 1 6, .l 16 15, .m 17 7, .m 4 16, .m 5 17])
  (.ret)))
def r17 : List ResV := [.tmp 4, .tmp 5]
theorem k17 : CodeIs Tryz.prog 17 2 Tryz.f17 c17 r17 := ⟨by kernel_rfl, Tryz.func17, rfl, by kernel_rfl, by kernel_rfl, by decide, enters_fn Tryz.func17 (by kernel_rfl) rfl⟩
/-- sig.first[api.Named] -/
def c52 : AC :=
  .seq (.reg [.o 4 (.box (.k (.agg [.c (.str []), .c (.int .i64 0), .c (.str []), .c (.int .i64 0), .csl []]))), .o 5 (.mov (.k (.c (.bool false))))])
  (.seq (.seq (.reg [.m 9 0, .o 10 (.lenr (.t 9)), .o 11 (.mov (.k (.c (.int .i64 0))))])
  (.block 0 (.loop (.seq (.reg [.o 12 (.bin .lss (.t 11) (.t 10))])
  (.seq (.cond (.t 12)
  (.skip)
  (.exit 0))
  (.seq (.block 1 (.seq (.reg [.o 13 (.iadd 5 (.t 9) (.t 11)), .d 14 5 13, .o 7 (.box (.k (.agg [.c (.str []), .c (.int .i64 0), .c (.str []), .c (.int .i64 0), .csl []]))), .s 5 7 14])
  (.seq (.reg [.m 15 1, .d 16 5 7, .o 17 (.call (.t 15) [(.t 16)])])
  (.cond (.t 17)
  (.seq (.reg [.d 18 5 7, .s 5 4 18, .o 5 (.mov (.k (.c (.bool true))))])
  (.ret))
  (.skip)))))
  (.reg [.o 19 (.bin .add (.t 11) (.k (.c (.int .i64 1)))), .m 11 19])))))))
  (.seq (.reg [.o 8 (.box (.k (.agg [.c (.str []), .c (.int .i64 0), .c (.str []), .c (.int .i64 0), .csl []])))])
  (.seq (.reg [.d 20 5 8, .s 5 4 20, .o 5 (.mov (.k (.c (.bool false))))])
  (.ret))))
def r52 : List ResV := [.celln 5 4, .tmp 5]
theorem k52 : CodeIs Tryz.prog 52 2 Tryz.f52 c52 r52 := ⟨by kernel_rfl, Tryz.func52, rfl, by kernel_rfl, by kernel_rfl, by decide, enters_fn Tryz.func52 (by kernel_rfl) rfl⟩
/-- sig.Find$1 -/
def c53 : AC :=
  .seq (.reg [.o 2 (.box (.t 0)), .o 3 (.mov (.k (.c (.bool false))))])
  (.seq (.reg [.f 4 0 2, .l 5 4, .l 6 1, .o 7 (.bin .eql (.t 5) (.t 6)), .m 3 7])
  (.ret))
def r53 : List ResV := [.tmp 3]
theorem k53 : CodeIs Tryz.prog 53 2 Tryz.f53 c53 r53 := ⟨by kernel_rfl, Tryz.func53, rfl, by kernel_rfl, by kernel_rfl, by decide, enters_fn Tryz.func53 (by kernel_rfl) rfl⟩
/-- sig.Find -/
def c19 : AC :=
  .seq (.reg [.o 2 (.box (.t 0)), .o 3 (.box (.t 1)), .o 4 (.box (.k (.agg [.c (.int .i64 0), .c (.str []), .c (.int .i64 0), .csl []]))), .o 5 (.mov (.k (.c (.bool false))))])
  (.seq (.reg [.f 9 1 2, .l 10 9, .o 11 (.mkfn 53 [(.t 3)]), .k 12 52 [(.t 10), (.t 11)], .m 8 12, .x 13 8 0, .x 14 8 1, .o 6 (.box (.k (.agg [.c (.str []), .c (.int .i64 0), .c (.str []), .c (.int .i64 0), .csl []]))), .s 5 6 13, .m 7 14])
  (.seq (.reg [.f 15 1 6, .d 16 4 15, .m 17 7, .s 4 4 16, .m 5 17])
  (.ret)))
def r19 : List ResV := [.celln 4 4, .tmp 5]
theorem k19 : CodeIs Tryz.prog 19 2 Tryz.f19 c19 r19 := ⟨by kernel_rfl, Tryz.func19, rfl, by kernel_rfl, by kernel_rfl, by decide, enters_fn Tryz.func19 (by kernel_rfl) rfl⟩
/-- sig.Logical -/
def c22 : AC :=
  .seq (.reg [.o 2 (.mov (.k (.c (.bool false))))])
  (.seq (.seq (.reg [.m 3 0])
  (.block 0 (.seq (.seq (.reg [.o 5 (.bin .eql (.t 3) (.k (.c (.str [58, 45])))), .m 4 5])
  (.cond (.t 4)
  (.skip)
  (.seq (.reg [.o 6 (.bin .eql (.t 3) (.k (.c (.str [44])))), .m 4 6])
  (.cond (.t 4)
  (.skip)
  (.seq (.reg [.o 7 (.bin .eql (.t 3) (.k (.c (.str [59])))), .m 4 7])
  (.cond (.t 4)
  (.skip)
  (.seq (.reg [.o 8 (.bin .eql (.t 3) (.k (.c (.str [61, 62])))), .m 4 8])
  (.cond (.t 4)
  (.skip)
  (.seq (.reg [.o 9 (.bin .eql (.t 3) (.k (.c (.str [61])))), .m 4 9])
  (.cond (.t 4)
  (.skip)
  (.seq (.reg [.o 10 (.bin .eql (.t 3) (.k (.c (.str [105, 115])))), .m 4 10])
  (.cond (.t 4)
  (.skip)
  (.seq (.reg [.o 11 (.bin .eql (.t 3) (.k (.c (.str [60])))), .m 4 11])
  (.cond (.t 4)
  (.skip)
  (.seq (.reg [.o 12 (.bin .eql (.t 3) (.k (.c (.str [61, 60])))), .m 4 12])
  (.cond (.t 4)
  (.skip)
  (.seq (.reg [.o 13 (.bin .eql (.t 3) (.k (.c (.str [62])))), .m 4 13])
  (.cond (.t 4)
  (.skip)
  (.seq (.reg [.o 14 (.bin .eql (.t 3) (.k (.c (.str [62, 61])))), .m 4 14])
  (.cond (.t 4)
  (.skip)
  (.seq (.reg [.o 15 (.bin .eql (.t 3) (.k (.c (.str [116, 114, 117, 101])))), .m 4 15])
  (.cond (.t 4)
  (.skip)
  (.seq (.reg [.o 16 (.bin .eql (.t 3) (.k (.c (.str [102, 97, 105, 108])))), .m 4 16])
  (.cond (.t 4)
  (.skip)
  (.seq (.reg [.o 17 (.bin .eql (.t 3) (.k (.c (.str [33])))), .m 4 17])
  (.cond (.t 4)
  (.skip)
  (.seq (.reg [.o 18 (.bin .eql (.t 3) (.k (.c (.str [112, 105])))), .m 4 18])
  (.cond (.t 4)
  (.skip)
  (.reg [.o 19 (.bin .eql (.t 3) (.k (.c (.str [115, 105, 103, 109, 97])))), .m 4 19])))))))))))))))))))))))))))))
  (.cond (.t 4)
  (.seq (.reg [.o 2 (.mov (.k (.c (.bool true))))])
  (.ret))
  (.skip)))))
  (.seq (.reg [.o 2 (.mov (.k (.c (.bool false))))])
  (.ret)))
def r22 : List ResV := [.tmp 2]
theorem k22 : CodeIs Tryz.prog 22 1 Tryz.f22 c22 r22 := ⟨by kernel_rfl, Tryz.func22, rfl, by kernel_rfl, by kernel_rfl, by decide, enters_fn Tryz.func22 (by kernel_rfl) rfl⟩
/-- sig.known -/
def c47 : AC :=
  .seq (.reg [.o 2 (.box (.t 0)), .o 3 (.box (.t 1)), .o 4 (.mov (.k (.c (.bool false))))])
  (.seq (.seq (.reg [.d 8 3 2, .f 9 1 3, .l 10 9, .k 11 17 [(.t 8), (.t 10)], .m 7 11, .x 12 7 0, .x 13 7 1, .m 5 12, .m 6 13])
  (.seq (.reg [.f 14 0 3, .l 15 14, .o 16 (.bin .eql (.t 15) (.k (.c (.int .i64 0)))), .m 17 16, .y 18 (.mov (.t 6)) 17, .y 19 (.un .not (.t 18)) 17, .y 20 (.mov (.t 19)) 17, .z 21 (.mov (.t 5)) 20, .z 22 (.fadd 3 (.t 3)) 20, .z 23 (.load1 (.t 22)) 20, .z 24 (.lenr (.t 23)) 20, .z 25 (.bin .neq (.t 21) (.t 24)) 20, .y 26 (.pick (.t 20) (.k (.c (.bool true))) (.t 25)) 17, .o 27 (.pick (.t 17) (.t 26) (.k (.c (.bool false))))])
  (.cond (.t 27)
  (.seq (.reg [.o 4 (.mov (.k (.c (.bool false))))])
  (.ret))
  (.skip))))
  (.seq (.reg [.f 28 3 3, .l 29 28, .o 30 (.mkfn 98 [(.t 2)]), .k 31 61 [(.t 29), (.t 30)], .o 32 (.un .not (.t 31)), .m 4 32])
  (.ret)))
def r47 : List ResV := [.tmp 4]
theorem k47 : CodeIs Tryz.prog 47 2 Tryz.f47 c47 r47 := ⟨by kernel_rfl, Tryz.func47, rfl, by kernel_rfl, by kernel_rfl, by decide, enters_fn Tryz.func47 (by kernel_rfl) rfl⟩
/-- sig.known$1 -/
def c98 : AC :=
  .seq (.reg [.o 2 (.box (.t 0)), .o 3 (.mov (.k (.c (.bool false))))])
  (.seq (.reg [.d 4 3 1, .d 5 4 2, .k 6 47 [(.t 4), (.t 5)], .o 7 (.un .not (.t 6)), .m 3 7])
  (.ret))
def r98 : List ResV := [.tmp 3]
theorem k98 : CodeIs Tryz.prog 98 2 Tryz.f98 c98 r98 := ⟨by kernel_rfl, Tryz.func98, rfl, by kernel_rfl, by kernel_rfl, by decide, enters_fn Tryz.func98 (by kernel_rfl) rfl⟩
/-- sig.Fits -/
def c15 : AC :=
  .seq (.reg [.o 2 (.box (.t 0)), .o 3 (.box (.t 1)), .o 4 (.mov (.k (.c (.bool false))))])
  (.seq (.reg [.d 5 4 3, .k 6 28 [(.t 5)], .m 7 6, .y 8 (.loadn 3 (.t 2)) 7, .y 9 (.loadn 4 (.t 3)) 7, .y 10 (.call (.k (.fn 47 [])) [(.t 8), (.t 9)]) 7, .o 11 (.pick (.t 7) (.t 10) (.k (.c (.bool false)))), .m 4 11])
  (.ret))
def r15 : List ResV := [.tmp 4]
theorem k15 : CodeIs Tryz.prog 15 2 Tryz.f15 c15 r15 := ⟨by kernel_rfl, Tryz.func15, rfl, by kernel_rfl, by kernel_rfl, by decide, enters_fn Tryz.func15 (by kernel_rfl) rfl⟩
/-- sig.may -/
def c90 : AC :=
  .seq (.reg [.o 6 (.mov (.k (.c (.int .i64 0))))])
  (.seq (.block 0 (.seq (.reg [.m 8 0, .o 9 (.un .not (.t 8)), .m 7 9])
  (.cond (.t 7)
  (.seq (.reg [.o 6 (.mov (.k (.c (.int .i64 113))))])
  (.ret))
  (.seq (.reg [.m 11 1, .m 10 11])
  (.cond (.t 10)
  (.seq (.reg [.o 6 (.mov (.k (.c (.int .i64 110))))])
  (.ret))
  (.seq (.reg [.m 13 2, .o 14 (.bin .geq (.t 13) (.k (.c (.int .i64 1024)))), .m 12 14])
  (.cond (.t 12)
  (.seq (.reg [.o 6 (.mov (.k (.c (.int .i64 112))))])
  (.ret))
  (.skip))))))))
  (.seq (.reg [.o 6 (.mov (.k (.c (.int .i64 0))))])
  (.ret)))
def r90 : List ResV := [.tmp 6]
theorem k90 : CodeIs Tryz.prog 90 3 Tryz.f90 c90 r90 := ⟨by kernel_rfl, Tryz.func90, rfl, by kernel_rfl, by kernel_rfl, by decide, enters_fn Tryz.func90 (by kernel_rfl) rfl⟩
/-- sig.add -/
def c44 : AC :=
  .seq (.reg [.o 3 (.box (.t 0)), .o 4 (.box (.t 1)), .o 6 (.box (.k (.agg [.csl [], .csl [], .csl []]))), .o 7 (.mov (.k (.c (.int .i64 0))))])
  (.seq (.reg [.o 8 (.mov (.k (.c (.int .i64 0))))])
  (.seq (.seq (.reg [.f 14 0 4, .l 15 14])
  (.block 0 (.seq (.reg [.o 17 (.bin .eql (.t 15) (.k (.c (.int .i64 0)))), .m 16 17])
  (.cond (.t 16)
  (.seq (.reg [.d 19 3 3, .m 20 2, .k 21 17 [(.t 19), (.t 20)], .m 18 21, .x 22 18 0, .x 23 18 1, .m 9 22, .m 10 23])
  (.seq (.dreg [.m 24 2, .k 25 59 [(.t 24)], .m 26 25, .y 27 (.fadd 2 (.t 4)) 26, .y 28 (.load1 (.t 27)) 26, .y 29 (.bin .geq (.t 28) (.k (.c (.int .i64 0)))) 26, .o 30 (.pick (.t 26) (.t 29) (.k (.c (.bool false)))), .m 31 10, .f 32 0 3, .l 33 32, .o 34 (.lenr (.t 33)), .k 35 90 [(.t 30), (.t 31), (.t 34)], .m 8 35]
    [.q (.m 24 2), ⟨.k 25 59 [(.t 24)], true, 0⟩, ⟨.m 26 25, false, 1⟩, ⟨.y 27 (.fadd 2 (.t 4)) 26, false, 1⟩, ⟨.y 28 (.load1 (.t 27)) 26, false, 1⟩, ⟨.y 29 (.bin .geq (.t 28) (.k (.c (.int .i64 0)))) 26, false, 1⟩, ⟨.o 30 (.pick (.t 26) (.t 29) (.k (.c (.bool false)))), false, 1⟩, .q (.m 31 10), .q (.f 32 0 3), .q (.l 33 32), .q (.o 34 (.lenr (.t 33))), ⟨.k 35 90 [(.t 30), (.t 31), (.t 34)], true, 1⟩, ⟨.m 8 35, false, 2⟩])
  (.dreg [.f 36 0 3, .l 37 36, .k 38 91 [(.t 37)], .m 39 2, .f 40 2 4, .l 41 40, .o 42 (.build [.c (.str []), .c (.int .i64 0)] [(0, 1, (.t 39)), (1, 1, (.t 41))]), .o 43 (.bsl 2 [(.t 42)]), .o 44 (.app 81 2 24 (.t 38) (.t 43)), .f 45 0 3, .s 1 45 44]
    [.q (.f 36 0 3), .q (.l 37 36), ⟨.k 38 91 [(.t 37)], true, 0⟩, .q (.m 39 2), .q (.f 40 2 4), .q (.l 41 40), .q (.o 42 (.build [.c (.str []), .c (.int .i64 0)] [(0, 1, (.t 39)), (1, 1, (.t 41))])), .q (.o 43 (.bsl 2 [(.t 42)])), ⟨.o 44 (.app 81 2 24 (.t 38) (.t 43)), true, 1⟩, ⟨.f 45 0 3, false, 2⟩, ⟨.s 1 45 44, true, 2⟩])))
  (.seq (.reg [.o 47 (.bin .eql (.t 15) (.k (.c (.int .i64 1)))), .m 46 47])
  (.cond (.t 46)
  (.seq (.reg [.d 49 3 3, .m 50 2, .k 51 19 [(.t 49), (.t 50)], .m 48 51, .x 52 48 0, .x 53 48 1, .o 11 (.box (.k (.agg [.c (.int .i64 0), .c (.str []), .c (.int .i64 0), .csl []]))), .s 4 11 52, .m 12 53])
  (.seq (.dreg [.m 54 2, .k 55 59 [(.t 54)], .m 56 55, .z 57 (.mov (.t 2)) 56, .z 58 (.call (.k (.fn 92 [])) [(.t 57)]) 56, .o 59 (.pick (.t 56) (.k (.c (.bool true))) (.t 58)), .m 60 12, .f 61 1 3, .l 62 61, .o 63 (.lenr (.t 62)), .k 64 90 [(.t 59), (.t 60), (.t 63)], .m 8 64]
    [.q (.m 54 2), ⟨.k 55 59 [(.t 54)], true, 0⟩, ⟨.m 56 55, false, 1⟩, ⟨.z 57 (.mov (.t 2)) 56, false, 1⟩, ⟨.z 58 (.call (.k (.fn 92 [])) [(.t 57)]) 56, true, 1⟩, ⟨.o 59 (.pick (.t 56) (.k (.c (.bool true))) (.t 58)), false, 2⟩, .q (.m 60 12), .q (.f 61 1 3), .q (.l 62 61), .q (.o 63 (.lenr (.t 62))), ⟨.k 64 90 [(.t 59), (.t 60), (.t 63)], true, 2⟩, ⟨.m 8 64, false, 3⟩])
  (.dreg [.f 65 1 3, .l 66 65, .k 67 93 [(.t 66)], .m 68 2, .f 69 3 4, .d 70 4 69, .o 71 (.build [.c (.str []), .c (.int .i64 0), .c (.str []), .c (.int .i64 0), .csl []] [(0, 1, (.t 68)), (1, 4, (.t 70))]), .o 72 (.bsl 5 [(.t 71)]), .o 73 (.app 79 5 72 (.t 67) (.t 72)), .f 74 1 3, .s 1 74 73]
    [.q (.f 65 1 3), .q (.l 66 65), ⟨.k 67 93 [(.t 66)], true, 0⟩, .q (.m 68 2), .q (.f 69 3 4), .q (.d 70 4 69), .q (.o 71 (.build [.c (.str []), .c (.int .i64 0), .c (.str []), .c (.int .i64 0), .csl []] [(0, 1, (.t 68)), (1, 4, (.t 70))])), .q (.o 72 (.bsl 5 [(.t 71)])), ⟨.o 73 (.app 79 5 72 (.t 67) (.t 72)), true, 1⟩, ⟨.f 74 1 3, false, 2⟩, ⟨.s 1 74 73, true, 2⟩])))
  (.seq (.reg [.o 76 (.bin .eql (.t 15) (.k (.c (.int .i64 2)))), .m 75 76])
  (.cond (.t 75)
  (.seq (.reg [.f 77 7 4, .d 78 3 77, .o 13 (.box (.k (.agg [.c (.str []), .c (.int .i64 0), .c (.int .i64 0)]))), .s 3 13 78])
  (.seq (.reg [.m 79 2, .f 80 0 13, .s 1 80 79])
  (.reg [.f 82 2 3, .l 83 82, .d 84 3 13, .k 85 94 [(.t 83), (.t 84)], .m 81 85, .x 86 81 0, .x 87 81 1, .f 88 2 3, .s 1 88 86, .m 8 87])))
  (.skip)))))))))
  (.seq (.reg [.d 89 3 3, .m 90 8, .s 3 6 89, .m 7 90])
  (.ret))))
def r44 : List ResV := [.celln 3 6, .tmp 7]
theorem k44 : CodeIs Tryz.prog 44 3 Tryz.f44 c44 r44 := ⟨by kernel_rfl, Tryz.func44, rfl, by kernel_rfl, by kernel_rfl, by decide, enters_fn Tryz.func44 (by kernel_rfl) rfl⟩
/-- sig.copied -/
def c43 : AC :=
  .seq (.reg [.o 1 (.box (.t 0)), .o 2 (.box (.k (.agg [.csl [], .csl [], .csl []])))])
  (.seq (.dreg [.f 3 0 1, .l 4 3, .k 5 87 [(.t 4)], .f 6 1 1, .l 7 6, .k 8 88 [(.t 7)], .f 9 2 1, .l 10 9, .k 11 89 [(.t 10)], .o 12 (.build [.csl [], .csl [], .csl []] [(0, 1, (.t 5)), (1, 1, (.t 8)), (2, 1, (.t 11))]), .s 3 2 12]
    [.q (.f 3 0 1), .q (.l 4 3), ⟨.k 5 87 [(.t 4)], true, 0⟩, .q (.f 6 1 1), .q (.l 7 6), ⟨.k 8 88 [(.t 7)], true, 1⟩, .q (.f 9 2 1), .q (.l 10 9), ⟨.k 11 89 [(.t 10)], true, 2⟩, ⟨.o 12 (.build [.csl [], .csl [], .csl []] [(0, 1, (.t 5)), (1, 1, (.t 8)), (2, 1, (.t 11))]), false, 3⟩, ⟨.s 3 2 12, true, 3⟩])
  (.ret))
def r43 : List ResV := [.celln 3 2]
theorem k43 : CodeIs Tryz.prog 43 1 Tryz.f43 c43 r43 := ⟨by kernel_rfl, Tryz.func43, rfl, by kernel_rfl, by kernel_rfl, by decide, enters_fn Tryz.func43 (by kernel_rfl) rfl⟩
/-- sig.Add -/
def c12 : AC :=
  .seq (.reg [.o 2 (.box (.t 0)), .o 3 (.box (.t 1)), .o 4 (.box (.k (.agg [.csl [], .csl [], .csl []]))), .o 5 (.mov (.k (.c (.int .i64 0))))])
  (.seq (.block 0 (.seq (.reg [.f 12 0 3, .l 13 12, .o 14 (.bin .lss (.t 13) (.k (.c (.int .i64 0)))), .m 15 14, .z 16 (.fadd 0 (.t 3)) 15, .z 17 (.load1 (.t 16)) 15, .z 18 (.bin .gtr (.t 17) (.k (.c (.int .i64 3)))) 15, .o 19 (.pick (.t 15) (.k (.c (.bool true))) (.t 18)), .m 11 19])
  (.cond (.t 11)
  (.seq (.reg [.d 20 3 2, .k 21 43 [(.t 20)], .s 3 4 21, .o 5 (.mov (.k (.c (.int .i64 1))))])
  (.ret))
  (.seq (.reg [.f 23 0 3, .l 24 23, .o 25 (.bin .eql (.t 24) (.k (.c (.int .i64 1)))), .m 26 25, .y 27 (.loadn 3 (.t 2)) 26, .y 28 (.fadd 3 (.t 3)) 26, .y 29 (.loadn 4 (.t 28)) 26, .y 30 (.call (.k (.fn 15 [])) [(.t 27), (.t 29)]) 26, .y 31 (.un .not (.t 30)) 26, .o 32 (.pick (.t 26) (.t 31) (.k (.c (.bool false)))), .m 22 32])
  (.cond (.t 22)
  (.seq (.reg [.d 33 3 2, .k 34 43 [(.t 33)], .s 3 4 34, .o 5 (.mov (.k (.c (.int .i64 111))))])
  (.ret))
  (.skip))))))
  (.seq (.reg [.d 35 3 2, .k 36 43 [(.t 35)], .o 6 (.box (.k (.agg [.csl [], .csl [], .csl []]))), .s 3 6 36])
  (.seq (.seq (.reg [.f 37 1 3, .l 38 37, .o 39 (.lenr (.t 38)), .o 40 (.mov (.k (.c (.int .i64 0))))])
  (.block 1 (.loop (.seq (.reg [.o 41 (.bin .lss (.t 40) (.t 39))])
  (.seq (.cond (.t 41)
  (.skip)
  (.exit 1))
  (.seq (.block 2 (.seq (.reg [.o 42 (.iadd 1 (.t 38) (.t 40)), .l 43 42, .m 8 43])
  (.seq (.reg [.d 45 3 6, .d 46 16 3, .m 47 8, .k 48 44 [(.t 45), (.t 46), (.t 47)], .m 44 48, .x 49 44 0, .x 50 44 1, .o 9 (.box (.k (.agg [.csl [], .csl [], .csl []]))), .s 3 9 49, .m 10 50])
  (.seq (.seq (.reg [.m 51 10, .o 52 (.bin .neq (.t 51) (.k (.c (.int .i64 0))))])
  (.cond (.t 52)
  (.seq (.reg [.d 53 3 2, .k 54 43 [(.t 53)], .m 55 10, .s 3 4 54, .m 5 55])
  (.ret))
  (.skip)))
  (.reg [.d 56 3 9, .s 3 6 56])))))
  (.reg [.o 57 (.bin .add (.t 40) (.k (.c (.int .i64 1)))), .m 40 57])))))))
  (.seq (.reg [.d 58 3 6, .s 3 4 58, .o 5 (.mov (.k (.c (.int .i64 0))))])
  (.ret)))))
def r12 : List ResV := [.celln 3 4, .tmp 5]
theorem k12 : CodeIs Tryz.prog 12 2 Tryz.f12 c12 r12 := ⟨by kernel_rfl, Tryz.func12, rfl, by kernel_rfl, by kernel_rfl, by decide, enters_fn Tryz.func12 (by kernel_rfl) rfl⟩
/-- sig.con -/
def c78 : AC :=
  .seq (.reg [.o 2 (.box (.k (.agg [.c (.int .i64 0), .c (.str []), .c (.int .i64 0), .csl []])))])
  (.seq (.reg [.m 3 0, .o 4 (.build [.c (.int .i64 0), .c (.str []), .c (.int .i64 0), .csl []] [(1, 1, (.t 3))]), .s 4 2 4])
  (.ret))
def r78 : List ResV := [.celln 4 2]
theorem k78 : CodeIs Tryz.prog 78 1 Tryz.f78 c78 r78 := ⟨by kernel_rfl, Tryz.func78, rfl, by kernel_rfl, by kernel_rfl, by decide, enters_fn Tryz.func78 (by kernel_rfl) rfl⟩
/-- sig.row -/
def c80 : AC :=
  .seq (.reg [.o 2 (.box (.t 0)), .o 4 (.mov (.k (.csl [])))])
  (.seq (.reg [.o 5 (.mov (.k (.csl [])))])
  (.seq (.seq (.reg [.m 8 1, .o 9 (.lenr (.t 8)), .o 10 (.mov (.k (.c (.int .i64 0))))])
  (.block 0 (.loop (.seq (.reg [.o 11 (.bin .lss (.t 10) (.t 9))])
  (.seq (.cond (.t 11)
  (.skip)
  (.exit 0))
  (.seq (.block 1 (.seq (.reg [.o 12 (.iadd 1 (.t 8) (.t 10)), .l 13 12, .m 7 13])
  (.reg [.m 14 5, .m 15 7, .d 16 4 2, .o 17 (.build [.c (.str []), .c (.int .i64 0), .c (.str []), .c (.int .i64 0), .csl []] [(0, 1, (.t 15)), (1, 4, (.t 16))]), .o 18 (.bsl 5 [(.t 17)]), .o 19 (.app 79 5 72 (.t 14) (.t 18)), .m 5 19])))
  (.reg [.o 20 (.bin .add (.t 10) (.k (.c (.int .i64 1)))), .m 10 20])))))))
  (.seq (.reg [.m 21 5, .m 4 21])
  (.ret))))
def r80 : List ResV := [.tmp 4]
theorem k80 : CodeIs Tryz.prog 80 2 Tryz.f80 c80 r80 := ⟨by kernel_rfl, Tryz.func80, rfl, by kernel_rfl, by kernel_rfl, by decide, enters_fn Tryz.func80 (by kernel_rfl) rfl⟩
/-- sig.Start -/
def c41 : AC :=
  .seq (.reg [.o 0 (.box (.k (.agg [.csl [], .csl [], .csl []])))])
  (.seq (.reg [.k 5 78 [(.k (.c (.str [111])))], .k 6 78 [(.k (.c (.str [105, 110, 116])))], .o 7 (.build [.c (.int .i64 0), .c (.str []), .c (.int .i64 0), .csl []] [(0, 1, (.k (.c (.int .i64 1))))]), .o 1 (.box (.k (.agg [.c (.int .i64 0), .c (.str []), .c (.int .i64 0), .csl []]))), .o 2 (.box (.k (.agg [.c (.int .i64 0), .c (.str []), .c (.int .i64 0), .csl []]))), .o 3 (.box (.k (.agg [.c (.int .i64 0), .c (.str []), .c (.int .i64 0), .csl []]))), .s 4 1 5, .s 4 2 6, .s 4 3 7])
  (.seq (.dreg [.d 8 4 1, .d 9 4 1, .d 10 4 1, .o 11 (.bsl 4 [(.t 9), (.t 10)]), .k 12 32 [(.t 8), (.t 11)], .o 13 (.bsl 1 [(.k (.c (.str [58, 45]))), (.k (.c (.str [44]))), (.k (.c (.str [59]))), (.k (.c (.str [61, 62])))]), .k 14 80 [(.t 12), (.t 13)], .d 15 4 1, .d 16 4 3, .d 17 4 3, .o 18 (.bsl 4 [(.t 16), (.t 17)]), .k 19 32 [(.t 15), (.t 18)], .o 20 (.bsl 1 [(.k (.c (.str [61])))]), .k 21 80 [(.t 19), (.t 20)], .d 22 4 1, .d 23 4 2, .d 24 4 2, .o 25 (.bsl 4 [(.t 23), (.t 24)]), .k 26 32 [(.t 22), (.t 25)], .o 27 (.bsl 1 [(.k (.c (.str [105, 115]))), (.k (.c (.str [60]))), (.k (.c (.str [61, 60]))), (.k (.c (.str [62]))), (.k (.c (.str [62, 61])))]), .k 28 80 [(.t 26), (.t 27)], .d 29 4 2, .d 30 4 2, .d 31 4 2, .o 32 (.bsl 4 [(.t 30), (.t 31)]), .k 33 32 [(.t 29), (.t 32)], .o 34 (.bsl 1 [(.k (.c (.str [43]))), (.k (.c (.str [45]))), (.k (.c (.str [42]))), (.k (.c (.str [100, 105, 118]))), (.k (.c (.str [109, 111, 100])))]), .k 35 80 [(.t 33), (.t 34)], .d 36 4 2, .d 37 4 2, .o 38 (.bsl 4 [(.t 37)]), .k 39 32 [(.t 36), (.t 38)], .o 40 (.bsl 1 [(.k (.c (.str [126])))]), .k 41 80 [(.t 39), (.t 40)], .d 42 4 1, .o 43 (.bsl 1 [(.k (.c (.str [116, 114, 117, 101]))), (.k (.c (.str [102, 97, 105, 108]))), (.k (.c (.str [33])))]), .k 44 80 [(.t 42), (.t 43)], .d 45 4 1, .d 46 4 1, .d 47 4 3, .o 48 (.bsl 4 [(.t 47)]), .k 49 32 [(.t 46), (.t 48)], .o 50 (.bsl 4 [(.t 49)]), .k 51 32 [(.t 45), (.t 50)], .o 52 (.bsl 1 [(.k (.c (.str [112, 105]))), (.k (.c (.str [115, 105, 103, 109, 97])))]), .k 53 80 [(.t 51), (.t 52)], .o 54 (.bsl 1 [(.t 14), (.t 21), (.t 28), (.t 35), (.t 41), (.t 44), (.t 53)]), .k 55 79 [(.t 54)], .m 4 55]
    [.q (.d 8 4 1), .q (.d 9 4 1), .q (.d 10 4 1), .q (.o 11 (.bsl 4 [(.t 9), (.t 10)])), ⟨.k 12 32 [(.t 8), (.t 11)], true, 0⟩, .q (.o 13 (.bsl 1 [(.k (.c (.str [58, 45]))), (.k (.c (.str [44]))), (.k (.c (.str [59]))), (.k (.c (.str [61, 62])))])), ⟨.k 14 80 [(.t 12), (.t 13)], true, 1⟩, .q (.d 15 4 1), .q (.d 16 4 3), .q (.d 17 4 3), .q (.o 18 (.bsl 4 [(.t 16), (.t 17)])), ⟨.k 19 32 [(.t 15), (.t 18)], true, 2⟩, .q (.o 20 (.bsl 1 [(.k (.c (.str [61])))])), ⟨.k 21 80 [(.t 19), (.t 20)], true, 3⟩, .q (.d 22 4 1), .q (.d 23 4 2), .q (.d 24 4 2), .q (.o 25 (.bsl 4 [(.t 23), (.t 24)])), ⟨.k 26 32 [(.t 22), (.t 25)], true, 4⟩, .q (.o 27 (.bsl 1 [(.k (.c (.str [105, 115]))), (.k (.c (.str [60]))), (.k (.c (.str [61, 60]))), (.k (.c (.str [62]))), (.k (.c (.str [62, 61])))])), ⟨.k 28 80 [(.t 26), (.t 27)], true, 5⟩, .q (.d 29 4 2), .q (.d 30 4 2), .q (.d 31 4 2), .q (.o 32 (.bsl 4 [(.t 30), (.t 31)])), ⟨.k 33 32 [(.t 29), (.t 32)], true, 6⟩, .q (.o 34 (.bsl 1 [(.k (.c (.str [43]))), (.k (.c (.str [45]))), (.k (.c (.str [42]))), (.k (.c (.str [100, 105, 118]))), (.k (.c (.str [109, 111, 100])))])), ⟨.k 35 80 [(.t 33), (.t 34)], true, 7⟩, .q (.d 36 4 2), .q (.d 37 4 2), .q (.o 38 (.bsl 4 [(.t 37)])), ⟨.k 39 32 [(.t 36), (.t 38)], true, 8⟩, .q (.o 40 (.bsl 1 [(.k (.c (.str [126])))])), ⟨.k 41 80 [(.t 39), (.t 40)], true, 9⟩, .q (.d 42 4 1), .q (.o 43 (.bsl 1 [(.k (.c (.str [116, 114, 117, 101]))), (.k (.c (.str [102, 97, 105, 108]))), (.k (.c (.str [33])))])), ⟨.k 44 80 [(.t 42), (.t 43)], true, 10⟩, .q (.d 46 4 1), .q (.d 47 4 3), .q (.o 48 (.bsl 4 [(.t 47)])), ⟨.k 49 32 [(.t 46), (.t 48)], true, 11⟩, .q (.d 45 4 1), ⟨.o 50 (.bsl 4 [(.t 49)]), false, 12⟩, ⟨.k 51 32 [(.t 45), (.t 50)], true, 12⟩, .q (.o 52 (.bsl 1 [(.k (.c (.str [112, 105]))), (.k (.c (.str [115, 105, 103, 109, 97])))])), ⟨.k 53 80 [(.t 51), (.t 52)], true, 13⟩, ⟨.o 54 (.bsl 1 [(.t 14), (.t 21), (.t 28), (.t 35), (.t 41), (.t 44), (.t 53)]), false, 14⟩, ⟨.k 55 79 [(.t 54)], true, 14⟩, ⟨.m 4 55, false, 15⟩])
  (.seq (.reg [.o 56 (.build [.c (.str []), .c (.int .i64 0)] [(0, 1, (.k (.c (.str [111]))))]), .o 57 (.build [.c (.str []), .c (.int .i64 0)] [(0, 1, (.k (.c (.str [105, 110, 116]))))]), .o 58 (.bsl 2 [(.t 56), (.t 57)]), .m 59 4, .k 60 81 [], .o 61 (.build [.csl [], .csl [], .csl []] [(0, 1, (.t 58)), (1, 1, (.t 59)), (2, 1, (.t 60))]), .s 3 0 61])
  (.ret))))
def r41 : List ResV := [.celln 3 0]
theorem k41 : CodeIs Tryz.prog 41 0 Tryz.f41 c41 r41 := ⟨by kernel_rfl, Tryz.func41, rfl, by kernel_rfl, by kernel_rfl, by decide, enters_fn Tryz.func41 (by kernel_rfl) rfl⟩
/-- slices.Clone[[]api.Kinded,api.Kinded] -/
def c87 : AC :=
  .seq (.reg [.o 2 (.mov (.k (.csl [])))])
  (.seq (.seq (.reg [.m 3 0, .o 4 (.eqz false (.t 3))])
  (.cond (.t 4)
  (.seq (.reg [.o 2 (.mov (.k (.csl [])))])
  (.ret))
  (.skip)))
  (.seq (.reg [.o 5 (.bsl 2 []), .m 6 0, .o 7 (.app 81 2 24 (.t 5) (.t 6)), .m 2 7])
  (.ret)))
def r87 : List ResV := [.tmp 2]
theorem k87 : CodeIs Tryz.prog 87 1 Tryz.f87 c87 r87 := ⟨by kernel_rfl, Tryz.func87, rfl, by kernel_rfl, by kernel_rfl, by decide, enters_fn Tryz.func87 (by kernel_rfl) rfl⟩
/-- slices.Clone[[]api.Named,api.Named] -/
def c88 : AC :=
  .seq (.reg [.o 2 (.mov (.k (.csl [])))])
  (.seq (.seq (.reg [.m 3 0, .o 4 (.eqz false (.t 3))])
  (.cond (.t 4)
  (.seq (.reg [.o 2 (.mov (.k (.csl [])))])
  (.ret))
  (.skip)))
  (.seq (.reg [.o 5 (.bsl 5 []), .m 6 0, .o 7 (.app 79 5 72 (.t 5) (.t 6)), .m 2 7])
  (.ret)))
def r88 : List ResV := [.tmp 2]
theorem k88 : CodeIs Tryz.prog 88 1 Tryz.f88 c88 r88 := ⟨by kernel_rfl, Tryz.func88, rfl, by kernel_rfl, by kernel_rfl, by decide, enters_fn Tryz.func88 (by kernel_rfl) rfl⟩
/-- slices.Clip[[]api.Kinded,api.Kinded] -/
def c91 : AC :=
  .seq (.reg [.o 2 (.mov (.k (.csl [])))])
  (.seq (.reg [.m 3 0, .m 4 0, .o 5 (.lenr (.t 4)), .m 6 0, .o 7 (.lenr (.t 6)), .o 8 (.slr 2 (.t 3) none (some (.t 5)) (some (.t 7))), .m 2 8])
  (.ret))
def r91 : List ResV := [.tmp 2]
theorem k91 : CodeIs Tryz.prog 91 1 Tryz.f91 c91 r91 := ⟨by kernel_rfl, Tryz.func91, rfl, by kernel_rfl, by kernel_rfl, by decide, enters_fn Tryz.func91 (by kernel_rfl) rfl⟩
/-- slices.Clip[[]api.Named,api.Named] -/
def c93 : AC :=
  .seq (.reg [.o 2 (.mov (.k (.csl [])))])
  (.seq (.reg [.m 3 0, .m 4 0, .o 5 (.lenr (.t 4)), .m 6 0, .o 7 (.lenr (.t 6)), .o 8 (.slr 5 (.t 3) none (some (.t 5)) (some (.t 7))), .m 2 8])
  (.ret))
def r93 : List ResV := [.tmp 2]
theorem k93 : CodeIs Tryz.prog 93 1 Tryz.f93 c93 r93 := ⟨by kernel_rfl, Tryz.func93, rfl, by kernel_rfl, by kernel_rfl, by decide, enters_fn Tryz.func93 (by kernel_rfl) rfl⟩
end Go.Proofs.YtohcnohllbjlcaaGreatDoor
namespace Go.Proofs.YtohcnohllbjlcaaGreatDoor
open Go.RowKit Go.Lamb
/-- lambentref11.Kind -/
def c18 : AC :=
  .seq (.reg [.o 2 (.box (.t 0)), .o 4 (.mov (.k (.c (.int .i64 0)))), .o 5 (.mov (.k (.c (.bool false))))])
  (.seq (.seq (.reg [.o 6 (.mov (.k (.c (.int .i64 0))))])
  (.block 0 (.loop (.seq (.seq (.reg [.m 7 6, .f 8 0 2, .l 9 8, .o 10 (.lenr (.t 9)), .o 11 (.bin .lss (.t 7) (.t 10))])
  (.cond (.t 11)
  (.skip)
  (.exit 0)))
  (.seq (.block 1 (.seq (.reg [.f 14 0 2, .l 15 14, .m 16 6, .o 17 (.iadd 2 (.t 15) (.t 16)), .f 18 0 17, .l 19 18, .m 20 1, .o 21 (.bin .eql (.t 19) (.t 20))])
  (.cond (.t 21)
  (.seq (.reg [.f 22 0 2, .l 23 22, .m 24 6, .o 25 (.iadd 2 (.t 23) (.t 24)), .f 26 1 25, .l 27 26, .m 4 27, .o 5 (.mov (.k (.c (.bool true))))])
  (.ret))
  (.skip))))
  (.reg [.m 12 6, .o 13 (.bin .add (.t 12) (.k (.c (.int .i64 1)))), .m 6 13]))))))
  (.seq (.reg [.o 4 (.mov (.k (.c (.int .i64 0)))), .o 5 (.mov (.k (.c (.bool false))))])
  (.ret)))
def r18 : List ResV := [.tmp 4, .tmp 5]
theorem k18 : CodeIs Tryz.prog 18 2 Tryz.f18 c18 r18 := ⟨by kernel_rfl, Tryz.func18, rfl, by kernel_rfl, by kernel_rfl, by decide, enters_fn Tryz.func18 (by kernel_rfl) rfl⟩
/-- lambentref11.Find -/
def c20 : AC :=
  .seq (.reg [.o 2 (.box (.t 0)), .o 4 (.box (.k (.agg [.c (.int .i64 0), .c (.str []), .c (.int .i64 0), .csl []]))), .o 5 (.mov (.k (.c (.bool false))))])
  (.seq (.seq (.reg [.o 6 (.mov (.k (.c (.int .i64 0))))])
  (.block 0 (.loop (.seq (.seq (.reg [.m 7 6, .f 8 1 2, .l 9 8, .o 10 (.lenr (.t 9)), .o 11 (.bin .lss (.t 7) (.t 10))])
  (.cond (.t 11)
  (.skip)
  (.exit 0)))
  (.seq (.block 1 (.seq (.reg [.f 14 1 2, .l 15 14, .m 16 6, .o 17 (.iadd 5 (.t 15) (.t 16)), .f 18 0 17, .l 19 18, .m 20 1, .o 21 (.bin .eql (.t 19) (.t 20))])
  (.cond (.t 21)
  (.seq (.reg [.f 22 1 2, .l 23 22, .m 24 6, .o 25 (.iadd 5 (.t 23) (.t 24)), .f 26 1 25, .d 27 4 26, .s 4 4 27, .o 5 (.mov (.k (.c (.bool true))))])
  (.ret))
  (.skip))))
  (.reg [.m 12 6, .o 13 (.bin .add (.t 12) (.k (.c (.int .i64 1)))), .m 6 13]))))))
  (.seq (.reg [.o 28 (.build [.c (.int .i64 0), .c (.str []), .c (.int .i64 0), .csl []] []), .s 4 4 28, .o 5 (.mov (.k (.c (.bool false))))])
  (.ret)))
def r20 : List ResV := [.celln 4 4, .tmp 5]
theorem k20 : CodeIs Tryz.prog 20 2 Tryz.f20 c20 r20 := ⟨by kernel_rfl, Tryz.func20, rfl, by kernel_rfl, by kernel_rfl, by decide, enters_fn Tryz.func20 (by kernel_rfl) rfl⟩
/-- lambentref11.known -/
def c49 : AC :=
  .seq (.reg [.o 2 (.box (.t 0)), .o 3 (.box (.t 1)), .o 4 (.mov (.k (.c (.bool false))))])
  (.seq (.seq (.reg [.f 9 0 3, .l 10 9, .o 11 (.bin .eql (.t 10) (.k (.c (.int .i64 0))))])
  (.cond (.t 11)
  (.seq (.reg [.d 13 3 2, .f 14 1 3, .l 15 14, .k 16 18 [(.t 13), (.t 15)], .m 12 16, .x 17 12 0, .x 18 12 1, .m 5 17, .m 6 18])
  (.seq (.reg [.m 19 6, .o 20 (.un .not (.t 19)), .m 21 20, .z 22 (.mov (.t 5)) 21, .z 23 (.fadd 3 (.t 3)) 21, .z 24 (.load1 (.t 23)) 21, .z 25 (.lenr (.t 24)) 21, .z 26 (.bin .neq (.t 22) (.t 25)) 21, .o 27 (.pick (.t 21) (.k (.c (.bool true))) (.t 26))])
  (.cond (.t 27)
  (.seq (.reg [.o 4 (.mov (.k (.c (.bool false))))])
  (.ret))
  (.skip))))
  (.skip)))
  (.seq (.seq (.reg [.o 7 (.mov (.k (.c (.int .i64 0))))])
  (.block 0 (.loop (.seq (.seq (.reg [.m 28 7, .f 29 3 3, .l 30 29, .o 31 (.lenr (.t 30)), .o 32 (.bin .lss (.t 28) (.t 31))])
  (.cond (.t 32)
  (.skip)
  (.exit 0)))
  (.seq (.block 1 (.seq (.dreg [.d 35 3 2, .f 36 3 3, .l 37 36, .m 38 7, .o 39 (.iadd 4 (.t 37) (.t 38)), .d 40 4 39, .k 41 49 [(.t 35), (.t 40)], .m 8 41]
    [.q (.d 35 3 2), .q (.f 36 3 3), .q (.l 37 36), .q (.m 38 7), .q (.o 39 (.iadd 4 (.t 37) (.t 38))), .q (.d 40 4 39), ⟨.k 41 49 [(.t 35), (.t 40)], true, 0⟩, ⟨.m 8 41, false, 1⟩])
  (.seq (.reg [.m 42 8, .o 43 (.un .not (.t 42))])
  (.cond (.t 43)
  (.seq (.reg [.o 4 (.mov (.k (.c (.bool false))))])
  (.ret))
  (.skip)))))
  (.reg [.m 33 7, .o 34 (.bin .add (.t 33) (.k (.c (.int .i64 1)))), .m 7 34]))))))
  (.seq (.reg [.o 4 (.mov (.k (.c (.bool true))))])
  (.ret))))
def r49 : List ResV := [.tmp 4]
theorem k49 : CodeIs Tryz.prog 49 2 Tryz.f49 c49 r49 := ⟨by kernel_rfl, Tryz.func49, rfl, by kernel_rfl, by kernel_rfl, by decide, enters_fn Tryz.func49 (by kernel_rfl) rfl⟩
/-- lambentref11.Fits -/
def c16 : AC :=
  .seq (.reg [.o 2 (.box (.t 0)), .o 3 (.box (.t 1)), .o 4 (.mov (.k (.c (.bool false))))])
  (.seq (.reg [.d 6 4 3, .k 7 48 [(.t 6)], .m 5 7])
  (.seq (.reg [.m 8 5, .m 9 8, .y 10 (.loadn 3 (.t 2)) 9, .y 11 (.loadn 4 (.t 3)) 9, .y 12 (.call (.k (.fn 49 [])) [(.t 10), (.t 11)]) 9, .o 13 (.pick (.t 9) (.t 12) (.k (.c (.bool false)))), .m 4 13])
  (.ret)))
def r16 : List ResV := [.tmp 4]
theorem k16 : CodeIs Tryz.prog 16 2 Tryz.f16 c16 r16 := ⟨by kernel_rfl, Tryz.func16, rfl, by kernel_rfl, by kernel_rfl, by decide, enters_fn Tryz.func16 (by kernel_rfl) rfl⟩
/-- lambentref11.name -/
def c45 : AC :=
  .seq (.reg [.o 4 (.box (.t 1)), .o 6 (.mov (.k (.c (.int .i64 0))))])
  (.seq (.reg [.m 15 2, .k 16 95 [(.t 15)], .m 7 16])
  (.seq (.reg [.m 17 2, .k 18 96 [(.t 17)], .m 8 18])
  (.seq (.seq (.reg [.f 19 0 4, .l 20 19])
  (.block 0 (.seq (.reg [.o 22 (.bin .eql (.t 20) (.k (.c (.int .i64 0)))), .m 21 22])
  (.cond (.t 21)
  (.seq (.reg [.m 24 0, .n 25 24, .d 26 3 25, .m 27 2, .k 28 18 [(.t 26), (.t 27)], .m 23 28, .x 29 23 0, .x 30 23 1, .m 9 29, .m 10 30])
  (.seq (.seq (.reg [.m 31 7, .o 32 (.un .not (.t 31)), .m 33 32, .z 34 (.fadd 2 (.t 4)) 33, .z 35 (.load1 (.t 34)) 33, .z 36 (.bin .lss (.t 35) (.k (.c (.int .i64 0)))) 33, .o 37 (.pick (.t 33) (.k (.c (.bool true))) (.t 36))])
  (.cond (.t 37)
  (.seq (.reg [.o 6 (.mov (.k (.c (.int .i64 113))))])
  (.ret))
  (.skip)))
  (.seq (.seq (.reg [.m 38 10])
  (.cond (.t 38)
  (.seq (.reg [.o 6 (.mov (.k (.c (.int .i64 110))))])
  (.ret))
  (.skip)))
  (.seq (.seq (.reg [.m 39 0, .n 40 39, .f 41 0 40, .l 42 41, .o 43 (.lenr (.t 42)), .o 44 (.bin .geq (.t 43) (.k (.c (.int .i64 1024))))])
  (.cond (.t 44)
  (.seq (.reg [.o 6 (.mov (.k (.c (.int .i64 112))))])
  (.ret))
  (.skip)))
  (.dreg [.m 45 0, .m 46 0, .n 47 46, .f 48 0 47, .l 49 48, .m 50 2, .f 51 2 4, .l 52 51, .o 53 (.build [.c (.str []), .c (.int .i64 0)] [(0, 1, (.t 50)), (1, 1, (.t 52))]), .o 54 (.bsl 2 [(.t 53)]), .o 55 (.app 81 2 24 (.t 49) (.t 54)), .n 56 45, .f 57 0 56, .s 1 57 55]
    [.q (.m 46 0), .q (.n 47 46), .q (.f 48 0 47), .q (.l 49 48), .q (.m 50 2), .q (.f 51 2 4), .q (.l 52 51), .q (.o 53 (.build [.c (.str []), .c (.int .i64 0)] [(0, 1, (.t 50)), (1, 1, (.t 52))])), .q (.o 54 (.bsl 2 [(.t 53)])), ⟨.o 55 (.app 81 2 24 (.t 49) (.t 54)), true, 0⟩, .q (.m 45 0), ⟨.n 56 45, false, 1⟩, ⟨.f 57 0 56, false, 1⟩, ⟨.s 1 57 55, true, 1⟩])))))
  (.seq (.reg [.o 59 (.bin .eql (.t 20) (.k (.c (.int .i64 1)))), .m 58 59])
  (.cond (.t 58)
  (.seq (.reg [.m 61 0, .n 62 61, .d 63 3 62, .m 64 2, .k 65 20 [(.t 63), (.t 64)], .m 60 65, .x 66 60 0, .x 67 60 1, .o 11 (.box (.k (.agg [.c (.int .i64 0), .c (.str []), .c (.int .i64 0), .csl []]))), .s 4 11 66, .m 12 67])
  (.seq (.seq (.reg [.m 68 7, .o 69 (.un .not (.t 68)), .m 70 69, .y 71 (.mov (.t 8)) 70, .y 72 (.un .not (.t 71)) 70, .o 73 (.pick (.t 70) (.t 72) (.k (.c (.bool false))))])
  (.cond (.t 73)
  (.seq (.reg [.o 6 (.mov (.k (.c (.int .i64 113))))])
  (.ret))
  (.skip)))
  (.seq (.seq (.reg [.m 74 12])
  (.cond (.t 74)
  (.seq (.reg [.o 6 (.mov (.k (.c (.int .i64 110))))])
  (.ret))
  (.skip)))
  (.seq (.seq (.reg [.m 75 0, .n 76 75, .f 77 1 76, .l 78 77, .o 79 (.lenr (.t 78)), .o 80 (.bin .geq (.t 79) (.k (.c (.int .i64 1024))))])
  (.cond (.t 80)
  (.seq (.reg [.o 6 (.mov (.k (.c (.int .i64 112))))])
  (.ret))
  (.skip)))
  (.dreg [.m 81 0, .m 82 0, .n 83 82, .f 84 1 83, .l 85 84, .m 86 2, .f 87 3 4, .d 88 4 87, .o 89 (.build [.c (.str []), .c (.int .i64 0), .c (.str []), .c (.int .i64 0), .csl []] [(0, 1, (.t 86)), (1, 4, (.t 88))]), .o 90 (.bsl 5 [(.t 89)]), .o 91 (.app 79 5 72 (.t 85) (.t 90)), .n 92 81, .f 93 1 92, .s 1 93 91]
    [.q (.m 82 0), .q (.n 83 82), .q (.f 84 1 83), .q (.l 85 84), .q (.m 86 2), .q (.f 87 3 4), .q (.d 88 4 87), .q (.o 89 (.build [.c (.str []), .c (.int .i64 0), .c (.str []), .c (.int .i64 0), .csl []] [(0, 1, (.t 86)), (1, 4, (.t 88))])), .q (.o 90 (.bsl 5 [(.t 89)])), ⟨.o 91 (.app 79 5 72 (.t 85) (.t 90)), true, 0⟩, .q (.m 81 0), ⟨.n 92 81, false, 1⟩, ⟨.f 93 1 92, false, 1⟩, ⟨.s 1 93 91, true, 1⟩])))))
  (.seq (.reg [.o 95 (.bin .eql (.t 20) (.k (.c (.int .i64 2)))), .m 94 95])
  (.cond (.t 94)
  (.seq (.reg [.m 96 2, .f 97 7 4, .f 98 1 97, .l 99 98, .f 100 7 4, .f 101 2 100, .l 102 101, .o 103 (.build [.c (.str []), .c (.int .i64 0), .c (.int .i64 0)] [(0, 1, (.t 96)), (1, 1, (.t 99)), (2, 1, (.t 102))]), .o 13 (.box (.k (.agg [.c (.str []), .c (.int .i64 0), .c (.int .i64 0)]))), .s 3 13 103])
  (.seq (.dreg [.m 104 0, .n 105 104, .f 106 2 105, .l 107 106, .d 108 3 13, .k 109 97 [(.t 107), (.t 108)], .m 14 109]
    [.q (.m 104 0), .q (.n 105 104), .q (.f 106 2 105), .q (.l 107 106), .q (.d 108 3 13), ⟨.k 109 97 [(.t 107), (.t 108)], true, 0⟩, ⟨.m 14 109, false, 1⟩])
  (.seq (.seq (.reg [.m 110 14, .o 111 (.bin .neq (.t 110) (.k (.c (.int .i64 0))))])
  (.cond (.t 111)
  (.seq (.reg [.m 112 14, .m 6 112])
  (.ret))
  (.skip)))
  (.dreg [.m 113 0, .m 114 0, .n 115 114, .f 116 2 115, .l 117 116, .d 118 3 13, .o 119 (.bsl 3 [(.t 118)]), .o 120 (.app 35 3 32 (.t 117) (.t 119)), .n 121 113, .f 122 2 121, .s 1 122 120]
    [.q (.m 114 0), .q (.n 115 114), .q (.f 116 2 115), .q (.l 117 116), .q (.d 118 3 13), .q (.o 119 (.bsl 3 [(.t 118)])), ⟨.o 120 (.app 35 3 32 (.t 117) (.t 119)), true, 0⟩, .q (.m 113 0), ⟨.n 121 113, false, 1⟩, ⟨.f 122 2 121, false, 1⟩, ⟨.s 1 122 120, true, 1⟩]))))
  (.skip)))))))))
  (.seq (.reg [.o 6 (.mov (.k (.c (.int .i64 0))))])
  (.ret)))))
def r45 : List ResV := [.tmp 6]
theorem k45 : CodeIs Tryz.prog 45 3 Tryz.f45 c45 r45 := ⟨by kernel_rfl, Tryz.func45, rfl, by kernel_rfl, by kernel_rfl, by decide, enters_fn Tryz.func45 (by kernel_rfl) rfl⟩
/-- lambentref11.Add -/
def c13 : AC :=
  .seq (.reg [.o 2 (.box (.t 0)), .o 3 (.box (.t 1)), .o 4 (.box (.k (.agg [.csl [], .csl [], .csl []]))), .o 5 (.mov (.k (.c (.int .i64 0))))])
  (.seq (.seq (.reg [.f 10 0 3, .l 11 10, .o 12 (.bin .lss (.t 11) (.k (.c (.int .i64 0)))), .m 13 12, .z 14 (.fadd 0 (.t 3)) 13, .z 15 (.load1 (.t 14)) 13, .z 16 (.bin .gtr (.t 15) (.k (.c (.int .i64 3)))) 13, .o 17 (.pick (.t 13) (.k (.c (.bool true))) (.t 16))])
  (.cond (.t 17)
  (.seq (.reg [.d 18 3 2, .s 3 4 18, .o 5 (.mov (.k (.c (.int .i64 1))))])
  (.ret))
  (.skip)))
  (.seq (.seq (.reg [.f 19 0 3, .l 20 19, .o 21 (.bin .eql (.t 20) (.k (.c (.int .i64 1))))])
  (.cond (.t 21)
  (.seq (.reg [.d 22 3 2, .f 23 3 3, .d 24 4 23, .k 25 16 [(.t 22), (.t 24)], .m 6 25])
  (.seq (.reg [.m 26 6, .o 27 (.un .not (.t 26))])
  (.cond (.t 27)
  (.seq (.reg [.d 28 3 2, .s 3 4 28, .o 5 (.mov (.k (.c (.int .i64 111))))])
  (.ret))
  (.skip))))
  (.skip)))
  (.seq (.reg [.o 29 (.build [.csl [], .csl [], .csl []] []), .o 30 (.box (.t 29)), .m 7 30])
  (.seq (.dreg [.m 31 7, .m 32 7, .n 33 32, .f 34 0 33, .l 35 34, .f 36 0 2, .l 37 36, .o 38 (.app 81 2 24 (.t 35) (.t 37)), .n 39 31, .f 40 0 39, .s 1 40 38]
    [.q (.m 32 7), .q (.n 33 32), .q (.f 34 0 33), .q (.l 35 34), .q (.f 36 0 2), .q (.l 37 36), ⟨.o 38 (.app 81 2 24 (.t 35) (.t 37)), true, 0⟩, .q (.m 31 7), ⟨.n 39 31, false, 1⟩, ⟨.f 40 0 39, false, 1⟩, ⟨.s 1 40 38, true, 1⟩])
  (.seq (.dreg [.m 41 7, .m 42 7, .n 43 42, .f 44 1 43, .l 45 44, .f 46 1 2, .l 47 46, .o 48 (.app 79 5 72 (.t 45) (.t 47)), .n 49 41, .f 50 1 49, .s 1 50 48]
    [.q (.m 42 7), .q (.n 43 42), .q (.f 44 1 43), .q (.l 45 44), .q (.f 46 1 2), .q (.l 47 46), ⟨.o 48 (.app 79 5 72 (.t 45) (.t 47)), true, 0⟩, .q (.m 41 7), ⟨.n 49 41, false, 1⟩, ⟨.f 50 1 49, false, 1⟩, ⟨.s 1 50 48, true, 1⟩])
  (.seq (.dreg [.m 51 7, .m 52 7, .n 53 52, .f 54 2 53, .l 55 54, .f 56 2 2, .l 57 56, .o 58 (.app 35 3 32 (.t 55) (.t 57)), .n 59 51, .f 60 2 59, .s 1 60 58]
    [.q (.m 52 7), .q (.n 53 52), .q (.f 54 2 53), .q (.l 55 54), .q (.f 56 2 2), .q (.l 57 56), ⟨.o 58 (.app 35 3 32 (.t 55) (.t 57)), true, 0⟩, .q (.m 51 7), ⟨.n 59 51, false, 1⟩, ⟨.f 60 2 59, false, 1⟩, ⟨.s 1 60 58, true, 1⟩])
  (.seq (.seq (.reg [.o 8 (.mov (.k (.c (.int .i64 0))))])
  (.block 0 (.loop (.seq (.seq (.reg [.m 61 8, .f 62 1 3, .l 63 62, .o 64 (.lenr (.t 63)), .o 65 (.bin .lss (.t 61) (.t 64)), .m 66 65, .y 67 (.fadd 0 (.t 3)) 66, .y 68 (.load1 (.t 67)) 66, .y 69 (.bin .neq (.t 68) (.k (.c (.int .i64 3)))) 66, .o 70 (.pick (.t 66) (.t 69) (.k (.c (.bool false))))])
  (.cond (.t 70)
  (.skip)
  (.exit 0)))
  (.seq (.block 1 (.seq (.dreg [.m 73 7, .d 74 16 3, .f 75 1 3, .l 76 75, .m 77 8, .o 78 (.iadd 1 (.t 76) (.t 77)), .l 79 78, .k 80 45 [(.t 73), (.t 74), (.t 79)], .m 9 80]
    [.q (.m 73 7), .q (.d 74 16 3), .q (.f 75 1 3), .q (.l 76 75), .q (.m 77 8), .q (.o 78 (.iadd 1 (.t 76) (.t 77))), .q (.l 79 78), ⟨.k 80 45 [(.t 73), (.t 74), (.t 79)], true, 0⟩, ⟨.m 9 80, false, 1⟩])
  (.seq (.reg [.m 81 9, .o 82 (.bin .neq (.t 81) (.k (.c (.int .i64 0))))])
  (.cond (.t 82)
  (.seq (.reg [.d 83 3 2, .m 84 9, .s 3 4 83, .m 5 84])
  (.ret))
  (.skip)))))
  (.reg [.m 71 8, .o 72 (.bin .add (.t 71) (.k (.c (.int .i64 1)))), .m 8 72]))))))
  (.seq (.reg [.m 85 7, .n 86 85, .d 87 3 86, .s 3 4 87, .o 5 (.mov (.k (.c (.int .i64 0))))])
  (.ret)))))))))
def r13 : List ResV := [.celln 3 4, .tmp 5]
theorem k13 : CodeIs Tryz.prog 13 2 Tryz.f13 c13 r13 := ⟨by kernel_rfl, Tryz.func13, rfl, by kernel_rfl, by kernel_rfl, by decide, enters_fn Tryz.func13 (by kernel_rfl) rfl⟩
/-- lambentref11.Same -/
def c14 : AC :=
  .seq (.reg [.o 2 (.box (.t 0)), .o 3 (.box (.t 1)), .o 4 (.mov (.k (.c (.bool false))))])
  (.seq (.seq (.reg [.f 8 0 2, .l 9 8, .o 10 (.lenr (.t 9)), .f 11 0 3, .l 12 11, .o 13 (.lenr (.t 12)), .o 14 (.bin .neq (.t 10) (.t 13)), .m 15 14, .z 16 (.fadd 1 (.t 2)) 15, .z 17 (.load1 (.t 16)) 15, .z 18 (.lenr (.t 17)) 15, .z 19 (.fadd 1 (.t 3)) 15, .z 20 (.load1 (.t 19)) 15, .z 21 (.lenr (.t 20)) 15, .z 22 (.bin .neq (.t 18) (.t 21)) 15, .o 23 (.pick (.t 15) (.k (.c (.bool true))) (.t 22))])
  (.cond (.t 23)
  (.seq (.reg [.o 4 (.mov (.k (.c (.bool false))))])
  (.ret))
  (.skip)))
  (.seq (.seq (.reg [.o 5 (.mov (.k (.c (.int .i64 0))))])
  (.block 0 (.loop (.seq (.seq (.reg [.m 24 5, .f 25 0 2, .l 26 25, .o 27 (.lenr (.t 26)), .o 28 (.bin .lss (.t 24) (.t 27))])
  (.cond (.t 28)
  (.skip)
  (.exit 0)))
  (.seq (.block 1 (.seq (.dreg [.f 31 0 2, .l 32 31, .m 33 5, .o 34 (.iadd 2 (.t 32) (.t 33)), .d 35 2 34, .f 36 0 3, .l 37 36, .m 38 5, .o 39 (.iadd 2 (.t 37) (.t 38)), .d 40 2 39, .o 41 (.eqs true [2, 1] (.t 35) (.t 40))]
    [.q (.f 31 0 2), .q (.l 32 31), .q (.m 33 5), .q (.o 34 (.iadd 2 (.t 32) (.t 33))), .q (.d 35 2 34), .q (.f 36 0 3), .q (.l 37 36), .q (.m 38 5), .q (.o 39 (.iadd 2 (.t 37) (.t 38))), .q (.d 40 2 39), .q (.o 41 (.eqs true [2, 1] (.t 35) (.t 40)))])
  (.cond (.t 41)
  (.seq (.reg [.o 4 (.mov (.k (.c (.bool false))))])
  (.ret))
  (.skip))))
  (.reg [.m 29 5, .o 30 (.bin .add (.t 29) (.k (.c (.int .i64 1)))), .m 5 30]))))))
  (.seq (.seq (.reg [.o 6 (.mov (.k (.c (.int .i64 0))))])
  (.block 2 (.loop (.seq (.seq (.reg [.m 42 6, .f 43 1 2, .l 44 43, .o 45 (.lenr (.t 44)), .o 46 (.bin .lss (.t 42) (.t 45))])
  (.cond (.t 46)
  (.skip)
  (.exit 2)))
  (.seq (.block 3 (.seq (.dreg [.f 49 1 2, .l 50 49, .m 51 6, .o 52 (.iadd 5 (.t 50) (.t 51)), .f 53 1 52, .d 54 4 53, .f 55 1 3, .l 56 55, .m 57 6, .o 58 (.iadd 5 (.t 56) (.t 57)), .f 59 1 58, .d 60 4 59, .k 61 21 [(.t 54), (.t 60)], .m 7 61]
    [.q (.f 49 1 2), .q (.l 50 49), .q (.m 51 6), .q (.o 52 (.iadd 5 (.t 50) (.t 51))), .q (.f 53 1 52), .q (.d 54 4 53), .q (.f 55 1 3), .q (.l 56 55), .q (.m 57 6), .q (.o 58 (.iadd 5 (.t 56) (.t 57))), .q (.f 59 1 58), .q (.d 60 4 59), ⟨.k 61 21 [(.t 54), (.t 60)], true, 0⟩, ⟨.m 7 61, false, 1⟩])
  (.seq (.dreg [.f 62 1 2, .l 63 62, .m 64 6, .o 65 (.iadd 5 (.t 63) (.t 64)), .f 66 0 65, .l 67 66, .f 68 1 3, .l 69 68, .m 70 6, .o 71 (.iadd 5 (.t 69) (.t 70)), .f 72 0 71, .l 73 72, .o 74 (.bin .neq (.t 67) (.t 73)), .m 75 74, .z 76 (.mov (.t 7)) 75, .z 77 (.un .not (.t 76)) 75, .o 78 (.pick (.t 75) (.k (.c (.bool true))) (.t 77))]
    [.q (.f 62 1 2), .q (.l 63 62), .q (.m 64 6), .q (.o 65 (.iadd 5 (.t 63) (.t 64))), .q (.f 66 0 65), .q (.l 67 66), .q (.f 68 1 3), .q (.l 69 68), .q (.m 70 6), .q (.o 71 (.iadd 5 (.t 69) (.t 70))), .q (.f 72 0 71), .q (.l 73 72), .q (.o 74 (.bin .neq (.t 67) (.t 73))), .q (.m 75 74), .q (.z 76 (.mov (.t 7)) 75), .q (.z 77 (.un .not (.t 76)) 75), .q (.o 78 (.pick (.t 75) (.k (.c (.bool true))) (.t 77)))])
  (.cond (.t 78)
  (.seq (.reg [.o 4 (.mov (.k (.c (.bool false))))])
  (.ret))
  (.skip)))))
  (.reg [.m 47 6, .o 48 (.bin .add (.t 47) (.k (.c (.int .i64 1)))), .m 6 48]))))))
  (.seq (.reg [.f 79 2 2, .l 80 79, .f 81 2 3, .l 82 81, .k 83 46 [(.t 80), (.t 82)], .m 4 83])
  (.ret)))))
def r14 : List ResV := [.tmp 4]
theorem k14 : CodeIs Tryz.prog 14 2 Tryz.f14 c14 r14 := ⟨by kernel_rfl, Tryz.func14, rfl, by kernel_rfl, by kernel_rfl, by decide, enters_fn Tryz.func14 (by kernel_rfl) rfl⟩
/-- lambentref11.Start -/
def c42 : AC :=
  .seq (.reg [.o 0 (.box (.k (.agg [.csl [], .csl [], .csl []])))])
  (.seq (.reg [.k 4 82 [(.k (.c (.str [111])))], .o 1 (.box (.k (.agg [.c (.int .i64 0), .c (.str []), .c (.int .i64 0), .csl []]))), .s 4 1 4])
  (.seq (.reg [.k 5 82 [(.k (.c (.str [105, 110, 116])))], .o 2 (.box (.k (.agg [.c (.int .i64 0), .c (.str []), .c (.int .i64 0), .csl []]))), .s 4 2 5])
  (.seq (.reg [.o 3 (.mov (.k (.csl [])))])
  (.seq (.dreg [.m 6 3, .o 7 (.bsl 1 [(.k (.c (.str [58, 45]))), (.k (.c (.str [44]))), (.k (.c (.str [59]))), (.k (.c (.str [61, 62])))]), .d 8 4 1, .d 9 4 1, .d 10 4 1, .k 11 84 [(.t 9), (.t 10)], .k 12 84 [(.t 8), (.t 11)], .k 13 83 [(.t 6), (.t 7), (.t 12)], .m 3 13]
    [.q (.d 9 4 1), .q (.d 10 4 1), ⟨.k 11 84 [(.t 9), (.t 10)], true, 0⟩, .q (.d 8 4 1), ⟨.k 12 84 [(.t 8), (.t 11)], true, 1⟩, .q (.m 6 3), .q (.o 7 (.bsl 1 [(.k (.c (.str [58, 45]))), (.k (.c (.str [44]))), (.k (.c (.str [59]))), (.k (.c (.str [61, 62])))])), ⟨.k 13 83 [(.t 6), (.t 7), (.t 12)], true, 2⟩, ⟨.m 3 13, false, 3⟩])
  (.seq (.dreg [.m 14 3, .o 15 (.bsl 1 [(.k (.c (.str [61])))]), .k 16 85 [], .k 17 85 [], .d 18 4 1, .k 19 84 [(.t 17), (.t 18)], .k 20 84 [(.t 16), (.t 19)], .k 21 83 [(.t 14), (.t 15), (.t 20)], .m 3 21]
    [⟨.k 16 85 [], true, 0⟩, ⟨.k 17 85 [], true, 1⟩, .q (.d 18 4 1), ⟨.k 19 84 [(.t 17), (.t 18)], true, 2⟩, ⟨.k 20 84 [(.t 16), (.t 19)], true, 3⟩, .q (.m 14 3), .q (.o 15 (.bsl 1 [(.k (.c (.str [61])))])), ⟨.k 21 83 [(.t 14), (.t 15), (.t 20)], true, 4⟩, ⟨.m 3 21, false, 5⟩])
  (.seq (.dreg [.m 22 3, .o 23 (.bsl 1 [(.k (.c (.str [105, 115]))), (.k (.c (.str [60]))), (.k (.c (.str [61, 60]))), (.k (.c (.str [62]))), (.k (.c (.str [62, 61])))]), .d 24 4 2, .d 25 4 2, .d 26 4 1, .k 27 84 [(.t 25), (.t 26)], .k 28 84 [(.t 24), (.t 27)], .k 29 83 [(.t 22), (.t 23), (.t 28)], .m 3 29]
    [.q (.d 25 4 2), .q (.d 26 4 1), ⟨.k 27 84 [(.t 25), (.t 26)], true, 0⟩, .q (.d 24 4 2), ⟨.k 28 84 [(.t 24), (.t 27)], true, 1⟩, .q (.m 22 3), .q (.o 23 (.bsl 1 [(.k (.c (.str [105, 115]))), (.k (.c (.str [60]))), (.k (.c (.str [61, 60]))), (.k (.c (.str [62]))), (.k (.c (.str [62, 61])))])), ⟨.k 29 83 [(.t 22), (.t 23), (.t 28)], true, 2⟩, ⟨.m 3 29, false, 3⟩])
  (.seq (.dreg [.m 30 3, .o 31 (.bsl 1 [(.k (.c (.str [43]))), (.k (.c (.str [45]))), (.k (.c (.str [42]))), (.k (.c (.str [100, 105, 118]))), (.k (.c (.str [109, 111, 100])))]), .d 32 4 2, .d 33 4 2, .d 34 4 2, .k 35 84 [(.t 33), (.t 34)], .k 36 84 [(.t 32), (.t 35)], .k 37 83 [(.t 30), (.t 31), (.t 36)], .m 3 37]
    [.q (.d 33 4 2), .q (.d 34 4 2), ⟨.k 35 84 [(.t 33), (.t 34)], true, 0⟩, .q (.d 32 4 2), ⟨.k 36 84 [(.t 32), (.t 35)], true, 1⟩, .q (.m 30 3), .q (.o 31 (.bsl 1 [(.k (.c (.str [43]))), (.k (.c (.str [45]))), (.k (.c (.str [42]))), (.k (.c (.str [100, 105, 118]))), (.k (.c (.str [109, 111, 100])))])), ⟨.k 37 83 [(.t 30), (.t 31), (.t 36)], true, 2⟩, ⟨.m 3 37, false, 3⟩])
  (.seq (.reg [.m 38 3, .o 39 (.bsl 1 [(.k (.c (.str [126])))]), .d 40 4 2, .d 41 4 2, .k 42 84 [(.t 40), (.t 41)], .k 43 83 [(.t 38), (.t 39), (.t 42)], .m 3 43])
  (.seq (.reg [.m 44 3, .o 45 (.bsl 1 [(.k (.c (.str [116, 114, 117, 101]))), (.k (.c (.str [102, 97, 105, 108]))), (.k (.c (.str [33])))]), .d 46 4 1, .k 47 83 [(.t 44), (.t 45), (.t 46)], .m 3 47])
  (.seq (.dreg [.m 48 3, .o 49 (.bsl 1 [(.k (.c (.str [112, 105]))), (.k (.c (.str [115, 105, 103, 109, 97])))]), .k 50 85 [], .d 51 4 1, .k 52 84 [(.t 50), (.t 51)], .d 53 4 1, .k 54 84 [(.t 52), (.t 53)], .k 55 83 [(.t 48), (.t 49), (.t 54)], .m 3 55]
    [⟨.k 50 85 [], true, 0⟩, .q (.d 51 4 1), ⟨.k 52 84 [(.t 50), (.t 51)], true, 1⟩, .q (.d 53 4 1), ⟨.k 54 84 [(.t 52), (.t 53)], true, 2⟩, .q (.m 48 3), .q (.o 49 (.bsl 1 [(.k (.c (.str [112, 105]))), (.k (.c (.str [115, 105, 103, 109, 97])))])), ⟨.k 55 83 [(.t 48), (.t 49), (.t 54)], true, 3⟩, ⟨.m 3 55, false, 4⟩])
  (.seq (.reg [.o 56 (.build [.c (.str []), .c (.int .i64 0)] [(0, 1, (.k (.c (.str [111]))))]), .o 57 (.build [.c (.str []), .c (.int .i64 0)] [(0, 1, (.k (.c (.str [105, 110, 116]))))]), .o 58 (.bsl 2 [(.t 56), (.t 57)]), .m 59 3, .k 60 86 [], .o 61 (.build [.csl [], .csl [], .csl []] [(0, 1, (.t 58)), (1, 1, (.t 59)), (2, 1, (.t 60))]), .s 3 0 61])
  (.ret))))))))))))
def r42 : List ResV := [.celln 3 0]
theorem k42 : CodeIs Tryz.prog 42 0 Tryz.f42 c42 r42 := ⟨by kernel_rfl, Tryz.func42, rfl, by kernel_rfl, by kernel_rfl, by decide, enters_fn Tryz.func42 (by kernel_rfl) rfl⟩
/-- lambentref11.con -/
def c82 : AC :=
  .seq (.reg [.o 2 (.box (.k (.agg [.c (.int .i64 0), .c (.str []), .c (.int .i64 0), .csl []])))])
  (.seq (.reg [.m 3 0, .o 4 (.build [.c (.int .i64 0), .c (.str []), .c (.int .i64 0), .csl []] [(1, 1, (.t 3))]), .s 4 2 4])
  (.ret))
def r82 : List ResV := [.celln 4 2]
theorem k82 : CodeIs Tryz.prog 82 1 Tryz.f82 c82 r82 := ⟨by kernel_rfl, Tryz.func82, rfl, by kernel_rfl, by kernel_rfl, by decide, enters_fn Tryz.func82 (by kernel_rfl) rfl⟩
/-- lambentref11.v -/
def c85 : AC :=
  .seq (.reg [.o 0 (.box (.k (.agg [.c (.int .i64 0), .c (.str []), .c (.int .i64 0), .csl []])))])
  (.seq (.reg [.o 1 (.build [.c (.int .i64 0), .c (.str []), .c (.int .i64 0), .csl []] [(0, 1, (.k (.c (.int .i64 1))))]), .s 4 0 1])
  (.ret))
def r85 : List ResV := [.celln 4 0]
theorem k85 : CodeIs Tryz.prog 85 0 Tryz.f85 c85 r85 := ⟨by kernel_rfl, Tryz.func85, rfl, by kernel_rfl, by kernel_rfl, by decide, enters_fn Tryz.func85 (by kernel_rfl) rfl⟩
/-- lambentref11.to -/
def c84 : AC :=
  .seq (.reg [.o 2 (.box (.t 0)), .o 3 (.box (.t 1)), .o 4 (.box (.k (.agg [.c (.int .i64 0), .c (.str []), .c (.int .i64 0), .csl []])))])
  (.seq (.reg [.d 5 4 2, .d 6 4 3, .o 7 (.bsl 4 [(.t 5), (.t 6)]), .o 8 (.build [.c (.int .i64 0), .c (.str []), .c (.int .i64 0), .csl []] [(0, 1, (.k (.c (.int .i64 2)))), (3, 1, (.t 7))]), .s 4 4 8])
  (.ret))
def r84 : List ResV := [.celln 4 4]
theorem k84 : CodeIs Tryz.prog 84 2 Tryz.f84 c84 r84 := ⟨by kernel_rfl, Tryz.func84, rfl, by kernel_rfl, by kernel_rfl, by decide, enters_fn Tryz.func84 (by kernel_rfl) rfl⟩
/-- lambentref11.all -/
def c83 : AC :=
  .seq (.reg [.o 5 (.box (.t 2)), .o 6 (.mov (.k (.csl [])))])
  (.seq (.seq (.reg [.o 7 (.mov (.k (.c (.int .i64 0))))])
  (.block 0 (.loop (.seq (.seq (.reg [.m 8 7, .m 9 1, .o 10 (.lenr (.t 9)), .o 11 (.bin .lss (.t 8) (.t 10))])
  (.cond (.t 11)
  (.skip)
  (.exit 0)))
  (.seq (.block 1 (.dreg [.m 14 0, .m 15 1, .m 16 7, .o 17 (.iadd 1 (.t 15) (.t 16)), .l 18 17, .d 19 4 5, .o 20 (.build [.c (.str []), .c (.int .i64 0), .c (.str []), .c (.int .i64 0), .csl []] [(0, 1, (.t 18)), (1, 4, (.t 19))]), .o 21 (.bsl 5 [(.t 20)]), .o 22 (.app 79 5 72 (.t 14) (.t 21)), .m 0 22]
    [.q (.m 14 0), .q (.m 15 1), .q (.m 16 7), .q (.o 17 (.iadd 1 (.t 15) (.t 16))), .q (.l 18 17), .q (.d 19 4 5), .q (.o 20 (.build [.c (.str []), .c (.int .i64 0), .c (.str []), .c (.int .i64 0), .csl []] [(0, 1, (.t 18)), (1, 4, (.t 19))])), .q (.o 21 (.bsl 5 [(.t 20)])), ⟨.o 22 (.app 79 5 72 (.t 14) (.t 21)), true, 0⟩, ⟨.m 0 22, false, 1⟩]))
  (.reg [.m 12 7, .o 13 (.bin .add (.t 12) (.k (.c (.int .i64 1)))), .m 7 13]))))))
  (.seq (.reg [.m 23 0, .m 6 23])
  (.ret)))
def r83 : List ResV := [.tmp 6]
theorem k83 : CodeIs Tryz.prog 83 3 Tryz.f83 c83 r83 := ⟨by kernel_rfl, Tryz.func83, rfl, by kernel_rfl, by kernel_rfl, by decide, enters_fn Tryz.func83 (by kernel_rfl) rfl⟩
/-- lambentref05.Valid -/
def c48 : AC :=
  .seq (.reg [.o 1 (.box (.t 0)), .o 2 (.mov (.k (.c (.bool false))))])
  (.seq (.reg [.o 3 (.mov (.k (.c (.bool false))))])
  (.seq (.seq (.reg [.f 6 0 1, .l 7 6])
  (.block 0 (.seq (.reg [.o 9 (.bin .eql (.t 7) (.k (.c (.int .i64 0)))), .m 8 9])
  (.cond (.t 8)
  (.seq (.reg [.f 10 1 1, .l 11 10, .k 12 95 [(.t 11)], .m 4 12])
  (.reg [.m 13 4, .m 14 13, .y 15 (.fadd 2 (.t 1)) 14, .y 16 (.load1 (.t 15)) 14, .y 17 (.bin .eql (.t 16) (.k (.c (.int .i64 0)))) 14, .o 18 (.pick (.t 14) (.t 17) (.k (.c (.bool false)))), .m 3 18]))
  (.seq (.reg [.o 20 (.bin .eql (.t 7) (.k (.c (.int .i64 1)))), .m 19 20])
  (.cond (.t 19)
  (.reg [.f 21 1 1, .l 22 21, .o 23 (.bin .eql (.t 22) (.k (.c (.str [])))), .m 24 23, .y 25 (.fadd 2 (.t 1)) 24, .y 26 (.load1 (.t 25)) 24, .y 27 (.bin .geq (.t 26) (.k (.c (.int .i64 0)))) 24, .o 28 (.pick (.t 24) (.t 27) (.k (.c (.bool false)))), .m 29 28, .y 30 (.fadd 2 (.t 1)) 29, .y 31 (.load1 (.t 30)) 29, .y 32 (.bin .leq (.t 31) (.k (.c (.int .i64 4611686018427387904)))) 29, .o 33 (.pick (.t 29) (.t 32) (.k (.c (.bool false)))), .m 34 33, .y 35 (.fadd 3 (.t 1)) 34, .y 36 (.load1 (.t 35)) 34, .y 37 (.lenr (.t 36)) 34, .y 38 (.bin .eql (.t 37) (.k (.c (.int .i64 0)))) 34, .o 39 (.pick (.t 34) (.t 38) (.k (.c (.bool false)))), .m 3 39])
  (.seq (.reg [.o 41 (.bin .eql (.t 7) (.k (.c (.int .i64 2)))), .m 40 41])
  (.cond (.t 40)
  (.reg [.f 42 1 1, .l 43 42, .o 44 (.bin .eql (.t 43) (.k (.c (.str [])))), .m 45 44, .y 46 (.fadd 2 (.t 1)) 45, .y 47 (.load1 (.t 46)) 45, .y 48 (.bin .eql (.t 47) (.k (.c (.int .i64 0)))) 45, .o 49 (.pick (.t 45) (.t 48) (.k (.c (.bool false)))), .m 50 49, .y 51 (.fadd 3 (.t 1)) 50, .y 52 (.load1 (.t 51)) 50, .y 53 (.lenr (.t 52)) 50, .y 54 (.bin .eql (.t 53) (.k (.c (.int .i64 2)))) 50, .o 55 (.pick (.t 50) (.t 54) (.k (.c (.bool false)))), .m 3 55])
  (.skip)))))))))
  (.seq (.seq (.reg [.o 5 (.mov (.k (.c (.int .i64 0))))])
  (.block 1 (.loop (.seq (.seq (.reg [.m 56 5, .f 57 3 1, .l 58 57, .o 59 (.lenr (.t 58)), .o 60 (.bin .lss (.t 56) (.t 59)), .m 61 60, .y 62 (.mov (.t 3)) 61, .o 63 (.pick (.t 61) (.t 62) (.k (.c (.bool false))))])
  (.cond (.t 63)
  (.skip)
  (.exit 1)))
  (.seq (.block 2 (.reg [.f 66 3 1, .l 67 66, .m 68 5, .o 69 (.iadd 4 (.t 67) (.t 68)), .d 70 4 69, .k 71 48 [(.t 70)], .m 3 71]))
  (.reg [.m 64 5, .o 65 (.bin .add (.t 64) (.k (.c (.int .i64 1)))), .m 5 65]))))))
  (.seq (.reg [.m 72 3, .m 2 72])
  (.ret)))))
def r48 : List ResV := [.tmp 2]
theorem k48 : CodeIs Tryz.prog 48 1 Tryz.f48 c48 r48 := ⟨by kernel_rfl, Tryz.func48, rfl, by kernel_rfl, by kernel_rfl, by decide, enters_fn Tryz.func48 (by kernel_rfl) rfl⟩
/-- lambentlaw11.works -/
def c10 : AC :=
  .seq (.reg [.o 0 (.mov (.k (.c (.bool false))))])
  (.seq (.reg [.k 17 41 [], .o 1 (.box (.k (.agg [.csl [], .csl [], .csl []]))), .s 3 1 17])
  (.seq (.reg [.d 19 3 1, .k 20 19 [(.t 19), (.k (.c (.str [112, 105])))], .m 18 20, .x 21 18 0, .x 22 18 1, .o 2 (.box (.k (.agg [.c (.int .i64 0), .c (.str []), .c (.int .i64 0), .csl []]))), .s 4 2 21, .m 3 22])
  (.seq (.reg [.d 24 3 1, .k 25 17 [(.t 24), (.k (.c (.str [105, 110, 116])))], .m 23 25, .x 26 23 0, .x 27 23 1, .m 4 26, .m 5 27])
  (.seq (.reg [.o 28 (.build [.c (.int .i64 0), .c (.str []), .c (.int .i64 0), .csl []] [(1, 1, (.k (.c (.str [110, 97, 116]))))]), .o 6 (.box (.k (.agg [.c (.int .i64 0), .c (.str []), .c (.int .i64 0), .csl []]))), .s 4 6 28])
  (.seq (.reg [.o 29 (.bsl 1 [(.k (.c (.str [112])))]), .o 30 (.build [.c (.int .i64 0), .c (.str []), .c (.int .i64 0), .csl []] [(1, 1, (.k (.c (.str [111]))))]), .d 31 4 6, .o 32 (.bsl 4 [(.t 31)]), .k 33 32 [(.t 30), (.t 32)], .o 34 (.build [.c (.int .i64 0), .csl [], .c (.int .i64 0), .c (.int .i64 0), .c (.str []), .c (.int .i64 0), .csl [], .c (.str []), .c (.int .i64 0), .c (.int .i64 0), .c (.int .i64 0), .c (.str []), .c (.int .i64 0), .csl [], .c (.int .i64 0), .c (.int .i64 0)] [(0, 1, (.k (.c (.int .i64 1)))), (1, 1, (.t 29)), (3, 4, (.t 33))]), .o 7 (.box (.k (.agg [.c (.int .i64 0), .csl [], .c (.int .i64 0), .c (.int .i64 0), .c (.str []), .c (.int .i64 0), .csl [], .c (.str []), .c (.int .i64 0), .c (.int .i64 0), .c (.int .i64 0), .c (.str []), .c (.int .i64 0), .csl [], .c (.int .i64 0), .c (.int .i64 0)]))), .s 16 7 34])
  (.seq (.reg [.d 36 3 1, .d 37 16 7, .k 38 12 [(.t 36), (.t 37)], .m 35 38, .x 39 35 0, .x 40 35 1, .o 8 (.box (.k (.agg [.csl [], .csl [], .csl []]))), .s 3 8 39, .m 9 40])
  (.seq (.reg [.d 42 3 1, .o 43 (.bsl 1 [(.k (.c (.str [110, 97, 116])))]), .o 44 (.build [.c (.int .i64 0), .csl [], .c (.int .i64 0), .c (.int .i64 0), .c (.str []), .c (.int .i64 0), .csl [], .c (.str []), .c (.int .i64 0), .c (.int .i64 0), .c (.int .i64 0), .c (.str []), .c (.int .i64 0), .csl [], .c (.int .i64 0), .c (.int .i64 0)] [(0, 1, (.k (.c (.int .i64 0)))), (1, 1, (.t 43))]), .k 45 12 [(.t 42), (.t 44)], .m 41 45, .x 46 41 0, .x 47 41 1, .o 10 (.box (.k (.agg [.csl [], .csl [], .csl []]))), .s 3 10 46, .m 11 47])
  (.seq (.reg [.d 49 3 10, .d 50 16 7, .k 51 12 [(.t 49), (.t 50)], .m 48 51, .x 52 48 0, .x 53 48 1, .o 12 (.box (.k (.agg [.csl [], .csl [], .csl []]))), .s 3 12 52, .m 13 53])
  (.seq (.reg [.d 55 3 12, .k 56 19 [(.t 55), (.k (.c (.str [112])))], .m 54 56, .x 57 54 0, .x 58 54 1, .o 14 (.box (.k (.agg [.c (.int .i64 0), .c (.str []), .c (.int .i64 0), .csl []]))), .s 4 14 57, .m 15 58])
  (.seq (.dreg [.d 59 3 1, .k 60 42 [], .k 61 14 [(.t 59), (.t 60)], .m 16 61]
    [⟨.k 60 42 [], true, 0⟩, .q (.d 59 3 1), ⟨.k 61 14 [(.t 59), (.t 60)], true, 1⟩, ⟨.m 16 61, false, 2⟩])
  (.seq (.reg [.m 62 16, .m 63 62, .y 64 (.mov (.t 3)) 63, .o 65 (.pick (.t 63) (.t 64) (.k (.c (.bool false)))), .m 66 65, .y 67 (.loadn 4 (.t 2)) 66, .y 68 (.call (.k (.fn 40 [])) [(.t 67)]) 66, .y 69 (.bin .eql (.t 68) (.k (.c (.str [40, 65, 32, 45, 62, 32, 111, 41, 32, 45, 62, 32, 111])))) 66, .o 70 (.pick (.t 66) (.t 69) (.k (.c (.bool false)))), .m 71 70, .y 72 (.mov (.t 4)) 71, .y 73 (.bin .eql (.t 72) (.k (.c (.int .i64 0)))) 71, .o 74 (.pick (.t 71) (.t 73) (.k (.c (.bool false)))), .m 75 74, .y 76 (.mov (.t 5)) 75, .o 77 (.pick (.t 75) (.t 76) (.k (.c (.bool false)))), .m 78 77, .y 79 (.mov (.t 9)) 78, .y 80 (.bin .eql (.t 79) (.k (.c (.int .i64 111)))) 78, .o 81 (.pick (.t 78) (.t 80) (.k (.c (.bool false)))), .m 82 81, .y 83 (.mov (.t 11)) 82, .y 84 (.bin .eql (.t 83) (.k (.c (.int .i64 0)))) 82, .o 85 (.pick (.t 82) (.t 84) (.k (.c (.bool false)))), .m 86 85, .y 87 (.mov (.t 13)) 86, .y 88 (.bin .eql (.t 87) (.k (.c (.int .i64 0)))) 86, .o 89 (.pick (.t 86) (.t 88) (.k (.c (.bool false)))), .m 90 89, .y 91 (.mov (.t 15)) 90, .o 92 (.pick (.t 90) (.t 91) (.k (.c (.bool false)))), .m 93 92, .y 94 (.loadn 4 (.t 14)) 93, .y 95 (.call (.k (.fn 40 [])) [(.t 94)]) 93, .y 96 (.bin .eql (.t 95) (.k (.c (.str [110, 97, 116, 32, 45, 62, 32, 111])))) 93, .o 97 (.pick (.t 93) (.t 96) (.k (.c (.bool false)))), .m 98 97, .y 99 (.call (.k (.fn 22 [])) [(.k (.c (.str [115, 105, 103, 109, 97])))]) 98, .o 100 (.pick (.t 98) (.t 99) (.k (.c (.bool false)))), .m 101 100, .y 102 (.call (.k (.fn 22 [])) [(.k (.c (.str [112])))]) 101, .y 103 (.un .not (.t 102)) 101, .o 104 (.pick (.t 101) (.t 103) (.k (.c (.bool false)))), .m 0 104])
  (.ret))))))))))))
def r10 : List ResV := [.tmp 0]
theorem k10 : CodeIs Tryz.prog 10 0 Tryz.f10 c10 r10 := ⟨by kernel_rfl, Tryz.func10, rfl, by kernel_rfl, by kernel_rfl, by decide, enters_fn Tryz.func10 (by kernel_rfl) rfl⟩
/-- lambentlaw11.over -/
def c11 : AC :=
  .seq (.reg [.o 2 (.box (.t 0)), .o 3 (.box (.t 1)), .o 4 (.mov (.k (.c (.bool false))))])
  (.seq (.seq (.reg [.f 10 0 2, .l 11 10, .o 12 (.lenr (.t 11)), .o 13 (.bin .gtr (.t 12) (.k (.c (.int .i64 60)))), .m 14 13, .z 15 (.fadd 1 (.t 2)) 14, .z 16 (.load1 (.t 15)) 14, .z 17 (.lenr (.t 16)) 14, .z 18 (.bin .gtr (.t 17) (.k (.c (.int .i64 60)))) 14, .o 19 (.pick (.t 14) (.k (.c (.bool true))) (.t 18)), .m 20 19, .z 21 (.fadd 2 (.t 2)) 20, .z 22 (.load1 (.t 21)) 20, .z 23 (.lenr (.t 22)) 20, .z 24 (.bin .gtr (.t 23) (.k (.c (.int .i64 120)))) 20, .o 25 (.pick (.t 20) (.k (.c (.bool true))) (.t 24)), .m 26 25, .z 27 (.fadd 1 (.t 3)) 26, .z 28 (.load1 (.t 27)) 26, .z 29 (.lenr (.t 28)) 26, .z 30 (.bin .gtr (.t 29) (.k (.c (.int .i64 10)))) 26, .o 31 (.pick (.t 26) (.k (.c (.bool true))) (.t 30))])
  (.cond (.t 31)
  (.seq (.reg [.o 4 (.mov (.k (.c (.bool true))))])
  (.ret))
  (.skip)))
  (.seq (.seq (.reg [.o 5 (.mov (.k (.c (.int .i64 0))))])
  (.block 0 (.loop (.seq (.seq (.reg [.m 32 5, .f 33 1 2, .l 34 33, .o 35 (.lenr (.t 34)), .o 36 (.bin .lss (.t 32) (.t 35))])
  (.cond (.t 36)
  (.skip)
  (.exit 0)))
  (.seq (.block 1 (.seq (.reg [.f 39 1 2, .l 40 39, .m 41 5, .o 42 (.iadd 5 (.t 40) (.t 41)), .f 43 1 42, .d 44 4 43, .k 45 29 [(.t 44), (.k (.c (.int .i64 60)))], .m 6 45])
  (.seq (.reg [.m 46 6, .m 47 46, .z 48 (.fadd 1 (.t 2)) 47, .z 49 (.load1 (.t 48)) 47, .z 50 (.mov (.t 5)) 47, .z 51 (.iadd 5 (.t 49) (.t 50)) 47, .z 52 (.fadd 0 (.t 51)) 47, .z 53 (.load1 (.t 52)) 47, .z 54 (.lens (.t 53)) 47, .z 55 (.bin .gtr (.t 54) (.k (.c (.int .i64 60)))) 47, .o 56 (.pick (.t 47) (.k (.c (.bool true))) (.t 55))])
  (.cond (.t 56)
  (.seq (.reg [.o 4 (.mov (.k (.c (.bool true))))])
  (.ret))
  (.skip)))))
  (.reg [.m 37 5, .o 38 (.bin .add (.t 37) (.k (.c (.int .i64 1)))), .m 5 38]))))))
  (.seq (.seq (.reg [.o 7 (.mov (.k (.c (.int .i64 0))))])
  (.block 2 (.loop (.seq (.seq (.reg [.m 57 7, .f 58 0 2, .l 59 58, .o 60 (.lenr (.t 59)), .o 61 (.bin .lss (.t 57) (.t 60))])
  (.cond (.t 61)
  (.skip)
  (.exit 2)))
  (.seq (.block 3 (.seq (.reg [.f 64 0 2, .l 65 64, .m 66 7, .o 67 (.iadd 2 (.t 65) (.t 66)), .f 68 0 67, .l 69 68, .o 70 (.lens (.t 69)), .o 71 (.bin .gtr (.t 70) (.k (.c (.int .i64 60))))])
  (.cond (.t 71)
  (.seq (.reg [.o 4 (.mov (.k (.c (.bool true))))])
  (.ret))
  (.skip))))
  (.reg [.m 62 7, .o 63 (.bin .add (.t 62) (.k (.c (.int .i64 1)))), .m 7 63]))))))
  (.seq (.seq (.reg [.o 8 (.mov (.k (.c (.int .i64 0))))])
  (.block 4 (.loop (.seq (.seq (.reg [.m 72 8, .f 73 2 2, .l 74 73, .o 75 (.lenr (.t 74)), .o 76 (.bin .lss (.t 72) (.t 75))])
  (.cond (.t 76)
  (.skip)
  (.exit 4)))
  (.seq (.block 5 (.seq (.reg [.f 79 2 2, .l 80 79, .m 81 8, .o 82 (.iadd 3 (.t 80) (.t 81)), .f 83 0 82, .l 84 83, .o 85 (.lens (.t 84)), .o 86 (.bin .gtr (.t 85) (.k (.c (.int .i64 60))))])
  (.cond (.t 86)
  (.seq (.reg [.o 4 (.mov (.k (.c (.bool true))))])
  (.ret))
  (.skip))))
  (.reg [.m 77 8, .o 78 (.bin .add (.t 77) (.k (.c (.int .i64 1)))), .m 8 78]))))))
  (.seq (.seq (.reg [.o 9 (.mov (.k (.c (.int .i64 0))))])
  (.block 6 (.loop (.seq (.seq (.reg [.m 87 9, .f 88 1 3, .l 89 88, .o 90 (.lenr (.t 89)), .o 91 (.bin .lss (.t 87) (.t 90))])
  (.cond (.t 91)
  (.skip)
  (.exit 6)))
  (.seq (.block 7 (.seq (.reg [.f 94 1 3, .l 95 94, .m 96 9, .o 97 (.iadd 1 (.t 95) (.t 96)), .l 98 97, .o 99 (.lens (.t 98)), .o 100 (.bin .gtr (.t 99) (.k (.c (.int .i64 60))))])
  (.cond (.t 100)
  (.seq (.reg [.o 4 (.mov (.k (.c (.bool true))))])
  (.ret))
  (.skip))))
  (.reg [.m 92 9, .o 93 (.bin .add (.t 92) (.k (.c (.int .i64 1)))), .m 9 93]))))))
  (.seq (.reg [.f 101 3 3, .d 102 4 101, .k 103 29 [(.t 102), (.k (.c (.int .i64 60)))], .m 4 103])
  (.ret)))))))
def r11 : List ResV := [.tmp 4]
theorem k11 : CodeIs Tryz.prog 11 2 Tryz.f11 c11 r11 := ⟨by kernel_rfl, Tryz.func11, rfl, by kernel_rfl, by kernel_rfl, by decide, enters_fn Tryz.func11 (by kernel_rfl) rfl⟩
/-- lambentlaw11.SigAdds -/
def c3 : AC :=
  .seq (.reg [.o 2 (.box (.t 0)), .o 3 (.box (.t 1)), .o 4 (.mov (.k (.c (.bool false))))])
  (.seq (.reg [.k 12 10 [], .m 5 12])
  (.seq (.seq (.reg [.m 13 5, .o 14 (.un .not (.t 13))])
  (.cond (.t 14)
  (.seq (.reg [.o 4 (.mov (.k (.c (.bool false))))])
  (.ret))
  (.skip)))
  (.seq (.reg [.d 15 3 2, .d 16 16 3, .k 17 11 [(.t 15), (.t 16)], .m 6 17])
  (.seq (.seq (.reg [.m 18 6])
  (.cond (.t 18)
  (.seq (.reg [.m 19 5, .m 4 19])
  (.ret))
  (.skip)))
  (.seq (.reg [.d 21 3 2, .d 22 16 3, .k 23 12 [(.t 21), (.t 22)], .m 20 23, .x 24 20 0, .x 25 20 1, .o 7 (.box (.k (.agg [.csl [], .csl [], .csl []]))), .s 3 7 24, .m 8 25])
  (.seq (.reg [.d 27 3 2, .d 28 16 3, .k 29 13 [(.t 27), (.t 28)], .m 26 29, .x 30 26 0, .x 31 26 1, .o 9 (.box (.k (.agg [.csl [], .csl [], .csl []]))), .s 3 9 30, .m 10 31])
  (.seq (.reg [.d 32 3 7, .d 33 3 9, .k 34 14 [(.t 32), (.t 33)], .m 11 34])
  (.seq (.dreg [.m 35 5, .m 36 35, .y 37 (.mov (.t 11)) 36, .o 38 (.pick (.t 36) (.t 37) (.k (.c (.bool false)))), .m 39 38, .y 40 (.mov (.t 8)) 39, .y 41 (.mov (.t 10)) 39, .y 42 (.bin .eql (.t 40) (.t 41)) 39, .o 43 (.pick (.t 39) (.t 42) (.k (.c (.bool false)))), .m 44 43, .y 45 (.loadn 3 (.t 2)) 44, .y 46 (.fadd 3 (.t 3)) 44, .y 47 (.loadn 4 (.t 46)) 44, .y 48 (.call (.k (.fn 15 [])) [(.t 45), (.t 47)]) 44, .y 49 (.loadn 3 (.t 2)) 44, .y 50 (.fadd 3 (.t 3)) 44, .y 51 (.loadn 4 (.t 50)) 44, .y 52 (.call (.k (.fn 16 [])) [(.t 49), (.t 51)]) 44, .y 53 (.eqb false (.t 48) (.t 52)) 44, .o 54 (.pick (.t 44) (.t 53) (.k (.c (.bool false)))), .m 4 54]
    [.q (.m 35 5), .q (.m 36 35), .q (.y 37 (.mov (.t 11)) 36), .q (.o 38 (.pick (.t 36) (.t 37) (.k (.c (.bool false))))), .q (.m 39 38), .q (.y 40 (.mov (.t 8)) 39), .q (.y 41 (.mov (.t 10)) 39), .q (.y 42 (.bin .eql (.t 40) (.t 41)) 39), .q (.o 43 (.pick (.t 39) (.t 42) (.k (.c (.bool false))))), .q (.m 44 43), .q (.y 45 (.loadn 3 (.t 2)) 44), .q (.y 46 (.fadd 3 (.t 3)) 44), .q (.y 47 (.loadn 4 (.t 46)) 44), ⟨.y 48 (.call (.k (.fn 15 [])) [(.t 45), (.t 47)]) 44, true, 0⟩, .q (.y 49 (.loadn 3 (.t 2)) 44), .q (.y 50 (.fadd 3 (.t 3)) 44), .q (.y 51 (.loadn 4 (.t 50)) 44), ⟨.y 52 (.call (.k (.fn 16 [])) [(.t 49), (.t 51)]) 44, true, 1⟩, ⟨.y 53 (.eqb false (.t 48) (.t 52)) 44, false, 2⟩, ⟨.o 54 (.pick (.t 44) (.t 53) (.k (.c (.bool false)))), false, 2⟩, ⟨.m 4 54, false, 2⟩])
  (.ret)))))))))
def r3 : List ResV := [.tmp 4]
theorem k3 : CodeIs Tryz.prog 3 2 Tryz.f3 c3 r3 := ⟨by kernel_rfl, Tryz.func3, rfl, by kernel_rfl, by kernel_rfl, by decide, enters_fn Tryz.func3 (by kernel_rfl) rfl⟩
/-- lambentlaw11.SigFinds -/
def c4 : AC :=
  .seq (.reg [.o 2 (.box (.t 0)), .o 4 (.mov (.k (.c (.bool false))))])
  (.seq (.reg [.k 16 10 [], .m 5 16])
  (.seq (.seq (.reg [.m 17 5, .o 18 (.un .not (.t 17))])
  (.cond (.t 18)
  (.seq (.reg [.o 4 (.mov (.k (.c (.bool false))))])
  (.ret))
  (.skip)))
  (.seq (.reg [.d 19 3 2, .o 20 (.build [.c (.int .i64 0), .csl [], .c (.int .i64 0), .c (.int .i64 0), .c (.str []), .c (.int .i64 0), .csl [], .c (.str []), .c (.int .i64 0), .c (.int .i64 0), .c (.int .i64 0), .c (.str []), .c (.int .i64 0), .csl [], .c (.int .i64 0), .c (.int .i64 0)] []), .k 21 11 [(.t 19), (.t 20)], .m 6 21])
  (.seq (.seq (.reg [.m 22 6, .m 23 22, .z 24 (.mov (.t 1)) 23, .z 25 (.lens (.t 24)) 23, .z 26 (.bin .gtr (.t 25) (.k (.c (.int .i64 60)))) 23, .o 27 (.pick (.t 23) (.k (.c (.bool true))) (.t 26))])
  (.cond (.t 27)
  (.seq (.reg [.m 28 5, .m 4 28])
  (.ret))
  (.skip)))
  (.seq (.reg [.d 30 3 2, .m 31 1, .k 32 17 [(.t 30), (.t 31)], .m 29 32, .x 33 29 0, .x 34 29 1, .m 7 33, .m 8 34])
  (.seq (.reg [.d 36 3 2, .m 37 1, .k 38 18 [(.t 36), (.t 37)], .m 35 38, .x 39 35 0, .x 40 35 1, .m 9 39, .m 10 40])
  (.seq (.reg [.d 42 3 2, .m 43 1, .k 44 19 [(.t 42), (.t 43)], .m 41 44, .x 45 41 0, .x 46 41 1, .o 11 (.box (.k (.agg [.c (.int .i64 0), .c (.str []), .c (.int .i64 0), .csl []]))), .s 4 11 45, .m 12 46])
  (.seq (.reg [.d 48 3 2, .m 49 1, .k 50 20 [(.t 48), (.t 49)], .m 47 50, .x 51 47 0, .x 52 47 1, .o 13 (.box (.k (.agg [.c (.int .i64 0), .c (.str []), .c (.int .i64 0), .csl []]))), .s 4 13 51, .m 14 52])
  (.seq (.reg [.d 53 4 11, .d 54 4 13, .k 55 21 [(.t 53), (.t 54)], .m 15 55])
  (.seq (.reg [.m 56 5, .m 57 56, .y 58 (.mov (.t 7)) 57, .y 59 (.mov (.t 9)) 57, .y 60 (.bin .eql (.t 58) (.t 59)) 57, .o 61 (.pick (.t 57) (.t 60) (.k (.c (.bool false)))), .m 62 61, .y 63 (.mov (.t 8)) 62, .y 64 (.mov (.t 10)) 62, .y 65 (.eqb false (.t 63) (.t 64)) 62, .o 66 (.pick (.t 62) (.t 65) (.k (.c (.bool false)))), .m 67 66, .y 68 (.mov (.t 15)) 67, .o 69 (.pick (.t 67) (.t 68) (.k (.c (.bool false)))), .m 70 69, .y 71 (.mov (.t 12)) 70, .y 72 (.mov (.t 14)) 70, .y 73 (.eqb false (.t 71) (.t 72)) 70, .o 74 (.pick (.t 70) (.t 73) (.k (.c (.bool false)))), .m 75 74, .y 76 (.mov (.t 1)) 75, .y 77 (.call (.k (.fn 22 [])) [(.t 76)]) 75, .y 78 (.mov (.t 1)) 75, .y 79 (.call (.k (.fn 23 [])) [(.t 78)]) 75, .y 80 (.eqb false (.t 77) (.t 79)) 75, .o 81 (.pick (.t 75) (.t 80) (.k (.c (.bool false)))), .m 4 81])
  (.ret)))))))))))
def r4 : List ResV := [.tmp 4]
theorem k4 : CodeIs Tryz.prog 4 2 Tryz.f4 c4 r4 := ⟨by kernel_rfl, Tryz.func4, rfl, by kernel_rfl, by kernel_rfl, by decide, enters_fn Tryz.func4 (by kernel_rfl) rfl⟩
/-- lambentlaw11.SigKeeps -/
def c5 : AC :=
  .seq (.reg [.o 3 (.box (.t 0)), .o 4 (.box (.t 1)), .o 6 (.mov (.k (.c (.bool false))))])
  (.seq (.reg [.k 32 10 [], .m 7 32])
  (.seq (.seq (.reg [.m 33 7, .o 34 (.un .not (.t 33))])
  (.cond (.t 34)
  (.seq (.reg [.o 6 (.mov (.k (.c (.bool false))))])
  (.ret))
  (.skip)))
  (.seq (.reg [.d 35 3 3, .d 36 16 4, .k 37 11 [(.t 35), (.t 36)], .m 8 37])
  (.seq (.seq (.reg [.m 38 8, .m 39 38, .z 40 (.mov (.t 2)) 39, .z 41 (.lens (.t 40)) 39, .z 42 (.bin .gtr (.t 41) (.k (.c (.int .i64 60)))) 39, .o 43 (.pick (.t 39) (.k (.c (.bool true))) (.t 42))])
  (.cond (.t 43)
  (.seq (.reg [.m 44 7, .m 6 44])
  (.ret))
  (.skip)))
  (.seq (.reg [.d 46 3 3, .o 47 (.build [.c (.int .i64 0), .csl [], .c (.int .i64 0), .c (.int .i64 0), .c (.str []), .c (.int .i64 0), .csl [], .c (.str []), .c (.int .i64 0), .c (.int .i64 0), .c (.int .i64 0), .c (.str []), .c (.int .i64 0), .csl [], .c (.int .i64 0), .c (.int .i64 0)] [(0, 1, (.k (.c (.int .i64 3))))]), .k 48 13 [(.t 46), (.t 47)], .m 45 48, .x 49 45 0, .x 50 45 1, .o 9 (.box (.k (.agg [.csl [], .csl [], .csl []]))), .s 3 9 49, .m 10 50])
  (.seq (.reg [.d 52 3 3, .d 53 16 4, .k 54 12 [(.t 52), (.t 53)], .m 51 54, .x 55 51 0, .x 56 51 1, .o 11 (.box (.k (.agg [.csl [], .csl [], .csl []]))), .s 3 11 55, .m 12 56])
  (.seq (.reg [.d 57 3 3, .d 58 3 9, .k 59 14 [(.t 57), (.t 58)], .m 13 59])
  (.seq (.seq (.reg [.m 60 13, .o 61 (.un .not (.t 60))])
  (.cond (.t 61)
  (.seq (.reg [.o 6 (.mov (.k (.c (.bool false))))])
  (.ret))
  (.skip)))
  (.seq (.seq (.reg [.m 62 12, .o 63 (.bin .neq (.t 62) (.k (.c (.int .i64 0))))])
  (.cond (.t 63)
  (.seq (.reg [.d 64 3 11, .d 65 3 3, .k 66 14 [(.t 64), (.t 65)], .m 14 66])
  (.seq (.reg [.m 67 7, .m 68 67, .y 69 (.mov (.t 14)) 68, .o 70 (.pick (.t 68) (.t 69) (.k (.c (.bool false)))), .m 6 70])
  (.ret)))
  (.skip)))
  (.seq (.reg [.d 72 3 3, .m 73 2, .k 74 17 [(.t 72), (.t 73)], .m 71 74, .x 75 71 0, .x 76 71 1, .m 15 75, .m 16 76])
  (.seq (.reg [.d 78 3 3, .m 79 2, .k 80 19 [(.t 78), (.t 79)], .m 77 80, .x 81 77 0, .x 82 77 1, .o 17 (.box (.k (.agg [.c (.int .i64 0), .c (.str []), .c (.int .i64 0), .csl []]))), .s 4 17 81, .m 18 82])
  (.seq (.reg [.d 84 3 11, .m 85 2, .k 86 17 [(.t 84), (.t 85)], .m 83 86, .x 87 83 0, .x 88 83 1, .m 19 87, .m 20 88])
  (.seq (.reg [.d 90 3 11, .m 91 2, .k 92 19 [(.t 90), (.t 91)], .m 89 92, .x 93 89 0, .x 94 89 1, .o 21 (.box (.k (.agg [.c (.int .i64 0), .c (.str []), .c (.int .i64 0), .csl []]))), .s 4 21 93, .m 22 94])
  (.seq (.reg [.d 95 4 17, .d 96 4 21, .k 97 21 [(.t 95), (.t 96)], .m 23 97])
  (.seq (.seq (.reg [.m 98 16, .m 99 98, .y 100 (.mov (.t 20)) 99, .y 101 (.un .not (.t 100)) 99, .y 102 (.mov (.t 101)) 99, .z 103 (.mov (.t 15)) 102, .z 104 (.mov (.t 19)) 102, .z 105 (.bin .neq (.t 103) (.t 104)) 102, .y 106 (.pick (.t 102) (.k (.c (.bool true))) (.t 105)) 99, .o 107 (.pick (.t 99) (.t 106) (.k (.c (.bool false)))), .m 108 107, .z 109 (.mov (.t 18)) 108, .z 110 (.mov (.t 109)) 108, .y 111 (.mov (.t 22)) 110, .y 112 (.un .not (.t 111)) 110, .y 113 (.mov (.t 112)) 110, .z 114 (.mov (.t 23)) 113, .z 115 (.un .not (.t 114)) 113, .y 116 (.pick (.t 113) (.k (.c (.bool true))) (.t 115)) 110, .z 117 (.pick (.t 110) (.t 116) (.k (.c (.bool false)))) 108, .o 118 (.pick (.t 108) (.k (.c (.bool true))) (.t 117))])
  (.cond (.t 118)
  (.seq (.reg [.o 6 (.mov (.k (.c (.bool false))))])
  (.ret))
  (.skip)))
  (.seq (.seq (.reg [.o 24 (.mov (.k (.c (.int .i64 0))))])
  (.block 0 (.loop (.seq (.seq (.reg [.m 119 24, .f 120 1 4, .l 121 120, .o 122 (.lenr (.t 121)), .o 123 (.bin .lss (.t 119) (.t 122))])
  (.cond (.t 123)
  (.skip)
  (.exit 0)))
  (.seq (.block 1 (.seq (.dreg [.d 127 3 11, .f 128 1 4, .l 129 128, .m 130 24, .o 131 (.iadd 1 (.t 129) (.t 130)), .l 132 131, .k 133 17 [(.t 127), (.t 132)], .m 126 133, .x 134 126 0, .x 135 126 1, .m 25 134, .m 26 135]
    [.q (.d 127 3 11), .q (.f 128 1 4), .q (.l 129 128), .q (.m 130 24), .q (.o 131 (.iadd 1 (.t 129) (.t 130))), .q (.l 132 131), ⟨.k 133 17 [(.t 127), (.t 132)], true, 0⟩, ⟨.m 126 133, false, 1⟩, ⟨.x 134 126 0, false, 1⟩, ⟨.x 135 126 1, false, 1⟩, ⟨.m 25 134, false, 1⟩, ⟨.m 26 135, false, 1⟩])
  (.seq (.dreg [.d 137 3 11, .f 138 1 4, .l 139 138, .m 140 24, .o 141 (.iadd 1 (.t 139) (.t 140)), .l 142 141, .k 143 19 [(.t 137), (.t 142)], .m 136 143, .x 144 136 0, .x 145 136 1, .o 27 (.box (.k (.agg [.c (.int .i64 0), .c (.str []), .c (.int .i64 0), .csl []]))), .s 4 27 144, .m 28 145]
    [⟨.o 27 (.box (.k (.agg [.c (.int .i64 0), .c (.str []), .c (.int .i64 0), .csl []]))), true, 0⟩, .q (.d 137 3 11), .q (.f 138 1 4), .q (.l 139 138), .q (.m 140 24), .q (.o 141 (.iadd 1 (.t 139) (.t 140))), .q (.l 142 141), .q (.k 143 19 [(.t 137), (.t 142)]), .q (.m 136 143), .q (.x 144 136 0), ⟨.s 4 27 144, true, 1⟩, .q (.x 145 136 1), ⟨.m 28 145, false, 2⟩])
  (.seq (.reg [.d 146 4 27, .f 147 3 4, .d 148 4 147, .k 149 21 [(.t 146), (.t 148)], .m 29 149])
  (.seq (.reg [.f 150 0 4, .l 151 150, .o 152 (.bin .eql (.t 151) (.k (.c (.int .i64 0)))), .m 153 152, .y 154 (.mov (.t 26)) 153, .y 155 (.un .not (.t 154)) 153, .y 156 (.mov (.t 155)) 153, .z 157 (.mov (.t 25)) 156, .z 158 (.fadd 2 (.t 4)) 156, .z 159 (.load1 (.t 158)) 156, .z 160 (.bin .neq (.t 157) (.t 159)) 156, .y 161 (.pick (.t 156) (.k (.c (.bool true))) (.t 160)) 153, .o 162 (.pick (.t 153) (.t 161) (.k (.c (.bool false)))), .m 163 162, .z 164 (.fadd 0 (.t 4)) 163, .z 165 (.load1 (.t 164)) 163, .z 166 (.bin .eql (.t 165) (.k (.c (.int .i64 1)))) 163, .z 167 (.mov (.t 166)) 163, .y 168 (.mov (.t 28)) 167, .y 169 (.un .not (.t 168)) 167, .y 170 (.mov (.t 169)) 167, .z 171 (.mov (.t 29)) 170, .z 172 (.un .not (.t 171)) 170, .y 173 (.pick (.t 170) (.k (.c (.bool true))) (.t 172)) 167, .z 174 (.pick (.t 167) (.t 173) (.k (.c (.bool false)))) 163, .o 175 (.pick (.t 163) (.k (.c (.bool true))) (.t 174))])
  (.cond (.t 175)
  (.seq (.reg [.o 6 (.mov (.k (.c (.bool false))))])
  (.ret))
  (.skip)))))))
  (.reg [.m 124 24, .o 125 (.bin .add (.t 124) (.k (.c (.int .i64 1)))), .m 24 125]))))))
  (.seq (.reg [.d 177 3 11, .d 178 16 4, .k 179 12 [(.t 177), (.t 178)], .m 176 179, .x 180 176 0, .x 181 176 1, .o 30 (.box (.k (.agg [.csl [], .csl [], .csl []]))), .s 3 30 180, .m 31 181])
  (.seq (.reg [.m 182 7, .m 183 182, .y 184 (.fadd 1 (.t 4)) 183, .y 185 (.load1 (.t 184)) 183, .y 186 (.lenr (.t 185)) 183, .y 187 (.bin .eql (.t 186) (.k (.c (.int .i64 0)))) 183, .y 188 (.mov (.t 187)) 183, .z 189 (.fadd 0 (.t 4)) 188, .z 190 (.load1 (.t 189)) 188, .z 191 (.bin .eql (.t 190) (.k (.c (.int .i64 3)))) 188, .y 192 (.pick (.t 188) (.k (.c (.bool true))) (.t 191)) 183, .y 193 (.mov (.t 192)) 183, .z 194 (.mov (.t 31)) 193, .z 195 (.bin .neq (.t 194) (.k (.c (.int .i64 0)))) 193, .y 196 (.pick (.t 193) (.k (.c (.bool true))) (.t 195)) 183, .o 197 (.pick (.t 183) (.t 196) (.k (.c (.bool false)))), .m 6 197])
  (.ret)))))))))))))))))))
def r5 : List ResV := [.tmp 6]
theorem k5 : CodeIs Tryz.prog 5 3 Tryz.f5 c5 r5 := ⟨by kernel_rfl, Tryz.func5, rfl, by kernel_rfl, by kernel_rfl, by decide, enters_fn Tryz.func5 (by kernel_rfl) rfl⟩
end Go.Proofs.YtohcnohllbjlcaaGreatDoor
namespace Go.Proofs.YtohcnohllbjlcaaGreatDoor
open Go.RowKit Go.Lamb
/-- ty.Text -/
def c40 : AC :=
  .seq (.reg [.o 1 (.box (.t 0)), .o 2 (.mov (.k (.c (.str []))))])
  (.seq (.block 0 (.seq (.reg [.f 9 0 1, .l 10 9, .o 11 (.bin .eql (.t 10) (.k (.c (.int .i64 1)))), .m 12 11, .y 13 (.fadd 2 (.t 1)) 12, .y 14 (.load1 (.t 13)) 12, .y 15 (.bin .lss (.t 14) (.k (.c (.int .i64 0)))) 12, .o 16 (.pick (.t 12) (.t 15) (.k (.c (.bool false)))), .m 8 16])
  (.cond (.t 8)
  (.seq (.reg [.o 2 (.mov (.k (.c (.str [63]))))])
  (.ret))
  (.seq (.reg [.f 18 0 1, .l 19 18, .o 20 (.bin .eql (.t 19) (.k (.c (.int .i64 1)))), .m 17 20])
  (.cond (.t 17)
  (.seq (.reg [.f 21 2 1, .l 22 21, .o 23 (.bin .rem (.t 22) (.k (.c (.int .i64 26)))), .o 24 (.bin .add (.k (.c (.int .i64 65))) (.t 23)), .o 25 (.conv .u8 (.t 24)), .o 26 (.bsl 1 [(.t 25)]), .o 27 (.b2s (.t 26)), .m 3 27])
  (.seq (.seq (.reg [.f 28 2 1, .l 29 28, .o 30 (.bin .quo (.t 29) (.k (.c (.int .i64 26)))), .m 4 30])
  (.seq (.reg [.m 31 4, .o 32 (.bin .gtr (.t 31) (.k (.c (.int .i64 0))))])
  (.cond (.t 32)
  (.reg [.m 33 3, .m 34 4, .k 35 75 [(.t 34)], .o 36 (.bin .add (.t 33) (.t 35)), .m 3 36])
  (.skip))))
  (.seq (.reg [.m 37 3, .m 2 37])
  (.ret))))
  (.seq (.reg [.d 39 4 1, .k 40 60 [(.t 39)], .m 38 40])
  (.cond (.t 38)
  (.seq (.dreg [.f 41 3 1, .l 42 41, .o 43 (.iadd 4 (.t 42) (.k (.c (.int .i64 0)))), .d 44 4 43, .k 45 40 [(.t 44)], .f 46 3 1, .l 47 46, .o 48 (.iadd 4 (.t 47) (.k (.c (.int .i64 0)))), .d 49 4 48, .k 50 60 [(.t 49)], .k 51 76 [(.t 45), (.t 50)], .o 52 (.bin .add (.t 51) (.k (.c (.str [32, 45, 62, 32])))), .f 53 3 1, .l 54 53, .o 55 (.iadd 4 (.t 54) (.k (.c (.int .i64 1)))), .d 56 4 55, .k 57 40 [(.t 56)], .o 58 (.bin .add (.t 52) (.t 57)), .m 2 58]
    [.q (.f 41 3 1), .q (.l 42 41), .q (.o 43 (.iadd 4 (.t 42) (.k (.c (.int .i64 0))))), .q (.d 44 4 43), ⟨.k 45 40 [(.t 44)], true, 0⟩, .q (.f 46 3 1), .q (.l 47 46), .q (.o 48 (.iadd 4 (.t 47) (.k (.c (.int .i64 0))))), .q (.d 49 4 48), ⟨.k 50 60 [(.t 49)], true, 1⟩, ⟨.k 51 76 [(.t 45), (.t 50)], true, 2⟩, .q (.f 53 3 1), .q (.l 54 53), .q (.o 55 (.iadd 4 (.t 54) (.k (.c (.int .i64 1))))), .q (.d 56 4 55), ⟨.k 57 40 [(.t 56)], true, 3⟩, ⟨.o 52 (.bin .add (.t 51) (.k (.c (.str [32, 45, 62, 32])))), false, 3⟩, ⟨.o 58 (.bin .add (.t 52) (.t 57)), false, 4⟩, ⟨.m 2 58, false, 4⟩])
  (.ret))
  (.skip))))))))
  (.seq (.reg [.f 59 1 1, .l 60 59, .o 61 (.bsl 1 [(.t 60)]), .m 5 61])
  (.seq (.seq (.reg [.f 62 3 1, .l 63 62, .o 64 (.lenr (.t 63)), .o 65 (.mov (.k (.c (.int .i64 0))))])
  (.block 1 (.loop (.seq (.reg [.o 66 (.bin .lss (.t 65) (.t 64))])
  (.seq (.cond (.t 66)
  (.skip)
  (.exit 1))
  (.seq (.block 2 (.seq (.reg [.o 67 (.iadd 4 (.t 63) (.t 65)), .d 68 4 67, .o 7 (.box (.k (.agg [.c (.int .i64 0), .c (.str []), .c (.int .i64 0), .csl []]))), .s 4 7 68])
  (.dreg [.m 69 5, .d 70 4 7, .k 71 40 [(.t 70)], .f 72 0 7, .l 73 72, .o 74 (.bin .neq (.t 73) (.k (.c (.int .i64 1)))), .m 75 74, .y 76 (.fadd 3 (.t 7)) 75, .y 77 (.load1 (.t 76)) 75, .y 78 (.lenr (.t 77)) 75, .y 79 (.bin .gtr (.t 78) (.k (.c (.int .i64 0)))) 75, .o 80 (.pick (.t 75) (.t 79) (.k (.c (.bool false)))), .k 81 76 [(.t 71), (.t 80)], .o 82 (.bsl 1 [(.t 81)]), .o 83 (.app 9 1 16 (.t 69) (.t 82)), .m 5 83]
    [.q (.d 70 4 7), ⟨.k 71 40 [(.t 70)], true, 0⟩, .q (.f 72 0 7), .q (.l 73 72), .q (.o 74 (.bin .neq (.t 73) (.k (.c (.int .i64 1))))), ⟨.m 75 74, false, 1⟩, ⟨.y 76 (.fadd 3 (.t 7)) 75, false, 1⟩, ⟨.y 77 (.load1 (.t 76)) 75, false, 1⟩, ⟨.y 78 (.lenr (.t 77)) 75, false, 1⟩, ⟨.y 79 (.bin .gtr (.t 78) (.k (.c (.int .i64 0)))) 75, false, 1⟩, ⟨.o 80 (.pick (.t 75) (.t 79) (.k (.c (.bool false)))), false, 1⟩, ⟨.k 81 76 [(.t 71), (.t 80)], true, 1⟩, .q (.m 69 5), ⟨.o 82 (.bsl 1 [(.t 81)]), false, 2⟩, ⟨.o 83 (.app 9 1 16 (.t 69) (.t 82)), true, 2⟩, ⟨.m 5 83, false, 3⟩])))
  (.reg [.o 84 (.bin .add (.t 65) (.k (.c (.int .i64 1)))), .m 65 84])))))))
  (.seq (.reg [.m 85 5, .k 86 77 [(.t 85), (.k (.c (.str [32])))], .m 2 86])
  (.ret)))))
def r40 : List ResV := [.tmp 2]
theorem k40 : CodeIs Tryz.prog 40 1 Tryz.f40 c40 r40 := ⟨by kernel_rfl, Tryz.func40, rfl, by kernel_rfl, by kernel_rfl, by decide, enters_fn Tryz.func40 (by kernel_rfl) rfl⟩
/-- ty.put -/
def c76 : AC :=
  .seq (.reg [.o 4 (.mov (.k (.c (.str []))))])
  (.seq (.seq (.reg [.m 5 1])
  (.cond (.t 5)
  (.seq (.reg [.m 6 0, .o 7 (.bin .add (.k (.c (.str [40]))) (.t 6)), .o 8 (.bin .add (.t 7) (.k (.c (.str [41])))), .m 4 8])
  (.ret))
  (.skip)))
  (.seq (.reg [.m 9 0, .m 4 9])
  (.ret)))
def r76 : List ResV := [.tmp 4]
theorem k76 : CodeIs Tryz.prog 76 2 Tryz.f76 c76 r76 := ⟨by kernel_rfl, Tryz.func76, rfl, by kernel_rfl, by kernel_rfl, by decide, enters_fn Tryz.func76 (by kernel_rfl) rfl⟩
/-- ty.arrow -/
def c60 : AC :=
  .seq (.reg [.o 1 (.box (.t 0)), .o 2 (.mov (.k (.c (.bool false))))])
  (.seq (.reg [.f 3 0 1, .l 4 3, .o 5 (.bin .eql (.t 4) (.k (.c (.int .i64 2)))), .m 6 5, .y 7 (.fadd 3 (.t 1)) 6, .y 8 (.load1 (.t 7)) 6, .y 9 (.lenr (.t 8)) 6, .y 10 (.bin .eql (.t 9) (.k (.c (.int .i64 2)))) 6, .o 11 (.pick (.t 6) (.t 10) (.k (.c (.bool false)))), .m 2 11])
  (.ret))
def r60 : List ResV := [.tmp 2]
theorem k60 : CodeIs Tryz.prog 60 1 Tryz.f60 c60 r60 := ⟨by kernel_rfl, Tryz.func60, rfl, by kernel_rfl, by kernel_rfl, by decide, enters_fn Tryz.func60 (by kernel_rfl) rfl⟩
/-- ty.Valid -/
def c28 : AC :=
  .seq (.reg [.o 1 (.box (.t 0)), .o 2 (.mov (.k (.c (.bool false))))])
  (.seq (.reg [.o 3 (.mov (.k (.c (.bool false))))])
  (.seq (.seq (.reg [.f 4 0 1, .l 5 4])
  (.block 0 (.seq (.reg [.o 7 (.bin .eql (.t 5) (.k (.c (.int .i64 0)))), .m 6 7])
  (.cond (.t 6)
  (.reg [.f 8 1 1, .l 9 8, .k 10 59 [(.t 9)], .m 11 10, .y 12 (.fadd 2 (.t 1)) 11, .y 13 (.load1 (.t 12)) 11, .y 14 (.bin .eql (.t 13) (.k (.c (.int .i64 0)))) 11, .o 15 (.pick (.t 11) (.t 14) (.k (.c (.bool false)))), .m 3 15])
  (.seq (.reg [.o 17 (.bin .eql (.t 5) (.k (.c (.int .i64 1)))), .m 16 17])
  (.cond (.t 16)
  (.reg [.f 18 1 1, .l 19 18, .o 20 (.bin .eql (.t 19) (.k (.c (.str [])))), .m 21 20, .y 22 (.fadd 2 (.t 1)) 21, .y 23 (.load1 (.t 22)) 21, .y 24 (.bin .geq (.t 23) (.k (.c (.int .i64 0)))) 21, .o 25 (.pick (.t 21) (.t 24) (.k (.c (.bool false)))), .m 26 25, .y 27 (.fadd 2 (.t 1)) 26, .y 28 (.load1 (.t 27)) 26, .y 29 (.bin .leq (.t 28) (.k (.c (.int .i64 4611686018427387904)))) 26, .o 30 (.pick (.t 26) (.t 29) (.k (.c (.bool false)))), .m 31 30, .y 32 (.fadd 3 (.t 1)) 31, .y 33 (.load1 (.t 32)) 31, .y 34 (.lenr (.t 33)) 31, .y 35 (.bin .eql (.t 34) (.k (.c (.int .i64 0)))) 31, .o 36 (.pick (.t 31) (.t 35) (.k (.c (.bool false)))), .m 3 36])
  (.seq (.reg [.o 38 (.bin .eql (.t 5) (.k (.c (.int .i64 2)))), .m 37 38])
  (.cond (.t 37)
  (.reg [.f 39 1 1, .l 40 39, .o 41 (.bin .eql (.t 40) (.k (.c (.str [])))), .m 42 41, .y 43 (.fadd 2 (.t 1)) 42, .y 44 (.load1 (.t 43)) 42, .y 45 (.bin .eql (.t 44) (.k (.c (.int .i64 0)))) 42, .o 46 (.pick (.t 42) (.t 45) (.k (.c (.bool false)))), .m 47 46, .y 48 (.loadn 4 (.t 1)) 47, .y 49 (.call (.k (.fn 60 [])) [(.t 48)]) 47, .o 50 (.pick (.t 47) (.t 49) (.k (.c (.bool false)))), .m 3 50])
  (.skip)))))))))
  (.seq (.reg [.m 51 3, .m 52 51, .y 53 (.fadd 3 (.t 1)) 52, .y 54 (.load1 (.t 53)) 52, .y 55 (.call (.k (.fn 61 [])) [(.t 54), (.k (.fn 62 []))]) 52, .y 56 (.un .not (.t 55)) 52, .o 57 (.pick (.t 52) (.t 56) (.k (.c (.bool false)))), .m 2 57])
  (.ret))))
def r28 : List ResV := [.tmp 2]
theorem k28 : CodeIs Tryz.prog 28 1 Tryz.f28 c28 r28 := ⟨by kernel_rfl, Tryz.func28, rfl, by kernel_rfl, by kernel_rfl, by decide, enters_fn Tryz.func28 (by kernel_rfl) rfl⟩
/-- ty.Valid$1 -/
def c62 : AC :=
  .seq (.reg [.o 1 (.box (.t 0)), .o 2 (.mov (.k (.c (.bool false))))])
  (.seq (.reg [.d 3 4 1, .k 4 28 [(.t 3)], .o 5 (.un .not (.t 4)), .m 2 5])
  (.ret))
def r62 : List ResV := [.tmp 2]
theorem k62 : CodeIs Tryz.prog 62 1 Tryz.f62 c62 r62 := ⟨by kernel_rfl, Tryz.func62, rfl, by kernel_rfl, by kernel_rfl, by decide, enters_fn Tryz.func62 (by kernel_rfl) rfl⟩
def r6 : List ResV := [.tmp 4]
/-- slices.ContainsFunc[[]api.Ty,api.Ty] -/
def c61 : AC :=
  .seq (.reg [.o 4 (.mov (.k (.c (.bool false))))])
  (.seq (.reg [.m 5 0, .m 6 1, .k 7 112 [(.t 5), (.t 6)], .o 8 (.bin .geq (.t 7) (.k (.c (.int .i64 0)))), .m 4 8])
  (.ret))
def r61 : List ResV := [.tmp 4]
theorem k61 : CodeIs Tryz.prog 61 2 Tryz.f61 c61 r61 := ⟨by kernel_rfl, Tryz.func61, rfl, by kernel_rfl, by kernel_rfl, by decide, enters_fn Tryz.func61 (by kernel_rfl) rfl⟩
/-- slices.IndexFunc[[]api.Ty,api.Ty] -/
def c112 : AC :=
  .seq (.reg [.o 4 (.mov (.k (.c (.int .i64 0))))])
  (.seq (.seq (.reg [.m 6 0, .o 7 (.lenr (.t 6)), .o 8 (.mov (.k (.c (.int .i64 0))))])
  (.block 0 (.loop (.seq (.reg [.o 9 (.bin .lss (.t 8) (.t 7))])
  (.seq (.cond (.t 9)
  (.skip)
  (.exit 0))
  (.seq (.block 1 (.seq (.reg [.m 10 8, .m 5 10])
  (.seq (.reg [.m 11 1, .m 12 0, .m 13 5, .o 14 (.iadd 4 (.t 12) (.t 13)), .d 15 4 14, .o 16 (.call (.t 11) [(.t 15)])])
  (.cond (.t 16)
  (.seq (.reg [.m 17 5, .m 4 17])
  (.ret))
  (.skip)))))
  (.reg [.o 18 (.bin .add (.t 8) (.k (.c (.int .i64 1)))), .m 8 18])))))))
  (.seq (.reg [.o 4 (.mov (.k (.c (.int .i64 (-1)))))])
  (.ret)))
def r112 : List ResV := [.tmp 4]
theorem k112 : CodeIs Tryz.prog 112 2 Tryz.f112 c112 r112 := ⟨by kernel_rfl, Tryz.func112, rfl, by kernel_rfl, by kernel_rfl, by decide, enters_fn Tryz.func112 (by kernel_rfl) rfl⟩
end Go.Proofs.YtohcnohllbjlcaaGreatDoor
namespace Go.Proofs.YtohcnohllbjlcaaGreatDoor
open Go.RowKit Go.Lamb
end Go.Proofs.YtohcnohllbjlcaaGreatDoor
namespace Go.Proofs.YtohcnohllbjlcaaGreatDoor
open Go.RowKit Go.Lamb
/-- ops.Find$1 -/
def c176 : AC :=
  .seq (.reg [.o 2 (.box (.t 0)), .o 3 (.mov (.k (.c (.bool false))))])
  (.seq (.reg [.f 4 0 2, .l 5 4, .l 6 1, .o 7 (.bin .eql (.t 5) (.t 6)), .m 3 7])
  (.ret))
def r176 : List ResV := [.tmp 3]
theorem k176 : CodeIs Tryz.prog 176 2 Tryz.f176 c176 r176 := ⟨by kernel_rfl, Tryz.func176, rfl, by kernel_rfl, by kernel_rfl, by decide, enters_fn Tryz.func176 (by kernel_rfl) rfl⟩
/-- slices.IndexFunc[[]api.Op,api.Op] -/
def c175 : AC :=
  .seq (.reg [.o 4 (.mov (.k (.c (.int .i64 0))))])
  (.seq (.seq (.reg [.m 6 0, .o 7 (.lenr (.t 6)), .o 8 (.mov (.k (.c (.int .i64 0))))])
  (.block 0 (.loop (.seq (.reg [.o 9 (.bin .lss (.t 8) (.t 7))])
  (.seq (.cond (.t 9)
  (.skip)
  (.exit 0))
  (.seq (.block 1 (.seq (.reg [.m 10 8, .m 5 10])
  (.seq (.reg [.m 11 1, .m 12 0, .m 13 5, .o 14 (.iadd 3 (.t 12) (.t 13)), .d 15 3 14, .o 16 (.call (.t 11) [(.t 15)])])
  (.cond (.t 16)
  (.seq (.reg [.m 17 5, .m 4 17])
  (.ret))
  (.skip)))))
  (.reg [.o 18 (.bin .add (.t 8) (.k (.c (.int .i64 1)))), .m 8 18])))))))
  (.seq (.reg [.o 4 (.mov (.k (.c (.int .i64 (-1)))))])
  (.ret)))
def r175 : List ResV := [.tmp 4]
theorem k175 : CodeIs Tryz.prog 175 2 Tryz.f175 c175 r175 := ⟨by kernel_rfl, Tryz.func175, rfl, by kernel_rfl, by kernel_rfl, by decide, enters_fn Tryz.func175 (by kernel_rfl) rfl⟩
/-- ops.Find -/
def c155 : AC :=
  .seq (.reg [.o 3 (.box (.t 1)), .o 4 (.box (.k (.agg [.c (.str []), .c (.int .i64 0), .c (.int .i64 0)]))), .o 5 (.mov (.k (.c (.bool false))))])
  (.seq (.reg [.m 7 0, .o 8 (.mkfn 176 [(.t 3)]), .k 9 175 [(.t 7), (.t 8)], .m 6 9])
  (.seq (.seq (.reg [.m 10 6, .o 11 (.bin .lss (.t 10) (.k (.c (.int .i64 0))))])
  (.cond (.t 11)
  (.seq (.reg [.o 12 (.build [.c (.str []), .c (.int .i64 0), .c (.int .i64 0)] []), .s 3 4 12, .o 5 (.mov (.k (.c (.bool false))))])
  (.ret))
  (.skip)))
  (.seq (.reg [.m 13 0, .m 14 6, .o 15 (.iadd 3 (.t 13) (.t 14)), .d 16 3 15, .s 3 4 16, .o 5 (.mov (.k (.c (.bool true))))])
  (.ret))))
def r155 : List ResV := [.celln 3 4, .tmp 5]
theorem k155 : CodeIs Tryz.prog 155 2 Tryz.f155 c155 r155 := ⟨by kernel_rfl, Tryz.func155, rfl, by kernel_rfl, by kernel_rfl, by decide, enters_fn Tryz.func155 (by kernel_rfl) rfl⟩
/-- lambentref02.Find -/
def c138 : AC :=
  .seq (.reg [.o 4 (.box (.k (.agg [.c (.str []), .c (.int .i64 0), .c (.int .i64 0)]))), .o 5 (.mov (.k (.c (.bool false))))])
  (.seq (.seq (.reg [.o 6 (.mov (.k (.c (.int .i64 0))))])
  (.block 0 (.loop (.seq (.seq (.reg [.m 7 6, .m 8 0, .o 9 (.lenr (.t 8)), .o 10 (.bin .lss (.t 7) (.t 9))])
  (.cond (.t 10)
  (.skip)
  (.exit 0)))
  (.seq (.block 1 (.seq (.reg [.m 13 0, .m 14 6, .o 15 (.iadd 3 (.t 13) (.t 14)), .f 16 0 15, .l 17 16, .m 18 1, .o 19 (.bin .eql (.t 17) (.t 18))])
  (.cond (.t 19)
  (.seq (.reg [.m 20 0, .m 21 6, .o 22 (.iadd 3 (.t 20) (.t 21)), .d 23 3 22, .s 3 4 23, .o 5 (.mov (.k (.c (.bool true))))])
  (.ret))
  (.skip))))
  (.reg [.m 11 6, .o 12 (.bin .add (.t 11) (.k (.c (.int .i64 1)))), .m 6 12]))))))
  (.seq (.reg [.o 24 (.build [.c (.str []), .c (.int .i64 0), .c (.int .i64 0)] []), .s 3 4 24, .o 5 (.mov (.k (.c (.bool false))))])
  (.ret)))
def r138 : List ResV := [.celln 3 4, .tmp 5]
theorem k138 : CodeIs Tryz.prog 138 2 Tryz.f138 c138 r138 := ⟨by kernel_rfl, Tryz.func138, rfl, by kernel_rfl, by kernel_rfl, by decide, enters_fn Tryz.func138 (by kernel_rfl) rfl⟩
--absent /-- ops.Is -/
--absent /-- ref02.Is -/
--absent /-- ops.beside -/
--absent /-- ops.Left -/
--absent /-- ops.Right -/
--absent /-- ref02.Left -/
--absent /-- ref02.Right -/
end Go.Proofs.YtohcnohllbjlcaaGreatDoor
namespace Go.Proofs.YtohcnohllbjlcaaGreatDoor
open Go.RowKit Go.Lamb
attribute [local go_sem] advO_skip advO_reg advO_seq advO_block advO_exit advO_endb advO_opsNil advO_ops advG_yes advG_no advG_none advS_some advS_none advO_cond advO_loop advO_dreg advO_ret advO_bad advO_inv advO_nil advO_zero wantedV Lamb.step ev_t ev_k put_some put_none argEnv popTo cellsAt V.cellsV V.rows V.toC toCs fillV bytesC byteRows appV rowsV boundV boundL binV binInt binStr eqC eqL V.isNil leaves V.leaf Ins.quiet Ins.pure List.getD_cons_zero List.getD_cons_succ List.getD_nil List.all_cons List.all_nil List.length_cons List.length_nil List.take_succ_cons List.take_zero List.drop_succ_cons List.drop_zero List.cons_append List.nil_append List.append_nil List.append_assoc List.map_cons List.map_nil List.getElem?_cons_zero List.getElem?_cons_succ List.length_append List.length_set hget0 hget hset0 hset hsets hgs0 hgs hss0 hss List.set_cons_zero List.set_cons_succ List.forall_mem_cons List.not_mem_nil false_implies implies_true Option.map_some Bool.and_true Bool.true_and Bool.not_not Bool.not_true Bool.not_false Bool.and_self Bool.or_true Bool.true_or Bool.or_false Bool.false_or Bool.and_false Bool.false_and Bool.false_eq_true beq_self_eq_true and_self and_true true_and if_true if_false Nat.zero_add Nat.add_zero Nat.le_refl Int.toNat_natCast decide_true decide_false beq_t beq_f List.length_map List.getElem?_map I S B opsC toksC OpT.v OpT.cs OpT.zero Tok.v Tok.cs Pre.v Pre.cs_eq k_mk name_mk n_mk l_mk pos_mk Pre.app applyL natCast0 natCast1 natCast2 AOp.o AOp.m AOp.f AOp.l AOp.d AOp.n AOp.x AOp.s AOp.k AOp.y AOp.z EOp.q low_c low_void low_any low_csl low_nilf low_ptr low_osl low_agg low_tup low_fn resEval advPO_nil advPO_loud advPO_quiet pL_yes pL_no pLS_some pLS_none pQ_yes pQ_no pQS_some pQS_loud eq_self Nat.sub_zero

theorem ops_Find1 (w0 : World) (o : OpT) (name : List UInt8) (σ : H) (b : Nat) (hb : σ[b]? = some (.cells [S name])) : DC Tryz.prog w0 176 [o.v, .ptr b 0] σ (Same (B (o.name == name)) σ) := by
  have hlt := (List.getElem?_eq_some_iff.1 hb).1
  have hg := fun L => hgetb (σ := σ) L hlt
  refine k176.go rfl (fun hok hsz => ?_)
  ((try refine W.a ?_); simp only [go_sem, seval, reduceCtorEq, c176, OpT.v, hg, hb, S])
  (refine W.ret (Fin.same hok (by simp only [resEval, r176, go_sem, seval, reduceCtorEq]; rfl) ?_ (by first | exact .c _ | (simp only [go_sem, seval, reduceCtorEq]; done)) (by first | exact ⟨[], (List.append_nil _).symm⟩ | exact ⟨_, rfl⟩)); simp only [resV])
theorem IndexFunc_op (w0 : World) (l : List OpT) (f : FuncId) (caps : List V) (p : OpT → Bool) (σ : H) (hp : ∀ o ∈ l, DC Tryz.prog w0 f (o.v :: caps) σ (Same (B (p o)) σ)) : DC Tryz.prog w0 175 [.c (opsC l), .fn f caps] σ (Same (I (idxI p l)) σ) := by
  refine k175.go rfl (fun hok hsz => ?_)
  have hlen : l.length ≤ maxLen := by
    have := hsz _ (List.mem_cons_self ..)
    rw [opsC, sz_c, sz_sl] at this
    simpa using this.1
  unfold maxLen at hlen
  ((try refine W.a ?_); simp only [go_sem, seval, reduceCtorEq, c175, opsC])
  refine W.loopP (fun i => i ≤ l.length ∧ UpTo p l i) (fun i => ⟨((((base.put (some 0) (.c (.sl (l.map OpT.cs)))).put (some 1) (.fn f caps)).put (some 7) (I l.length)).put (some 8) (I i)), σ⟩) (fun i => l.length - i) 0 ⟨Nat.zero_le _, upTo_zero⟩ ?_ (fun i hi => ?_)
  · (refine Lew.env ?_; exact lee_here)
  · obtain ⟨hi, hinv⟩ := hi
    by_cases hlt : i < l.length
    · have h1 : ((i : Int) < (l.length : Int)) := by omega
      ((try refine W.a ?_); simp only [go_sem, seval, reduceCtorEq, I, h1])
      refine W.yes rfl ?_
      have hx : l[i]? = some l[i] := List.getElem?_eq_getElem hlt
      have h0 : (0 : Int) ≤ (i : Int) := by omega
      ((try refine W.a ?_); simp only [go_sem, seval, reduceCtorEq, I, h1, h0, hx, OpT.cs])
      (refine W.c1 (hp l[i] (List.getElem_mem hlt)) ?_; simp only [go_sem, seval, reduceCtorEq])
      refine W.test rfl (fun h => ?_) (fun h => ?_)
      · ((try refine W.a ?_); simp only [go_sem, seval, reduceCtorEq, I])
        (refine W.ret (Fin.same hok (by simp only [resEval, r175, go_sem, seval, reduceCtorEq]; rfl) ?_ (by first | exact .c _ | (simp only [go_sem, seval, reduceCtorEq]; done)) (by first | exact ⟨[], (List.append_nil _).symm⟩ | exact ⟨_, rfl⟩)); simp only [resV])
        rw [idxI_at hinv hlt h]
      · have hw : IntKind.i64.wrap (((i : Nat) : Int) + 1) = ((i + 1 : Nat) : Int) := by rw [wrap_in] <;> omega
        ((try refine W.a ?_); simp only [go_sem, seval, reduceCtorEq, I, hw])
        refine .inv ⟨i + 1, ⟨hlt, upTo_next hinv hlt h⟩, by omega, ?_⟩
        (refine Lew.env ?_; exact lee_here)
    · have h1 : ¬ ((i : Int) < (l.length : Int)) := by omega
      ((try refine W.a ?_); simp only [go_sem, seval, reduceCtorEq, I, h1])
      refine W.no rfl ?_
      ((try refine W.a ?_); simp only [go_sem, seval, reduceCtorEq, I])
      (refine W.ret (Fin.same hok (by simp only [resEval, r175, go_sem, seval, reduceCtorEq]; rfl) ?_ (by first | exact .c _ | (simp only [go_sem, seval, reduceCtorEq]; done)) (by first | exact ⟨[], (List.append_nil _).symm⟩ | exact ⟨_, rfl⟩)); simp only [resV])
      rw [idxI_none (fun j hj => hinv j hj (by omega))]
theorem ops_Find (w0 : World) (l : List OpT) (name : List UInt8) (σ : H) : DC Tryz.prog w0 155 [.c (opsC l), S name] σ (Same (foundV (findL l name)) σ) := by
  refine k155.go rfl (fun hok hsz => ?_)
  ((try refine W.a ?_); simp only [go_sem, seval, reduceCtorEq, c155, opsC])
  have hc := fun n (h : idxI (fun o : OpT => o.name == name) l = n) L => (h ▸ IndexFunc_op w0 l 176 [.ptr σ.length 0] (fun o => o.name == name) (σ ++ Blk.cells [S name] :: L) (fun o _ => ops_Find1 w0 o name _ _ (hget0 σ _)) : DC _ _ _ _ _ (Same (I n) (σ ++ Blk.cells [S name] :: L)))
  rcases idxI_cases (fun o => o.name == name) l with ⟨h, h'⟩ | ⟨i, hi, h, h'⟩
  · (refine W.c1 (hc _ h _) ?_; simp only [go_sem, seval, reduceCtorEq, show ((-1 : Int) < 0) = True from by decide])
    refine W.yes rfl ?_
    ((try refine W.a ?_); simp only [go_sem, seval, reduceCtorEq])
    (refine W.ret (Fin.same hok (by simp only [resEval, r155, go_sem, seval, reduceCtorEq]; rfl) ?_ (by first | exact .c _ | (simp only [go_sem, seval, reduceCtorEq, foundV, OpT.v]; done)) (by first | exact ⟨[], (List.append_nil _).symm⟩ | exact ⟨_, rfl⟩)); simp only [resV, foundV, OpT.v])
    simp only [findL, h']; rfl
  · have h1 : ¬ ((i : Int) < 0) := by omega
    have h2 : (i : Int) < (l.length : Int) := by omega
    have h0 : (0 : Int) ≤ (i : Int) := by omega
    have hx : l[i]? = some l[i] := List.getElem?_eq_getElem hi
    (refine W.c1 (hc _ h _) ?_; simp only [go_sem, seval, reduceCtorEq, h1])
    refine W.no rfl ?_
    ((try refine W.a ?_); simp only [go_sem, seval, reduceCtorEq, h0, h2, hx, OpT.cs])
    (refine W.ret (Fin.same hok (by simp only [resEval, r155, go_sem, seval, reduceCtorEq]; rfl) ?_ (by first | exact .c _ | (simp only [go_sem, seval, reduceCtorEq, foundV, OpT.v]; done)) (by first | exact ⟨[], (List.append_nil _).symm⟩ | exact ⟨_, rfl⟩)); simp only [resV, foundV, OpT.v])
    simp only [findL, h']; rfl
theorem ref02_Find (w0 : World) (l : List OpT) (name : List UInt8) (σ : H) : DC Tryz.prog w0 138 [.c (opsC l), S name] σ (Same (foundV (findL l name)) σ) := by
  refine k138.go rfl (fun hok hsz => ?_)
  have hlen := sz_rows (hsz _ (List.mem_cons_self ..))
  ((try refine W.a ?_); simp only [go_sem, seval, reduceCtorEq, c138, opsC])
  refine W.loopP (fun i => i ≤ l.length ∧ UpTo (fun o : OpT => o.name == name) l i) (fun i => ⟨(((((base.put (some 0) (.c (.sl (l.map OpT.cs)))).put (some 1) (S name)).put (some 4) (.ptr σ.length 0)).put (some 5) (B false)).put (some 6) (I i)), σ ++ [.cells OpT.zero.v.cellsV]⟩) (fun i => l.length - i) 0 ⟨Nat.zero_le _, upTo_zero⟩ ?_ (fun i hi => ?_)
  · (refine Lew.env ?_; exact lee_here)
  · obtain ⟨hi, hinv⟩ := hi
    by_cases hlt : i < l.length
    · have h1 : ((i : Int) < (l.length : Int)) := by omega
      have hx : l[i]? = some l[i] := List.getElem?_eq_getElem hlt
      ((try refine W.a ?_); simp only [go_sem, seval, reduceCtorEq, h1])
      refine W.yes rfl ?_
      ((try refine W.a ?_); simp only [go_sem, seval, reduceCtorEq, h1, nat0, hx, OpT.cs])
      refine W.test rfl (fun h => ?_) (fun h => ?_)
      · ((try refine W.a ?_); simp only [go_sem, seval, reduceCtorEq, nat0, h1, hx, OpT.cs])
        (refine W.ret (Fin.same hok (by simp only [resEval, r138, go_sem, seval, reduceCtorEq]; rfl) ?_ (by first | exact .c _ | (simp only [go_sem, seval, reduceCtorEq, foundV, OpT.v]; done)) (by first | exact ⟨[], (List.append_nil _).symm⟩ | exact ⟨_, rfl⟩)); simp only [resV, foundV, OpT.v])
        rw [findL, find_at hinv hlt h]; rfl
      · ((try refine W.a ?_); simp only [go_sem, seval, reduceCtorEq, wrap_next hlt hlen])
        refine .inv ⟨i + 1, ⟨hlt, upTo_next hinv hlt h⟩, by omega, ?_⟩
        (refine Lew.env ?_; exact lee_here)
    · have h1 : ¬ ((i : Int) < (l.length : Int)) := by omega
      ((try refine W.a ?_); simp only [go_sem, seval, reduceCtorEq, h1])
      refine W.no rfl ?_
      ((try refine W.a ?_); simp only [go_sem, seval, reduceCtorEq])
      (refine W.ret (Fin.same hok (by simp only [resEval, r138, go_sem, seval, reduceCtorEq]; rfl) ?_ (by first | exact .c _ | (simp only [go_sem, seval, reduceCtorEq, foundV, OpT.v]; done)) (by first | exact ⟨[], (List.append_nil _).symm⟩ | exact ⟨_, rfl⟩)); simp only [resV, foundV, OpT.v])
      rw [findL, find_no hinv (by omega)]; rfl
end Go.Proofs.YtohcnohllbjlcaaGreatDoor
namespace Go.Proofs.YtohcnohllbjlcaaGreatDoor
open Go.RowKit Go.Lamb
--absent /-- (*read.reader).tok -/
--absent /-- (*read.reader).operator -/
--absent /-- (*read.reader).begins -/
--absent /-- (*read.reader).lambda -/
--absent /-- (read.wrong).ok -/
--absent /-- read.apply -/
--absent /-- (*read.reader).inner -/
--absent /-- (*read.reader).brackets -/
--absent /-- (*read.reader).atom -/
--absent /-- (*read.reader).operand -/
--absent /-- (*read.reader).expr -/
--absent /-- read.Read -/
end Go.Proofs.YtohcnohllbjlcaaGreatDoor
namespace Go.Proofs.YtohcnohllbjlcaaGreatDoor
open Go.RowKit Go.Lamb

theorem tokL_in {t : List Tok} {i : Nat} (h : i < t.length) : tokL t i = t[i] := by rw [tokL, List.getElem?_eq_getElem h]; rfl
theorem tokL_out {t : List Tok} {i : Nat} (h : t.length ≤ i) : tokL t i = ⟨0, [], 0, lastPos t⟩ := by rw [tokL, List.getElem?_eq_none h]; rfl
end Go.Proofs.YtohcnohllbjlcaaGreatDoor
namespace Go.Proofs.YtohcnohllbjlcaaGreatDoor
open Go.RowKit Go.Lamb
attribute [local go_sem] advO_skip advO_reg advO_seq advO_block advO_exit advO_endb advO_opsNil advO_ops advG_yes advG_no advG_none advS_some advS_none advO_cond advO_loop advO_dreg advO_ret advO_bad advO_inv advO_nil advO_zero wantedV Lamb.step ev_t ev_k put_some put_none argEnv popTo cellsAt V.cellsV V.rows V.toC toCs fillV bytesC byteRows appV rowsV boundV boundL binV binInt binStr eqC eqL V.isNil leaves V.leaf Ins.quiet Ins.pure List.getD_cons_zero List.getD_cons_succ List.getD_nil List.all_cons List.all_nil List.length_cons List.length_nil List.take_succ_cons List.take_zero List.drop_succ_cons List.drop_zero List.cons_append List.nil_append List.append_nil List.append_assoc List.map_cons List.map_nil List.getElem?_cons_zero List.getElem?_cons_succ List.length_append List.length_set hget0 hget hset0 hset hsets hgs0 hgs hss0 hss List.set_cons_zero List.set_cons_succ List.forall_mem_cons List.not_mem_nil false_implies implies_true Option.map_some Bool.and_true Bool.true_and Bool.not_not Bool.not_true Bool.not_false Bool.and_self Bool.or_true Bool.true_or Bool.or_false Bool.false_or Bool.and_false Bool.false_and Bool.false_eq_true beq_self_eq_true and_self and_true true_and if_true if_false Nat.zero_add Nat.add_zero Nat.le_refl Int.toNat_natCast decide_true decide_false beq_t beq_f List.length_map List.getElem?_map I S B opsC toksC OpT.v OpT.cs OpT.zero Tok.v Tok.cs Pre.v Pre.cs_eq k_mk name_mk n_mk l_mk pos_mk Pre.app applyL natCast0 natCast1 natCast2 AOp.o AOp.m AOp.f AOp.l AOp.d AOp.n AOp.x AOp.s AOp.k AOp.y AOp.z EOp.q low_c low_void low_any low_csl low_nilf low_ptr low_osl low_agg low_tup low_fn resEval advPO_nil advPO_loud advPO_quiet pL_yes pL_no pLS_some pLS_none pQ_yes pQ_no pQS_some pQS_loud eq_self Nat.sub_zero
section

def strsR (l : List Str) : List (List C) := l.map fun s => [C.str s]
/-- The type reader's blocks. -/
def tyX (t : List Tok) (i : Int) (v : Nat) (vs : List Str) (e p : Int) : Blk := .cells [.c (toksC t), I i, .osl v (strsR vs), I e, I p]
def tyY (vs : List Str) : Blk := .spare 9 1 vs.length
abbrev tys (σ : H) (b v : Nat) (t : List Tok) (i : Int) (vs : List Str) (e p : Int) : H := rs σ b v (tyX t i v vs e p) (tyY vs)
attribute [local go_sem] tyX tyY rs_len rs_g0 rs_g rs_s0 rs_s rs_sv Typ.v Typ.cs_eq tk_mk tname_mk tn_mk tl_mk tysC
end
section

abbrev tyo (σ : H) (b v : Nat) (t : List Tok) (o : TyO) : H := tys σ b v t o.j o.ws o.e o.p
attribute [local go_sem] tyX tyY rs_len rs_g0 rs_g rs_s0 rs_s rs_sv Typ.v Typ.cs_eq tk_mk tname_mk tn_mk tl_mk tysC
end
section
attribute [local go_sem] tyX tyY rs_len rs_g0 rs_g rs_s0 rs_s rs_sv Typ.v Typ.cs_eq tk_mk tname_mk tn_mk tl_mk tysC

structure ArgO where
  g : Nat
  o : TyO
end
section
attribute [local go_sem] tyX tyY rs_len rs_g0 rs_g rs_s0 rs_s rs_sv Typ.v Typ.cs_eq tk_mk tname_mk tn_mk tl_mk tysC

end
end Go.Proofs.YtohcnohllbjlcaaGreatDoor
namespace Go.Proofs.YtohcnohllbjlcaaGreatDoor
open Go.RowKit Go.Lamb
--absent /-- source.Words -/
--absent /-- (*source.reader).tok -/
--absent /-- (*source.reader).fail -/
--absent /-- (*source.reader).is -/
--absent /-- (*source.reader).take -/
--absent /-- (*source.reader).names -/
--absent /-- source.texts -/
--absent /-- (*source.reader).kind -/
--absent /-- (*source.reader).typed -/
--absent /-- (*source.reader).operator -/
--absent /-- (*source.reader).clause -/
--absent /-- (*source.reader).end -/
--absent /-- (*source.reader).sentence -/
--absent /-- source.Read -/
--absent /-- source.Query -/
--absent /-- slices.Contains[[]string,string] -/
--absent /-- slices.Contains[[]api.TokKind,api.TokKind] -/
--absent /-- slices.Index[[]api.TokKind,api.TokKind] -/
/-- ops.Declare -/
def c94 : AC :=
  .seq (.reg [.o 3 (.box (.t 1)), .o 4 (.mov (.k (.csl []))), .o 5 (.mov (.k (.c (.int .i64 0))))])
  (.seq (.reg [.m 7 0, .d 8 3 3, .k 9 134 [(.t 7), (.t 8)], .m 6 9])
  (.seq (.seq (.reg [.m 10 6, .o 11 (.bin .neq (.t 10) (.k (.c (.int .i64 0))))])
  (.cond (.t 11)
  (.seq (.reg [.m 12 0, .k 13 89 [(.t 12)], .m 14 6, .m 4 13, .m 5 14])
  (.ret))
  (.skip)))
  (.seq (.dreg [.m 15 0, .k 16 89 [(.t 15)], .d 17 3 3, .o 18 (.bsl 3 [(.t 17)]), .o 19 (.app 35 3 32 (.t 16) (.t 18)), .m 4 19, .o 5 (.mov (.k (.c (.int .i64 0))))]
    [.q (.m 15 0), ⟨.k 16 89 [(.t 15)], true, 0⟩, .q (.d 17 3 3), .q (.o 18 (.bsl 3 [(.t 17)])), ⟨.o 19 (.app 35 3 32 (.t 16) (.t 18)), true, 1⟩, ⟨.m 4 19, false, 2⟩, ⟨.o 5 (.mov (.k (.c (.int .i64 0)))), false, 2⟩])
  (.ret))))
def r94 : List ResV := [.tmp 4, .tmp 5]
theorem k94 : CodeIs Tryz.prog 94 2 Tryz.f94 c94 r94 := ⟨by kernel_rfl, Tryz.func94, rfl, by kernel_rfl, by kernel_rfl, by decide, enters_fn Tryz.func94 (by kernel_rfl) rfl⟩
/-- ops.wrong -/
def c134 : AC :=
  .seq (.reg [.o 3 (.box (.t 1)), .o 4 (.mov (.k (.c (.int .i64 0))))])
  (.seq (.reg [.m 8 0, .f 9 0 3, .l 10 9, .k 11 155 [(.t 8), (.t 10)], .m 7 11, .x 12 7 0, .x 13 7 1, .o 5 (.box (.k (.agg [.c (.str []), .c (.int .i64 0), .c (.int .i64 0)]))), .s 3 5 12, .m 6 13])
  (.seq (.block 0 (.seq (.reg [.f 15 2 3, .l 16 15, .o 17 (.bin .lss (.t 16) (.k (.c (.int .i64 0)))), .m 18 17, .z 19 (.fadd 2 (.t 3)) 18, .z 20 (.load1 (.t 19)) 18, .z 21 (.bin .gtr (.t 20) (.k (.c (.int .i64 2)))) 18, .o 22 (.pick (.t 18) (.k (.c (.bool true))) (.t 21)), .m 14 22])
  (.cond (.t 14)
  (.seq (.reg [.o 4 (.mov (.k (.c (.int .i64 1))))])
  (.ret))
  (.seq (.reg [.f 24 0 3, .l 25 24, .k 26 59 [(.t 25)], .o 27 (.un .not (.t 26)), .m 28 27, .y 29 (.fadd 0 (.t 3)) 28, .y 30 (.load1 (.t 29)) 28, .y 31 (.call (.k (.fn 92 [])) [(.t 30)]) 28, .y 32 (.un .not (.t 31)) 28, .o 33 (.pick (.t 28) (.t 32) (.k (.c (.bool false)))), .m 34 33, .z 35 (.fadd 0 (.t 3)) 34, .z 36 (.load1 (.t 35)) 34, .z 37 (.call (.k (.fn 156 [])) [(.t 36)]) 34, .o 38 (.pick (.t 34) (.k (.c (.bool true))) (.t 37)), .m 23 38])
  (.cond (.t 23)
  (.seq (.reg [.o 4 (.mov (.k (.c (.int .i64 20))))])
  (.ret))
  (.seq (.reg [.f 40 1 3, .l 41 40, .o 42 (.bin .lss (.t 41) (.k (.c (.int .i64 1)))), .m 43 42, .z 44 (.fadd 1 (.t 3)) 43, .z 45 (.load1 (.t 44)) 43, .z 46 (.bin .gtr (.t 45) (.k (.c (.int .i64 200)))) 43, .o 47 (.pick (.t 43) (.k (.c (.bool true))) (.t 46)), .m 39 47])
  (.cond (.t 39)
  (.seq (.reg [.o 4 (.mov (.k (.c (.int .i64 21))))])
  (.ret))
  (.seq (.reg [.m 49 6, .m 48 49])
  (.cond (.t 48)
  (.seq (.reg [.o 4 (.mov (.k (.c (.int .i64 22))))])
  (.ret))
  (.seq (.reg [.m 51 0, .o 52 (.lenr (.t 51)), .o 53 (.bin .geq (.t 52) (.k (.c (.int .i64 64)))), .m 50 53])
  (.cond (.t 50)
  (.seq (.reg [.o 4 (.mov (.k (.c (.int .i64 23))))])
  (.ret))
  (.skip))))))))))))
  (.seq (.reg [.o 4 (.mov (.k (.c (.int .i64 0))))])
  (.ret))))
def r134 : List ResV := [.tmp 4]
theorem k134 : CodeIs Tryz.prog 134 2 Tryz.f134 c134 r134 := ⟨by kernel_rfl, Tryz.func134, rfl, by kernel_rfl, by kernel_rfl, by decide, enters_fn Tryz.func134 (by kernel_rfl) rfl⟩
/-- ops.reserved -/
def c156 : AC :=
  .seq (.reg [.o 2 (.mov (.k (.c (.bool false))))])
  (.seq (.seq (.reg [.m 3 0])
  (.block 0 (.seq (.seq (.reg [.o 5 (.bin .eql (.t 3) (.k (.c (.str [33])))), .m 4 5])
  (.cond (.t 4)
  (.skip)
  (.seq (.reg [.o 6 (.bin .eql (.t 3) (.k (.c (.str [45, 62])))), .m 4 6])
  (.cond (.t 4)
  (.skip)
  (.seq (.reg [.o 7 (.bin .eql (.t 3) (.k (.c (.str [107, 105, 110, 100])))), .m 4 7])
  (.cond (.t 4)
  (.skip)
  (.seq (.reg [.o 8 (.bin .eql (.t 3) (.k (.c (.str [116, 121, 112, 101])))), .m 4 8])
  (.cond (.t 4)
  (.skip)
  (.seq (.reg [.o 9 (.bin .eql (.t 3) (.k (.c (.str [105, 110, 102, 105, 120])))), .m 4 9])
  (.cond (.t 4)
  (.skip)
  (.seq (.reg [.o 10 (.bin .eql (.t 3) (.k (.c (.str [105, 110, 102, 105, 120, 108])))), .m 4 10])
  (.cond (.t 4)
  (.skip)
  (.reg [.o 11 (.bin .eql (.t 3) (.k (.c (.str [105, 110, 102, 105, 120, 114])))), .m 4 11])))))))))))))
  (.cond (.t 4)
  (.seq (.reg [.o 2 (.mov (.k (.c (.bool true))))])
  (.ret))
  (.skip)))))
  (.seq (.reg [.o 2 (.mov (.k (.c (.bool false))))])
  (.ret)))
def r156 : List ResV := [.tmp 2]
theorem k156 : CodeIs Tryz.prog 156 1 Tryz.f156 c156 r156 := ⟨by kernel_rfl, Tryz.func156, rfl, by kernel_rfl, by kernel_rfl, by decide, enters_fn Tryz.func156 (by kernel_rfl) rfl⟩
/-- slices.Clone[[]api.Op,api.Op] -/
def c89 : AC :=
  .seq (.reg [.o 2 (.mov (.k (.csl [])))])
  (.seq (.seq (.reg [.m 3 0, .o 4 (.eqz false (.t 3))])
  (.cond (.t 4)
  (.seq (.reg [.o 2 (.mov (.k (.csl [])))])
  (.ret))
  (.skip)))
  (.seq (.reg [.o 5 (.bsl 3 []), .m 6 0, .o 7 (.app 35 3 32 (.t 5) (.t 6)), .m 2 7])
  (.ret)))
def r89 : List ResV := [.tmp 2]
theorem k89 : CodeIs Tryz.prog 89 1 Tryz.f89 c89 r89 := ⟨by kernel_rfl, Tryz.func89, rfl, by kernel_rfl, by kernel_rfl, by decide, enters_fn Tryz.func89 (by kernel_rfl) rfl⟩
end Go.Proofs.YtohcnohllbjlcaaGreatDoor
namespace Go.Proofs.YtohcnohllbjlcaaGreatDoor
open Go.RowKit Go.Lamb
attribute [local go_sem] advO_skip advO_reg advO_seq advO_block advO_exit advO_endb advO_opsNil advO_ops advG_yes advG_no advG_none advS_some advS_none advO_cond advO_loop advO_dreg advO_ret advO_bad advO_inv advO_nil advO_zero wantedV Lamb.step ev_t ev_k put_some put_none argEnv popTo cellsAt V.cellsV V.rows V.toC toCs fillV bytesC byteRows appV rowsV boundV boundL binV binInt binStr eqC eqL V.isNil leaves V.leaf Ins.quiet Ins.pure List.getD_cons_zero List.getD_cons_succ List.getD_nil List.all_cons List.all_nil List.length_cons List.length_nil List.take_succ_cons List.take_zero List.drop_succ_cons List.drop_zero List.cons_append List.nil_append List.append_nil List.append_assoc List.map_cons List.map_nil List.getElem?_cons_zero List.getElem?_cons_succ List.length_append List.length_set hget0 hget hset0 hset hsets hgs0 hgs hss0 hss List.set_cons_zero List.set_cons_succ List.forall_mem_cons List.not_mem_nil false_implies implies_true Option.map_some Bool.and_true Bool.true_and Bool.not_not Bool.not_true Bool.not_false Bool.and_self Bool.or_true Bool.true_or Bool.or_false Bool.false_or Bool.and_false Bool.false_and Bool.false_eq_true beq_self_eq_true and_self and_true true_and if_true if_false Nat.zero_add Nat.add_zero Nat.le_refl Int.toNat_natCast decide_true decide_false beq_t beq_f List.length_map List.getElem?_map I S B opsC toksC OpT.v OpT.cs OpT.zero Tok.v Tok.cs Pre.v Pre.cs_eq k_mk name_mk n_mk l_mk pos_mk Pre.app applyL natCast0 natCast1 natCast2 AOp.o AOp.m AOp.f AOp.l AOp.d AOp.n AOp.x AOp.s AOp.k AOp.y AOp.z EOp.q low_c low_void low_any low_csl low_nilf low_ptr low_osl low_agg low_tup low_fn resEval advPO_nil advPO_loud advPO_quiet pL_yes pL_no pLS_some pLS_none pQ_yes pQ_no pQS_some pQS_loud eq_self Nat.sub_zero
section

theorem sz_text {s : List UInt8} {args : List V} (h : ∀ y ∈ args, V.Sz y) (hx : S s ∈ args) : s.length ≤ maxLen := by
  have := h _ hx
  rwa [S, sz_c, sz_str] at this
/-- A contract over worlds of what looks at a text and tells a bool. -/
theorem DC.of_text {w0 : World} {f : FuncId} {s : List UInt8} {b : Bool} {σ : H} (hen : Enters Tryz.prog f) (h : ∀ w, s.length ≤ maxLen → Calls Tryz.prog f #[.string (bs s)] w (Ret (.bool b) w)) : DC Tryz.prog w0 f [S s] σ (Same (B b) σ) := by
  refine DC.of_calls hen fun κ w vs hrep hfit => ?_
  obtain ⟨v, ys, rfl, hv, hfit⟩ := hfit.cons_inv
  have := hfit.nil_inv
  subst this
  cases hv with
  | c hv =>
    cases hv with
    | str _ hl =>
      refine ⟨.bool b, .c (.bool b), (h w hl).mono ?_⟩
      rintro e w' ⟨rfl, rfl⟩
      exact ⟨rfl, Below.refl _ _⟩
theorem lex_IsNameD (w0 : World) (s : List UInt8) (σ : H) : DC Tryz.prog w0 59 [S s] σ (Same (B (isNameB s)) σ) :=
  DC.of_text (enters_fn Tryz.func59 (by kernel_rfl) rfl) fun w hs => lex_IsName (bs s) w hs
theorem lex_IsSymD (w0 : World) (s : List UInt8) (σ : H) : DC Tryz.prog w0 92 [S s] σ (Same (B (isSymB s)) σ) :=
  DC.of_text (enters_fn Tryz.func92 (by kernel_rfl) rfl) fun w hs => lex_IsSym (bs s) w hs
theorem ops_reserved (w0 : World) (s : Str) (σ : H) : DC Tryz.prog w0 156 [S s] σ (Same (B (reservedL s)) σ) := by
  refine k156.go rfl (fun hok hsz => ?_)
  (((try refine W.a ?_); (try simp only [bne, go_sem, seval, reduceCtorEq, c156, *])); (repeat' (first | (refine W.yes rfl ?_; (refine W.a ?_; simp only [bne, go_sem, seval, reduceCtorEq, c156, *])) | (refine W.no rfl ?_; (refine W.a ?_; simp only [bne, go_sem, seval, reduceCtorEq, c156, *])) | (refine W.testn rfl (fun hT => ?_) (fun hT => ?_) <;> (refine W.a ?_; simp only [bne, go_sem, seval, reduceCtorEq, c156, *])) | (refine W.test rfl (fun hT => ?_) (fun hT => ?_) <;> (refine W.a ?_; simp only [bne, go_sem, seval, reduceCtorEq, c156, *])) | (refine advG_ifn _ _ _ _ (fun hT => ?_) (fun hT => ?_) <;> simp only [bne, go_sem, seval, reduceCtorEq, c156, *]) | (refine advG_if _ _ _ _ (fun hT => ?_) (fun hT => ?_) <;> simp only [bne, go_sem, seval, reduceCtorEq, c156, *]))))
  all_goals (refine W.fs (hok) (by simp only [r156, go_sem, seval, reduceCtorEq]; rfl) ?_; simp only [resV]; (first | exact V.wk.rfl _ | (refine wk_bool ?_; clear hsz hok; rw [reservedL] <;> ((try simp only [beq_iff_eq, beq_eq_false_iff_ne, ne_eq, decide_eq_true_eq, decide_eq_false_iff_not] at *); first | (exfalso; omega) | (simp [*]; done) | (simp [*]; omega) | (simp [*])))))
theorem ops_wrong (w0 : World) (l : List OpT) (o : OpT) (σ : H) : DC Tryz.prog w0 134 [.c (opsC l), o.v] σ (Same (I (wrongL l o)) σ) := by
  refine k134.go rfl (fun hok hsz => ?_)
  ((try refine W.a ?_); simp only [go_sem, seval, reduceCtorEq, c134])
  (refine W.c1 (ops_Find w0 l o.name _) ?_; simp only [go_sem, seval, reduceCtorEq, foundV])
  generalize (findL l o.name).getD OpT.zero = z
  by_cases c1 : o.fix < 0 ∨ 2 < o.fix
  · have hr : wrongL l o = 1 := by unfold wrongL; rw [if_pos c1]
    rw [hr]
    rcases c1 with c1 | c1
    · ((try refine W.a ?_); simp only [go_sem, seval, reduceCtorEq, c1])
      refine W.yes rfl ?_
      ((try refine W.a ?_); simp only [go_sem, seval, reduceCtorEq])
      (refine W.fs (hok) (by simp only [r134, go_sem, seval, reduceCtorEq]; rfl) ?_; simp only [resV]; try exact V.wk.rfl _)
    · have c0 : ¬ o.fix < 0 := by omega
      have c1' : o.fix > 2 := c1
      ((try refine W.a ?_); simp only [go_sem, seval, reduceCtorEq, c0, c1'])
      refine W.yes rfl ?_
      ((try refine W.a ?_); simp only [go_sem, seval, reduceCtorEq])
      (refine W.fs (hok) (by simp only [r134, go_sem, seval, reduceCtorEq]; rfl) ?_; simp only [resV]; try exact V.wk.rfl _)
  · have n1 : ¬ o.fix < 0 := by omega
    have n2 : ¬ o.fix > 2 := by omega
    ((try refine W.a ?_); simp only [go_sem, seval, reduceCtorEq, n1, n2])
    refine W.no rfl ?_
    ((try refine W.a ?_); simp only [go_sem, seval, reduceCtorEq])
    have hw : wrongL l o = if (isNameB o.name = false ∧ isSymB o.name = false) ∨ reservedL o.name = true then 20 else if o.prec < 1 ∨ 200 < o.prec then 21 else if (findL l o.name).isSome = true then 22 else if 64 ≤ l.length then 23 else 0 := by unfold wrongL; rw [if_neg c1]
    have tail : ∀ (ρ : Env) (hρ : ρ 3 = .ptr σ.length 0) (h6 : ρ 6 = B (findL l o.name).isSome) (h0 : ρ 0 = .c (opsC l)), ¬ ((isNameB o.name = false ∧ isSymB o.name = false) ∨ reservedL o.name = true) → True := fun _ _ _ _ _ => trivial
    clear tail
    cases hN : isNameB o.name <;> cases hS : isSymB o.name <;> cases hR : reservedL o.name
    all_goals
      (refine W.c1 (lex_IsNameD w0 o.name _) ?_; simp only [go_sem, seval, reduceCtorEq, hN])
      try ((refine W.c1 (lex_IsSymD w0 o.name _) ?_; simp only [go_sem, seval, reduceCtorEq, hS]))
      try ((refine W.c1 (ops_reserved w0 o.name _) ?_; simp only [go_sem, seval, reduceCtorEq, hR]))
      first
        | (refine W.yes rfl ?_
           ((try refine W.a ?_); simp only [go_sem, seval, reduceCtorEq])
           (refine W.fs (hok) (by simp only [r134, go_sem, seval, reduceCtorEq]; rfl) ?_; simp only [resV]; try exact V.wk.rfl _)
           rw [hw, if_pos (by simp [hN, hS, hR])]
           exact .rfl _)
        | skip
    all_goals
      rw [hN, hS, hR] at hw
      simp only [Bool.true_eq_false, Bool.false_eq_true, and_false, false_and, and_self, or_self, or_false, false_or, if_false] at hw
      refine W.no rfl ?_
      ((try refine W.a ?_); simp only [go_sem, seval, reduceCtorEq])
      by_cases p1 : o.prec < 1
      · rw [if_pos (.inl p1)] at hw
        rw [hw]
        ((try refine W.a ?_); simp only [go_sem, seval, reduceCtorEq, p1])
        refine W.yes rfl ?_
        ((try refine W.a ?_); simp only [go_sem, seval, reduceCtorEq])
        (refine W.fs (hok) (by simp only [r134, go_sem, seval, reduceCtorEq]; rfl) ?_; simp only [resV]; try exact V.wk.rfl _)
      · by_cases p2 : o.prec > 200
        · rw [if_pos (.inr p2)] at hw
          rw [hw]
          ((try refine W.a ?_); simp only [go_sem, seval, reduceCtorEq, p1, p2])
          refine W.yes rfl ?_
          ((try refine W.a ?_); simp only [go_sem, seval, reduceCtorEq])
          (refine W.fs (hok) (by simp only [r134, go_sem, seval, reduceCtorEq]; rfl) ?_; simp only [resV]; try exact V.wk.rfl _)
        · rw [if_neg (by omega)] at hw
          ((try refine W.a ?_); simp only [go_sem, seval, reduceCtorEq, p1, p2])
          refine W.no rfl ?_
          ((try refine W.a ?_); simp only [go_sem, seval, reduceCtorEq])
          cases hf : (findL l o.name).isSome
          · rw [hf, if_neg (by decide)] at hw
            refine W.no rfl ?_
            by_cases p3 : 64 ≤ l.length
            · have p3' : (l.length : Int) ≥ 64 := by omega
              rw [if_pos p3] at hw
              rw [hw]
              ((try refine W.a ?_); simp only [go_sem, seval, reduceCtorEq, p3'])
              refine W.yes rfl ?_
              ((try refine W.a ?_); simp only [go_sem, seval, reduceCtorEq])
              (refine W.fs (hok) (by simp only [r134, go_sem, seval, reduceCtorEq]; rfl) ?_; simp only [resV]; try exact V.wk.rfl _)
            · have p3' : ¬ (l.length : Int) ≥ 64 := by omega
              rw [if_neg p3] at hw
              rw [hw]
              ((try refine W.a ?_); simp only [go_sem, seval, reduceCtorEq, p3'])
              refine W.no rfl ?_
              ((try refine W.a ?_); simp only [go_sem, seval, reduceCtorEq])
              (refine W.fs (hok) (by simp only [r134, go_sem, seval, reduceCtorEq]; rfl) ?_; simp only [resV]; try exact V.wk.rfl _)
          · rw [hf, if_pos rfl] at hw
            rw [hw]
            refine W.yes rfl ?_
            ((try refine W.a ?_); simp only [go_sem, seval, reduceCtorEq])
            (refine W.fs (hok) (by simp only [r134, go_sem, seval, reduceCtorEq]; rfl) ?_; simp only [resV]; try exact V.wk.rfl _)
end
section
attribute [local go_sem] Typ.v Typ.cs_eq tk_mk tname_mk tn_mk tl_mk tysC

theorem sz_row_len {α : Type} {f : α → List C} {l : List α} {x : V} {args : List V} (h : ∀ y ∈ args, V.Sz y) (hx : x ∈ args) (e : x = .c (.sl (l.map f))) : l.length ≤ 9223372036854775807 := by
  subst e
  exact sz_rows (h _ hx)
theorem IndexFunc_ty (w0 : World) (l : List Typ) (f : FuncId) (caps : List V) (p : Typ → Bool) (σ : H) (hp : ∀ o ∈ l, DC Tryz.prog w0 f (o.v :: caps) σ (Same (B (p o)) σ)) : DC Tryz.prog w0 112 [.c (.sl (l.map Typ.cs)), .fn f caps] σ (Same (I (idxI p l)) σ) := by
  refine k112.go rfl (fun hok hsz => ?_)
  have hlen := sz_row_len hsz (List.mem_cons_self ..) rfl
  ((try refine W.a ?_); simp only [go_sem, seval, reduceCtorEq, c112])
  refine W.loopP (fun i => i ≤ l.length ∧ UpTo p l i) (fun i => ⟨((((base.put (some 0) (.c (.sl (l.map Typ.cs)))).put (some 1) (.fn f caps)).put (some 7) (I l.length)).put (some 8) (I i)), σ⟩) (fun i => l.length - i) 0 ⟨Nat.zero_le _, upTo_zero⟩ ?_ (fun i hi => ?_)
  · (refine Lew.env ?_; exact lee_here)
  · obtain ⟨hi, hinv⟩ := hi
    by_cases hlt : i < l.length
    · have h1 : ((i : Int) < (l.length : Int)) := by omega
      have hx : l[i]? = some l[i] := List.getElem?_eq_getElem hlt
      ((try refine W.a ?_); simp only [go_sem, seval, reduceCtorEq, h1])
      refine W.yes rfl ?_
      ((try refine W.a ?_); simp only [go_sem, seval, reduceCtorEq, h1, nat0, hx])
      (refine W.c1 (hp l[i] (List.getElem_mem hlt)) ?_; simp only [go_sem, seval, reduceCtorEq])
      refine W.test rfl (fun h => ?_) (fun h => ?_)
      · ((try refine W.a ?_); simp only [go_sem, seval, reduceCtorEq])
        (refine W.ret (Fin.same hok (by simp only [resEval, r112, go_sem, seval, reduceCtorEq]; rfl) ?_ (by first | exact .c _ | (simp only [go_sem, seval, reduceCtorEq]; done)) (by first | exact ⟨[], (List.append_nil _).symm⟩ | exact ⟨_, rfl⟩)); simp only [resV])
        rw [idxI_at hinv hlt h]
      · have hw := wrap_next hlt hlen
        ((try refine W.a ?_); simp only [go_sem, seval, reduceCtorEq, hw])
        refine .inv ⟨i + 1, ⟨hlt, upTo_next hinv hlt h⟩, by omega, ?_⟩
        (refine Lew.env ?_; exact lee_here)
    · have h1 : ¬ ((i : Int) < (l.length : Int)) := by omega
      ((try refine W.a ?_); simp only [go_sem, seval, reduceCtorEq, h1])
      refine W.no rfl ?_
      ((try refine W.a ?_); simp only [go_sem, seval, reduceCtorEq])
      (refine W.ret (Fin.same hok (by simp only [resEval, r112, go_sem, seval, reduceCtorEq]; rfl) ?_ (by first | exact .c _ | (simp only [go_sem, seval, reduceCtorEq]; done)) (by first | exact ⟨[], (List.append_nil _).symm⟩ | exact ⟨_, rfl⟩)); simp only [resV])
      rw [idxI_none (fun j hj => hinv j hj (by omega))]
theorem idxI_geq {α : Type} (p : α → Bool) (l : List α) : decide (idxI p l ≥ 0) = l.any p := by
  rcases idxI_cases p l with ⟨h, h'⟩ | ⟨i, hi, h, h'⟩
  · rw [h]
    rw [idxI_none_iff] at h
    have : l.any p = false := by simpa using h
    rw [this]; decide
  · rw [h]
    have : l.any p = true := by
      rw [List.any_eq_true]
      rw [List.find?_eq_some_iff_getElem] at h'
      exact ⟨l[i], List.getElem_mem hi, h'.1⟩
    rw [this]; simp
theorem ContainsFunc_ty (w0 : World) (l : List Typ) (f : FuncId) (caps : List V) (p : Typ → Bool) (σ : H) (hp : ∀ o ∈ l, DC Tryz.prog w0 f (o.v :: caps) σ (Same (B (p o)) σ)) : DC Tryz.prog w0 61 [.c (.sl (l.map Typ.cs)), .fn f caps] σ (Same (B (l.any p)) σ) := by
  refine k61.go rfl (fun hok hsz => ?_)
  ((try refine W.a ?_); simp only [go_sem, seval, reduceCtorEq, c61])
  (refine W.c1 (IndexFunc_ty w0 l f caps p σ hp) ?_; simp only [go_sem, seval, reduceCtorEq])
  (refine W.fs (hok) (by simp only [r61, go_sem, seval, reduceCtorEq]; rfl) ?_; simp only [resV]; (first | exact V.wk.rfl _ | (refine wk_bool ?_; clear hsz hok; rw [idxI_geq] <;> ((try simp only [beq_iff_eq, beq_eq_false_iff_ne, ne_eq, decide_eq_true_eq, decide_eq_false_iff_not] at *); first | (exfalso; omega) | (simp [*]; done) | (simp [*]; omega) | (simp [*])))))
theorem any_all {α : Type} (l : List α) (p : α → Bool) : (l.any fun q => !p q) = !l.all p := by
  induction l with
  | nil => rfl
  | cons x l ih => simp only [List.any_cons, List.all_cons, ih]; cases p x <;> simp
theorem len_ne {n : Nat} (k : Nat) : ((n : Int) == (k : Int)) = (n == k) := by
  rw [Bool.eq_iff_iff]; simp; omega
theorem ty_arrow (w0 : World) (p : Typ) (σ : H) : DC Tryz.prog w0 60 [p.v] σ (Same (B (arrowT p)) σ) := by
  refine k60.go rfl (fun hok hsz => ?_)
  have l2 := len_ne (n := p.l.length) 2
  simp only [natCast2] at l2
  unfold arrowT
  (((try refine W.a ?_); (try simp only [bne, go_sem, seval, reduceCtorEq, c60, l2, *])); (repeat' (first | (refine W.yes rfl ?_; (refine W.a ?_; simp only [bne, go_sem, seval, reduceCtorEq, c60, l2, *])) | (refine W.no rfl ?_; (refine W.a ?_; simp only [bne, go_sem, seval, reduceCtorEq, c60, l2, *])) | (refine W.testn rfl (fun hT => ?_) (fun hT => ?_) <;> (refine W.a ?_; simp only [bne, go_sem, seval, reduceCtorEq, c60, l2, *])) | (refine W.test rfl (fun hT => ?_) (fun hT => ?_) <;> (refine W.a ?_; simp only [bne, go_sem, seval, reduceCtorEq, c60, l2, *])) | (refine advG_ifn _ _ _ _ (fun hT => ?_) (fun hT => ?_) <;> simp only [bne, go_sem, seval, reduceCtorEq, c60, l2, *]) | (refine advG_if _ _ _ _ (fun hT => ?_) (fun hT => ?_) <;> simp only [bne, go_sem, seval, reduceCtorEq, c60, l2, *]))))
  all_goals (refine W.fs (hok) (by simp only [r60, go_sem, seval, reduceCtorEq]; rfl) ?_; simp only [resV]; (first | exact V.wk.rfl _ | (refine wk_bool ?_; clear hsz hok; ((try simp only [beq_iff_eq, beq_eq_false_iff_ne, ne_eq, decide_eq_true_eq, decide_eq_false_iff_not] at *); first | (exfalso; omega) | (simp [*]; done) | (simp [*]; omega) | (simp [*])))))
theorem nodeT_eq (p : Typ) : nodeT p = if p.k = 0 then isNameB p.name && p.n == 0 else if p.k = 1 then p.name == [] && decide (0 ≤ p.n) && decide (p.n ≤ 4611686018427387904) && p.l.length == 0 else if p.k = 2 then p.name == [] && p.n == 0 && arrowT p else false := by
  unfold nodeT arrowT
  by_cases h2 : p.k = 2
  · simp [h2]
  · simp [h2]
theorem ty_Valid1 (w0 : World) (p : Typ) (b : Bool) (σ : H) (hp : ∀ τ, DC Tryz.prog w0 28 [p.v] τ (Same (B b) τ)) : DC Tryz.prog w0 62 [p.v] σ (Same (B (!b)) σ) := by
  refine k62.go rfl (fun hok hsz => ?_)
  ((try refine W.a ?_); simp only [go_sem, seval, reduceCtorEq, c62])
  (refine W.c1 (hp _) ?_; simp only [go_sem, seval, reduceCtorEq])
  (refine W.fs (hok) (by simp only [r62, go_sem, seval, reduceCtorEq]; rfl) ?_; simp only [resV]; try exact V.wk.rfl _)
theorem ty_Valid (w0 : World) (p : Typ) : ∀ (σ : H), DC Tryz.prog w0 28 [p.v] σ (Same (B (validT p)) σ) := by
  refine Typ.ind (P := fun p => ∀ (σ : H), DC Tryz.prog w0 28 [p.v] σ (Same (B (validT p)) σ)) (fun p ih σ => ?_) p
  refine k28.go rfl (fun hok hsz => ?_)
  have hC := fun σ => ContainsFunc_ty w0 p.l 62 [] (fun q => !validT q) σ (fun q hq => ty_Valid1 w0 q _ _ (fun τ => ih q hq τ))
  have l0 := len_ne (n := p.l.length) 0
  have l2 := len_ne (n := p.l.length) 2
  simp only [natCast0, natCast2] at l0 l2
  (((try refine W.a ?_); (try simp only [bne, go_sem, seval, reduceCtorEq, c28, l0, l2, *])); (repeat' (first | (refine W.yes rfl ?_; (refine W.a ?_; simp only [bne, go_sem, seval, reduceCtorEq, c28, l0, l2, *])) | (refine W.no rfl ?_; (refine W.a ?_; simp only [bne, go_sem, seval, reduceCtorEq, c28, l0, l2, *])) | (refine W.c1 (lex_IsNameD w0 p.name _) ?_; simp only [bne, go_sem, seval, reduceCtorEq, c28, l0, l2, *]) | (refine W.c1 (ty_arrow w0 p _) ?_; simp only [bne, go_sem, seval, reduceCtorEq, c28, l0, l2, *]) | (refine W.c1 (hC _) ?_; simp only [bne, go_sem, seval, reduceCtorEq, c28, l0, l2, *]) | (refine W.testn rfl (fun hT => ?_) (fun hT => ?_) <;> (refine W.a ?_; simp only [bne, go_sem, seval, reduceCtorEq, c28, l0, l2, *])) | (refine W.test rfl (fun hT => ?_) (fun hT => ?_) <;> (refine W.a ?_; simp only [bne, go_sem, seval, reduceCtorEq, c28, l0, l2, *])) | (refine advG_ifn _ _ _ _ (fun hT => ?_) (fun hT => ?_) <;> simp only [bne, go_sem, seval, reduceCtorEq, c28, l0, l2, *]) | (refine advG_if _ _ _ _ (fun hT => ?_) (fun hT => ?_) <;> simp only [bne, go_sem, seval, reduceCtorEq, c28, l0, l2, *]))))
  all_goals (refine W.fs (hok) (by simp only [r28, go_sem, seval, reduceCtorEq]; rfl) ?_; simp only [resV]; (first | exact V.wk.rfl _ | (refine wk_bool ?_; clear hsz hok; rw [validT_eq] <;> ((try simp only [beq_iff_eq, beq_eq_false_iff_ne, ne_eq, decide_eq_true_eq, decide_eq_false_iff_not] at *); first | (exfalso; omega) | (simp [nodeT_eq, any_all, *]; done) | (simp [nodeT_eq, any_all, *]; omega) | (simp [nodeT_eq, any_all, *])))))
end
end Go.Proofs.YtohcnohllbjlcaaGreatDoor
namespace Go.Proofs.YtohcnohllbjlcaaGreatDoor
open Go.RowKit Go.Lamb

/-- The last token is the end. -/
structure TEnd (t : List Tok) : Prop where
  ne : t ≠ []
  last : ∀ h : t.length - 1 < t.length, t[t.length - 1] = ⟨0, [], 0, lastPos t⟩
  le : t.length ≤ 100000
theorem TEnd.pos {t : List Tok} (h : TEnd t) : 0 < t.length := List.length_pos_iff.2 h.ne
theorem TEnd.tok {t : List Tok} (h : TEnd t) (i : Nat) : t[min i (t.length - 1)]? = some (tokL t i) := by
  have := h.pos
  rcases Nat.lt_or_ge i t.length with hi | hi
  · rw [Nat.min_eq_left (by omega), tokL_in hi, List.getElem?_eq_getElem hi]
  · rw [Nat.min_eq_right (by omega), tokL_out hi, List.getElem?_eq_getElem (by omega), h.last (by omega)]
/-- The source reader's block. -/
def sdX (t : List Tok) (i : Int) (l : List OpT) (e p : Int) : Blk := .cells [.c (toksC t), I i, .c (opsC l), I e, I p]
abbrev srd (σ : H) (b : Nat) (t : List Tok) (i : Int) (l : List OpT) (e p : Int) : H := rz σ b (sdX t i l e p)
attribute [local go_sem] sdX rz_len rz_g0 rz_g rz_s0 rz_s rz_sb
end Go.Proofs.YtohcnohllbjlcaaGreatDoor
namespace Go.Proofs.YtohcnohllbjlcaaGreatDoor
open Go.RowKit Go.Lamb
attribute [local go_sem] sdX rz_len rz_g0 rz_g rz_s0 rz_s rz_sb

structure NameSt where
  acc : List Tok
  i : Nat
  e : Int
  p : Int
end Go.Proofs.YtohcnohllbjlcaaGreatDoor
namespace Go.Proofs.YtohcnohllbjlcaaGreatDoor
open Go.RowKit Go.Lamb

end Go.Proofs.YtohcnohllbjlcaaGreatDoor
namespace Go.Proofs.YtohcnohllbjlcaaGreatDoor
open Go.RowKit Go.Lamb

end Go.Proofs.YtohcnohllbjlcaaGreatDoor
namespace Go.Proofs.YtohcnohllbjlcaaGreatDoor
open Go.RowKit Go.Lamb

def Tok.zero : Tok := ⟨0, [], 0, 0⟩
end Go.Proofs.YtohcnohllbjlcaaGreatDoor
namespace Go.Proofs.YtohcnohllbjlcaaGreatDoor
open Go.RowKit Go.Lamb

end Go.Proofs.YtohcnohllbjlcaaGreatDoor
namespace Go.Proofs.YtohcnohllbjlcaaGreatDoor
open Go.RowKit Go.Lamb

end Go.Proofs.YtohcnohllbjlcaaGreatDoor
namespace Go.Proofs.YtohcnohllbjlcaaGreatDoor
open Go.RowKit Go.Lamb

structure ArgsSt where
  g : Nat
  p : Pre
  i : Nat
  last : Bool
  e : Int
  pos : Int
end Go.Proofs.YtohcnohllbjlcaaGreatDoor
namespace Go.Proofs.YtohcnohllbjlcaaGreatDoor
open Go.RowKit Go.Lamb

structure ChainSt where
  g : Nat
  m : Made
  k : Tok
  i : Nat
  e : Int
  pos : Int
end Go.Proofs.YtohcnohllbjlcaaGreatDoor
namespace Go.Proofs.YtohcnohllbjlcaaGreatDoor
open Go.RowKit Go.Lamb

end Go.Proofs.YtohcnohllbjlcaaGreatDoor
namespace Go.Proofs.YtohcnohllbjlcaaGreatDoor
open Go.RowKit Go.Lamb
attribute [local go_sem] strsC sdX rz_len rz_g0 rz_g rz_s0 rz_s rz_sb

def zeroB : Blk := .cells [I 0, .csl [], I 0, I 0, S [], I 0, .csl [], S [], I 0, I 0, I 0, S [], I 0, .csl [], I 0, I 0]
attribute [local go_sem] zeroB
structure KindSt where
  n : Nat
  i : Nat
  e : Int
  p : Int
end Go.Proofs.YtohcnohllbjlcaaGreatDoor
namespace Go.Proofs.YtohcnohllbjlcaaGreatDoor
open Go.RowKit Go.Lamb
attribute [local go_sem] strsC sdX rz_len rz_g0 rz_g rz_s0 rz_s rz_sb zeroB Typ.v Typ.cs_eq tk_mk tname_mk tn_mk tl_mk tysC

end Go.Proofs.YtohcnohllbjlcaaGreatDoor
namespace Go.Proofs.YtohcnohllbjlcaaGreatDoor
open Go.RowKit Go.Lamb
attribute [local go_sem] strsC sdX rz_len rz_g0 rz_g rz_s0 rz_s rz_sb zeroB

structure OpSt where
  k : Nat
  l : List OpT
  e : Int
  p : Int
end Go.Proofs.YtohcnohllbjlcaaGreatDoor
namespace Go.Proofs.YtohcnohllbjlcaaGreatDoor
open Go.RowKit Go.Lamb
attribute [local go_sem] strsC sdX rz_len rz_g0 rz_g rz_s0 rz_s rz_sb zeroB

end Go.Proofs.YtohcnohllbjlcaaGreatDoor
namespace Go.Proofs.YtohcnohllbjlcaaGreatDoor
open Go.RowKit Go.Lamb
/-- ops.row -/
def c131 : AC :=
  .seq (.reg [.o 6 (.mov (.k (.csl [])))])
  (.seq (.reg [.o 7 (.mov (.k (.csl [])))])
  (.seq (.seq (.reg [.m 10 2, .o 11 (.lenr (.t 10)), .o 12 (.mov (.k (.c (.int .i64 0))))])
  (.block 0 (.loop (.seq (.reg [.o 13 (.bin .lss (.t 12) (.t 11))])
  (.seq (.cond (.t 13)
  (.skip)
  (.exit 0))
  (.seq (.block 1 (.seq (.reg [.o 14 (.iadd 1 (.t 10) (.t 12)), .l 15 14, .m 9 15])
  (.reg [.m 16 7, .m 17 9, .m 18 0, .m 19 1, .o 20 (.build [.c (.str []), .c (.int .i64 0), .c (.int .i64 0)] [(0, 1, (.t 17)), (1, 1, (.t 18)), (2, 1, (.t 19))]), .o 21 (.bsl 3 [(.t 20)]), .o 22 (.app 35 3 32 (.t 16) (.t 21)), .m 7 22])))
  (.reg [.o 23 (.bin .add (.t 12) (.k (.c (.int .i64 1)))), .m 12 23])))))))
  (.seq (.reg [.m 24 7, .m 6 24])
  (.ret))))
def r131 : List ResV := [.tmp 6]
theorem k131 : CodeIs Tryz.prog 131 3 Tryz.f131 c131 r131 := ⟨by kernel_rfl, Tryz.func131, rfl, by kernel_rfl, by kernel_rfl, by decide, enters_fn Tryz.func131 (by kernel_rfl) rfl⟩
/-- slices.Concat[[]api.Op,api.Op] -/
def c130 : AC :=
  .seq (.reg [.o 2 (.mov (.k (.csl [])))])
  (.seq (.reg [.o 3 (.mov (.k (.c (.int .i64 0))))])
  (.seq (.seq (.reg [.m 9 0, .o 10 (.lenr (.t 9)), .o 11 (.mov (.k (.c (.int .i64 0))))])
  (.block 0 (.loop (.seq (.reg [.o 12 (.bin .lss (.t 11) (.t 10))])
  (.seq (.cond (.t 12)
  (.skip)
  (.exit 0))
  (.seq (.block 1 (.seq (.reg [.o 13 (.iadd 1 (.t 9) (.t 11)), .l 14 13, .m 5 14])
  (.seq (.reg [.m 15 3, .m 16 5, .o 17 (.lenr (.t 16)), .o 18 (.bin .add (.t 15) (.t 17)), .m 3 18])
  (.seq (.reg [.m 19 3, .o 20 (.bin .lss (.t 19) (.k (.c (.int .i64 0))))])
  (.cond (.t 20)
  (.reg [.o 21 (.bad), ⟨none, .bad, none⟩])
  (.skip))))))
  (.reg [.o 22 (.bin .add (.t 11) (.k (.c (.int .i64 1)))), .m 11 22])))))))
  (.seq (.reg [.m 23 3, .k 24 153 [(.k (.csl [])), (.t 23)], .m 6 24])
  (.seq (.seq (.reg [.m 25 0, .o 26 (.lenr (.t 25)), .o 27 (.mov (.k (.c (.int .i64 0))))])
  (.block 2 (.loop (.seq (.reg [.o 28 (.bin .lss (.t 27) (.t 26))])
  (.seq (.cond (.t 28)
  (.skip)
  (.exit 2))
  (.seq (.block 3 (.seq (.reg [.o 29 (.iadd 1 (.t 25) (.t 27)), .l 30 29, .m 8 30])
  (.reg [.m 31 6, .m 32 8, .o 33 (.app 35 3 32 (.t 31) (.t 32)), .m 6 33])))
  (.reg [.o 34 (.bin .add (.t 27) (.k (.c (.int .i64 1)))), .m 27 34])))))))
  (.seq (.reg [.m 35 6, .m 2 35])
  (.ret))))))
def r130 : List ResV := [.tmp 2]
theorem k130 : CodeIs Tryz.prog 130 1 Tryz.f130 c130 r130 := ⟨by kernel_rfl, Tryz.func130, rfl, by kernel_rfl, by kernel_rfl, by decide, enters_fn Tryz.func130 (by kernel_rfl) rfl⟩
/-- ops.Default -/
def c81 : AC :=
  .seq (.reg [.o 0 (.mov (.k (.csl [])))])
  (.seq (.reg [.o 1 (.bsl 1 [(.k (.c (.str [58, 45])))]), .k 2 131 [(.k (.c (.int .i64 10))), (.k (.c (.int .i64 0))), (.t 1)], .o 3 (.bsl 1 [(.k (.c (.str [59])))]), .k 4 131 [(.k (.c (.int .i64 20))), (.k (.c (.int .i64 2))), (.t 3)], .o 5 (.bsl 1 [(.k (.c (.str [44])))]), .k 6 131 [(.k (.c (.int .i64 30))), (.k (.c (.int .i64 2))), (.t 5)], .o 7 (.bsl 1 [(.k (.c (.str [61, 62])))]), .k 8 131 [(.k (.c (.int .i64 40))), (.k (.c (.int .i64 2))), (.t 7)], .o 9 (.bsl 1 [(.k (.c (.str [61]))), (.k (.c (.str [105, 115]))), (.k (.c (.str [60]))), (.k (.c (.str [61, 60]))), (.k (.c (.str [62]))), (.k (.c (.str [62, 61])))]), .k 10 131 [(.k (.c (.int .i64 60))), (.k (.c (.int .i64 0))), (.t 9)], .o 11 (.bsl 1 [(.k (.c (.str [43]))), (.k (.c (.str [45])))]), .k 12 131 [(.k (.c (.int .i64 80))), (.k (.c (.int .i64 1))), (.t 11)], .o 13 (.bsl 1 [(.k (.c (.str [42]))), (.k (.c (.str [100, 105, 118]))), (.k (.c (.str [109, 111, 100])))]), .k 14 131 [(.k (.c (.int .i64 90))), (.k (.c (.int .i64 1))), (.t 13)], .o 15 (.bsl 1 [(.t 2), (.t 4), (.t 6), (.t 8), (.t 10), (.t 12), (.t 14)]), .k 16 130 [(.t 15)], .m 0 16])
  (.ret))
def r81 : List ResV := [.tmp 0]
theorem k81 : CodeIs Tryz.prog 81 0 Tryz.f81 c81 r81 := ⟨by kernel_rfl, Tryz.func81, rfl, by kernel_rfl, by kernel_rfl, by decide, enters_fn Tryz.func81 (by kernel_rfl) rfl⟩
--absent /-- ref03.Exact -/
--absent /-- ref03.left -/
--absent /-- ref03.Deep -/
end Go.Proofs.YtohcnohllbjlcaaGreatDoor
namespace Go.Proofs.YtohcnohllbjlcaaGreatDoor
open Go.RowKit Go.Lamb
attribute [local go_sem] advO_skip advO_reg advO_seq advO_block advO_exit advO_endb advO_opsNil advO_ops advG_yes advG_no advG_none advS_some advS_none advO_cond advO_loop advO_dreg advO_ret advO_bad advO_inv advO_nil advO_zero wantedV Lamb.step ev_t ev_k put_some put_none argEnv popTo cellsAt V.cellsV V.rows V.toC toCs fillV bytesC byteRows appV rowsV boundV boundL binV binInt binStr eqC eqL V.isNil leaves V.leaf Ins.quiet Ins.pure List.getD_cons_zero List.getD_cons_succ List.getD_nil List.all_cons List.all_nil List.length_cons List.length_nil List.take_succ_cons List.take_zero List.drop_succ_cons List.drop_zero List.cons_append List.nil_append List.append_nil List.append_assoc List.map_cons List.map_nil List.getElem?_cons_zero List.getElem?_cons_succ List.length_append List.length_set hget0 hget hset0 hset hsets hgs0 hgs hss0 hss List.set_cons_zero List.set_cons_succ List.forall_mem_cons List.not_mem_nil false_implies implies_true Option.map_some Bool.and_true Bool.true_and Bool.not_not Bool.not_true Bool.not_false Bool.and_self Bool.or_true Bool.true_or Bool.or_false Bool.false_or Bool.and_false Bool.false_and Bool.false_eq_true beq_self_eq_true and_self and_true true_and if_true if_false Nat.zero_add Nat.add_zero Nat.le_refl Int.toNat_natCast decide_true decide_false beq_t beq_f List.length_map List.getElem?_map I S B opsC toksC OpT.v OpT.cs OpT.zero Tok.v Tok.cs Pre.v Pre.cs_eq k_mk name_mk n_mk l_mk pos_mk Pre.app applyL natCast0 natCast1 natCast2 AOp.o AOp.m AOp.f AOp.l AOp.d AOp.n AOp.x AOp.s AOp.k AOp.y AOp.z EOp.q low_c low_void low_any low_csl low_nilf low_ptr low_osl low_agg low_tup low_fn resEval advPO_nil advPO_loud advPO_quiet pL_yes pL_no pLS_some pLS_none pQ_yes pQ_no pQS_some pQS_loud eq_self Nat.sub_zero
section

def rowOf (prec fix : Int) (names : List (List UInt8)) : List OpT := names.map fun n => ⟨n, prec, fix⟩
theorem ops_row (w0 : World) (prec fix : Int) (names : List (List UInt8)) (hn : names.length ≤ 1000) (σ : H) :
    DC Tryz.prog w0 131 [I prec, I fix, .csl (names.map fun n => [.str n])] σ (Same (.c (opsC (rowOf prec fix names))) σ) := by
  refine k131.go rfl (fun hok hsz => ?_)
  ((try refine W.a ?_); simp only [go_sem, seval, reduceCtorEq, c131])
  refine W.own 7 35 3 rfl ?_
  refine W.loopP (fun i => i ≤ names.length) (fun i => ⟨((((((base.put (some 0) (I prec)).put (some 1) (I fix)).put (some 7) (.osl σ.length ((rowOf prec fix (names.take i)).map OpT.cs))).put (some 10) (.csl (names.map fun n => [.str n]))).put (some 11) (I names.length)).put (some 12) (I i)), σ ++ [.spare 35 3 i]⟩) (fun i => names.length - i) 0 (Nat.zero_le _) ?_ (fun i hi => ?_)
  · (refine Lew.env ?_; exact lee_here)
  · by_cases hlt : i < names.length
    · have h1 : ((i : Int) < (names.length : Int)) := by omega
      have hx : names[i]? = some names[i] := List.getElem?_eq_getElem hlt
      have hl : (rowOf prec fix (names.take i)).length = i := by simp [rowOf, hi]
      have hb1 : (i + 1) * 32 ≤ 140737488355328 := by omega
      have hb2 : i + 1 ≤ 140737488355328 := by omega
      have hta : (rowOf prec fix (names.take (i + 1))).map OpT.cs = (rowOf prec fix (names.take i)).map OpT.cs ++ [OpT.cs ⟨names[i], prec, fix⟩] := by
        unfold rowOf
        rw [List.take_add_one, hx, List.map_append, List.map_append]; rfl
      have hw : IntKind.i64.wrap ((i : Int) + 1) = ((i + 1 : Nat) : Int) := by rw [wrap_in] <;> omega
      ((try refine W.a ?_); simp only [go_sem, seval, reduceCtorEq, h1])
      refine W.yes rfl ?_
      ((try refine W.a ?_); simp only [go_sem, seval, reduceCtorEq, h1, nat0, hx, hl, hb1, hb2, eq_self, hw])
      refine .inv ⟨i + 1, hlt, by omega, ?_⟩
      simp only [go_sem, seval, reduceCtorEq, hta]
      (refine Lew.env ?_; exact lee_here)
    · have h1 : ¬ ((i : Int) < (names.length : Int)) := by omega
      have hi' : i = names.length := by omega
      subst hi'
      ((try refine W.a ?_); simp only [go_sem, seval, reduceCtorEq, h1])
      refine W.no rfl ?_
      ((try refine W.a ?_); simp only [go_sem, seval, reduceCtorEq, List.take_length])
      (refine W.fs (hok) (by simp only [r131, go_sem, seval, reduceCtorEq]; rfl) ?_; simp only [resV]; try exact V.wk.rfl _)
      (all_goals exact wk_here)
end
section

theorem flat_take {α : Type} {ls : List (List α)} {i : Nat} (h : i < ls.length) : (ls.take (i + 1)).flatten = (ls.take i).flatten ++ ls[i] := by
  rw [List.take_add_one, List.getElem?_eq_getElem h, List.flatten_append]
  congr 1
  exact List.append_nil _
theorem flat_le {α : Type} {ls : List (List α)} (i : Nat) : (ls.take i).flatten.length ≤ ls.flatten.length := by
  have : ls.flatten = (ls.take i).flatten ++ (ls.drop i).flatten := by rw [← List.flatten_append, List.take_append_drop]
  rw [this, List.length_append]
  omega
theorem slices_Concat (w0 : World) (ls : List (List OpT)) (hn : ls.flatten.length ≤ 100000) (hls : ls.length ≤ 100000) (σ : H) :
    DC Tryz.prog w0 130 [.csl (ls.map fun r => [opsC r])] σ (Same (.c (opsC ls.flatten)) σ) := by
  refine k130.go rfl (fun hok hsz => ?_)
  ((try refine W.a ?_); simp only [go_sem, seval, reduceCtorEq, c130])
  refine W.loopP (fun i => i ≤ ls.length) (fun i => ⟨(((((base.put (some 0) (.csl (ls.map fun r => [opsC r]))).put (some 3) (I (ls.take i).flatten.length)).put (some 9) (.csl (ls.map fun r => [opsC r]))).put (some 10) (I ls.length)).put (some 11) (I i)), σ⟩) (fun i => ls.length - i) 0 (Nat.zero_le _) ?_ (fun i hi => ?_)
  · (refine Lew.env ?_; exact lee_here)
  · by_cases hlt : i < ls.length
    · have h1 : ((i : Int) < (ls.length : Int)) := by omega
      have hx : ls[i]? = some ls[i] := List.getElem?_eq_getElem hlt
      have hft := flat_take hlt
      have hfl : (ls.take (i + 1)).flatten.length = (ls.take i).flatten.length + ls[i].length := by rw [hft, List.length_append]
      have hle := flat_le (ls := ls) (i + 1)
      have hw : IntKind.i64.wrap ((i : Int) + 1) = ((i + 1 : Nat) : Int) := by rw [wrap_in] <;> omega
      have hw2 : IntKind.i64.wrap (((ls.take i).flatten.length : Int) + (ls[i].length : Int)) = (((ls.take (i + 1)).flatten.length : Nat) : Int) := by rw [wrap_in] <;> omega
      have hneg : ¬ ((((ls.take (i + 1)).flatten.length : Nat) : Int) < 0) := by omega
      ((try refine W.a ?_); simp only [go_sem, seval, reduceCtorEq, h1])
      refine W.yes rfl ?_
      ((try refine W.a ?_); simp only [go_sem, seval, reduceCtorEq, h1, nat0, hx, hw2, hneg])
      refine W.no rfl ?_
      ((try refine W.a ?_); simp only [go_sem, seval, reduceCtorEq, hw])
      refine .inv ⟨i + 1, hlt, by omega, ?_⟩
      (refine Lew.env ?_; exact lee_here)
    · have h1 : ¬ ((i : Int) < (ls.length : Int)) := by omega
      have hi' : i = ls.length := by omega
      subst hi'
      ((try refine W.a ?_); simp only [go_sem, seval, reduceCtorEq, h1])
      refine W.no rfl ?_
      ((try refine W.a ?_); simp only [go_sem, seval, reduceCtorEq, List.take_length])
      (refine W.c1 (slices_Grow w0 ls.flatten.length (by omega) _) ?_; simp only [go_sem, seval, reduceCtorEq])
      refine W.loopP (fun i => i ≤ ls.length) (fun i => ⟨((((base.put (some 6) (.osl σ.length ((ls.take i).flatten.map OpT.cs))).put (some 25) (.csl (ls.map fun r => [opsC r]))).put (some 26) (I ls.length)).put (some 27) (I i)), σ ++ [.spare 35 3 (ls.take i).flatten.length]⟩) (fun i => ls.length - i) 0 (Nat.zero_le _) ?_ (fun i hi => ?_)
      · (refine Lew.env ?_; exact lee_here)
      · by_cases hlt : i < ls.length
        · have h1 : ((i : Int) < (ls.length : Int)) := by omega
          have hx : ls[i]? = some ls[i] := List.getElem?_eq_getElem hlt
          have hft := flat_take hlt
          have hfl : (ls.take (i + 1)).flatten.length = (ls.take i).flatten.length + ls[i].length := by rw [hft, List.length_append]
          have hle := flat_le (ls := ls) (i + 1)
          have hb1 : ((ls.take i).flatten.length + ls[i].length) * 32 ≤ 140737488355328 := by omega
          have hb2 : (ls.take i).flatten.length + ls[i].length ≤ 140737488355328 := by omega
          have hb3 : ∀ r ∈ ls[i].map OpT.cs, r.length = 3 := fun r hr => by obtain ⟨o, _, rfl⟩ := List.mem_map.1 hr; rfl
          have hta : (ls.take (i + 1)).flatten.map OpT.cs = (ls.take i).flatten.map OpT.cs ++ ls[i].map OpT.cs := by rw [hft, List.map_append]
          have hw : IntKind.i64.wrap ((i : Int) + 1) = ((i + 1 : Nat) : Int) := by rw [wrap_in] <;> omega
          ((try refine W.a ?_); simp only [go_sem, seval, reduceCtorEq, h1])
          refine W.yes rfl ?_
          ((try refine W.a ?_); simp only [go_sem, seval, reduceCtorEq, h1, nat0, hx, hb1, hb2, eq_self, hw, eq_true hb3])
          refine .inv ⟨i + 1, hlt, by omega, ?_⟩
          simp only [go_sem, seval, reduceCtorEq, hta, hfl]
          (refine Lew.env ?_; exact lee_here)
        · have h1 : ¬ ((i : Int) < (ls.length : Int)) := by omega
          have hi' : i = ls.length := by omega
          subst hi'
          ((try refine W.a ?_); simp only [go_sem, seval, reduceCtorEq, h1])
          refine W.no rfl ?_
          ((try refine W.a ?_); simp only [go_sem, seval, reduceCtorEq, List.take_length])
          (refine W.fs (hok) (by simp only [r130, go_sem, seval, reduceCtorEq]; rfl) ?_; simp only [resV]; try exact V.wk.rfl _)
          (all_goals exact wk_here)
end
section

def firstRows : List (List OpT) := [rowOf 10 0 [[58, 45]], rowOf 20 2 [[59]], rowOf 30 2 [[44]], rowOf 40 2 [[61, 62]], rowOf 60 0 [[61], [105, 115], [60], [61, 60], [62], [62, 61]], rowOf 80 1 [[43], [45]], rowOf 90 1 [[42], [100, 105, 118], [109, 111, 100]]]
theorem ops_Default (w0 : World) (σ : H) : DC Tryz.prog w0 81 [] σ (Same (.c (opsC firstRows.flatten)) σ) := by
  refine k81.go rfl (fun hok hsz => ?_)
  ((try refine W.a ?_); simp only [go_sem, seval, reduceCtorEq, c81])
  (refine W.c1 (ops_row w0 10 0 [[58, 45]] (by decide) _) ?_; simp only [go_sem, seval, reduceCtorEq])
  (refine W.c1 (ops_row w0 20 2 [[59]] (by decide) _) ?_; simp only [go_sem, seval, reduceCtorEq])
  (refine W.c1 (ops_row w0 30 2 [[44]] (by decide) _) ?_; simp only [go_sem, seval, reduceCtorEq])
  (refine W.c1 (ops_row w0 40 2 [[61, 62]] (by decide) _) ?_; simp only [go_sem, seval, reduceCtorEq])
  (refine W.c1 (ops_row w0 60 0 [[61], [105, 115], [60], [61, 60], [62], [62, 61]] (by decide) _) ?_; simp only [go_sem, seval, reduceCtorEq])
  (refine W.c1 (ops_row w0 80 1 [[43], [45]] (by decide) _) ?_; simp only [go_sem, seval, reduceCtorEq])
  (refine W.c1 (ops_row w0 90 1 [[42], [100, 105, 118], [109, 111, 100]] (by decide) _) ?_; simp only [go_sem, seval, reduceCtorEq])
  (refine W.c1 (slices_Concat w0 firstRows (by decide) (by decide) _) ?_; simp only [go_sem, seval, reduceCtorEq])
  (refine W.fs (hok) (by simp only [r81, go_sem, seval, reduceCtorEq]; rfl) ?_; simp only [resV]; try exact V.wk.rfl _)
end
end Go.Proofs.YtohcnohllbjlcaaGreatDoor
namespace Go.Proofs.YtohcnohllbjlcaaGreatDoor
open Go.RowKit Go.Lamb
attribute [local go_sem] strsC sdX rz_len rz_g0 rz_g rz_s0 rz_s rz_sb zeroB

def ops0 : List OpT := firstRows.flatten
structure AllSt where
  acc : List Sent
  i : Nat
  l : List OpT
end Go.Proofs.YtohcnohllbjlcaaGreatDoor
namespace Go.Proofs.YtohcnohllbjlcaaGreatDoor
open Go.RowKit Go.Lamb
attribute [local go_sem] strsC rz_len rz_g0 rz_g rz_s0 rz_s rz_sb

end Go.Proofs.YtohcnohllbjlcaaGreatDoor
namespace Go.Proofs.YtohcnohllbjlcaaGreatDoor
open Go.RowKit Go.Lamb
--absent /-- (*ref10.State).fail -/
--absent /-- (*ref10.State).tok -/
--absent /-- (*ref10.State).word -/
--absent /-- (*ref10.State).Names -/
--absent /-- (*ref10.State).end -/
--absent /-- (*ref10.State).kind -/
--absent /-- (*ref10.State).types -/
--absent /-- (*ref10.State).op -/
--absent /-- (*ref10.State).clause -/
--absent /-- (*ref10.State).One -/
--absent /-- ref10.Read -/
/-- lambentref02.Declare -/
def c97 : AC :=
  .seq (.reg [.o 3 (.box (.t 1)), .o 4 (.mov (.k (.c (.int .i64 0))))])
  (.seq (.seq (.reg [.f 10 2 3, .l 11 10, .o 12 (.bin .neq (.t 11) (.k (.c (.int .i64 0)))), .m 13 12, .y 14 (.fadd 2 (.t 3)) 13, .y 15 (.load1 (.t 14)) 13, .y 16 (.bin .neq (.t 15) (.k (.c (.int .i64 1)))) 13, .o 17 (.pick (.t 13) (.t 16) (.k (.c (.bool false)))), .m 18 17, .y 19 (.fadd 2 (.t 3)) 18, .y 20 (.load1 (.t 19)) 18, .y 21 (.bin .neq (.t 20) (.k (.c (.int .i64 2)))) 18, .o 22 (.pick (.t 18) (.t 21) (.k (.c (.bool false))))])
  (.cond (.t 22)
  (.seq (.reg [.o 4 (.mov (.k (.c (.int .i64 1))))])
  (.ret))
  (.skip)))
  (.seq (.reg [.f 23 0 3, .l 24 23, .k 25 95 [(.t 24)], .m 5 25])
  (.seq (.reg [.f 26 0 3, .l 27 26, .k 28 96 [(.t 27)], .m 6 28])
  (.seq (.reg [.f 29 0 3, .l 30 29, .m 7 30])
  (.seq (.seq (.reg [.m 31 5, .o 32 (.un .not (.t 31)), .m 33 32, .y 34 (.mov (.t 6)) 33, .y 35 (.un .not (.t 34)) 33, .o 36 (.pick (.t 33) (.t 35) (.k (.c (.bool false)))), .m 37 36, .z 38 (.mov (.t 7)) 37, .z 39 (.bin .eql (.t 38) (.k (.c (.str [33])))) 37, .o 40 (.pick (.t 37) (.k (.c (.bool true))) (.t 39)), .m 41 40, .z 42 (.mov (.t 7)) 41, .z 43 (.bin .eql (.t 42) (.k (.c (.str [45, 62])))) 41, .o 44 (.pick (.t 41) (.k (.c (.bool true))) (.t 43)), .m 45 44, .z 46 (.mov (.t 7)) 45, .z 47 (.bin .eql (.t 46) (.k (.c (.str [107, 105, 110, 100])))) 45, .o 48 (.pick (.t 45) (.k (.c (.bool true))) (.t 47)), .m 49 48, .z 50 (.mov (.t 7)) 49, .z 51 (.bin .eql (.t 50) (.k (.c (.str [116, 121, 112, 101])))) 49, .o 52 (.pick (.t 49) (.k (.c (.bool true))) (.t 51)), .m 53 52, .z 54 (.mov (.t 7)) 53, .z 55 (.bin .eql (.t 54) (.k (.c (.str [105, 110, 102, 105, 120])))) 53, .o 56 (.pick (.t 53) (.k (.c (.bool true))) (.t 55)), .m 57 56, .z 58 (.mov (.t 7)) 57, .z 59 (.bin .eql (.t 58) (.k (.c (.str [105, 110, 102, 105, 120, 108])))) 57, .o 60 (.pick (.t 57) (.k (.c (.bool true))) (.t 59)), .m 61 60, .z 62 (.mov (.t 7)) 61, .z 63 (.bin .eql (.t 62) (.k (.c (.str [105, 110, 102, 105, 120, 114])))) 61, .o 64 (.pick (.t 61) (.k (.c (.bool true))) (.t 63))])
  (.cond (.t 64)
  (.seq (.reg [.o 4 (.mov (.k (.c (.int .i64 20))))])
  (.ret))
  (.skip)))
  (.seq (.seq (.reg [.f 65 1 3, .l 66 65, .o 67 (.bin .lss (.t 66) (.k (.c (.int .i64 1)))), .m 68 67, .z 69 (.fadd 1 (.t 3)) 68, .z 70 (.load1 (.t 69)) 68, .z 71 (.bin .gtr (.t 70) (.k (.c (.int .i64 200)))) 68, .o 72 (.pick (.t 68) (.k (.c (.bool true))) (.t 71))])
  (.cond (.t 72)
  (.seq (.reg [.o 4 (.mov (.k (.c (.int .i64 21))))])
  (.ret))
  (.skip)))
  (.seq (.reg [.m 74 0, .f 75 0 3, .l 76 75, .k 77 138 [(.t 74), (.t 76)], .m 73 77, .x 78 73 0, .x 79 73 1, .o 8 (.box (.k (.agg [.c (.str []), .c (.int .i64 0), .c (.int .i64 0)]))), .s 3 8 78, .m 9 79])
  (.seq (.seq (.reg [.m 80 9])
  (.cond (.t 80)
  (.seq (.reg [.o 4 (.mov (.k (.c (.int .i64 22))))])
  (.ret))
  (.skip)))
  (.seq (.seq (.reg [.m 81 0, .o 82 (.lenr (.t 81)), .o 83 (.bin .geq (.t 82) (.k (.c (.int .i64 64))))])
  (.cond (.t 83)
  (.seq (.reg [.o 4 (.mov (.k (.c (.int .i64 23))))])
  (.ret))
  (.skip)))
  (.seq (.reg [.o 4 (.mov (.k (.c (.int .i64 0))))])
  (.ret)))))))))))
def r97 : List ResV := [.tmp 4]
theorem k97 : CodeIs Tryz.prog 97 2 Tryz.f97 c97 r97 := ⟨by kernel_rfl, Tryz.func97, rfl, by kernel_rfl, by kernel_rfl, by decide, enters_fn Tryz.func97 (by kernel_rfl) rfl⟩
/-- lambentref02.Default -/
def c86 : AC :=
  .seq (.reg [.o 0 (.mov (.k (.csl [])))])
  (.seq (.reg [.o 1 (.mov (.k (.csl [])))])
  (.seq (.reg [.m 2 1, .k 3 132 [(.k (.c (.str [58, 45]))), (.k (.c (.int .i64 10))), (.k (.c (.int .i64 0)))], .k 4 132 [(.k (.c (.str [59]))), (.k (.c (.int .i64 20))), (.k (.c (.int .i64 2)))], .k 5 132 [(.k (.c (.str [44]))), (.k (.c (.int .i64 30))), (.k (.c (.int .i64 2)))], .k 6 132 [(.k (.c (.str [61, 62]))), (.k (.c (.int .i64 40))), (.k (.c (.int .i64 2)))], .o 7 (.bsl 3 [(.t 3), (.t 4), (.t 5), (.t 6)]), .o 8 (.app 35 3 32 (.t 2) (.t 7)), .m 1 8])
  (.seq (.reg [.m 9 1, .k 10 132 [(.k (.c (.str [61]))), (.k (.c (.int .i64 60))), (.k (.c (.int .i64 0)))], .k 11 132 [(.k (.c (.str [105, 115]))), (.k (.c (.int .i64 60))), (.k (.c (.int .i64 0)))], .k 12 132 [(.k (.c (.str [60]))), (.k (.c (.int .i64 60))), (.k (.c (.int .i64 0)))], .k 13 132 [(.k (.c (.str [61, 60]))), (.k (.c (.int .i64 60))), (.k (.c (.int .i64 0)))], .k 14 132 [(.k (.c (.str [62]))), (.k (.c (.int .i64 60))), (.k (.c (.int .i64 0)))], .k 15 132 [(.k (.c (.str [62, 61]))), (.k (.c (.int .i64 60))), (.k (.c (.int .i64 0)))], .o 16 (.bsl 3 [(.t 10), (.t 11), (.t 12), (.t 13), (.t 14), (.t 15)]), .o 17 (.app 35 3 32 (.t 9) (.t 16)), .m 1 17])
  (.seq (.reg [.m 18 1, .k 19 132 [(.k (.c (.str [43]))), (.k (.c (.int .i64 80))), (.k (.c (.int .i64 1)))], .k 20 132 [(.k (.c (.str [45]))), (.k (.c (.int .i64 80))), (.k (.c (.int .i64 1)))], .k 21 132 [(.k (.c (.str [42]))), (.k (.c (.int .i64 90))), (.k (.c (.int .i64 1)))], .k 22 132 [(.k (.c (.str [100, 105, 118]))), (.k (.c (.int .i64 90))), (.k (.c (.int .i64 1)))], .k 23 132 [(.k (.c (.str [109, 111, 100]))), (.k (.c (.int .i64 90))), (.k (.c (.int .i64 1)))], .o 24 (.bsl 3 [(.t 19), (.t 20), (.t 21), (.t 22), (.t 23)]), .o 25 (.app 35 3 32 (.t 18) (.t 24)), .m 1 25])
  (.seq (.reg [.m 26 1, .m 0 26])
  (.ret))))))
def r86 : List ResV := [.tmp 0]
theorem k86 : CodeIs Tryz.prog 86 0 Tryz.f86 c86 r86 := ⟨by kernel_rfl, Tryz.func86, rfl, by kernel_rfl, by kernel_rfl, by decide, enters_fn Tryz.func86 (by kernel_rfl) rfl⟩
/-- lambentref02.one -/
def c132 : AC :=
  .seq (.reg [.o 6 (.box (.k (.agg [.c (.str []), .c (.int .i64 0), .c (.int .i64 0)])))])
  (.seq (.reg [.m 7 0, .m 8 1, .m 9 2, .o 10 (.build [.c (.str []), .c (.int .i64 0), .c (.int .i64 0)] [(0, 1, (.t 7)), (1, 1, (.t 8)), (2, 1, (.t 9))]), .s 3 6 10])
  (.ret))
def r132 : List ResV := [.celln 3 6]
theorem k132 : CodeIs Tryz.prog 132 3 Tryz.f132 c132 r132 := ⟨by kernel_rfl, Tryz.func132, rfl, by kernel_rfl, by kernel_rfl, by decide, enters_fn Tryz.func132 (by kernel_rfl) rfl⟩
/-- lambentref02.Same -/
def c46 : AC :=
  .seq (.reg [.o 4 (.mov (.k (.c (.bool false))))])
  (.seq (.seq (.reg [.m 6 0, .o 7 (.lenr (.t 6)), .m 8 1, .o 9 (.lenr (.t 8)), .o 10 (.bin .neq (.t 7) (.t 9))])
  (.cond (.t 10)
  (.seq (.reg [.o 4 (.mov (.k (.c (.bool false))))])
  (.ret))
  (.skip)))
  (.seq (.seq (.reg [.o 5 (.mov (.k (.c (.int .i64 0))))])
  (.block 0 (.loop (.seq (.seq (.reg [.m 11 5, .m 12 0, .o 13 (.lenr (.t 12)), .o 14 (.bin .lss (.t 11) (.t 13))])
  (.cond (.t 14)
  (.skip)
  (.exit 0)))
  (.seq (.block 1 (.seq (.dreg [.m 17 0, .m 18 5, .o 19 (.iadd 3 (.t 17) (.t 18)), .d 20 3 19, .m 21 1, .m 22 5, .o 23 (.iadd 3 (.t 21) (.t 22)), .d 24 3 23, .o 25 (.eqs true [2, 1, 1] (.t 20) (.t 24))]
    [.q (.m 17 0), .q (.m 18 5), .q (.o 19 (.iadd 3 (.t 17) (.t 18))), .q (.d 20 3 19), .q (.m 21 1), .q (.m 22 5), .q (.o 23 (.iadd 3 (.t 21) (.t 22))), .q (.d 24 3 23), .q (.o 25 (.eqs true [2, 1, 1] (.t 20) (.t 24)))])
  (.cond (.t 25)
  (.seq (.reg [.o 4 (.mov (.k (.c (.bool false))))])
  (.ret))
  (.skip))))
  (.reg [.m 15 5, .o 16 (.bin .add (.t 15) (.k (.c (.int .i64 1)))), .m 5 16]))))))
  (.seq (.reg [.o 4 (.mov (.k (.c (.bool true))))])
  (.ret))))
def r46 : List ResV := [.tmp 4]
theorem k46 : CodeIs Tryz.prog 46 2 Tryz.f46 c46 r46 := ⟨by kernel_rfl, Tryz.func46, rfl, by kernel_rfl, by kernel_rfl, by decide, enters_fn Tryz.func46 (by kernel_rfl) rfl⟩
--absent /-- ref10.Same -/
--absent /-- ref10.SameAll -/
--absent /-- law10.works -/
--absent /-- law10.alike -/
--absent /-- law10.SourceReads -/
--absent /-- law10.SourceGlue -/
--absent /-- law10.SourceOne -/
--absent /-- ref01.Lex -/
end Go.Proofs.YtohcnohllbjlcaaGreatDoor
namespace Go.Proofs.YtohcnohllbjlcaaGreatDoor
open Go.RowKit Go.Lamb

end Go.Proofs.YtohcnohllbjlcaaGreatDoor
namespace Go.Proofs.YtohcnohllbjlcaaGreatDoor
open Go.RowKit Go.Lamb
attribute [local go_sem] advO_skip advO_reg advO_seq advO_block advO_exit advO_endb advO_opsNil advO_ops advG_yes advG_no advG_none advS_some advS_none advO_cond advO_loop advO_dreg advO_ret advO_bad advO_inv advO_nil advO_zero wantedV Lamb.step ev_t ev_k put_some put_none argEnv popTo cellsAt V.cellsV V.rows V.toC toCs fillV bytesC byteRows appV rowsV boundV boundL binV binInt binStr eqC eqL V.isNil leaves V.leaf Ins.quiet Ins.pure List.getD_cons_zero List.getD_cons_succ List.getD_nil List.all_cons List.all_nil List.length_cons List.length_nil List.take_succ_cons List.take_zero List.drop_succ_cons List.drop_zero List.cons_append List.nil_append List.append_nil List.append_assoc List.map_cons List.map_nil List.getElem?_cons_zero List.getElem?_cons_succ List.length_append List.length_set hget0 hget hset0 hset hsets hgs0 hgs hss0 hss List.set_cons_zero List.set_cons_succ List.forall_mem_cons List.not_mem_nil false_implies implies_true Option.map_some Bool.and_true Bool.true_and Bool.not_not Bool.not_true Bool.not_false Bool.and_self Bool.or_true Bool.true_or Bool.or_false Bool.false_or Bool.and_false Bool.false_and Bool.false_eq_true beq_self_eq_true and_self and_true true_and if_true if_false Nat.zero_add Nat.add_zero Nat.le_refl Int.toNat_natCast decide_true decide_false beq_t beq_f List.length_map List.getElem?_map I S B opsC toksC OpT.v OpT.cs OpT.zero Tok.v Tok.cs Pre.v Pre.cs_eq k_mk name_mk n_mk l_mk pos_mk Pre.app applyL natCast0 natCast1 natCast2 AOp.o AOp.m AOp.f AOp.l AOp.d AOp.n AOp.x AOp.s AOp.k AOp.y AOp.z EOp.q low_c low_void low_any low_csl low_nilf low_ptr low_osl low_agg low_tup low_fn resEval advPO_nil advPO_loud advPO_quiet pL_yes pL_no pLS_some pLS_none pQ_yes pQ_no pQS_some pQS_loud eq_self Nat.sub_zero

end Go.Proofs.YtohcnohllbjlcaaGreatDoor
namespace Go.Proofs.YtohcnohllbjlcaaGreatDoor
open Go.RowKit Go.Lamb
--absent /-- ref03.Same -/
end Go.Proofs.YtohcnohllbjlcaaGreatDoor
namespace Go.Proofs.YtohcnohllbjlcaaGreatDoor
open Go.RowKit Go.Lamb
/-- lambentref05.Same -/
def c21 : AC :=
  .seq (.reg [.o 2 (.box (.t 0)), .o 3 (.box (.t 1)), .o 4 (.mov (.k (.c (.bool false))))])
  (.seq (.seq (.reg [.f 7 0 2, .l 8 7, .f 9 0 3, .l 10 9, .o 11 (.bin .neq (.t 8) (.t 10)), .m 12 11, .z 13 (.fadd 1 (.t 2)) 12, .z 14 (.load1 (.t 13)) 12, .z 15 (.fadd 1 (.t 3)) 12, .z 16 (.load1 (.t 15)) 12, .z 17 (.bin .neq (.t 14) (.t 16)) 12, .o 18 (.pick (.t 12) (.k (.c (.bool true))) (.t 17)), .m 19 18, .z 20 (.fadd 2 (.t 2)) 19, .z 21 (.load1 (.t 20)) 19, .z 22 (.fadd 2 (.t 3)) 19, .z 23 (.load1 (.t 22)) 19, .z 24 (.bin .neq (.t 21) (.t 23)) 19, .o 25 (.pick (.t 19) (.k (.c (.bool true))) (.t 24)), .m 26 25, .z 27 (.fadd 3 (.t 2)) 26, .z 28 (.load1 (.t 27)) 26, .z 29 (.lenr (.t 28)) 26, .z 30 (.fadd 3 (.t 3)) 26, .z 31 (.load1 (.t 30)) 26, .z 32 (.lenr (.t 31)) 26, .z 33 (.bin .neq (.t 29) (.t 32)) 26, .o 34 (.pick (.t 26) (.k (.c (.bool true))) (.t 33))])
  (.cond (.t 34)
  (.seq (.reg [.o 4 (.mov (.k (.c (.bool false))))])
  (.ret))
  (.skip)))
  (.seq (.seq (.reg [.o 5 (.mov (.k (.c (.int .i64 0))))])
  (.block 0 (.loop (.seq (.seq (.reg [.m 35 5, .f 36 3 2, .l 37 36, .o 38 (.lenr (.t 37)), .o 39 (.bin .lss (.t 35) (.t 38))])
  (.cond (.t 39)
  (.skip)
  (.exit 0)))
  (.seq (.block 1 (.seq (.dreg [.f 42 3 2, .l 43 42, .m 44 5, .o 45 (.iadd 4 (.t 43) (.t 44)), .d 46 4 45, .f 47 3 3, .l 48 47, .m 49 5, .o 50 (.iadd 4 (.t 48) (.t 49)), .d 51 4 50, .k 52 21 [(.t 46), (.t 51)], .m 6 52]
    [.q (.f 42 3 2), .q (.l 43 42), .q (.m 44 5), .q (.o 45 (.iadd 4 (.t 43) (.t 44))), .q (.d 46 4 45), .q (.f 47 3 3), .q (.l 48 47), .q (.m 49 5), .q (.o 50 (.iadd 4 (.t 48) (.t 49))), .q (.d 51 4 50), ⟨.k 52 21 [(.t 46), (.t 51)], true, 0⟩, ⟨.m 6 52, false, 1⟩])
  (.seq (.reg [.m 53 6, .o 54 (.un .not (.t 53))])
  (.cond (.t 54)
  (.seq (.reg [.o 4 (.mov (.k (.c (.bool false))))])
  (.ret))
  (.skip)))))
  (.reg [.m 40 5, .o 41 (.bin .add (.t 40) (.k (.c (.int .i64 1)))), .m 5 41]))))))
  (.seq (.reg [.o 4 (.mov (.k (.c (.bool true))))])
  (.ret))))
def r21 : List ResV := [.tmp 4]
theorem k21 : CodeIs Tryz.prog 21 2 Tryz.f21 c21 r21 := ⟨by kernel_rfl, Tryz.func21, rfl, by kernel_rfl, by kernel_rfl, by decide, enters_fn Tryz.func21 (by kernel_rfl) rfl⟩
/-- lambentref05.left -/
def c63 : AC :=
  .seq (.reg [.o 2 (.box (.t 0)), .o 4 (.mov (.k (.c (.int .i64 0))))])
  (.seq (.reg [.m 7 1, .o 8 (.bin .sub (.t 7) (.k (.c (.int .i64 1)))), .m 5 8])
  (.seq (.seq (.reg [.o 6 (.mov (.k (.c (.int .i64 0))))])
  (.block 0 (.loop (.seq (.seq (.reg [.m 9 6, .f 10 3 2, .l 11 10, .o 12 (.lenr (.t 11)), .o 13 (.bin .lss (.t 9) (.t 12)), .m 14 13, .y 15 (.mov (.t 5)) 14, .y 16 (.bin .geq (.t 15) (.k (.c (.int .i64 0)))) 14, .o 17 (.pick (.t 14) (.t 16) (.k (.c (.bool false))))])
  (.cond (.t 17)
  (.skip)
  (.exit 0)))
  (.seq (.block 1 (.reg [.f 20 3 2, .l 21 20, .m 22 6, .o 23 (.iadd 4 (.t 21) (.t 22)), .d 24 4 23, .m 25 5, .k 26 63 [(.t 24), (.t 25)], .m 5 26]))
  (.reg [.m 18 6, .o 19 (.bin .add (.t 18) (.k (.c (.int .i64 1)))), .m 6 19]))))))
  (.seq (.reg [.m 27 5, .m 4 27])
  (.ret))))
def r63 : List ResV := [.tmp 4]
theorem k63 : CodeIs Tryz.prog 63 2 Tryz.f63 c63 r63 := ⟨by kernel_rfl, Tryz.func63, rfl, by kernel_rfl, by kernel_rfl, by decide, enters_fn Tryz.func63 (by kernel_rfl) rfl⟩
/-- lambentref05.Large -/
def c29 : AC :=
  .seq (.reg [.o 2 (.box (.t 0)), .o 4 (.mov (.k (.c (.bool false))))])
  (.seq (.reg [.d 6 4 2, .m 7 1, .k 8 63 [(.t 6), (.t 7)], .m 5 8])
  (.seq (.reg [.m 9 5, .o 10 (.bin .lss (.t 9) (.k (.c (.int .i64 0)))), .m 4 10])
  (.ret)))
def r29 : List ResV := [.tmp 4]
theorem k29 : CodeIs Tryz.prog 29 2 Tryz.f29 c29 r29 := ⟨by kernel_rfl, Tryz.func29, rfl, by kernel_rfl, by kernel_rfl, by decide, enters_fn Tryz.func29 (by kernel_rfl) rfl⟩
end Go.Proofs.YtohcnohllbjlcaaGreatDoor
namespace Go.Proofs.YtohcnohllbjlcaaGreatDoor
open Go.RowKit Go.Lamb
end Go.Proofs.YtohcnohllbjlcaaGreatDoor
namespace Go.Proofs.YtohcnohllbjlcaaGreatDoor
open Go.RowKit Go.Lamb
attribute [local go_sem] advO_skip advO_reg advO_seq advO_block advO_exit advO_endb advO_opsNil advO_ops advG_yes advG_no advG_none advS_some advS_none advO_cond advO_loop advO_dreg advO_ret advO_bad advO_inv advO_nil advO_zero wantedV Lamb.step ev_t ev_k put_some put_none argEnv popTo cellsAt V.cellsV V.rows V.toC toCs fillV bytesC byteRows appV rowsV boundV boundL binV binInt binStr eqC eqL V.isNil leaves V.leaf Ins.quiet Ins.pure List.getD_cons_zero List.getD_cons_succ List.getD_nil List.all_cons List.all_nil List.length_cons List.length_nil List.take_succ_cons List.take_zero List.drop_succ_cons List.drop_zero List.cons_append List.nil_append List.append_nil List.append_assoc List.map_cons List.map_nil List.getElem?_cons_zero List.getElem?_cons_succ List.length_append List.length_set hget0 hget hset0 hset hsets hgs0 hgs hss0 hss List.set_cons_zero List.set_cons_succ List.forall_mem_cons List.not_mem_nil false_implies implies_true Option.map_some Bool.and_true Bool.true_and Bool.not_not Bool.not_true Bool.not_false Bool.and_self Bool.or_true Bool.true_or Bool.or_false Bool.false_or Bool.and_false Bool.false_and Bool.false_eq_true beq_self_eq_true and_self and_true true_and if_true if_false Nat.zero_add Nat.add_zero Nat.le_refl Int.toNat_natCast decide_true decide_false beq_t beq_f List.length_map List.getElem?_map I S B opsC toksC OpT.v OpT.cs OpT.zero Tok.v Tok.cs Pre.v Pre.cs_eq k_mk name_mk n_mk l_mk pos_mk Pre.app applyL natCast0 natCast1 natCast2 AOp.o AOp.m AOp.f AOp.l AOp.d AOp.n AOp.x AOp.s AOp.k AOp.y AOp.z EOp.q low_c low_void low_any low_csl low_nilf low_ptr low_osl low_agg low_tup low_fn resEval advPO_nil advPO_loud advPO_quiet pL_yes pL_no pLS_some pLS_none pQ_yes pQ_no pQS_some pQS_loud eq_self Nat.sub_zero
section

end
section

/-- The document's type reader's blocks. -/
def tqX (t : List Tok) (i : Int) (v : Nat) (vs : List Str) (e p : Int) : Blk := .cells [.c (toksC t), I i, I e, I p, .osl v (strsR vs)]
abbrev tqs (σ : H) (b v : Nat) (t : List Tok) (i : Int) (vs : List Str) (e p : Int) : H := rs σ b v (tqX t i v vs e p) (tyY vs)
attribute [local go_sem] tqX tyY rs_len rs_g0 rs_g rs_s0 rs_s rs_sv Typ.v Typ.cs_eq tk_mk tname_mk tn_mk tl_mk tysC
end
section

abbrev tqo (σ : H) (b v : Nat) (t : List Tok) (o : TyO) : H := tqs σ b v t o.j o.ws o.e o.p
attribute [local go_sem] tqX tyY rs_len rs_g0 rs_g rs_s0 rs_s rs_sv Typ.v Typ.cs_eq tk_mk tname_mk tn_mk tl_mk tysC
end
section
attribute [local go_sem] tqX tyY rs_len rs_g0 rs_g rs_s0 rs_s rs_sv Typ.v Typ.cs_eq tk_mk tname_mk tn_mk tl_mk tysC

end
end Go.Proofs.YtohcnohllbjlcaaGreatDoor
