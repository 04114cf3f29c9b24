/-
  The code of some functions, without addresses.
  The code of some functions, without addresses.
  The code of some functions, without addresses.
  The code of some functions, without addresses.
  Walks: operators are found by their names.
  The code of some functions, without addresses.
  Walks: the reader's small functions.
  Walks: the type reader's small functions.
  Walks: operators are declared.
  Walks: a type one deeper; an atom.
  Walks: a type: what is behind its first part.
  Walks: ty.Read.
  Walks: the source reader's small functions.
  Walks: names, and how many arrows there are.
  Walks: the reader's small functions, more of them.
  Walks: what an operator makes of two trees.
  Walks: an expression one deeper; brackets; an atom.
  Walks: brackets.
  Walks: an atom.
  Walks: atoms, applied.
  Walks: an expression.
  Walks: Read.
  Walks: sentences, each kind of them.
  Walks: sentences with types, operators, clauses.
  Walks: operators' sentences.
  Walks: a sentence.
  The code of some functions, without addresses.
  Walks: the first operators.
  Walks: rows of operators, one behind the other.
  Walks: the first operators, all of them.
  Plain: the first operators.
  Walks: source.Read, source.Query.
  Walks: source.Query.
  The code of some functions, without addresses.
  Walks: a tree is the same as itself.
  Walks: the document's examples of sentences; which operators are the same.
  The code of some functions, without addresses.
  The code of some functions, without addresses.
  The code of some functions, without addresses.
  Walks: the document's reader, its small functions.
  Walks: the document's type reader, its small functions.
  Walks: the document's type reader: an atom.
  Walks: the document's type reader: a type; its Read.
  Walks: the document's Read of types; which types are the same, and how large they are.
  Walks: when two sentences are the same.
-/
import Derived.Test.YtljjlhdkkbaehaaGreatDoorChecked
import Derived.Test.YtljjlhdkkbaehaaGreatDoorQJ10
import Derived.Test.YtljjlhdkkbaehaaGreatDoorQJ15
import Derived.Test.YtljjlhdkkbaehaaGreatDoorQEnc
import Derived.Test.YtljjlhdkkbaehaaGreatDoorQLexC
import Derived.Test.YtljjlhdkkbaehaaGreatDoorQTyA2
import Derived.Test.YtljjlhdkkbaehaaGreatDoorQGrow
import Derived.Test.YtljjlhdkkbaehaaGreatDoorQLxD
import Derived.Test.YtljjlhdkkbaehaaGreatDoorQLexGl
import Derived.Test.YtljjlhdkkbaehaaGreatDoorQLexBk
set_option linter.unusedSimpArgs false
set_option linter.unusedVariables false
set_option maxHeartbeats 8000000
set_option maxRecDepth 20000
namespace Go.Proofs.YtljjlhdkkbaehaaGreatDoor
open Go.RowKit Go.Lamb
/-- lambentref04.Declared -/
def c14 : AC :=
  .seq (.reg [.o 2 (.mov (.k (.c (.bool false))))])
  (.seq (.seq (.reg [.o 3 (.mov (.k (.c (.int .i64 0))))])
  (.block 0 (.loop (.seq (.seq (.reg [.m 4 3, .m 5 0, .o 6 (.lenr (.t 5)), .o 7 (.bin .lss (.t 4) (.t 6))])
  (.cond (.t 7)
  (.skip)
  (.exit 0)))
  (.seq (.block 1 (.seq (.dreg [.m 10 0, .m 11 3, .o 12 (.slr 3 (.t 10) none (some (.t 11)) none), .m 13 0, .m 14 3, .o 15 (.iadd 3 (.t 13) (.t 14)), .d 16 3 15, .k 17 34 [(.t 12), (.t 16)], .o 18 (.bin .neq (.t 17) (.k (.c (.int .i64 0))))]
    [.q (.m 10 0), .q (.m 11 3), .q (.o 12 (.slr 3 (.t 10) none (some (.t 11)) none)), .q (.m 13 0), .q (.m 14 3), .q (.o 15 (.iadd 3 (.t 13) (.t 14))), .q (.d 16 3 15), ⟨.k 17 34 [(.t 12), (.t 16)], true, 0⟩, ⟨.o 18 (.bin .neq (.t 17) (.k (.c (.int .i64 0)))), false, 1⟩])
  (.cond (.t 18)
  (.seq (.reg [.o 2 (.mov (.k (.c (.bool false))))])
  (.ret))
  (.skip))))
  (.reg [.m 8 3, .o 9 (.bin .add (.t 8) (.k (.c (.int .i64 1)))), .m 3 9]))))))
  (.seq (.reg [.o 2 (.mov (.k (.c (.bool true))))])
  (.ret)))
def r14 : List ResV := [.tmp 2]
theorem k14 : CodeIs Tryz.prog 14 1 Tryz.f14 c14 r14 := ⟨by kernel_rfl, Tryz.func14, rfl, by kernel_rfl, by kernel_rfl, by decide, enters_fn Tryz.func14 (by kernel_rfl) rfl⟩
/-- lambentlaw04.ShowBack -/
def c6 : AC :=
  .seq (.reg [.o 3 (.box (.t 1)), .o 4 (.mov (.k (.c (.bool false))))])
  (.seq (.reg [.k 17 8 [], .m 5 17])
  (.seq (.seq (.reg [.m 18 5, .o 19 (.un .not (.t 18))])
  (.cond (.t 19)
  (.seq (.reg [.o 4 (.mov (.k (.c (.bool false))))])
  (.ret))
  (.skip)))
  (.seq (.reg [.m 20 0, .d 21 5 3, .k 22 9 [(.t 20), (.t 21)], .m 6 22])
  (.seq (.reg [.m 23 0, .k 24 14 [(.t 23)], .m 7 24])
  (.seq (.seq (.reg [.m 25 6, .m 26 25, .z 27 (.mov (.t 7)) 26, .z 28 (.un .not (.t 27)) 26, .o 29 (.pick (.t 26) (.k (.c (.bool true))) (.t 28))])
  (.cond (.t 29)
  (.seq (.reg [.m 30 5, .m 4 30])
  (.ret))
  (.skip)))
  (.seq (.reg [.m 31 0, .d 32 5 3, .k 33 18 [(.t 31), (.t 32)], .m 8 33])
  (.seq (.seq (.reg [.m 34 8, .o 35 (.un .not (.t 34))])
  (.cond (.t 35)
  (.seq (.reg [.m 36 5, .m 4 36])
  (.ret))
  (.skip)))
  (.seq (.reg [.m 38 0, .d 39 5 3, .k 40 11 [(.t 38), (.t 39)], .k 41 15 [(.t 40)], .m 37 41, .x 42 37 0, .x 43 37 1, .x 44 37 2, .m 9 42, .m 10 43, .m 11 44])
  (.seq (.seq (.reg [.m 45 10, .o 46 (.bin .neq (.t 45) (.k (.c (.int .i64 0))))])
  (.cond (.t 46)
  (.seq (.reg [.o 4 (.mov (.k (.c (.bool false))))])
  (.ret))
  (.skip)))
  (.seq (.reg [.m 48 0, .m 49 9, .k 50 16 [(.t 48), (.t 49), (.k (.c (.int .i64 0)))], .m 47 50, .x 51 47 0, .x 52 47 1, .x 53 47 2, .x 54 47 3, .o 12 (.box (.k (.agg [.c (.int .i64 0), .c (.str []), .c (.int .i64 0), .csl [], .c (.int .i64 0)]))), .s 5 12 51, .m 13 52, .m 14 53, .m 15 54])
  (.seq (.reg [.d 55 5 3, .d 56 5 12, .k 57 19 [(.t 55), (.t 56)], .m 16 57])
  (.seq (.reg [.m 58 5, .m 59 58, .y 60 (.mov (.t 14)) 59, .y 61 (.bin .eql (.t 60) (.k (.c (.int .i64 0)))) 59, .o 62 (.pick (.t 59) (.t 61) (.k (.c (.bool false)))), .m 63 62, .y 64 (.mov (.t 16)) 63, .o 65 (.pick (.t 63) (.t 64) (.k (.c (.bool false)))), .m 66 65, .y 67 (.mov (.t 13)) 66, .y 68 (.mov (.t 9)) 66, .y 69 (.lenr (.t 68)) 66, .y 70 (.bin .sub (.t 69) (.k (.c (.int .i64 1)))) 66, .y 71 (.bin .eql (.t 67) (.t 70)) 66, .o 72 (.pick (.t 66) (.t 71) (.k (.c (.bool false)))), .m 4 72])
  (.ret)))))))))))))
def r6 : List ResV := [.tmp 4]
theorem k6 : CodeIs Tryz.prog 6 2 Tryz.f6 c6 r6 := ⟨by kernel_rfl, Tryz.func6, rfl, by kernel_rfl, by kernel_rfl, by decide, enters_fn Tryz.func6 (by kernel_rfl) rfl⟩
/-- lambentlaw04.ShowOnce -/
def c5 : AC :=
  .seq (.reg [.o 4 (.mov (.k (.c (.bool false))))])
  (.seq (.reg [.k 23 8 [], .m 5 23])
  (.seq (.seq (.reg [.m 24 5, .o 25 (.un .not (.t 24))])
  (.cond (.t 25)
  (.seq (.reg [.o 4 (.mov (.k (.c (.bool false))))])
  (.ret))
  (.skip)))
  (.seq (.reg [.m 26 0, .o 27 (.lenr (.t 26)), .o 28 (.bin .leq (.t 27) (.k (.c (.int .i64 100)))), .m 29 28, .y 30 (.mov (.t 0)) 29, .y 31 (.call (.k (.fn 14 [])) [(.t 30)]) 29, .o 32 (.pick (.t 29) (.t 31) (.k (.c (.bool false)))), .m 6 32])
  (.seq (.seq (.reg [.m 33 1, .o 34 (.lens (.t 33)), .o 35 (.bin .gtr (.t 34) (.k (.c (.int .i64 300)))), .m 36 35, .z 37 (.mov (.t 6)) 36, .z 38 (.un .not (.t 37)) 36, .o 39 (.pick (.t 36) (.k (.c (.bool true))) (.t 38))])
  (.cond (.t 39)
  (.seq (.reg [.m 40 5, .m 4 40])
  (.ret))
  (.skip)))
  (.seq (.reg [.m 42 1, .k 43 15 [(.t 42)], .m 41 43, .x 44 41 0, .x 45 41 1, .x 46 41 2, .m 7 44, .m 8 45, .m 9 46])
  (.seq (.seq (.reg [.m 47 8, .o 48 (.bin .neq (.t 47) (.k (.c (.int .i64 0))))])
  (.cond (.t 48)
  (.seq (.reg [.m 49 5, .m 4 49])
  (.ret))
  (.skip)))
  (.seq (.reg [.m 51 0, .m 52 7, .k 53 16 [(.t 51), (.t 52), (.k (.c (.int .i64 0)))], .m 50 53, .x 54 50 0, .x 55 50 1, .x 56 50 2, .x 57 50 3, .o 10 (.box (.k (.agg [.c (.int .i64 0), .c (.str []), .c (.int .i64 0), .csl [], .c (.int .i64 0)]))), .s 5 10 54, .m 11 55, .m 12 56, .m 13 57])
  (.seq (.seq (.reg [.m 58 12, .o 59 (.bin .neq (.t 58) (.k (.c (.int .i64 0))))])
  (.cond (.t 59)
  (.seq (.reg [.m 60 5, .m 4 60])
  (.ret))
  (.skip)))
  (.seq (.reg [.d 61 5 10, .k 62 17 [(.t 61), (.k (.c (.int .i64 150)))], .m 14 62])
  (.seq (.seq (.reg [.m 63 14])
  (.cond (.t 63)
  (.seq (.reg [.m 64 5, .m 4 64])
  (.ret))
  (.skip)))
  (.seq (.reg [.m 65 0, .d 66 5 10, .k 67 11 [(.t 65), (.t 66)], .m 15 67])
  (.seq (.reg [.m 69 15, .k 70 15 [(.t 69)], .m 68 70, .x 71 68 0, .x 72 68 1, .x 73 68 2, .m 16 71, .m 17 72, .m 18 73])
  (.seq (.reg [.m 75 0, .m 76 16, .k 77 16 [(.t 75), (.t 76), (.k (.c (.int .i64 0)))], .m 74 77, .x 78 74 0, .x 79 74 1, .x 80 74 2, .x 81 74 3, .o 19 (.box (.k (.agg [.c (.int .i64 0), .c (.str []), .c (.int .i64 0), .csl [], .c (.int .i64 0)]))), .s 5 19 78, .m 20 79, .m 21 80, .m 22 81])
  (.seq (.reg [.m 82 5, .m 83 82, .y 84 (.mov (.t 17)) 83, .y 85 (.bin .eql (.t 84) (.k (.c (.int .i64 0)))) 83, .o 86 (.pick (.t 83) (.t 85) (.k (.c (.bool false)))), .m 87 86, .y 88 (.mov (.t 21)) 87, .y 89 (.bin .eql (.t 88) (.k (.c (.int .i64 0)))) 87, .o 90 (.pick (.t 87) (.t 89) (.k (.c (.bool false)))), .m 91 90, .y 92 (.mov (.t 0)) 91, .y 93 (.loadn 5 (.t 19)) 91, .y 94 (.call (.k (.fn 11 [])) [(.t 92), (.t 93)]) 91, .y 95 (.mov (.t 15)) 91, .y 96 (.bin .eql (.t 94) (.t 95)) 91, .o 97 (.pick (.t 91) (.t 96) (.k (.c (.bool false)))), .m 4 97])
  (.ret)))))))))))))))
def r5 : List ResV := [.tmp 4]
theorem k5 : CodeIs Tryz.prog 5 2 Tryz.f5 c5 r5 := ⟨by kernel_rfl, Tryz.func5, rfl, by kernel_rfl, by kernel_rfl, by decide, enters_fn Tryz.func5 (by kernel_rfl) rfl⟩
/-- lambentlaw04.ShowApart -/
def c7 : AC :=
  .seq (.reg [.o 4 (.box (.t 1)), .o 5 (.box (.t 2)), .o 6 (.mov (.k (.c (.bool false))))])
  (.seq (.reg [.k 13 8 [], .m 7 13])
  (.seq (.seq (.reg [.m 14 7, .o 15 (.un .not (.t 14))])
  (.cond (.t 15)
  (.seq (.reg [.o 6 (.mov (.k (.c (.bool false))))])
  (.ret))
  (.skip)))
  (.seq (.reg [.m 16 0, .d 17 5 4, .k 18 9 [(.t 16), (.t 17)], .m 8 18])
  (.seq (.reg [.m 19 0, .d 20 5 5, .k 21 9 [(.t 19), (.t 20)], .m 9 21])
  (.seq (.reg [.m 22 0, .k 23 14 [(.t 22)], .m 10 23])
  (.seq (.seq (.reg [.m 24 8, .m 25 24, .z 26 (.mov (.t 9)) 25, .o 27 (.pick (.t 25) (.k (.c (.bool true))) (.t 26)), .m 28 27, .z 29 (.mov (.t 10)) 28, .z 30 (.un .not (.t 29)) 28, .o 31 (.pick (.t 28) (.k (.c (.bool true))) (.t 30))])
  (.cond (.t 31)
  (.seq (.reg [.m 32 7, .m 6 32])
  (.ret))
  (.skip)))
  (.seq (.reg [.m 33 0, .d 34 5 4, .k 35 18 [(.t 33), (.t 34)], .m 11 35])
  (.seq (.reg [.m 36 0, .d 37 5 5, .k 38 18 [(.t 36), (.t 37)], .m 12 38])
  (.seq (.seq (.reg [.m 39 11, .o 40 (.un .not (.t 39)), .m 41 40, .z 42 (.mov (.t 12)) 41, .z 43 (.un .not (.t 42)) 41, .o 44 (.pick (.t 41) (.k (.c (.bool true))) (.t 43))])
  (.cond (.t 44)
  (.seq (.reg [.m 45 7, .m 6 45])
  (.ret))
  (.skip)))
  (.seq (.dreg [.m 46 7, .m 47 46, .y 48 (.mov (.t 0)) 47, .y 49 (.loadn 5 (.t 4)) 47, .y 50 (.call (.k (.fn 11 [])) [(.t 48), (.t 49)]) 47, .y 51 (.mov (.t 0)) 47, .y 52 (.loadn 5 (.t 5)) 47, .y 53 (.call (.k (.fn 11 [])) [(.t 51), (.t 52)]) 47, .y 54 (.bin .eql (.t 50) (.t 53)) 47, .y 55 (.loadn 5 (.t 4)) 47, .y 56 (.loadn 5 (.t 5)) 47, .y 57 (.call (.k (.fn 19 [])) [(.t 55), (.t 56)]) 47, .y 58 (.eqb false (.t 54) (.t 57)) 47, .o 59 (.pick (.t 47) (.t 58) (.k (.c (.bool false)))), .m 6 59]
    [.q (.m 46 7), .q (.m 47 46), .q (.y 48 (.mov (.t 0)) 47), .q (.y 49 (.loadn 5 (.t 4)) 47), ⟨.y 50 (.call (.k (.fn 11 [])) [(.t 48), (.t 49)]) 47, true, 0⟩, .q (.y 51 (.mov (.t 0)) 47), .q (.y 52 (.loadn 5 (.t 5)) 47), ⟨.y 53 (.call (.k (.fn 11 [])) [(.t 51), (.t 52)]) 47, true, 1⟩, .q (.y 55 (.loadn 5 (.t 4)) 47), .q (.y 56 (.loadn 5 (.t 5)) 47), ⟨.y 57 (.call (.k (.fn 19 [])) [(.t 55), (.t 56)]) 47, true, 2⟩, ⟨.y 54 (.bin .eql (.t 50) (.t 53)) 47, false, 2⟩, ⟨.y 58 (.eqb false (.t 54) (.t 57)) 47, false, 3⟩, ⟨.o 59 (.pick (.t 47) (.t 58) (.k (.c (.bool false)))), false, 3⟩, ⟨.m 6 59, false, 3⟩])
  (.ret)))))))))))
def r7 : List ResV := [.tmp 6]
theorem k7 : CodeIs Tryz.prog 7 3 Tryz.f7 c7 r7 := ⟨by kernel_rfl, Tryz.func7, rfl, by kernel_rfl, by kernel_rfl, by decide, enters_fn Tryz.func7 (by kernel_rfl) rfl⟩
end Go.Proofs.YtljjlhdkkbaehaaGreatDoor
namespace Go.Proofs.YtljjlhdkkbaehaaGreatDoor
open Go.RowKit Go.Lamb
--absent /-- source.Words -/
--absent /-- (*source.reader).tok -/
--absent /-- (*source.reader).fail -/
--absent /-- (*source.reader).is -/
--absent /-- (*source.reader).take -/
--absent /-- (*source.reader).names -/
--absent /-- source.texts -/
--absent /-- (*source.reader).kind -/
--absent /-- (*source.reader).typed -/
--absent /-- (*source.reader).operator -/
--absent /-- (*source.reader).clause -/
--absent /-- (*source.reader).end -/
--absent /-- (*source.reader).sentence -/
--absent /-- source.Read -/
--absent /-- source.Query -/
--absent /-- slices.Contains[[]string,string] -/
--absent /-- slices.Contains[[]api.TokKind,api.TokKind] -/
--absent /-- slices.Index[[]api.TokKind,api.TokKind] -/
--absent /-- ops.Declare -/
--absent /-- ops.wrong -/
--absent /-- ops.reserved -/
--absent /-- slices.Clone[[]api.Op,api.Op] -/
end Go.Proofs.YtljjlhdkkbaehaaGreatDoor
namespace Go.Proofs.YtljjlhdkkbaehaaGreatDoor
open Go.RowKit Go.Lamb
end Go.Proofs.YtljjlhdkkbaehaaGreatDoor
namespace Go.Proofs.YtljjlhdkkbaehaaGreatDoor
open Go.RowKit Go.Lamb
/-- ops.Find$1 -/
def c83 : AC :=
  .seq (.reg [.o 2 (.box (.t 0)), .o 3 (.mov (.k (.c (.bool false))))])
  (.seq (.reg [.f 4 0 2, .l 5 4, .l 6 1, .o 7 (.bin .eql (.t 5) (.t 6)), .m 3 7])
  (.ret))
def r83 : List ResV := [.tmp 3]
theorem k83 : CodeIs Tryz.prog 83 2 Tryz.f83 c83 r83 := ⟨by kernel_rfl, Tryz.func83, rfl, by kernel_rfl, by kernel_rfl, by decide, enters_fn Tryz.func83 (by kernel_rfl) rfl⟩
/-- slices.IndexFunc[[]api.Op,api.Op] -/
def c82 : AC :=
  .seq (.reg [.o 4 (.mov (.k (.c (.int .i64 0))))])
  (.seq (.seq (.reg [.m 6 0, .o 7 (.lenr (.t 6)), .o 8 (.mov (.k (.c (.int .i64 0))))])
  (.block 0 (.loop (.seq (.reg [.o 9 (.bin .lss (.t 8) (.t 7))])
  (.seq (.cond (.t 9)
  (.skip)
  (.exit 0))
  (.seq (.block 1 (.seq (.reg [.m 10 8, .m 5 10])
  (.seq (.reg [.m 11 1, .m 12 0, .m 13 5, .o 14 (.iadd 3 (.t 12) (.t 13)), .d 15 3 14, .o 16 (.call (.t 11) [(.t 15)])])
  (.cond (.t 16)
  (.seq (.reg [.m 17 5, .m 4 17])
  (.ret))
  (.skip)))))
  (.reg [.o 18 (.bin .add (.t 8) (.k (.c (.int .i64 1)))), .m 8 18])))))))
  (.seq (.reg [.o 4 (.mov (.k (.c (.int .i64 (-1)))))])
  (.ret)))
def r82 : List ResV := [.tmp 4]
theorem k82 : CodeIs Tryz.prog 82 2 Tryz.f82 c82 r82 := ⟨by kernel_rfl, Tryz.func82, rfl, by kernel_rfl, by kernel_rfl, by decide, enters_fn Tryz.func82 (by kernel_rfl) rfl⟩
/-- ops.Find -/
def c40 : AC :=
  .seq (.reg [.o 3 (.box (.t 1)), .o 4 (.box (.k (.agg [.c (.str []), .c (.int .i64 0), .c (.int .i64 0)]))), .o 5 (.mov (.k (.c (.bool false))))])
  (.seq (.reg [.m 7 0, .o 8 (.mkfn 83 [(.t 3)]), .k 9 82 [(.t 7), (.t 8)], .m 6 9])
  (.seq (.seq (.reg [.m 10 6, .o 11 (.bin .lss (.t 10) (.k (.c (.int .i64 0))))])
  (.cond (.t 11)
  (.seq (.reg [.o 12 (.build [.c (.str []), .c (.int .i64 0), .c (.int .i64 0)] []), .s 3 4 12, .o 5 (.mov (.k (.c (.bool false))))])
  (.ret))
  (.skip)))
  (.seq (.reg [.m 13 0, .m 14 6, .o 15 (.iadd 3 (.t 13) (.t 14)), .d 16 3 15, .s 3 4 16, .o 5 (.mov (.k (.c (.bool true))))])
  (.ret))))
def r40 : List ResV := [.celln 3 4, .tmp 5]
theorem k40 : CodeIs Tryz.prog 40 2 Tryz.f40 c40 r40 := ⟨by kernel_rfl, Tryz.func40, rfl, by kernel_rfl, by kernel_rfl, by decide, enters_fn Tryz.func40 (by kernel_rfl) rfl⟩
/-- lambentref02.Find -/
def c49 : AC :=
  .seq (.reg [.o 4 (.box (.k (.agg [.c (.str []), .c (.int .i64 0), .c (.int .i64 0)]))), .o 5 (.mov (.k (.c (.bool false))))])
  (.seq (.seq (.reg [.o 6 (.mov (.k (.c (.int .i64 0))))])
  (.block 0 (.loop (.seq (.seq (.reg [.m 7 6, .m 8 0, .o 9 (.lenr (.t 8)), .o 10 (.bin .lss (.t 7) (.t 9))])
  (.cond (.t 10)
  (.skip)
  (.exit 0)))
  (.seq (.block 1 (.seq (.reg [.m 13 0, .m 14 6, .o 15 (.iadd 3 (.t 13) (.t 14)), .f 16 0 15, .l 17 16, .m 18 1, .o 19 (.bin .eql (.t 17) (.t 18))])
  (.cond (.t 19)
  (.seq (.reg [.m 20 0, .m 21 6, .o 22 (.iadd 3 (.t 20) (.t 21)), .d 23 3 22, .s 3 4 23, .o 5 (.mov (.k (.c (.bool true))))])
  (.ret))
  (.skip))))
  (.reg [.m 11 6, .o 12 (.bin .add (.t 11) (.k (.c (.int .i64 1)))), .m 6 12]))))))
  (.seq (.reg [.o 24 (.build [.c (.str []), .c (.int .i64 0), .c (.int .i64 0)] []), .s 3 4 24, .o 5 (.mov (.k (.c (.bool false))))])
  (.ret)))
def r49 : List ResV := [.celln 3 4, .tmp 5]
theorem k49 : CodeIs Tryz.prog 49 2 Tryz.f49 c49 r49 := ⟨by kernel_rfl, Tryz.func49, rfl, by kernel_rfl, by kernel_rfl, by decide, enters_fn Tryz.func49 (by kernel_rfl) rfl⟩
/-- ops.Is -/
def c106 : AC :=
  .seq (.reg [.o 3 (.box (.t 1)), .o 4 (.box (.k (.agg [.c (.str []), .c (.int .i64 0), .c (.int .i64 0)]))), .o 5 (.mov (.k (.c (.bool false))))])
  (.seq (.seq (.reg [.f 6 0 3, .l 7 6])
  (.block 0 (.seq (.seq (.reg [.o 9 (.bin .eql (.t 7) (.k (.c (.int .i64 1)))), .m 8 9])
  (.cond (.t 8)
  (.skip)
  (.reg [.o 10 (.bin .eql (.t 7) (.k (.c (.int .i64 4)))), .m 8 10])))
  (.cond (.t 8)
  (.seq (.reg [.m 11 0, .f 12 1 3, .l 13 12, .k 14 40 [(.t 11), (.t 13)], .x 15 14 0, .x 16 14 1, .s 3 4 15, .m 5 16])
  (.ret))
  (.skip)))))
  (.seq (.reg [.o 17 (.build [.c (.str []), .c (.int .i64 0), .c (.int .i64 0)] []), .s 3 4 17, .o 5 (.mov (.k (.c (.bool false))))])
  (.ret)))
def r106 : List ResV := [.celln 3 4, .tmp 5]
theorem k106 : CodeIs Tryz.prog 106 2 Tryz.f106 c106 r106 := ⟨by kernel_rfl, Tryz.func106, rfl, by kernel_rfl, by kernel_rfl, by decide, enters_fn Tryz.func106 (by kernel_rfl) rfl⟩
--absent /-- ref02.Is -/
/-- ops.beside -/
def c88 : AC :=
  .seq (.reg [.o 3 (.box (.t 0)), .o 4 (.box (.t 1)), .o 6 (.mov (.k (.c (.bool false))))])
  (.seq (.reg [.f 7 1 4, .l 8 7, .f 9 1 3, .l 10 9, .o 11 (.bin .gtr (.t 8) (.t 10)), .m 12 11, .z 13 (.fadd 1 (.t 4)) 12, .z 14 (.load1 (.t 13)) 12, .z 15 (.fadd 1 (.t 3)) 12, .z 16 (.load1 (.t 15)) 12, .z 17 (.bin .eql (.t 14) (.t 16)) 12, .z 18 (.mov (.t 17)) 12, .y 19 (.fadd 2 (.t 3)) 18, .y 20 (.load1 (.t 19)) 18, .y 21 (.mov (.t 2)) 18, .y 22 (.bin .eql (.t 20) (.t 21)) 18, .z 23 (.pick (.t 18) (.t 22) (.k (.c (.bool false)))) 12, .z 24 (.mov (.t 23)) 12, .y 25 (.fadd 2 (.t 4)) 24, .y 26 (.load1 (.t 25)) 24, .y 27 (.mov (.t 2)) 24, .y 28 (.bin .eql (.t 26) (.t 27)) 24, .z 29 (.pick (.t 24) (.t 28) (.k (.c (.bool false)))) 12, .o 30 (.pick (.t 12) (.k (.c (.bool true))) (.t 29)), .m 6 30])
  (.ret))
def r88 : List ResV := [.tmp 6]
theorem k88 : CodeIs Tryz.prog 88 3 Tryz.f88 c88 r88 := ⟨by kernel_rfl, Tryz.func88, rfl, by kernel_rfl, by kernel_rfl, by decide, enters_fn Tryz.func88 (by kernel_rfl) rfl⟩
/-- ops.Left -/
def c54 : AC :=
  .seq (.reg [.o 2 (.box (.t 0)), .o 3 (.box (.t 1)), .o 4 (.mov (.k (.c (.bool false))))])
  (.seq (.reg [.d 5 3 2, .d 6 3 3, .k 7 88 [(.t 5), (.t 6), (.k (.c (.int .i64 1)))], .m 4 7])
  (.ret))
def r54 : List ResV := [.tmp 4]
theorem k54 : CodeIs Tryz.prog 54 2 Tryz.f54 c54 r54 := ⟨by kernel_rfl, Tryz.func54, rfl, by kernel_rfl, by kernel_rfl, by decide, enters_fn Tryz.func54 (by kernel_rfl) rfl⟩
/-- ops.Right -/
def c56 : AC :=
  .seq (.reg [.o 2 (.box (.t 0)), .o 3 (.box (.t 1)), .o 4 (.mov (.k (.c (.bool false))))])
  (.seq (.reg [.d 5 3 2, .d 6 3 3, .k 7 88 [(.t 5), (.t 6), (.k (.c (.int .i64 2)))], .m 4 7])
  (.ret))
def r56 : List ResV := [.tmp 4]
theorem k56 : CodeIs Tryz.prog 56 2 Tryz.f56 c56 r56 := ⟨by kernel_rfl, Tryz.func56, rfl, by kernel_rfl, by kernel_rfl, by decide, enters_fn Tryz.func56 (by kernel_rfl) rfl⟩
end Go.Proofs.YtljjlhdkkbaehaaGreatDoor
namespace Go.Proofs.YtljjlhdkkbaehaaGreatDoor
open Go.RowKit Go.Lamb
attribute [local go_sem] advO_skip advO_reg advO_seq advO_block advO_exit advO_endb advO_opsNil advO_ops advG_yes advG_no advG_none advS_some advS_none advO_cond advO_loop advO_dreg advO_ret advO_bad advO_inv advO_nil advO_zero wantedV Lamb.step ev_t ev_k put_some put_none argEnv popTo cellsAt V.cellsV V.rows V.toC toCs fillV bytesC byteRows appV rowsV boundV boundL binV binInt binStr eqC eqL V.isNil leaves V.leaf Ins.quiet Ins.pure List.getD_cons_zero List.getD_cons_succ List.getD_nil List.all_cons List.all_nil List.length_cons List.length_nil List.take_succ_cons List.take_zero List.drop_succ_cons List.drop_zero List.cons_append List.nil_append List.append_nil List.append_assoc List.map_cons List.map_nil List.getElem?_cons_zero List.getElem?_cons_succ List.length_append List.length_set hget0 hget hset0 hset hsets hgs0 hgs hss0 hss List.set_cons_zero List.set_cons_succ List.forall_mem_cons List.not_mem_nil false_implies implies_true Option.map_some Bool.and_true Bool.true_and Bool.not_not Bool.not_true Bool.not_false Bool.and_self Bool.or_true Bool.true_or Bool.or_false Bool.false_or Bool.and_false Bool.false_and Bool.false_eq_true beq_self_eq_true and_self and_true true_and if_true if_false Nat.zero_add Nat.add_zero Nat.le_refl Int.toNat_natCast decide_true decide_false beq_t beq_f List.length_map List.getElem?_map I S B opsC toksC OpT.v OpT.cs OpT.zero Tok.v Tok.cs Pre.v Pre.cs_eq k_mk name_mk n_mk l_mk pos_mk Pre.app applyL natCast0 natCast1 natCast2 AOp.o AOp.m AOp.f AOp.l AOp.d AOp.n AOp.x AOp.s AOp.k AOp.y AOp.z EOp.q low_c low_void low_any low_csl low_nilf low_ptr low_osl low_agg low_tup low_fn resEval advPO_nil advPO_loud advPO_quiet pL_yes pL_no pLS_some pLS_none pQ_yes pQ_no pQS_some pQS_loud eq_self Nat.sub_zero

theorem ops_Find1 (w0 : World) (o : OpT) (name : List UInt8) (σ : H) (b : Nat) (hb : σ[b]? = some (.cells [S name])) : DC Tryz.prog w0 83 [o.v, .ptr b 0] σ (Same (B (o.name == name)) σ) := by
  have hlt := (List.getElem?_eq_some_iff.1 hb).1
  have hg := fun L => hgetb (σ := σ) L hlt
  refine k83.go rfl (fun hok hsz => ?_)
  ((try refine W.a ?_); simp only [go_sem, seval, reduceCtorEq, c83, OpT.v, hg, hb, S])
  (refine W.ret (Fin.same hok (by simp only [resEval, r83, go_sem, seval, reduceCtorEq]; rfl) ?_ (by first | exact .c _ | (simp only [go_sem, seval, reduceCtorEq]; done)) (by first | exact ⟨[], (List.append_nil _).symm⟩ | exact ⟨_, rfl⟩)); simp only [resV])
theorem IndexFunc_op (w0 : World) (l : List OpT) (f : FuncId) (caps : List V) (p : OpT → Bool) (σ : H) (hp : ∀ o ∈ l, DC Tryz.prog w0 f (o.v :: caps) σ (Same (B (p o)) σ)) : DC Tryz.prog w0 82 [.c (opsC l), .fn f caps] σ (Same (I (idxI p l)) σ) := by
  refine k82.go rfl (fun hok hsz => ?_)
  have hlen : l.length ≤ maxLen := by
    have := hsz _ (List.mem_cons_self ..)
    rw [opsC, sz_c, sz_sl] at this
    simpa using this.1
  unfold maxLen at hlen
  ((try refine W.a ?_); simp only [go_sem, seval, reduceCtorEq, c82, opsC])
  refine W.loopP (fun i => i ≤ l.length ∧ UpTo p l i) (fun i => ⟨((((base.put (some 0) (.c (.sl (l.map OpT.cs)))).put (some 1) (.fn f caps)).put (some 7) (I l.length)).put (some 8) (I i)), σ⟩) (fun i => l.length - i) 0 ⟨Nat.zero_le _, upTo_zero⟩ ?_ (fun i hi => ?_)
  · (refine Lew.env ?_; exact lee_here)
  · obtain ⟨hi, hinv⟩ := hi
    by_cases hlt : i < l.length
    · have h1 : ((i : Int) < (l.length : Int)) := by omega
      ((try refine W.a ?_); simp only [go_sem, seval, reduceCtorEq, I, h1])
      refine W.yes rfl ?_
      have hx : l[i]? = some l[i] := List.getElem?_eq_getElem hlt
      have h0 : (0 : Int) ≤ (i : Int) := by omega
      ((try refine W.a ?_); simp only [go_sem, seval, reduceCtorEq, I, h1, h0, hx, OpT.cs])
      (refine W.c1 (hp l[i] (List.getElem_mem hlt)) ?_; simp only [go_sem, seval, reduceCtorEq])
      refine W.test rfl (fun h => ?_) (fun h => ?_)
      · ((try refine W.a ?_); simp only [go_sem, seval, reduceCtorEq, I])
        (refine W.ret (Fin.same hok (by simp only [resEval, r82, go_sem, seval, reduceCtorEq]; rfl) ?_ (by first | exact .c _ | (simp only [go_sem, seval, reduceCtorEq]; done)) (by first | exact ⟨[], (List.append_nil _).symm⟩ | exact ⟨_, rfl⟩)); simp only [resV])
        rw [idxI_at hinv hlt h]
      · have hw : IntKind.i64.wrap (((i : Nat) : Int) + 1) = ((i + 1 : Nat) : Int) := by rw [wrap_in] <;> omega
        ((try refine W.a ?_); simp only [go_sem, seval, reduceCtorEq, I, hw])
        refine .inv ⟨i + 1, ⟨hlt, upTo_next hinv hlt h⟩, by omega, ?_⟩
        (refine Lew.env ?_; exact lee_here)
    · have h1 : ¬ ((i : Int) < (l.length : Int)) := by omega
      ((try refine W.a ?_); simp only [go_sem, seval, reduceCtorEq, I, h1])
      refine W.no rfl ?_
      ((try refine W.a ?_); simp only [go_sem, seval, reduceCtorEq, I])
      (refine W.ret (Fin.same hok (by simp only [resEval, r82, go_sem, seval, reduceCtorEq]; rfl) ?_ (by first | exact .c _ | (simp only [go_sem, seval, reduceCtorEq]; done)) (by first | exact ⟨[], (List.append_nil _).symm⟩ | exact ⟨_, rfl⟩)); simp only [resV])
      rw [idxI_none (fun j hj => hinv j hj (by omega))]
theorem ops_Find (w0 : World) (l : List OpT) (name : List UInt8) (σ : H) : DC Tryz.prog w0 40 [.c (opsC l), S name] σ (Same (foundV (findL l name)) σ) := by
  refine k40.go rfl (fun hok hsz => ?_)
  ((try refine W.a ?_); simp only [go_sem, seval, reduceCtorEq, c40, opsC])
  have hc := fun n (h : idxI (fun o : OpT => o.name == name) l = n) L => (h ▸ IndexFunc_op w0 l 83 [.ptr σ.length 0] (fun o => o.name == name) (σ ++ Blk.cells [S name] :: L) (fun o _ => ops_Find1 w0 o name _ _ (hget0 σ _)) : DC _ _ _ _ _ (Same (I n) (σ ++ Blk.cells [S name] :: L)))
  rcases idxI_cases (fun o => o.name == name) l with ⟨h, h'⟩ | ⟨i, hi, h, h'⟩
  · (refine W.c1 (hc _ h _) ?_; simp only [go_sem, seval, reduceCtorEq, show ((-1 : Int) < 0) = True from by decide])
    refine W.yes rfl ?_
    ((try refine W.a ?_); simp only [go_sem, seval, reduceCtorEq])
    (refine W.ret (Fin.same hok (by simp only [resEval, r40, go_sem, seval, reduceCtorEq]; rfl) ?_ (by first | exact .c _ | (simp only [go_sem, seval, reduceCtorEq, foundV, OpT.v]; done)) (by first | exact ⟨[], (List.append_nil _).symm⟩ | exact ⟨_, rfl⟩)); simp only [resV, foundV, OpT.v])
    simp only [findL, h']; rfl
  · have h1 : ¬ ((i : Int) < 0) := by omega
    have h2 : (i : Int) < (l.length : Int) := by omega
    have h0 : (0 : Int) ≤ (i : Int) := by omega
    have hx : l[i]? = some l[i] := List.getElem?_eq_getElem hi
    (refine W.c1 (hc _ h _) ?_; simp only [go_sem, seval, reduceCtorEq, h1])
    refine W.no rfl ?_
    ((try refine W.a ?_); simp only [go_sem, seval, reduceCtorEq, h0, h2, hx, OpT.cs])
    (refine W.ret (Fin.same hok (by simp only [resEval, r40, go_sem, seval, reduceCtorEq]; rfl) ?_ (by first | exact .c _ | (simp only [go_sem, seval, reduceCtorEq, foundV, OpT.v]; done)) (by first | exact ⟨[], (List.append_nil _).symm⟩ | exact ⟨_, rfl⟩)); simp only [resV, foundV, OpT.v])
    simp only [findL, h']; rfl
theorem ref02_Find (w0 : World) (l : List OpT) (name : List UInt8) (σ : H) : DC Tryz.prog w0 49 [.c (opsC l), S name] σ (Same (foundV (findL l name)) σ) := by
  refine k49.go rfl (fun hok hsz => ?_)
  have hlen := sz_rows (hsz _ (List.mem_cons_self ..))
  ((try refine W.a ?_); simp only [go_sem, seval, reduceCtorEq, c49, opsC])
  refine W.loopP (fun i => i ≤ l.length ∧ UpTo (fun o : OpT => o.name == name) l i) (fun i => ⟨(((((base.put (some 0) (.c (.sl (l.map OpT.cs)))).put (some 1) (S name)).put (some 4) (.ptr σ.length 0)).put (some 5) (B false)).put (some 6) (I i)), σ ++ [.cells OpT.zero.v.cellsV]⟩) (fun i => l.length - i) 0 ⟨Nat.zero_le _, upTo_zero⟩ ?_ (fun i hi => ?_)
  · (refine Lew.env ?_; exact lee_here)
  · obtain ⟨hi, hinv⟩ := hi
    by_cases hlt : i < l.length
    · have h1 : ((i : Int) < (l.length : Int)) := by omega
      have hx : l[i]? = some l[i] := List.getElem?_eq_getElem hlt
      ((try refine W.a ?_); simp only [go_sem, seval, reduceCtorEq, h1])
      refine W.yes rfl ?_
      ((try refine W.a ?_); simp only [go_sem, seval, reduceCtorEq, h1, nat0, hx, OpT.cs])
      refine W.test rfl (fun h => ?_) (fun h => ?_)
      · ((try refine W.a ?_); simp only [go_sem, seval, reduceCtorEq, nat0, h1, hx, OpT.cs])
        (refine W.ret (Fin.same hok (by simp only [resEval, r49, go_sem, seval, reduceCtorEq]; rfl) ?_ (by first | exact .c _ | (simp only [go_sem, seval, reduceCtorEq, foundV, OpT.v]; done)) (by first | exact ⟨[], (List.append_nil _).symm⟩ | exact ⟨_, rfl⟩)); simp only [resV, foundV, OpT.v])
        rw [findL, find_at hinv hlt h]; rfl
      · ((try refine W.a ?_); simp only [go_sem, seval, reduceCtorEq, wrap_next hlt hlen])
        refine .inv ⟨i + 1, ⟨hlt, upTo_next hinv hlt h⟩, by omega, ?_⟩
        (refine Lew.env ?_; exact lee_here)
    · have h1 : ¬ ((i : Int) < (l.length : Int)) := by omega
      ((try refine W.a ?_); simp only [go_sem, seval, reduceCtorEq, h1])
      refine W.no rfl ?_
      ((try refine W.a ?_); simp only [go_sem, seval, reduceCtorEq])
      (refine W.ret (Fin.same hok (by simp only [resEval, r49, go_sem, seval, reduceCtorEq]; rfl) ?_ (by first | exact .c _ | (simp only [go_sem, seval, reduceCtorEq, foundV, OpT.v]; done)) (by first | exact ⟨[], (List.append_nil _).symm⟩ | exact ⟨_, rfl⟩)); simp only [resV, foundV, OpT.v])
      rw [findL, find_no hinv (by omega)]; rfl
theorem opOf_yes {l : List OpT} {t : Tok} (h : t.kind = 1 ∨ t.kind = 4) : opOf l t = findL l t.text := by rw [opOf, if_pos h]
theorem opOf_no {l : List OpT} {t : Tok} (h : ¬ (t.kind = 1 ∨ t.kind = 4)) : opOf l t = none := by rw [opOf, if_neg h]
theorem ops_Is (w0 : World) (l : List OpT) (t : Tok) (σ : H) : DC Tryz.prog w0 106 [.c (opsC l), t.v] σ (Same (foundV (opOf l t)) σ) := by
  refine k106.go rfl (fun hok hsz => ?_)
  cases h1 : (t.kind == 1)
  · cases h2 : (t.kind == 4)
    · have hk : ¬ (t.kind = 1 ∨ t.kind = 4) := by
        simp only [beq_eq_false_iff_ne] at h1 h2
        rintro (h | h)
        · exact h1 h
        · exact h2 h
      ((try refine W.a ?_); simp only [go_sem, seval, reduceCtorEq, c106, h1])
      refine W.no rfl ?_
      ((try refine W.a ?_); simp only [go_sem, seval, reduceCtorEq, h2])
      refine W.no rfl ?_
      ((try refine W.a ?_); simp only [go_sem, seval, reduceCtorEq])
      (refine W.ret (Fin.same hok (by simp only [resEval, r106, go_sem, seval, reduceCtorEq]; rfl) ?_ (by first | exact .c _ | (simp only [go_sem, seval, reduceCtorEq, foundV, OpT.v]; done)) (by first | exact ⟨[], (List.append_nil _).symm⟩ | exact ⟨_, rfl⟩)); simp only [resV, foundV, OpT.v])
      rw [opOf_no hk]; rfl
    · have hk : t.kind = 1 ∨ t.kind = 4 := .inr (by simpa using h2)
      ((try refine W.a ?_); simp only [go_sem, seval, reduceCtorEq, c106, h1])
      refine W.no rfl ?_
      ((try refine W.a ?_); simp only [go_sem, seval, reduceCtorEq, h2])
      refine W.yes rfl ?_
      ((try refine W.a ?_); simp only [go_sem, seval, reduceCtorEq])
      (refine W.c1 (ops_Find w0 l t.text _) ?_; simp only [go_sem, seval, reduceCtorEq, foundV])
      (refine W.ret (Fin.same hok (by simp only [resEval, r106, go_sem, seval, reduceCtorEq]; rfl) ?_ (by first | exact .c _ | (simp only [go_sem, seval, reduceCtorEq, foundV, OpT.v]; done)) (by first | exact ⟨[], (List.append_nil _).symm⟩ | exact ⟨_, rfl⟩)); simp only [resV, foundV, OpT.v])
      rw [opOf_yes hk]
  · have hk : t.kind = 1 ∨ t.kind = 4 := .inl (by simpa using h1)
    ((try refine W.a ?_); simp only [go_sem, seval, reduceCtorEq, c106, h1])
    refine W.yes rfl ?_
    ((try refine W.a ?_); simp only [go_sem, seval, reduceCtorEq])
    refine W.yes rfl ?_
    ((try refine W.a ?_); simp only [go_sem, seval, reduceCtorEq])
    (refine W.c1 (ops_Find w0 l t.text _) ?_; simp only [go_sem, seval, reduceCtorEq, foundV])
    (refine W.ret (Fin.same hok (by simp only [resEval, r106, go_sem, seval, reduceCtorEq]; rfl) ?_ (by first | exact .c _ | (simp only [go_sem, seval, reduceCtorEq, foundV, OpT.v]; done)) (by first | exact ⟨[], (List.append_nil _).symm⟩ | exact ⟨_, rfl⟩)); simp only [resV, foundV, OpT.v])
    rw [opOf_yes hk]
theorem ops_beside (w0 : World) (a b : OpT) (fix : Int) (σ : H) : DC Tryz.prog w0 88 [a.v, b.v, I fix] σ (Same (B (besideL a b fix)) σ) := by
  refine k88.go rfl (fun hok hsz => ?_)
  cases h1 : decide (b.prec > a.prec) <;> cases h2 : (b.prec == a.prec) <;> cases h3 : (a.fix == fix) <;> cases h4 : (b.fix == fix)
  all_goals
    ((try refine W.a ?_); simp only [go_sem, seval, reduceCtorEq, c88, h1, h2, h3, h4])
    (refine W.ret (Fin.same hok (by simp only [resEval, r88, go_sem, seval, reduceCtorEq]; rfl) ?_ (by first | exact .c _ | (simp only [go_sem, seval, reduceCtorEq]; done)) (by first | exact ⟨[], (List.append_nil _).symm⟩ | exact ⟨_, rfl⟩)); simp only [resV])
    simp_all [besideL]
theorem ops_Left (w0 : World) (a b : OpT) (σ : H) : DC Tryz.prog w0 54 [a.v, b.v] σ (Same (B (besideL a b 1)) σ) := by
  refine k54.go rfl (fun hok hsz => ?_)
  ((try refine W.a ?_); simp only [go_sem, seval, reduceCtorEq, c54])
  (refine W.c1 (ops_beside w0 a b 1 _) ?_; simp only [go_sem, seval, reduceCtorEq])
  (refine W.ret (Fin.same hok (by simp only [resEval, r54, go_sem, seval, reduceCtorEq]; rfl) ?_ (by first | exact .c _ | (simp only [go_sem, seval, reduceCtorEq]; done)) (by first | exact ⟨[], (List.append_nil _).symm⟩ | exact ⟨_, rfl⟩)); simp only [resV])
theorem ops_Right (w0 : World) (a b : OpT) (σ : H) : DC Tryz.prog w0 56 [a.v, b.v] σ (Same (B (besideL a b 2)) σ) := by
  refine k56.go rfl (fun hok hsz => ?_)
  ((try refine W.a ?_); simp only [go_sem, seval, reduceCtorEq, c56])
  (refine W.c1 (ops_beside w0 a b 2 _) ?_; simp only [go_sem, seval, reduceCtorEq])
  (refine W.ret (Fin.same hok (by simp only [resEval, r56, go_sem, seval, reduceCtorEq]; rfl) ?_ (by first | exact .c _ | (simp only [go_sem, seval, reduceCtorEq]; done)) (by first | exact ⟨[], (List.append_nil _).symm⟩ | exact ⟨_, rfl⟩)); simp only [resV])
end Go.Proofs.YtljjlhdkkbaehaaGreatDoor
namespace Go.Proofs.YtljjlhdkkbaehaaGreatDoor
open Go.RowKit Go.Lamb
/-- (*read.reader).tok -/
def c78 : AC :=
  .seq (.reg [.o 4 (.box (.k (.agg [.c (.int .i64 0), .c (.str []), .c (.int .i64 0), .c (.int .i64 0)])))])
  (.seq (.seq (.reg [.m 6 0, .n 7 6, .f 8 2 7, .l 9 8, .m 10 1, .o 11 (.bin .add (.t 9) (.t 10)), .m 5 11])
  (.seq (.reg [.m 12 5, .o 13 (.bin .leq (.k (.c (.int .i64 0))) (.t 12)), .m 14 13, .y 15 (.mov (.t 5)) 14, .y 16 (.mov (.t 0)) 14, .y 17 (.nilck (.t 16)) 14, .y 18 (.fadd 1 (.t 17)) 14, .y 19 (.load1 (.t 18)) 14, .y 20 (.lenr (.t 19)) 14, .y 21 (.bin .lss (.t 15) (.t 20)) 14, .o 22 (.pick (.t 14) (.t 21) (.k (.c (.bool false))))])
  (.cond (.t 22)
  (.seq (.reg [.m 23 0, .n 24 23, .f 25 1 24, .l 26 25, .m 27 5, .o 28 (.iadd 4 (.t 26) (.t 27)), .d 29 4 28, .s 4 4 29])
  (.ret))
  (.skip))))
  (.seq (.seq (.reg [.m 30 0, .n 31 30, .f 32 1 31, .l 33 32, .o 34 (.lenr (.t 33)), .o 35 (.bin .gtr (.t 34) (.k (.c (.int .i64 0))))])
  (.cond (.t 35)
  (.seq (.dreg [.m 36 0, .n 37 36, .f 38 1 37, .l 39 38, .m 40 0, .n 41 40, .f 42 1 41, .l 43 42, .o 44 (.lenr (.t 43)), .o 45 (.bin .sub (.t 44) (.k (.c (.int .i64 1)))), .o 46 (.iadd 4 (.t 39) (.t 45)), .f 47 3 46, .l 48 47, .o 49 (.build [.c (.int .i64 0), .c (.str []), .c (.int .i64 0), .c (.int .i64 0)] [(3, 1, (.t 48))]), .s 4 4 49]
    [.q (.m 36 0), .q (.n 37 36), .q (.f 38 1 37), .q (.l 39 38), .q (.m 40 0), .q (.n 41 40), .q (.f 42 1 41), .q (.l 43 42), .q (.o 44 (.lenr (.t 43))), .q (.o 45 (.bin .sub (.t 44) (.k (.c (.int .i64 1))))), .q (.o 46 (.iadd 4 (.t 39) (.t 45))), .q (.f 47 3 46), .q (.l 48 47), .q (.o 49 (.build [.c (.int .i64 0), .c (.str []), .c (.int .i64 0), .c (.int .i64 0)] [(3, 1, (.t 48))])), ⟨.s 4 4 49, true, 0⟩])
  (.ret))
  (.skip)))
  (.seq (.reg [.o 50 (.build [.c (.int .i64 0), .c (.str []), .c (.int .i64 0), .c (.int .i64 0)] []), .s 4 4 50])
  (.ret))))
def r78 : List ResV := [.celln 4 4]
theorem k78 : CodeIs Tryz.prog 78 2 Tryz.f78 c78 r78 := ⟨by kernel_rfl, Tryz.func78, rfl, by kernel_rfl, by kernel_rfl, by decide, enters_fn Tryz.func78 (by kernel_rfl) rfl⟩
/-- (*read.reader).operator -/
def c79 : AC :=
  .seq (.reg [.o 3 (.box (.t 1)), .o 4 (.box (.k (.agg [.c (.str []), .c (.int .i64 0), .c (.int .i64 0)]))), .o 5 (.mov (.k (.c (.bool false))))])
  (.seq (.dreg [.m 6 0, .n 7 6, .f 8 0 7, .l 9 8, .d 10 4 3, .k 11 106 [(.t 9), (.t 10)], .x 12 11 0, .x 13 11 1, .s 3 4 12, .m 5 13]
    [.q (.m 6 0), .q (.n 7 6), .q (.f 8 0 7), .q (.l 9 8), .q (.d 10 4 3), ⟨.k 11 106 [(.t 9), (.t 10)], true, 0⟩, ⟨.x 12 11 0, false, 1⟩, ⟨.x 13 11 1, false, 1⟩, ⟨.s 3 4 12, true, 1⟩, ⟨.m 5 13, false, 2⟩])
  (.ret))
def r79 : List ResV := [.celln 3 4, .tmp 5]
theorem k79 : CodeIs Tryz.prog 79 2 Tryz.f79 c79 r79 := ⟨by kernel_rfl, Tryz.func79, rfl, by kernel_rfl, by kernel_rfl, by decide, enters_fn Tryz.func79 (by kernel_rfl) rfl⟩
/-- (*read.reader).begins -/
def c105 : AC :=
  .seq (.reg [.o 2 (.mov (.k (.c (.bool false))))])
  (.seq (.seq (.reg [.m 6 0, .k 7 78 [(.t 6), (.k (.c (.int .i64 0)))], .o 3 (.box (.k (.agg [.c (.int .i64 0), .c (.str []), .c (.int .i64 0), .c (.int .i64 0)]))), .s 4 3 7])
  (.seq (.reg [.f 8 0 3, .l 9 8])
  (.block 0 (.seq (.seq (.reg [.o 11 (.bin .eql (.t 9) (.k (.c (.int .i64 1)))), .m 10 11])
  (.cond (.t 10)
  (.skip)
  (.reg [.o 12 (.bin .eql (.t 9) (.k (.c (.int .i64 4)))), .m 10 12])))
  (.cond (.t 10)
  (.seq (.reg [.m 14 0, .d 15 4 3, .k 16 79 [(.t 14), (.t 15)], .m 13 16, .x 17 13 0, .x 18 13 1, .o 4 (.box (.k (.agg [.c (.str []), .c (.int .i64 0), .c (.int .i64 0)]))), .s 3 4 17, .m 5 18])
  (.seq (.reg [.m 19 5, .o 20 (.un .not (.t 19)), .m 2 20])
  (.ret)))
  (.seq (.seq (.reg [.o 22 (.bin .eql (.t 9) (.k (.c (.int .i64 2)))), .m 21 22])
  (.cond (.t 21)
  (.skip)
  (.seq (.reg [.o 23 (.bin .eql (.t 9) (.k (.c (.int .i64 3)))), .m 21 23])
  (.cond (.t 21)
  (.skip)
  (.reg [.o 24 (.bin .eql (.t 9) (.k (.c (.int .i64 5)))), .m 21 24])))))
  (.cond (.t 21)
  (.seq (.reg [.o 2 (.mov (.k (.c (.bool true))))])
  (.ret))
  (.skip))))))))
  (.seq (.reg [.o 2 (.mov (.k (.c (.bool false))))])
  (.ret)))
def r105 : List ResV := [.tmp 2]
theorem k105 : CodeIs Tryz.prog 105 1 Tryz.f105 c105 r105 := ⟨by kernel_rfl, Tryz.func105, rfl, by kernel_rfl, by kernel_rfl, by decide, enters_fn Tryz.func105 (by kernel_rfl) rfl⟩
/-- (*read.reader).lambda -/
def c103 : AC :=
  .seq (.reg [.o 2 (.mov (.k (.c (.bool false))))])
  (.seq (.reg [.m 4 0, .k 5 78 [(.t 4), (.k (.c (.int .i64 0)))], .o 6 (.field1 0 (.t 5)), .m 3 6])
  (.seq (.reg [.m 7 3, .o 8 (.bin .eql (.t 7) (.k (.c (.int .i64 1)))), .m 9 8, .z 10 (.mov (.t 3)) 9, .z 11 (.bin .eql (.t 10) (.k (.c (.int .i64 2)))) 9, .o 12 (.pick (.t 9) (.k (.c (.bool true))) (.t 11)), .m 13 12, .y 14 (.mov (.t 0)) 13, .y 15 (.call (.k (.fn 78 [])) [(.t 14), (.k (.c (.int .i64 1)))]) 13, .y 16 (.field1 0 (.t 15)) 13, .y 17 (.bin .eql (.t 16) (.k (.c (.int .i64 8)))) 13, .o 18 (.pick (.t 13) (.t 17) (.k (.c (.bool false)))), .m 2 18])
  (.ret)))
def r103 : List ResV := [.tmp 2]
theorem k103 : CodeIs Tryz.prog 103 1 Tryz.f103 c103 r103 := ⟨by kernel_rfl, Tryz.func103, rfl, by kernel_rfl, by kernel_rfl, by decide, enters_fn Tryz.func103 (by kernel_rfl) rfl⟩
/-- (read.wrong).ok -/
def c38 : AC :=
  .seq (.reg [.o 1 (.box (.t 0)), .o 2 (.mov (.k (.c (.bool false))))])
  (.seq (.reg [.f 3 0 1, .l 4 3, .o 5 (.bin .eql (.t 4) (.k (.c (.int .i64 0)))), .m 2 5])
  (.ret))
def r38 : List ResV := [.tmp 2]
theorem k38 : CodeIs Tryz.prog 38 1 Tryz.f38 c38 r38 := ⟨by kernel_rfl, Tryz.func38, rfl, by kernel_rfl, by kernel_rfl, by decide, enters_fn Tryz.func38 (by kernel_rfl) rfl⟩
/-- read.apply -/
def c81 : AC :=
  .seq (.reg [.o 4 (.box (.t 0)), .o 6 (.box (.t 2)), .o 7 (.box (.t 3)), .o 8 (.box (.k (.agg [.c (.int .i64 0), .c (.str []), .c (.int .i64 0), .csl [], .c (.int .i64 0)])))])
  (.seq (.reg [.f 12 0 4, .l 13 12, .m 14 1, .o 15 (.build [.c (.int .i64 0), .c (.str []), .c (.int .i64 0), .csl [], .c (.int .i64 0)] [(0, 1, (.k (.c (.int .i64 0)))), (1, 1, (.t 13)), (4, 1, (.t 14))]), .o 9 (.box (.k (.agg [.c (.int .i64 0), .c (.str []), .c (.int .i64 0), .csl [], .c (.int .i64 0)]))), .s 5 9 15])
  (.seq (.seq (.reg [.d 16 5 6, .d 17 5 7, .o 18 (.bsl 5 [(.t 16), (.t 17)]), .o 19 (.lenr (.t 18)), .o 20 (.mov (.k (.c (.int .i64 0))))])
  (.block 0 (.loop (.seq (.reg [.o 21 (.bin .lss (.t 20) (.t 19))])
  (.seq (.cond (.t 21)
  (.skip)
  (.exit 0))
  (.seq (.block 1 (.seq (.reg [.o 22 (.iadd 5 (.t 18) (.t 20)), .d 23 5 22, .o 11 (.box (.k (.agg [.c (.int .i64 0), .c (.str []), .c (.int .i64 0), .csl [], .c (.int .i64 0)]))), .s 5 11 23])
  (.reg [.d 24 5 9, .d 25 5 11, .o 26 (.bsl 5 [(.t 24), (.t 25)]), .m 27 1, .o 28 (.build [.c (.int .i64 0), .c (.str []), .c (.int .i64 0), .csl [], .c (.int .i64 0)] [(0, 1, (.k (.c (.int .i64 3)))), (3, 1, (.t 26)), (4, 1, (.t 27))]), .s 5 9 28])))
  (.reg [.o 29 (.bin .add (.t 20) (.k (.c (.int .i64 1)))), .m 20 29])))))))
  (.seq (.reg [.d 30 5 9, .s 5 8 30])
  (.ret))))
def r81 : List ResV := [.celln 5 8]
theorem k81 : CodeIs Tryz.prog 81 4 Tryz.f81 c81 r81 := ⟨by kernel_rfl, Tryz.func81, rfl, by kernel_rfl, by kernel_rfl, by decide, enters_fn Tryz.func81 (by kernel_rfl) rfl⟩
/-- (*read.reader).inner -/
def c80 : AC :=
  .seq (.reg [.o 7 (.box (.t 3)), .o 8 (.box (.k (.agg [.c (.int .i64 0), .c (.str []), .c (.int .i64 0), .csl [], .c (.int .i64 0), .c (.nilp), .c (.int .i64 0), .c (.str []), .c (.int .i64 0), .c (.int .i64 0)]))), .o 9 (.box (.k (.agg [.c (.int .i64 0), .c (.int .i64 0)])))])
  (.seq (.seq (.reg [.m 10 2, .o 11 (.bin .geq (.t 10) (.k (.c (.int .i64 200))))])
  (.cond (.t 11)
  (.seq (.dreg [.o 12 (.build [.c (.int .i64 0), .c (.str []), .c (.int .i64 0), .csl [], .c (.int .i64 0), .c (.nilp), .c (.int .i64 0), .c (.str []), .c (.int .i64 0), .c (.int .i64 0)] []), .f 13 3 7, .l 14 13, .o 15 (.build [.c (.int .i64 0), .c (.int .i64 0)] [(0, 1, (.k (.c (.int .i64 31)))), (1, 1, (.t 14))]), .s 10 8 12, .s 2 9 15]
    [.q (.o 12 (.build [.c (.int .i64 0), .c (.str []), .c (.int .i64 0), .csl [], .c (.int .i64 0), .c (.nilp), .c (.int .i64 0), .c (.str []), .c (.int .i64 0), .c (.int .i64 0)] [])), ⟨.s 10 8 12, true, 0⟩, .q (.f 13 3 7), .q (.l 14 13), .q (.o 15 (.build [.c (.int .i64 0), .c (.int .i64 0)] [(0, 1, (.k (.c (.int .i64 31)))), (1, 1, (.t 14))])), ⟨.s 2 9 15, true, 1⟩])
  (.ret))
  (.skip)))
  (.seq (.reg [.m 16 0, .m 17 1, .m 18 2, .o 19 (.bin .add (.t 18) (.k (.c (.int .i64 1)))), .k 20 37 [(.t 16), (.t 17), (.t 19)], .x 21 20 0, .x 22 20 1, .s 10 8 21, .s 2 9 22])
  (.ret)))
def r80 : List ResV := [.celln 10 8, .celln 2 9]
theorem k80 : CodeIs Tryz.prog 80 4 Tryz.f80 c80 r80 := ⟨by kernel_rfl, Tryz.func80, rfl, by kernel_rfl, by kernel_rfl, by decide, enters_fn Tryz.func80 (by kernel_rfl) rfl⟩
/-- (*read.reader).brackets -/
def c120 : AC :=
  .seq (.reg [.o 4 (.box (.k (.agg [.c (.int .i64 0), .c (.str []), .c (.int .i64 0), .csl [], .c (.int .i64 0)]))), .o 5 (.box (.k (.agg [.c (.int .i64 0), .c (.int .i64 0)])))])
  (.seq (.reg [.m 13 0, .k 14 78 [(.t 13), (.k (.c (.int .i64 0)))], .m 15 0, .k 16 78 [(.t 15), (.k (.c (.int .i64 1)))], .o 6 (.box (.k (.agg [.c (.int .i64 0), .c (.str []), .c (.int .i64 0), .c (.int .i64 0)]))), .o 7 (.box (.k (.agg [.c (.int .i64 0), .c (.str []), .c (.int .i64 0), .c (.int .i64 0)]))), .s 4 6 14, .s 4 7 16])
  (.seq (.seq (.reg [.m 18 0, .d 19 4 7, .k 20 79 [(.t 18), (.t 19)], .m 17 20, .x 21 17 0, .x 22 17 1, .o 8 (.box (.k (.agg [.c (.str []), .c (.int .i64 0), .c (.int .i64 0)]))), .s 3 8 21, .m 9 22])
  (.seq (.reg [.m 23 9, .m 24 23, .y 25 (.mov (.t 0)) 24, .y 26 (.call (.k (.fn 78 [])) [(.t 25), (.k (.c (.int .i64 2)))]) 24, .y 27 (.field1 0 (.t 26)) 24, .y 28 (.bin .eql (.t 27) (.k (.c (.int .i64 6)))) 24, .o 29 (.pick (.t 24) (.t 28) (.k (.c (.bool false))))])
  (.cond (.t 29)
  (.seq (.reg [.m 30 0, .n 31 30, .f 32 2 31, .l 33 32, .o 34 (.bin .add (.t 33) (.k (.c (.int .i64 3)))), .n 35 30, .f 36 2 35, .s 1 36 34])
  (.seq (.reg [.f 37 1 7, .l 38 37, .f 39 3 7, .l 40 39, .o 41 (.build [.c (.int .i64 0), .c (.str []), .c (.int .i64 0), .csl [], .c (.int .i64 0)] [(0, 1, (.k (.c (.int .i64 0)))), (1, 1, (.t 38)), (4, 1, (.t 40))]), .o 42 (.build [.c (.int .i64 0), .c (.int .i64 0)] []), .s 5 4 41, .s 2 5 42])
  (.ret)))
  (.skip))))
  (.seq (.reg [.m 43 0, .n 44 43, .f 45 2 44, .l 46 45, .o 47 (.bin .add (.t 46) (.k (.c (.int .i64 1)))), .n 48 43, .f 49 2 48, .s 1 49 47])
  (.seq (.reg [.m 51 0, .m 52 1, .d 53 4 6, .k 54 80 [(.t 51), (.k (.c (.int .i64 0))), (.t 52), (.t 53)], .m 50 54, .x 55 50 0, .x 56 50 1, .o 10 (.box (.k (.agg [.c (.int .i64 0), .c (.str []), .c (.int .i64 0), .csl [], .c (.int .i64 0), .c (.nilp), .c (.int .i64 0), .c (.str []), .c (.int .i64 0), .c (.int .i64 0)]))), .o 11 (.box (.k (.agg [.c (.int .i64 0), .c (.int .i64 0)]))), .s 10 10 55, .s 2 11 56])
  (.seq (.seq (.reg [.d 57 2 11, .k 58 38 [(.t 57)], .o 59 (.un .not (.t 58))])
  (.cond (.t 59)
  (.seq (.dreg [.o 60 (.build [.c (.int .i64 0), .c (.str []), .c (.int .i64 0), .csl [], .c (.int .i64 0)] []), .d 61 2 11, .s 5 4 60, .s 2 5 61]
    [.q (.o 60 (.build [.c (.int .i64 0), .c (.str []), .c (.int .i64 0), .csl [], .c (.int .i64 0)] [])), ⟨.s 5 4 60, true, 0⟩, .q (.d 61 2 11), ⟨.s 2 5 61, true, 1⟩])
  (.ret))
  (.skip)))
  (.seq (.seq (.reg [.m 62 0, .k 63 78 [(.t 62), (.k (.c (.int .i64 0)))], .o 12 (.box (.k (.agg [.c (.int .i64 0), .c (.str []), .c (.int .i64 0), .c (.int .i64 0)]))), .s 4 12 63])
  (.seq (.reg [.f 64 0 12, .l 65 64, .o 66 (.bin .neq (.t 65) (.k (.c (.int .i64 6))))])
  (.cond (.t 66)
  (.seq (.dreg [.o 67 (.build [.c (.int .i64 0), .c (.str []), .c (.int .i64 0), .csl [], .c (.int .i64 0)] []), .f 68 3 12, .l 69 68, .o 70 (.build [.c (.int .i64 0), .c (.int .i64 0)] [(0, 1, (.k (.c (.int .i64 30)))), (1, 1, (.t 69))]), .s 5 4 67, .s 2 5 70]
    [.q (.o 67 (.build [.c (.int .i64 0), .c (.str []), .c (.int .i64 0), .csl [], .c (.int .i64 0)] [])), ⟨.s 5 4 67, true, 0⟩, .q (.f 68 3 12), .q (.l 69 68), .q (.o 70 (.build [.c (.int .i64 0), .c (.int .i64 0)] [(0, 1, (.k (.c (.int .i64 30)))), (1, 1, (.t 69))])), ⟨.s 2 5 70, true, 1⟩])
  (.ret))
  (.skip))))
  (.seq (.reg [.m 71 0, .n 72 71, .f 73 2 72, .l 74 73, .o 75 (.bin .add (.t 74) (.k (.c (.int .i64 1)))), .n 76 71, .f 77 2 76, .s 1 77 75])
  (.seq (.reg [.f 78 0 10, .d 79 5 78, .o 80 (.build [.c (.int .i64 0), .c (.int .i64 0)] []), .s 5 4 79, .s 2 5 80])
  (.ret)))))))))
def r120 : List ResV := [.celln 5 4, .celln 2 5]
theorem k120 : CodeIs Tryz.prog 120 2 Tryz.f120 c120 r120 := ⟨by kernel_rfl, Tryz.func120, rfl, by kernel_rfl, by kernel_rfl, by decide, enters_fn Tryz.func120 (by kernel_rfl) rfl⟩
/-- (*read.reader).atom -/
def c104 : AC :=
  .seq (.reg [.o 4 (.box (.k (.agg [.c (.int .i64 0), .c (.str []), .c (.int .i64 0), .csl [], .c (.int .i64 0)]))), .o 5 (.box (.k (.agg [.c (.int .i64 0), .c (.int .i64 0)])))])
  (.seq (.reg [.m 10 0, .k 11 78 [(.t 10), (.k (.c (.int .i64 0)))], .o 6 (.box (.k (.agg [.c (.int .i64 0), .c (.str []), .c (.int .i64 0), .c (.int .i64 0)]))), .s 4 6 11])
  (.seq (.reg [.f 12 1 6, .l 13 12, .f 14 3 6, .l 15 14, .o 16 (.build [.c (.int .i64 0), .c (.str []), .c (.int .i64 0), .csl [], .c (.int .i64 0)] [(0, 1, (.k (.c (.int .i64 0)))), (1, 1, (.t 13)), (4, 1, (.t 15))]), .o 7 (.box (.k (.agg [.c (.int .i64 0), .c (.str []), .c (.int .i64 0), .csl [], .c (.int .i64 0)]))), .s 5 7 16])
  (.seq (.block 0 (.seq (.reg [.m 18 0, .k 19 105 [(.t 18)], .o 20 (.un .not (.t 19)), .m 17 20])
  (.cond (.t 17)
  (.seq (.dreg [.o 21 (.build [.c (.int .i64 0), .c (.str []), .c (.int .i64 0), .csl [], .c (.int .i64 0)] []), .f 22 3 6, .l 23 22, .o 24 (.build [.c (.int .i64 0), .c (.int .i64 0)] [(0, 1, (.k (.c (.int .i64 30)))), (1, 1, (.t 23))]), .s 5 4 21, .s 2 5 24]
    [.q (.o 21 (.build [.c (.int .i64 0), .c (.str []), .c (.int .i64 0), .csl [], .c (.int .i64 0)] [])), ⟨.s 5 4 21, true, 0⟩, .q (.f 22 3 6), .q (.l 23 22), .q (.o 24 (.build [.c (.int .i64 0), .c (.int .i64 0)] [(0, 1, (.k (.c (.int .i64 30)))), (1, 1, (.t 23))])), ⟨.s 2 5 24, true, 1⟩])
  (.ret))
  (.seq (.reg [.f 26 0 6, .l 27 26, .o 28 (.bin .eql (.t 27) (.k (.c (.int .i64 5)))), .m 25 28])
  (.cond (.t 25)
  (.seq (.reg [.m 29 0, .m 30 1, .k 31 120 [(.t 29), (.t 30)], .x 32 31 0, .x 33 31 1, .s 5 4 32, .s 2 5 33])
  (.ret))
  (.seq (.reg [.f 35 0 6, .l 36 35, .o 37 (.bin .eql (.t 36) (.k (.c (.int .i64 3)))), .m 34 37])
  (.cond (.t 34)
  (.reg [.f 38 2 6, .l 39 38, .f 40 3 6, .l 41 40, .o 42 (.build [.c (.int .i64 0), .c (.str []), .c (.int .i64 0), .csl [], .c (.int .i64 0)] [(0, 1, (.k (.c (.int .i64 2)))), (2, 1, (.t 39)), (4, 1, (.t 41))]), .s 5 7 42])
  (.seq (.reg [.f 44 0 6, .l 45 44, .o 46 (.bin .neq (.t 45) (.k (.c (.int .i64 4)))), .m 47 46, .y 48 (.mov (.t 0)) 47, .y 49 (.call (.k (.fn 78 [])) [(.t 48), (.k (.c (.int .i64 1)))]) 47, .y 50 (.field1 0 (.t 49)) 47, .y 51 (.bin .eql (.t 50) (.k (.c (.int .i64 8)))) 47, .o 52 (.pick (.t 47) (.t 51) (.k (.c (.bool false)))), .m 43 52])
  (.cond (.t 43)
  (.seq (.reg [.m 53 0, .n 54 53, .f 55 2 54, .l 56 55, .o 57 (.bin .add (.t 56) (.k (.c (.int .i64 2)))), .n 58 53, .f 59 2 58, .s 1 59 57])
  (.seq (.reg [.m 61 0, .m 62 1, .d 63 4 6, .k 64 80 [(.t 61), (.k (.c (.int .i64 0))), (.t 62), (.t 63)], .m 60 64, .x 65 60 0, .x 66 60 1, .o 8 (.box (.k (.agg [.c (.int .i64 0), .c (.str []), .c (.int .i64 0), .csl [], .c (.int .i64 0), .c (.nilp), .c (.int .i64 0), .c (.str []), .c (.int .i64 0), .c (.int .i64 0)]))), .o 9 (.box (.k (.agg [.c (.int .i64 0), .c (.int .i64 0)]))), .s 10 8 65, .s 2 9 66])
  (.seq (.dreg [.f 67 1 6, .l 68 67, .f 69 0 8, .d 70 5 69, .o 71 (.bsl 5 [(.t 70)]), .f 72 3 6, .l 73 72, .o 74 (.build [.c (.int .i64 0), .c (.str []), .c (.int .i64 0), .csl [], .c (.int .i64 0)] [(0, 1, (.k (.c (.int .i64 4)))), (1, 1, (.t 68)), (3, 1, (.t 71)), (4, 1, (.t 73))]), .d 75 2 9, .s 5 4 74, .s 2 5 75]
    [.q (.f 67 1 6), .q (.l 68 67), .q (.f 69 0 8), .q (.d 70 5 69), .q (.o 71 (.bsl 5 [(.t 70)])), .q (.f 72 3 6), .q (.l 73 72), .q (.o 74 (.build [.c (.int .i64 0), .c (.str []), .c (.int .i64 0), .csl [], .c (.int .i64 0)] [(0, 1, (.k (.c (.int .i64 4)))), (1, 1, (.t 68)), (3, 1, (.t 71)), (4, 1, (.t 73))])), ⟨.s 5 4 74, true, 0⟩, .q (.d 75 2 9), ⟨.s 2 5 75, true, 1⟩])
  (.ret))))
  (.seq (.reg [.f 77 0 6, .l 78 77, .o 79 (.bin .eql (.t 78) (.k (.c (.int .i64 2)))), .m 76 79])
  (.cond (.t 76)
  (.reg [.f 80 0 7, ⟨none, .store 1 (.t 80) (.k (.c (.int .i64 1))), none⟩])
  (.skip))))))))))))
  (.seq (.reg [.m 81 0, .n 82 81, .f 83 2 82, .l 84 83, .o 85 (.bin .add (.t 84) (.k (.c (.int .i64 1)))), .n 86 81, .f 87 2 86, .s 1 87 85])
  (.seq (.reg [.d 88 5 7, .o 89 (.build [.c (.int .i64 0), .c (.int .i64 0)] []), .s 5 4 88, .s 2 5 89])
  (.ret))))))
def r104 : List ResV := [.celln 5 4, .celln 2 5]
theorem k104 : CodeIs Tryz.prog 104 2 Tryz.f104 c104 r104 := ⟨by kernel_rfl, Tryz.func104, rfl, by kernel_rfl, by kernel_rfl, by decide, enters_fn Tryz.func104 (by kernel_rfl) rfl⟩
/-- (*read.reader).operand -/
def c77 : AC :=
  .seq (.reg [.o 4 (.box (.k (.agg [.c (.int .i64 0), .c (.str []), .c (.int .i64 0), .csl [], .c (.int .i64 0)]))), .o 5 (.box (.k (.agg [.c (.int .i64 0), .c (.int .i64 0)])))])
  (.seq (.reg [.m 11 0, .k 12 103 [(.t 11)], .m 6 12])
  (.seq (.reg [.m 14 0, .m 15 1, .k 16 104 [(.t 14), (.t 15)], .m 13 16, .x 17 13 0, .x 18 13 1, .o 7 (.box (.k (.agg [.c (.int .i64 0), .c (.str []), .c (.int .i64 0), .csl [], .c (.int .i64 0)]))), .o 8 (.box (.k (.agg [.c (.int .i64 0), .c (.int .i64 0)]))), .s 5 7 17, .s 2 8 18])
  (.seq (.reg [.f 19 4 7, .l 20 19, .m 9 20])
  (.seq (.block 0 (.loop (.seq (.seq (.reg [.d 21 2 8, .k 22 38 [(.t 21)], .m 23 22, .y 24 (.mov (.t 6)) 23, .y 25 (.un .not (.t 24)) 23, .o 26 (.pick (.t 23) (.t 25) (.k (.c (.bool false)))), .m 27 26, .y 28 (.mov (.t 0)) 27, .y 29 (.call (.k (.fn 105 [])) [(.t 28)]) 27, .o 30 (.pick (.t 27) (.t 29) (.k (.c (.bool false))))])
  (.cond (.t 30)
  (.skip)
  (.exit 0)))
  (.block 1 (.seq (.reg [.m 31 0, .k 32 103 [(.t 31)], .m 6 32])
  (.seq (.reg [.o 10 (.box (.k (.agg [.c (.int .i64 0), .c (.str []), .c (.int .i64 0), .csl [], .c (.int .i64 0)])))])
  (.seq (.reg [.m 34 0, .m 35 1, .k 36 104 [(.t 34), (.t 35)], .m 33 36, .x 37 33 0, .x 38 33 1, .s 5 10 37, .s 2 8 38])
  (.reg [.d 39 5 7, .d 40 5 10, .o 41 (.bsl 5 [(.t 39), (.t 40)]), .m 42 9, .o 43 (.build [.c (.int .i64 0), .c (.str []), .c (.int .i64 0), .csl [], .c (.int .i64 0)] [(0, 1, (.k (.c (.int .i64 3)))), (3, 1, (.t 41)), (4, 1, (.t 42))]), .s 5 7 43]))))))))
  (.seq (.dreg [.d 44 5 7, .d 45 2 8, .s 5 4 44, .s 2 5 45]
    [.q (.d 44 5 7), ⟨.s 5 4 44, true, 0⟩, .q (.d 45 2 8), ⟨.s 2 5 45, true, 1⟩])
  (.ret))))))
def r77 : List ResV := [.celln 5 4, .celln 2 5]
theorem k77 : CodeIs Tryz.prog 77 2 Tryz.f77 c77 r77 := ⟨by kernel_rfl, Tryz.func77, rfl, by kernel_rfl, by kernel_rfl, by decide, enters_fn Tryz.func77 (by kernel_rfl) rfl⟩
/-- (*read.reader).expr -/
def c37 : AC :=
  .seq (.reg [.o 6 (.box (.k (.agg [.c (.int .i64 0), .c (.str []), .c (.int .i64 0), .csl [], .c (.int .i64 0), .c (.nilp), .c (.int .i64 0), .c (.str []), .c (.int .i64 0), .c (.int .i64 0)]))), .o 7 (.box (.k (.agg [.c (.int .i64 0), .c (.int .i64 0)])))])
  (.seq (.reg [.m 17 0, .m 18 2, .k 19 77 [(.t 17), (.t 18)], .m 16 19, .x 20 16 0, .x 21 16 1, .o 8 (.box (.k (.agg [.c (.int .i64 0), .c (.str []), .c (.int .i64 0), .csl [], .c (.int .i64 0)]))), .o 9 (.box (.k (.agg [.c (.int .i64 0), .c (.int .i64 0)]))), .s 5 8 20, .s 2 9 21])
  (.seq (.reg [.d 22 5 8, .o 23 (.build [.c (.int .i64 0), .c (.str []), .c (.int .i64 0), .csl [], .c (.int .i64 0), .c (.nilp), .c (.int .i64 0), .c (.str []), .c (.int .i64 0), .c (.int .i64 0)] [(0, 5, (.t 22))]), .o 10 (.box (.k (.agg [.c (.int .i64 0), .c (.str []), .c (.int .i64 0), .csl [], .c (.int .i64 0), .c (.nilp), .c (.int .i64 0), .c (.str []), .c (.int .i64 0), .c (.int .i64 0)]))), .s 10 10 23])
  (.seq (.skip)
  (.seq (.block 0 (.loop (.seq (.seq (.reg [.d 24 2 9, .k 25 38 [(.t 24)]])
  (.cond (.t 25)
  (.skip)
  (.exit 0)))
  (.block 1 (.seq (.reg [.m 26 0, .k 27 78 [(.t 26), (.k (.c (.int .i64 0)))], .o 11 (.box (.k (.agg [.c (.int .i64 0), .c (.str []), .c (.int .i64 0), .c (.int .i64 0)]))), .s 4 11 27])
  (.seq (.reg [.m 29 0, .d 30 4 11, .k 31 79 [(.t 29), (.t 30)], .m 28 31, .x 32 28 0, .x 33 28 1, .o 12 (.box (.k (.agg [.c (.str []), .c (.int .i64 0), .c (.int .i64 0)]))), .s 3 12 32, .m 13 33])
  (.seq (.block 2 (.seq (.reg [.m 35 13, .o 36 (.un .not (.t 35)), .m 37 36, .z 38 (.fadd 1 (.t 12)) 37, .z 39 (.load1 (.t 38)) 37, .z 40 (.mov (.t 1)) 37, .z 41 (.bin .lss (.t 39) (.t 40)) 37, .o 42 (.pick (.t 37) (.k (.c (.bool true))) (.t 41)), .m 34 42])
  (.cond (.t 34)
  (.exit 0)
  (.seq (.dreg [.f 44 5 10, .l 45 44, .o 46 (.eqn true 0 (.t 45)), .m 47 46, .y 48 (.loadn 3 (.t 12)) 47, .y 49 (.fadd 5 (.t 10)) 47, .y 50 (.load1 (.t 49)) 47, .y 51 (.nilck (.t 50)) 47, .y 52 (.loadn 3 (.t 51)) 47, .y 53 (.call (.k (.fn 54 [])) [(.t 48), (.t 52)]) 47, .y 54 (.un .not (.t 53)) 47, .o 55 (.pick (.t 47) (.t 54) (.k (.c (.bool false)))), .m 43 55]
    [.q (.f 44 5 10), .q (.l 45 44), .q (.o 46 (.eqn true 0 (.t 45))), .q (.m 47 46), .q (.y 48 (.loadn 3 (.t 12)) 47), .q (.y 49 (.fadd 5 (.t 10)) 47), .q (.y 50 (.load1 (.t 49)) 47), .q (.y 51 (.nilck (.t 50)) 47), .q (.y 52 (.loadn 3 (.t 51)) 47), ⟨.y 53 (.call (.k (.fn 54 [])) [(.t 48), (.t 52)]) 47, true, 0⟩, ⟨.y 54 (.un .not (.t 53)) 47, false, 1⟩, ⟨.o 55 (.pick (.t 47) (.t 54) (.k (.c (.bool false)))), false, 1⟩, ⟨.m 43 55, false, 1⟩])
  (.cond (.t 43)
  (.seq (.dreg [.o 56 (.build [.c (.int .i64 0), .c (.str []), .c (.int .i64 0), .csl [], .c (.int .i64 0), .c (.nilp), .c (.int .i64 0), .c (.str []), .c (.int .i64 0), .c (.int .i64 0)] []), .f 57 3 11, .l 58 57, .o 59 (.build [.c (.int .i64 0), .c (.int .i64 0)] [(0, 1, (.k (.c (.int .i64 32)))), (1, 1, (.t 58))]), .s 10 6 56, .s 2 7 59]
    [.q (.o 56 (.build [.c (.int .i64 0), .c (.str []), .c (.int .i64 0), .csl [], .c (.int .i64 0), .c (.nilp), .c (.int .i64 0), .c (.str []), .c (.int .i64 0), .c (.int .i64 0)] [])), ⟨.s 10 6 56, true, 0⟩, .q (.f 57 3 11), .q (.l 58 57), .q (.o 59 (.build [.c (.int .i64 0), .c (.int .i64 0)] [(0, 1, (.k (.c (.int .i64 32)))), (1, 1, (.t 58))])), ⟨.s 2 7 59, true, 1⟩])
  (.ret))
  (.skip))))))
  (.seq (.reg [.m 60 0, .n 61 60, .f 62 2 61, .l 63 62, .o 64 (.bin .add (.t 63) (.k (.c (.int .i64 1)))), .n 65 60, .f 66 2 65, .s 1 66 64])
  (.seq (.reg [.f 67 1 12, .l 68 67, .o 69 (.bin .add (.t 68) (.k (.c (.int .i64 1)))), .m 14 69])
  (.seq (.seq (.reg [.f 70 2 12, .l 71 70, .o 72 (.bin .eql (.t 71) (.k (.c (.int .i64 2))))])
  (.cond (.t 72)
  (.reg [.f 73 1 12, .l 74 73, .m 14 74])
  (.skip)))
  (.seq (.reg [.o 15 (.box (.k (.agg [.c (.int .i64 0), .c (.str []), .c (.int .i64 0), .csl [], .c (.int .i64 0), .c (.nilp), .c (.int .i64 0), .c (.str []), .c (.int .i64 0), .c (.int .i64 0)])))])
  (.seq (.reg [.m 76 0, .m 77 14, .m 78 2, .d 79 4 11, .k 80 80 [(.t 76), (.t 77), (.t 78), (.t 79)], .m 75 80, .x 81 75 0, .x 82 75 1, .s 10 15 81, .s 2 9 82])
  (.seq (.seq (.dreg [.d 83 2 9, .k 84 38 [(.t 83)], .m 85 84, .y 86 (.fadd 5 (.t 15)) 85, .y 87 (.load1 (.t 86)) 85, .y 88 (.eqn true 0 (.t 87)) 85, .o 89 (.pick (.t 85) (.t 88) (.k (.c (.bool false)))), .m 90 89, .y 91 (.loadn 3 (.t 12)) 90, .y 92 (.fadd 5 (.t 15)) 90, .y 93 (.load1 (.t 92)) 90, .y 94 (.nilck (.t 93)) 90, .y 95 (.loadn 3 (.t 94)) 90, .y 96 (.call (.k (.fn 56 [])) [(.t 91), (.t 95)]) 90, .y 97 (.un .not (.t 96)) 90, .o 98 (.pick (.t 90) (.t 97) (.k (.c (.bool false))))]
    [.q (.d 83 2 9), ⟨.k 84 38 [(.t 83)], true, 0⟩, ⟨.m 85 84, false, 1⟩, ⟨.y 86 (.fadd 5 (.t 15)) 85, false, 1⟩, ⟨.y 87 (.load1 (.t 86)) 85, false, 1⟩, ⟨.y 88 (.eqn true 0 (.t 87)) 85, false, 1⟩, ⟨.o 89 (.pick (.t 85) (.t 88) (.k (.c (.bool false)))), false, 1⟩, ⟨.m 90 89, false, 1⟩, ⟨.y 91 (.loadn 3 (.t 12)) 90, false, 1⟩, ⟨.y 92 (.fadd 5 (.t 15)) 90, false, 1⟩, ⟨.y 93 (.load1 (.t 92)) 90, false, 1⟩, ⟨.y 94 (.nilck (.t 93)) 90, false, 1⟩, ⟨.y 95 (.loadn 3 (.t 94)) 90, false, 1⟩, ⟨.y 96 (.call (.k (.fn 56 [])) [(.t 91), (.t 95)]) 90, true, 1⟩, ⟨.y 97 (.un .not (.t 96)) 90, false, 2⟩, ⟨.o 98 (.pick (.t 90) (.t 97) (.k (.c (.bool false)))), false, 2⟩])
  (.cond (.t 98)
  (.reg [.f 99 6 15, .f 100 3 99, .l 101 100, .o 102 (.build [.c (.int .i64 0), .c (.int .i64 0)] [(0, 1, (.k (.c (.int .i64 32)))), (1, 1, (.t 101))]), .s 2 9 102])
  (.skip)))
  (.dreg [.d 103 3 12, .f 104 3 11, .l 105 104, .f 106 0 10, .d 107 5 106, .f 108 0 15, .d 109 5 108, .k 110 81 [(.t 103), (.t 105), (.t 107), (.t 109)], .d 111 4 11, .o 112 (.build [.c (.int .i64 0), .c (.str []), .c (.int .i64 0), .csl [], .c (.int .i64 0), .c (.nilp), .c (.int .i64 0), .c (.str []), .c (.int .i64 0), .c (.int .i64 0)] [(0, 5, (.t 110)), (5, 1, (.t 12)), (6, 4, (.t 111))]), .s 10 10 112]
    [.q (.d 103 3 12), .q (.f 104 3 11), .q (.l 105 104), .q (.f 106 0 10), .q (.d 107 5 106), .q (.f 108 0 15), .q (.d 109 5 108), ⟨.k 110 81 [(.t 103), (.t 105), (.t 107), (.t 109)], true, 0⟩, .q (.d 111 4 11), ⟨.o 112 (.build [.c (.int .i64 0), .c (.str []), .c (.int .i64 0), .csl [], .c (.int .i64 0), .c (.nilp), .c (.int .i64 0), .c (.str []), .c (.int .i64 0), .c (.int .i64 0)] [(0, 5, (.t 110)), (5, 1, (.t 12)), (6, 4, (.t 111))]), false, 1⟩, ⟨.s 10 10 112, true, 1⟩]))))))))))))))
  (.seq (.dreg [.d 113 10 10, .d 114 2 9, .s 10 6 113, .s 2 7 114]
    [.q (.d 113 10 10), ⟨.s 10 6 113, true, 0⟩, .q (.d 114 2 9), ⟨.s 2 7 114, true, 1⟩])
  (.ret))))))
def r37 : List ResV := [.celln 10 6, .celln 2 7]
theorem k37 : CodeIs Tryz.prog 37 3 Tryz.f37 c37 r37 := ⟨by kernel_rfl, Tryz.func37, rfl, by kernel_rfl, by kernel_rfl, by decide, enters_fn Tryz.func37 (by kernel_rfl) rfl⟩
/-- read.Read -/
def c16 : AC :=
  .seq (.reg [.o 6 (.box (.k (.agg [.c (.int .i64 0), .c (.str []), .c (.int .i64 0), .csl [], .c (.int .i64 0)]))), .o 7 (.mov (.k (.c (.int .i64 0)))), .o 8 (.mov (.k (.c (.int .i64 0)))), .o 9 (.mov (.k (.c (.int .i64 0))))])
  (.seq (.reg [.m 13 0, .m 14 1, .m 15 2, .o 16 (.build [.csl [], .csl [], .c (.int .i64 0)] [(0, 1, (.t 13)), (1, 1, (.t 14)), (2, 1, (.t 15))]), .o 17 (.box (.t 16)), .m 10 17])
  (.seq (.reg [.m 19 10, .k 20 37 [(.t 19), (.k (.c (.int .i64 0))), (.k (.c (.int .i64 0)))], .m 18 20, .x 21 18 0, .x 22 18 1, .o 11 (.box (.k (.agg [.c (.int .i64 0), .c (.str []), .c (.int .i64 0), .csl [], .c (.int .i64 0), .c (.nilp), .c (.int .i64 0), .c (.str []), .c (.int .i64 0), .c (.int .i64 0)]))), .o 12 (.box (.k (.agg [.c (.int .i64 0), .c (.int .i64 0)]))), .s 10 11 21, .s 2 12 22])
  (.seq (.seq (.reg [.d 23 2 12, .k 24 38 [(.t 23)], .o 25 (.un .not (.t 24))])
  (.cond (.t 25)
  (.seq (.dreg [.o 26 (.build [.c (.int .i64 0), .c (.str []), .c (.int .i64 0), .csl [], .c (.int .i64 0)] []), .m 27 2, .f 28 0 12, .l 29 28, .f 30 1 12, .l 31 30, .s 5 6 26, .m 7 27, .m 8 29, .m 9 31]
    [.q (.o 26 (.build [.c (.int .i64 0), .c (.str []), .c (.int .i64 0), .csl [], .c (.int .i64 0)] [])), ⟨.s 5 6 26, true, 0⟩, .q (.m 27 2), .q (.f 28 0 12), .q (.l 29 28), .q (.f 30 1 12), .q (.l 31 30), ⟨.m 7 27, false, 1⟩, ⟨.m 8 29, false, 1⟩, ⟨.m 9 31, false, 1⟩])
  (.ret))
  (.skip)))
  (.seq (.dreg [.f 32 0 11, .d 33 5 32, .m 34 10, .n 35 34, .f 36 2 35, .l 37 36, .s 5 6 33, .m 7 37, .o 8 (.mov (.k (.c (.int .i64 0)))), .o 9 (.mov (.k (.c (.int .i64 0))))]
    [.q (.f 32 0 11), .q (.d 33 5 32), ⟨.s 5 6 33, true, 0⟩, .q (.m 34 10), .q (.n 35 34), .q (.f 36 2 35), .q (.l 37 36), ⟨.m 7 37, false, 1⟩, ⟨.o 8 (.mov (.k (.c (.int .i64 0)))), false, 1⟩, ⟨.o 9 (.mov (.k (.c (.int .i64 0)))), false, 1⟩])
  (.ret)))))
def r16 : List ResV := [.celln 5 6, .tmp 7, .tmp 8, .tmp 9]
theorem k16 : CodeIs Tryz.prog 16 3 Tryz.f16 c16 r16 := ⟨by kernel_rfl, Tryz.func16, rfl, by kernel_rfl, by kernel_rfl, by decide, enters_fn Tryz.func16 (by kernel_rfl) rfl⟩
end Go.Proofs.YtljjlhdkkbaehaaGreatDoor
namespace Go.Proofs.YtljjlhdkkbaehaaGreatDoor
open Go.RowKit Go.Lamb
attribute [local go_sem] advO_skip advO_reg advO_seq advO_block advO_exit advO_endb advO_opsNil advO_ops advG_yes advG_no advG_none advS_some advS_none advO_cond advO_loop advO_dreg advO_ret advO_bad advO_inv advO_nil advO_zero wantedV Lamb.step ev_t ev_k put_some put_none argEnv popTo cellsAt V.cellsV V.rows V.toC toCs fillV bytesC byteRows appV rowsV boundV boundL binV binInt binStr eqC eqL V.isNil leaves V.leaf Ins.quiet Ins.pure List.getD_cons_zero List.getD_cons_succ List.getD_nil List.all_cons List.all_nil List.length_cons List.length_nil List.take_succ_cons List.take_zero List.drop_succ_cons List.drop_zero List.cons_append List.nil_append List.append_nil List.append_assoc List.map_cons List.map_nil List.getElem?_cons_zero List.getElem?_cons_succ List.length_append List.length_set hget0 hget hset0 hset hsets hgs0 hgs hss0 hss List.set_cons_zero List.set_cons_succ List.forall_mem_cons List.not_mem_nil false_implies implies_true Option.map_some Bool.and_true Bool.true_and Bool.not_not Bool.not_true Bool.not_false Bool.and_self Bool.or_true Bool.true_or Bool.or_false Bool.false_or Bool.and_false Bool.false_and Bool.false_eq_true beq_self_eq_true and_self and_true true_and if_true if_false Nat.zero_add Nat.add_zero Nat.le_refl Int.toNat_natCast decide_true decide_false beq_t beq_f List.length_map List.getElem?_map I S B opsC toksC OpT.v OpT.cs OpT.zero Tok.v Tok.cs Pre.v Pre.cs_eq k_mk name_mk n_mk l_mk pos_mk Pre.app applyL natCast0 natCast1 natCast2 AOp.o AOp.m AOp.f AOp.l AOp.d AOp.n AOp.x AOp.s AOp.k AOp.y AOp.z EOp.q low_c low_void low_any low_csl low_nilf low_ptr low_osl low_agg low_tup low_fn resEval advPO_nil advPO_loud advPO_quiet pL_yes pL_no pLS_some pLS_none pQ_yes pQ_no pQS_some pQS_loud eq_self Nat.sub_zero

/-- The reader's block. -/
def rdr (l : List OpT) (t : List Tok) (i : Nat) : Blk := .cells [.c (opsC l), .c (toksC t), I i]
theorem wrap_nat {n : Nat} (h : n ≤ 9223372036854775807) : IntKind.i64.wrap (n : Int) = (n : Int) := wrap_in (by omega) (by omega)
theorem wrap_add {a b : Nat} (h : a + b ≤ 9223372036854775807) : IntKind.i64.wrap ((a : Int) + (b : Int)) = ((a + b : Nat) : Int) := by rw [← Int.natCast_add]; exact wrap_nat h
theorem tokL_in {t : List Tok} {i : Nat} (h : i < t.length) : tokL t i = t[i] := by rw [tokL, List.getElem?_eq_getElem h]; rfl
theorem tokL_out {t : List Tok} {i : Nat} (h : t.length ≤ i) : tokL t i = ⟨0, [], 0, lastPos t⟩ := by rw [tokL, List.getElem?_eq_none h]; rfl
theorem lastPos_at {t : List Tok} (h : 0 < t.length) : ∃ x, t[t.length - 1]? = some x ∧ lastPos t = x.pos := by
  refine ⟨t[t.length - 1], List.getElem?_eq_getElem (by omega), ?_⟩
  rw [lastPos, List.getLast?_eq_getElem?, List.getElem?_eq_getElem (by omega)]
  rfl
theorem read_tok (w0 : World) (l : List OpT) (t : List Tok) (i k : Nat) (σ : H) (b : Nat) (hb : σ[b]? = some (rdr l t i)) (hk : i + k ≤ 4000000) (ht : t.length ≤ 1000000) :
    DC Tryz.prog w0 78 [.ptr b 0, I k] σ (Same (tokL t (i + k)).v σ) := by
  have hlt := (List.getElem?_eq_some_iff.1 hb).1
  have hg := fun L => hgetb (σ := σ) L hlt
  refine k78.go rfl (fun hok hsz => ?_)
  rw [rdr] at hb
  have hw : IntKind.i64.wrap ((i : Int) + (k : Int)) = ((i + k : Nat) : Int) := wrap_add (by omega)
  by_cases h : i + k < t.length
  · have h1 : (((i + k : Nat) : Int) < (t.length : Int)) := by omega
    have hx : t[i + k]? = some t[i + k] := List.getElem?_eq_getElem h
    ((try refine W.a ?_); simp only [go_sem, seval, reduceCtorEq, c78, hg, hb, toksC, hw, nat0, h1, hx])
    refine W.yes rfl ?_
    ((try refine W.a ?_); simp only [go_sem, seval, reduceCtorEq, hg, hb, nat0, h1, hx])
    (refine W.ret (Fin.same hok (by simp only [resEval, r78, go_sem, seval, reduceCtorEq]; rfl) ?_ (by first | exact .c _ | (simp only [go_sem, seval, reduceCtorEq]; done)) (by first | exact ⟨[], (List.append_nil _).symm⟩ | exact ⟨_, rfl⟩)); simp only [resV])
    rw [tokL_in h]
  · have h1 : ¬ (((i + k : Nat) : Int) < (t.length : Int)) := by omega
    ((try refine W.a ?_); simp only [go_sem, seval, reduceCtorEq, c78, hg, hb, toksC, hw, nat0, h1])
    refine W.no rfl ?_
    ((try refine W.a ?_); simp only [go_sem, seval, reduceCtorEq, hg, hb])
    by_cases h0 : 0 < t.length
    · have h2 : ((t.length : Int) > 0) := by omega
      have hw2 : IntKind.i64.wrap ((t.length : Int) - 1) = ((t.length - 1 : Nat) : Int) := by rw [wrap_in] <;> omega
      obtain ⟨x, hx, hp⟩ := lastPos_at h0
      have h3 : (((t.length - 1 : Nat) : Int) < (t.length : Int)) := by omega
      ((try refine W.a ?_); simp only [go_sem, seval, reduceCtorEq, h2])
      refine W.yes rfl ?_
      ((try refine W.a ?_); simp only [go_sem, seval, reduceCtorEq])
      (apply W.dregE (List.cons_ne_nil _ _); case hc => ((apply CanonE.advPO; simp only [go_sem, seval, reduceCtorEq, hg, hb, hw2, nat0, h3, hx]); exact CanonE.nil))
      ((try refine W.a ?_); simp only [go_sem, seval, reduceCtorEq])
      (refine W.ret (Fin.same hok (by simp only [resEval, r78, go_sem, seval, reduceCtorEq]; rfl) ?_ (by first | exact .c _ | (simp only [go_sem, seval, reduceCtorEq]; done)) (by first | exact ⟨[], (List.append_nil _).symm⟩ | exact ⟨_, rfl⟩)); simp only [resV])
      rw [tokL_out (by omega), hp]
    · have h2 : ¬ ((t.length : Int) > 0) := by omega
      ((try refine W.a ?_); simp only [go_sem, seval, reduceCtorEq, h2])
      refine W.no rfl ?_
      ((try refine W.a ?_); simp only [go_sem, seval, reduceCtorEq])
      (refine W.ret (Fin.same hok (by simp only [resEval, r78, go_sem, seval, reduceCtorEq]; rfl) ?_ (by first | exact .c _ | (simp only [go_sem, seval, reduceCtorEq]; done)) (by first | exact ⟨[], (List.append_nil _).symm⟩ | exact ⟨_, rfl⟩)); simp only [resV])
      have : t = [] := List.eq_nil_of_length_eq_zero (by omega)
      subst this
      rw [tokL_out (by omega)]; rfl
end Go.Proofs.YtljjlhdkkbaehaaGreatDoor
namespace Go.Proofs.YtljjlhdkkbaehaaGreatDoor
open Go.RowKit Go.Lamb

def strsR (l : List Str) : List (List C) := l.map fun s => [C.str s]
/-- The type reader's blocks. -/
def tyX (t : List Tok) (i : Int) (v : Nat) (vs : List Str) (e p : Int) : Blk := .cells [.c (toksC t), I i, .osl v (strsR vs), I e, I p]
def tyY (vs : List Str) : Blk := .spare 9 1 vs.length
abbrev tys (σ : H) (b v : Nat) (t : List Tok) (i : Int) (vs : List Str) (e p : Int) : H := rs σ b v (tyX t i v vs e p) (tyY vs)
attribute [local go_sem] tyX tyY rs_len rs_g0 rs_g rs_s0 rs_s rs_sv Typ.v Typ.cs_eq tk_mk tname_mk tn_mk tl_mk tysC
end Go.Proofs.YtljjlhdkkbaehaaGreatDoor
namespace Go.Proofs.YtljjlhdkkbaehaaGreatDoor
open Go.RowKit Go.Lamb

theorem sz_text {s : List UInt8} {args : List V} (h : ∀ y ∈ args, V.Sz y) (hx : S s ∈ args) : s.length ≤ maxLen := by
  have := h _ hx
  rwa [S, sz_c, sz_str] at this
/-- A contract over worlds of what looks at a text and tells a bool. -/
theorem DC.of_text {w0 : World} {f : FuncId} {s : List UInt8} {b : Bool} {σ : H} (hen : Enters Tryz.prog f) (h : ∀ w, s.length ≤ maxLen → Calls Tryz.prog f #[.string (bs s)] w (Ret (.bool b) w)) : DC Tryz.prog w0 f [S s] σ (Same (B b) σ) := by
  refine DC.of_calls hen fun κ w vs hrep hfit => ?_
  obtain ⟨v, ys, rfl, hv, hfit⟩ := hfit.cons_inv
  have := hfit.nil_inv
  subst this
  cases hv with
  | c hv =>
    cases hv with
    | str _ hl =>
      refine ⟨.bool b, .c (.bool b), (h w hl).mono ?_⟩
      rintro e w' ⟨rfl, rfl⟩
      exact ⟨rfl, Below.refl _ _⟩
theorem lex_IsNameD (w0 : World) (s : List UInt8) (σ : H) : DC Tryz.prog w0 41 [S s] σ (Same (B (isNameB s)) σ) :=
  DC.of_text (enters_fn Tryz.func41 (by kernel_rfl) rfl) fun w hs => lex_IsName (bs s) w hs
theorem lex_IsSymD (w0 : World) (s : List UInt8) (σ : H) : DC Tryz.prog w0 43 [S s] σ (Same (B (isSymB s)) σ) :=
  DC.of_text (enters_fn Tryz.func43 (by kernel_rfl) rfl) fun w hs => lex_IsSym (bs s) w hs
end Go.Proofs.YtljjlhdkkbaehaaGreatDoor
namespace Go.Proofs.YtljjlhdkkbaehaaGreatDoor
open Go.RowKit Go.Lamb

abbrev tyo (σ : H) (b v : Nat) (t : List Tok) (o : TyO) : H := tys σ b v t o.j o.ws o.e o.p
attribute [local go_sem] tyX tyY rs_len rs_g0 rs_g rs_s0 rs_s rs_sv Typ.v Typ.cs_eq tk_mk tname_mk tn_mk tl_mk tysC
end Go.Proofs.YtljjlhdkkbaehaaGreatDoor
namespace Go.Proofs.YtljjlhdkkbaehaaGreatDoor
open Go.RowKit Go.Lamb
attribute [local go_sem] tyX tyY rs_len rs_g0 rs_g rs_s0 rs_s rs_sv Typ.v Typ.cs_eq tk_mk tname_mk tn_mk tl_mk tysC

structure ArgO where
  g : Nat
  o : TyO
end Go.Proofs.YtljjlhdkkbaehaaGreatDoor
namespace Go.Proofs.YtljjlhdkkbaehaaGreatDoor
open Go.RowKit Go.Lamb
attribute [local go_sem] tyX tyY rs_len rs_g0 rs_g rs_s0 rs_s rs_sv Typ.v Typ.cs_eq tk_mk tname_mk tn_mk tl_mk tysC

end Go.Proofs.YtljjlhdkkbaehaaGreatDoor
namespace Go.Proofs.YtljjlhdkkbaehaaGreatDoor
open Go.RowKit Go.Lamb

/-- The last token is the end. -/
structure TEnd (t : List Tok) : Prop where
  ne : t ≠ []
  last : ∀ h : t.length - 1 < t.length, t[t.length - 1] = ⟨0, [], 0, lastPos t⟩
  le : t.length ≤ 100000
theorem TEnd.pos {t : List Tok} (h : TEnd t) : 0 < t.length := List.length_pos_iff.2 h.ne
theorem TEnd.tok {t : List Tok} (h : TEnd t) (i : Nat) : t[min i (t.length - 1)]? = some (tokL t i) := by
  have := h.pos
  rcases Nat.lt_or_ge i t.length with hi | hi
  · rw [Nat.min_eq_left (by omega), tokL_in hi, List.getElem?_eq_getElem hi]
  · rw [Nat.min_eq_right (by omega), tokL_out hi, List.getElem?_eq_getElem (by omega), h.last (by omega)]
/-- The source reader's block. -/
def sdX (t : List Tok) (i : Int) (l : List OpT) (e p : Int) : Blk := .cells [.c (toksC t), I i, .c (opsC l), I e, I p]
abbrev srd (σ : H) (b : Nat) (t : List Tok) (i : Int) (l : List OpT) (e p : Int) : H := rz σ b (sdX t i l e p)
attribute [local go_sem] sdX rz_len rz_g0 rz_g rz_s0 rz_s rz_sb
end Go.Proofs.YtljjlhdkkbaehaaGreatDoor
namespace Go.Proofs.YtljjlhdkkbaehaaGreatDoor
open Go.RowKit Go.Lamb
attribute [local go_sem] sdX rz_len rz_g0 rz_g rz_s0 rz_s rz_sb

structure NameSt where
  acc : List Tok
  i : Nat
  e : Int
  p : Int
end Go.Proofs.YtljjlhdkkbaehaaGreatDoor
namespace Go.Proofs.YtljjlhdkkbaehaaGreatDoor
open Go.RowKit Go.Lamb
attribute [local go_sem] advO_skip advO_reg advO_seq advO_block advO_exit advO_endb advO_opsNil advO_ops advG_yes advG_no advG_none advS_some advS_none advO_cond advO_loop advO_dreg advO_ret advO_bad advO_inv advO_nil advO_zero wantedV Lamb.step ev_t ev_k put_some put_none argEnv popTo cellsAt V.cellsV V.rows V.toC toCs fillV bytesC byteRows appV rowsV boundV boundL binV binInt binStr eqC eqL V.isNil leaves V.leaf Ins.quiet Ins.pure List.getD_cons_zero List.getD_cons_succ List.getD_nil List.all_cons List.all_nil List.length_cons List.length_nil List.take_succ_cons List.take_zero List.drop_succ_cons List.drop_zero List.cons_append List.nil_append List.append_nil List.append_assoc List.map_cons List.map_nil List.getElem?_cons_zero List.getElem?_cons_succ List.length_append List.length_set hget0 hget hset0 hset hsets hgs0 hgs hss0 hss List.set_cons_zero List.set_cons_succ List.forall_mem_cons List.not_mem_nil false_implies implies_true Option.map_some Bool.and_true Bool.true_and Bool.not_not Bool.not_true Bool.not_false Bool.and_self Bool.or_true Bool.true_or Bool.or_false Bool.false_or Bool.and_false Bool.false_and Bool.false_eq_true beq_self_eq_true and_self and_true true_and if_true if_false Nat.zero_add Nat.add_zero Nat.le_refl Int.toNat_natCast decide_true decide_false beq_t beq_f List.length_map List.getElem?_map I S B opsC toksC OpT.v OpT.cs OpT.zero Tok.v Tok.cs Pre.v Pre.cs_eq k_mk name_mk n_mk l_mk pos_mk Pre.app applyL natCast0 natCast1 natCast2 AOp.o AOp.m AOp.f AOp.l AOp.d AOp.n AOp.x AOp.s AOp.k AOp.y AOp.z EOp.q low_c low_void low_any low_csl low_nilf low_ptr low_osl low_agg low_tup low_fn resEval advPO_nil advPO_loud advPO_quiet pL_yes pL_no pLS_some pLS_none pQ_yes pQ_no pQS_some pQS_loud eq_self Nat.sub_zero
section

theorem read_operator (w0 : World) (l : List OpT) (t : List Tok) (i : Nat) (x : Tok) (σ : H) (b : Nat) (hb : σ[b]? = some (rdr l t i)) :
    DC Tryz.prog w0 79 [.ptr b 0, x.v] σ (Same (foundV (opOf l x)) σ) := by
  have hlt := (List.getElem?_eq_some_iff.1 hb).1
  have hg := fun L => hgetb (σ := σ) L hlt
  refine k79.go rfl (fun hok hsz => ?_)
  rw [rdr] at hb
  ((try refine W.a ?_); simp only [go_sem, seval, reduceCtorEq, c79, hg, hb])
  apply W.dregE (List.cons_ne_nil _ _)
  case hc =>
    (apply CanonE.advPO; simp only [go_sem, seval, reduceCtorEq, hg, hb])
    (apply CanonE.call (ops_Is w0 l x _); (case hg => rfl); (case hf => rfl); (case ha => first | rfl | simp))
    (apply CanonE.advPO; simp only [go_sem, seval, reduceCtorEq, foundV])
    exact CanonE.nil
  ((try refine W.a ?_); simp only [go_sem, seval, reduceCtorEq])
  (refine W.ret (Fin.same hok (by simp only [resEval, r79, go_sem, seval, reduceCtorEq]; rfl) ?_ (by first | exact .c _ | (simp only [go_sem, seval, reduceCtorEq, foundV, OpT.v]; done)) (by first | exact ⟨[], (List.append_nil _).symm⟩ | exact ⟨_, rfl⟩)); simp only [resV, foundV, OpT.v])
  rfl
theorem read_begins (w0 : World) (l : List OpT) (t : List Tok) (i : Nat) (σ : H) (b : Nat) (hb : σ[b]? = some (rdr l t i)) (hi : i ≤ 2000000) (ht : t.length ≤ 1000000) :
    DC Tryz.prog w0 105 [.ptr b 0] σ (Same (B (beginsL l (tokL t i))) σ) := by
  have hlt := (List.getElem?_eq_some_iff.1 hb).1
  have hg := fun L => hgetb (σ := σ) L hlt
  refine k105.go rfl (fun hok hsz => ?_)
  ((try refine W.a ?_); simp only [go_sem, seval, reduceCtorEq, c105])
  (refine W.c1 (read_tok w0 l t i 0 _ b hb (by omega) ht) ?_; simp only [go_sem, seval, reduceCtorEq])
  generalize tokL t i = x
  cases h1 : (x.kind == 1)
  · ((try refine W.a ?_); simp only [go_sem, seval, reduceCtorEq, h1])
    refine W.no rfl ?_
    cases h4 : (x.kind == 4)
    · have hk : ¬ (x.kind = 1 ∨ x.kind = 4) := by
        simp only [beq_eq_false_iff_ne] at h1 h4
        rintro (h | h)
        · exact h1 h
        · exact h4 h
      ((try refine W.a ?_); simp only [go_sem, seval, reduceCtorEq, h4])
      refine W.no rfl ?_
      cases h2 : (x.kind == 2)
      · ((try refine W.a ?_); simp only [go_sem, seval, reduceCtorEq, h2])
        refine W.no rfl ?_
        cases h3 : (x.kind == 3)
        · ((try refine W.a ?_); simp only [go_sem, seval, reduceCtorEq, h3])
          refine W.no rfl ?_
          cases h5 : (x.kind == 5)
          · ((try refine W.a ?_); simp only [go_sem, seval, reduceCtorEq, h5])
            refine W.no rfl ?_
            ((try refine W.a ?_); simp only [go_sem, seval, reduceCtorEq])
            (refine W.ret (Fin.same hok (by simp only [resEval, r105, go_sem, seval, reduceCtorEq]; rfl) ?_ (by first | exact .c _ | (simp only [go_sem, seval, reduceCtorEq]; done)) (by first | exact ⟨[], (List.append_nil _).symm⟩ | exact ⟨_, rfl⟩)); simp only [resV])
            rw [beginsL, if_neg hk]; simp_all
          · ((try refine W.a ?_); simp only [go_sem, seval, reduceCtorEq, h5])
            refine W.yes rfl ?_
            ((try refine W.a ?_); simp only [go_sem, seval, reduceCtorEq])
            (refine W.ret (Fin.same hok (by simp only [resEval, r105, go_sem, seval, reduceCtorEq]; rfl) ?_ (by first | exact .c _ | (simp only [go_sem, seval, reduceCtorEq]; done)) (by first | exact ⟨[], (List.append_nil _).symm⟩ | exact ⟨_, rfl⟩)); simp only [resV])
            rw [beginsL, if_neg hk]; simp_all
        · ((try refine W.a ?_); simp only [go_sem, seval, reduceCtorEq, h3])
          refine W.yes rfl ?_
          ((try refine W.a ?_); simp only [go_sem, seval, reduceCtorEq])
          refine W.yes rfl ?_
          ((try refine W.a ?_); simp only [go_sem, seval, reduceCtorEq])
          (refine W.ret (Fin.same hok (by simp only [resEval, r105, go_sem, seval, reduceCtorEq]; rfl) ?_ (by first | exact .c _ | (simp only [go_sem, seval, reduceCtorEq]; done)) (by first | exact ⟨[], (List.append_nil _).symm⟩ | exact ⟨_, rfl⟩)); simp only [resV])
          rw [beginsL, if_neg hk]; simp_all
      · ((try refine W.a ?_); simp only [go_sem, seval, reduceCtorEq, h2])
        refine W.yes rfl ?_
        ((try refine W.a ?_); simp only [go_sem, seval, reduceCtorEq])
        refine W.yes rfl ?_
        ((try refine W.a ?_); simp only [go_sem, seval, reduceCtorEq])
        (refine W.ret (Fin.same hok (by simp only [resEval, r105, go_sem, seval, reduceCtorEq]; rfl) ?_ (by first | exact .c _ | (simp only [go_sem, seval, reduceCtorEq]; done)) (by first | exact ⟨[], (List.append_nil _).symm⟩ | exact ⟨_, rfl⟩)); simp only [resV])
        rw [beginsL, if_neg hk]; simp_all
    · have hk : x.kind = 1 ∨ x.kind = 4 := .inr (by simpa using h4)
      ((try refine W.a ?_); simp only [go_sem, seval, reduceCtorEq, h4])
      refine W.yes rfl ?_
      ((try refine W.a ?_); simp only [go_sem, seval, reduceCtorEq])
      (refine W.c1 (read_operator w0 l t i x _ b ((hg _).trans hb)) ?_; simp only [go_sem, seval, reduceCtorEq, foundV])
      (refine W.ret (Fin.same hok (by simp only [resEval, r105, go_sem, seval, reduceCtorEq]; rfl) ?_ (by first | exact .c _ | (simp only [go_sem, seval, reduceCtorEq]; done)) (by first | exact ⟨[], (List.append_nil _).symm⟩ | exact ⟨_, rfl⟩)); simp only [resV])
      rw [beginsL, if_pos hk]; cases opOf l x <;> rfl
  · have hk : x.kind = 1 ∨ x.kind = 4 := .inl (by simpa using h1)
    ((try refine W.a ?_); simp only [go_sem, seval, reduceCtorEq, h1])
    refine W.yes rfl ?_
    ((try refine W.a ?_); simp only [go_sem, seval, reduceCtorEq])
    refine W.yes rfl ?_
    ((try refine W.a ?_); simp only [go_sem, seval, reduceCtorEq])
    (refine W.c1 (read_operator w0 l t i x _ b ((hg _).trans hb)) ?_; simp only [go_sem, seval, reduceCtorEq, foundV])
    (refine W.ret (Fin.same hok (by simp only [resEval, r105, go_sem, seval, reduceCtorEq]; rfl) ?_ (by first | exact .c _ | (simp only [go_sem, seval, reduceCtorEq]; done)) (by first | exact ⟨[], (List.append_nil _).symm⟩ | exact ⟨_, rfl⟩)); simp only [resV])
    rw [beginsL, if_pos hk]; cases opOf l x <;> rfl
theorem read_lambda (w0 : World) (l : List OpT) (t : List Tok) (i : Nat) (σ : H) (b : Nat) (hb : σ[b]? = some (rdr l t i)) (hi : i ≤ 2000000) (ht : t.length ≤ 1000000) :
    DC Tryz.prog w0 103 [.ptr b 0] σ (Same (B (lamAt t i)) σ) := by
  refine k103.go rfl (fun hok hsz => ?_)
  ((try refine W.a ?_); simp only [go_sem, seval, reduceCtorEq, c103])
  cases h1 : ((tokL t i).kind == 1) <;> cases h2 : ((tokL t i).kind == 2)
  · (refine W.c1 (read_tok w0 l t i 0 _ b hb (by omega) ht) ?_; simp only [go_sem, seval, reduceCtorEq, h1, h2])
    (refine W.ret (Fin.same hok (by simp only [resEval, r103, go_sem, seval, reduceCtorEq]; rfl) ?_ (by first | exact .c _ | (simp only [go_sem, seval, reduceCtorEq]; done)) (by first | exact ⟨[], (List.append_nil _).symm⟩ | exact ⟨_, rfl⟩)); simp only [resV])
    first | (simp_all [lamAt]; done) | (simp_all [lamAt]; rfl)
  all_goals
    (refine W.c1 (read_tok w0 l t i 0 _ b hb (by omega) ht) ?_; simp only [go_sem, seval, reduceCtorEq, h1, h2])
    (refine W.c1 (read_tok w0 l t i 1 _ b hb (by omega) ht) ?_; simp only [go_sem, seval, reduceCtorEq, h1, h2])
    (refine W.ret (Fin.same hok (by simp only [resEval, r103, go_sem, seval, reduceCtorEq]; rfl) ?_ (by first | exact .c _ | (simp only [go_sem, seval, reduceCtorEq]; done)) (by first | exact ⟨[], (List.append_nil _).symm⟩ | exact ⟨_, rfl⟩)); simp only [resV])
    first | (simp_all [lamAt]; done) | (simp_all [lamAt]; rfl)
theorem wrong_ok (w0 : World) (e p : Int) (σ : H) : DC Tryz.prog w0 38 [.agg [I e, I p]] σ (Same (B (e == 0)) σ) := by
  refine k38.go rfl (fun hok hsz => ?_)
  ((try refine W.a ?_); simp only [go_sem, seval, reduceCtorEq, c38])
  (refine W.ret (Fin.same hok (by simp only [resEval, r38, go_sem, seval, reduceCtorEq]; rfl) ?_ (by first | exact .c _ | (simp only [go_sem, seval, reduceCtorEq]; done)) (by first | exact ⟨[], (List.append_nil _).symm⟩ | exact ⟨_, rfl⟩)); simp only [resV])
end
section

/-- A tree's cells, its row without room. -/
def preN (p : Pre) : List V := [I p.k, S p.name, I p.n, .csl (p.l.map Pre.cs), I p.pos]
def applyAt (o : OpT) (pos : Int) (a b : Pre) : Nat → Pre
  | 0 => .mk 0 o.name 0 [] pos
  | 1 => Pre.app (.mk 0 o.name 0 [] pos) a pos
  | _ => applyL o pos a b
theorem applyAt_0 (o : OpT) (pos : Int) (a b : Pre) : applyAt o pos a b 0 = .mk 0 o.name 0 [] pos := rfl
theorem applyAt_1 (o : OpT) (pos : Int) (a b : Pre) : applyAt o pos a b 1 = Pre.app (.mk 0 o.name 0 [] pos) a pos := rfl
theorem applyAt_2 (o : OpT) (pos : Int) (a b : Pre) : applyAt o pos a b 2 = applyL o pos a b := rfl
theorem read_apply (w0 : World) (o : OpT) (pos : Int) (a b : Pre) (σ : H) : DC Tryz.prog w0 81 [o.v, I pos, a.v, b.v] σ (Same (applyL o pos a b).v σ) := by
  refine k81.go rfl (fun hok hsz => ?_)
  ((try refine W.a ?_); simp only [go_sem, seval, reduceCtorEq, c81])
  refine W.loopP (fun i => i ≤ 2)
    (fun i => ⟨((((((base.put (some 1) (I pos)).put (some 8) (.ptr (σ.length + 3) 0)).put (some 9) (.ptr (σ.length + 4) 0)).put (some 18) (.csl [a.cs, b.cs])).put (some 19) (I 2)).put (some 20) (I (i : Nat))), σ ++ [.cells o.v.cellsV, .cells a.v.cellsV, .cells b.v.cellsV, .cells [I 0, S [], I 0, .csl [], I 0], .cells (preN (applyAt o pos a b i))]⟩) (fun i => 2 - i) 0 (by omega) ?_ (fun i hi => ?_)
  · simp only [go_sem, seval, reduceCtorEq, preN, applyAt_0]
    (refine Lew.env ?_; exact lee_here)
  · have h3 : i = 0 ∨ i = 1 ∨ i = 2 := by omega
    rcases h3 with rfl | rfl | rfl
    · ((try refine W.a ?_); simp only [go_sem, seval, reduceCtorEq, preN, applyAt_0])
      refine W.yes (by rfl) ?_
      ((try refine W.a ?_); simp only [go_sem, seval, reduceCtorEq, show IntKind.i64.wrap 1 = 1 from rfl])
      refine .inv ⟨1, by omega, by omega, ?_⟩
      simp only [go_sem, seval, reduceCtorEq, preN, applyAt_1]
      (refine Lew.cutL (hok) ?_ (by simp) (by simp) ?_ ?_ ?_; exact lee_here; ((try simp only [okB, wkB, go_sem, seval, reduceCtorEq]) <;> omega); (simp only [List.length_cons, List.length_nil, Nat.reduceAdd, List.take_succ_cons, List.take_zero, wkB, and_true]; (repeat' (refine And.intro ?_ ?_)) <;> (first | exact Blk.wk.rfl _ | exact Blk.wk.gone _ | (refine Blk.wk_cells ?_ rfl; (exact wk_here)))); (repeat' (first | exact LowE.base _ | (refine LowE.put ?_ (by first | exact .c _ | ((try simp only [okB, wkB, go_sem, seval, reduceCtorEq]) <;> omega))))))
    · ((try refine W.a ?_); simp only [go_sem, seval, reduceCtorEq, preN, applyAt_1])
      refine W.yes (by rfl) ?_
      ((try refine W.a ?_); simp only [go_sem, seval, reduceCtorEq, show IntKind.i64.wrap 2 = 2 from rfl])
      refine .inv ⟨2, by omega, by omega, ?_⟩
      simp only [go_sem, seval, reduceCtorEq, preN, applyAt_2]
      (refine Lew.cutL (hok) ?_ (by simp) (by simp) ?_ ?_ ?_; exact lee_here; ((try simp only [okB, wkB, go_sem, seval, reduceCtorEq]) <;> omega); (simp only [List.length_cons, List.length_nil, Nat.reduceAdd, List.take_succ_cons, List.take_zero, wkB, and_true]; (repeat' (refine And.intro ?_ ?_)) <;> (first | exact Blk.wk.rfl _ | exact Blk.wk.gone _ | (refine Blk.wk_cells ?_ rfl; (exact wk_here)))); (repeat' (first | exact LowE.base _ | (refine LowE.put ?_ (by first | exact .c _ | ((try simp only [okB, wkB, go_sem, seval, reduceCtorEq]) <;> omega))))))
    · ((try refine W.a ?_); simp only [go_sem, seval, reduceCtorEq, preN, applyAt_2])
      refine W.no (by rfl) ?_
      ((try refine W.a ?_); simp only [go_sem, seval, reduceCtorEq])
      (refine W.fs (hok) (by simp only [r81, go_sem, seval, reduceCtorEq]; rfl) ?_; simp only [resV]; try exact V.wk.rfl _)
      (all_goals exact wk_here)
end
section

def wrongV (e p : Int) : V := .agg [I e, I p]
def byC (m : Made) : C := match m.by_ with
  | none => .nilp
  | some (o, _) => .ref o.cs 0
def madeV (m : Made) (k : Tok) : V := .agg [I m.p.k, S m.p.name, I m.p.n, .c (.sl (m.p.l.map Pre.cs)), I m.p.pos, .c (byC m), I k.kind, S k.text, I k.n, I k.pos]
def fitsK (m : Made) (k : Tok) : Prop := ∀ o p, m.by_ = some (o, p) → k.pos = p
def RAtom (l : List OpT) (t : List Tok) (σ : H) (b : Nat) (r : Except Bad (Pre × Nat)) : V → H → Prop := fun d σ' => match r with
  | .ok (p, j) => d = .tup [p.v, wrongV 0 0] ∧ σ' = σ.set b (rdr l t j)
  | .error x => (x.e == 0) = false ∧ ∃ (q : Pre) (j : Nat), d = .tup [q.v, wrongV x.e x.pos] ∧ σ' = σ.set b (rdr l t j)
def RExpr (l : List OpT) (t : List Tok) (σ : H) (b : Nat) (r : Except Bad (Made × Nat)) : V → H → Prop := fun d σ' => match r with
  | .ok (m, j) => ∃ k, fitsK m k ∧ d = .tup [madeV m k, wrongV 0 0] ∧ σ' = σ.set b (rdr l t j)
  | .error x => (x.e == 0) = false ∧ ∃ m k j, d = .tup [madeV m k, wrongV x.e x.pos] ∧ σ' = σ.set b (rdr l t j)
def ExprOK (w0 : World) (f : Nat) : Prop := ∀ (l : List OpT) (t : List Tok) (least : Int) (depth i : Nat) (r : Except Bad (Made × Nat)) (σ : H) (b : Nat), exprF f l t least depth i = some r → σ[b]? = some (rdr l t i) → i ≤ t.length → t.length ≤ 1000000 → depth ≤ 200 →
  DC Tryz.prog w0 37 [.ptr b 0, I least, I depth] σ (RExpr l t σ b r)
def AtomOK (w0 : World) (f : Nat) : Prop := ∀ (l : List OpT) (t : List Tok) (depth i : Nat) (r : Except Bad (Pre × Nat)) (σ : H) (b : Nat), atomF f l t depth i = some r → σ[b]? = some (rdr l t i) → i ≤ t.length → t.length ≤ 1000000 → depth ≤ 200 →
  DC Tryz.prog w0 104 [.ptr b 0, I depth] σ (RAtom l t σ b r)
theorem rdr_ok {σ : H} (h : H.ok σ) (b : Nat) (l : List OpT) (t : List Tok) (j : Nat) : H.ok (σ.set b (rdr l t j)) := H.ok_set h fun x hx => by
  simp only [List.mem_cons, List.not_mem_nil, or_false] at hx
  rcases hx with rfl | rfl | rfl <;> exact .c _
def innerF (f : Nat) (l : List OpT) (t : List Tok) (least : Int) (depth i : Nat) (pos : Int) : Option (Except Bad (Made × Nat)) := if 200 ≤ depth then some (.error ⟨31, pos⟩) else exprF f l t least (depth + 1) i
def Tok.zero : Tok := ⟨0, [], 0, 0⟩
theorem read_inner {w0 : World} {f : Nat} (hE : ExprOK w0 f) (l : List OpT) (t : List Tok) (least : Int) (depth i : Nat) (k : Tok) (r : Except Bad (Made × Nat)) (σ : H) (b : Nat) (h : innerF f l t least depth i k.pos = some r) (hb : σ[b]? = some (rdr l t i)) (hi : i ≤ t.length) (ht : t.length ≤ 1000000) (hd : depth ≤ 200) :
    DC Tryz.prog w0 80 [.ptr b 0, I least, I depth, k.v] σ (RExpr l t σ b r) := by
  have hlt := (List.getElem?_eq_some_iff.1 hb).1
  refine k80.go rfl (fun hok hsz => ?_)
  rw [innerF] at h
  split at h
  · rename_i hc
    injection h with h
    subst h
    have h1 : (depth : Int) ≥ 200 := by omega
    ((try refine W.a ?_); simp only [go_sem, seval, reduceCtorEq, c80, h1])
    refine W.yes rfl ?_
    ((try refine W.a ?_); simp only [go_sem, seval, reduceCtorEq])
    (apply W.dregE (List.cons_ne_nil _ _); case hc => ((apply CanonE.advPO; simp only [go_sem, seval, reduceCtorEq]); exact CanonE.nil))
    ((try refine W.a ?_); simp only [go_sem, seval, reduceCtorEq])
    (refine W.fg (hok) (d := .tup [madeV ⟨Pre.none, none⟩ Tok.zero, wrongV 31 k.pos]) (by simp only [r80, go_sem, seval, reduceCtorEq, madeV, wrongV, byC, Pre.none, Tok.zero, List.map_nil]; rfl) (by simp only [resV, go_sem, seval, reduceCtorEq, madeV, wrongV, byC, Pre.none, Tok.zero, List.map_nil]; exact wk_here) ?_ (hl := by (first | exact .c _ | (simp only [go_sem, seval, reduceCtorEq, madeV, wrongV, byC, Pre.none, Tok.zero, List.map_nil]; done))))
    exact ⟨rfl, ⟨Pre.none, none⟩, Tok.zero, i, rfl, (set_here hb).symm⟩
  · rename_i hc
    have h1 : ¬ (depth : Int) ≥ 200 := by omega
    have hw : IntKind.i64.wrap ((depth : Int) + 1) = ((depth + 1 : Nat) : Int) := wrap_next (n := 201) (by omega) (by omega)
    ((try refine W.a ?_); simp only [go_sem, seval, reduceCtorEq, c80, h1])
    refine W.no rfl ?_
    ((try refine W.a ?_); simp only [go_sem, seval, reduceCtorEq, hw])
    (refine W.call (hE l t least (depth + 1) i r _ b h (hG hb _) hi ht (by omega)) rfl rfl (by first | rfl | simp) ?_)
    intro v σ1 hR
    cases r with
    | ok x =>
      obtain ⟨k', hk, rfl, rfl⟩ := hR
      ((try refine W.a ?_); simp only [go_sem, seval, reduceCtorEq, hS hb, madeV, wrongV])
      (refine W.fg (rdr_ok hok b l t x.2) (d := .tup [madeV x.1 k', wrongV 0 0]) (by simp only [r80, go_sem, seval, reduceCtorEq, madeV, wrongV]; rfl) (by simp only [resV, go_sem, seval, reduceCtorEq, madeV, wrongV]; exact wk_here) ?_ (hl := by (first | exact .c _ | (simp only [go_sem, seval, reduceCtorEq, madeV, wrongV]; done))))
      exact ⟨k', hk, rfl, rfl⟩
    | error x =>
      obtain ⟨he, m, k', j, rfl, rfl⟩ := hR
      ((try refine W.a ?_); simp only [go_sem, seval, reduceCtorEq, hS hb, madeV, wrongV])
      (refine W.fg (rdr_ok hok b l t j) (d := .tup [madeV m k', wrongV x.e x.pos]) (by simp only [r80, go_sem, seval, reduceCtorEq, madeV, wrongV]; rfl) (by simp only [resV, go_sem, seval, reduceCtorEq, madeV, wrongV]; exact wk_here) ?_ (hl := by (first | exact .c _ | (simp only [go_sem, seval, reduceCtorEq, madeV, wrongV]; done))))
      exact ⟨he, m, k', j, rfl, rfl⟩
end
section

def bracketsF (f : Nat) (l : List OpT) (t : List Tok) (depth i : Nat) : Option (Except Bad (Pre × Nat)) :=
  if (opOf l (tokL t (i + 1))).isSome ∧ (tokL t (i + 2)).kind = 6 then some (.ok (.mk 0 (tokL t (i + 1)).text 0 [] (tokL t (i + 1)).pos, i + 3))
  else match innerF f l t 0 depth (i + 1) (tokL t i).pos with
    | none => none
    | some (.error b) => some (.error b)
    | some (.ok (m, j)) => if (tokL t j).kind = 6 then some (.ok (m.p, j + 1)) else some (.error ⟨30, (tokL t j).pos⟩)
theorem innerF_bound {f : Nat} {l : List OpT} {t : List Tok} {least : Int} {depth i : Nat} {pos : Int} {m : Made} {j : Nat} (h : innerF f l t least depth i pos = some (.ok (m, j))) : i < j ∧ j ≤ t.length := by
  rw [innerF] at h
  split at h
  · cases h
  · exact (fuel_bounds f).2.2.1 _ _ _ _ _ _ _ h
theorem read_brackets {w0 : World} {f : Nat} (hE : ExprOK w0 f) (l : List OpT) (t : List Tok) (depth i : Nat) (r : Except Bad (Pre × Nat)) (σ : H) (b : Nat) (h : bracketsF f l t depth i = some r) (hb : σ[b]? = some (rdr l t i)) (hi : i < t.length) (ht : t.length ≤ 1000000) (hd : depth ≤ 200) :
    DC Tryz.prog w0 120 [.ptr b 0, I depth] σ (RAtom l t σ b r) := by
  have hlt := (List.getElem?_eq_some_iff.1 hb).1
  refine k120.go rfl (fun hok hsz => ?_)
  have hbe : σ[b]? = some (.cells [.c (opsC l), .c (toksC t), I i]) := hb
  ((try refine W.a ?_); simp only [go_sem, seval, reduceCtorEq, c120])
  (refine W.c1 (read_tok w0 l t i 0 _ b (hG hb _) (by omega) ht) ?_; simp only [go_sem, seval, reduceCtorEq])
  (refine W.c1 (read_tok w0 l t i 1 _ b (hG hb _) (by omega) ht) ?_; simp only [go_sem, seval, reduceCtorEq])
  rw [bracketsF] at h
  by_cases hc : (opOf l (tokL t (i + 1))).isSome ∧ (tokL t (i + 2)).kind = 6
  · rw [if_pos hc] at h
    injection h with h
    subst h
    obtain ⟨hc1, hc2⟩ := hc
    have hw : IntKind.i64.wrap ((i : Int) + 3) = ((i + 3 : Nat) : Int) := by rw [wrap_in] <;> omega
    (refine W.c1 (read_operator w0 l t i (tokL t (i + 1)) _ b (hG hb _)) ?_; simp only [go_sem, seval, reduceCtorEq, foundV, hc1])
    (refine W.c1 (read_tok w0 l t i 2 _ b (hG hb _) (by omega) ht) ?_; simp only [go_sem, seval, reduceCtorEq, hc2])
    refine W.yes rfl ?_
    ((try refine W.a ?_); simp only [go_sem, seval, reduceCtorEq, hG hbe, hS hb, hw])
    (refine W.fg (rdr_ok hok b l t (i + 3)) (d := .tup [(Pre.mk 0 (tokL t (i + 1)).text 0 [] (tokL t (i + 1)).pos).v, wrongV 0 0]) (by simp only [r120, go_sem, seval, reduceCtorEq, wrongV]; rfl) (by simp only [resV, go_sem, seval, reduceCtorEq, wrongV]; exact wk_here) ?_ (hl := by (first | exact .c _ | (simp only [go_sem, seval, reduceCtorEq, wrongV]; done))))
    exact ⟨rfl, rfl⟩
  · rw [if_neg hc] at h
    have hw : IntKind.i64.wrap ((i : Int) + 1) = ((i + 1 : Nat) : Int) := by rw [wrap_in] <;> omega
    have two : (opOf l (tokL t (i + 1))).isSome = false ∨ ((opOf l (tokL t (i + 1))).isSome = true ∧ ((tokL t (i + 2)).kind == 6) = false) := by
      cases ho : (opOf l (tokL t (i + 1))).isSome
      · exact .inl rfl
      · refine .inr ⟨rfl, ?_⟩
        cases h6 : ((tokL t (i + 2)).kind == 6)
        · rfl
        · exact absurd ⟨ho, by simpa using h6⟩ hc
    rcases two with ho | ⟨ho, h6⟩
    all_goals first
      | ((refine W.c1 (read_operator w0 l t i (tokL t (i + 1)) _ b (hG hb _)) ?_; simp only [go_sem, seval, reduceCtorEq, foundV, ho])
         (refine W.c1 (read_tok w0 l t i 2 _ b (hG hb _) (by omega) ht) ?_; simp only [go_sem, seval, reduceCtorEq, h6])
         refine W.no rfl ?_)
      | ((refine W.c1 (read_operator w0 l t i (tokL t (i + 1)) _ b (hG hb _)) ?_; simp only [go_sem, seval, reduceCtorEq, foundV, ho])
         refine W.no rfl ?_)
    all_goals
      ((try refine W.a ?_); simp only [go_sem, seval, reduceCtorEq, hG hbe, hS hb, hw])
      cases hr : innerF f l t 0 depth (i + 1) (tokL t i).pos with
      | none => rw [hr] at h; cases h
      | some y =>
        rw [hr] at h
        (refine W.call (read_inner hE l t 0 depth (i + 1) (tokL t i) y _ b hr (hG' hb _ _) (by omega) ht hd) rfl rfl (by first | rfl | simp) ?_)
        intro v σ1 hR
        cases y with
        | error x =>
          injection h with h
          subst h
          obtain ⟨he, m, k', j, rfl, rfl⟩ := hR
          ((try refine W.a ?_); simp only [go_sem, seval, reduceCtorEq, hS' hb, madeV, wrongV])
          (refine W.c1 (wrong_ok w0 x.e x.pos _) ?_; simp only [go_sem, seval, reduceCtorEq, he])
          refine W.yes rfl ?_
          ((try refine W.a ?_); simp only [go_sem, seval, reduceCtorEq])
          (apply W.dregE (List.cons_ne_nil _ _); case hc => ((apply CanonE.advPO; simp only [go_sem, seval, reduceCtorEq]); exact CanonE.nil))
          ((try refine W.a ?_); simp only [go_sem, seval, reduceCtorEq])
          (refine W.fg (rdr_ok hok b l t j) (d := .tup [Pre.none.v, wrongV x.e x.pos]) (by simp only [r120, go_sem, seval, reduceCtorEq, wrongV, Pre.none]; rfl) (by simp only [resV, go_sem, seval, reduceCtorEq, wrongV, Pre.none]; exact wk_here) ?_ (hl := by (first | exact .c _ | (simp only [go_sem, seval, reduceCtorEq, wrongV, Pre.none]; done))))
          exact ⟨he, Pre.none, j, rfl, rfl⟩
        | ok y =>
          obtain ⟨m, j⟩ := y
          obtain ⟨k', hk, rfl, rfl⟩ := hR
          have hj := innerF_bound hr
          ((try refine W.a ?_); simp only [go_sem, seval, reduceCtorEq, hS' hb, madeV, wrongV])
          (refine W.c1 (wrong_ok w0 0 0 _) ?_; simp only [go_sem, seval, reduceCtorEq])
          refine W.no rfl ?_
          ((try refine W.a ?_); simp only [go_sem, seval, reduceCtorEq])
          (refine W.c1 (read_tok w0 l t j 0 _ b (hG' hb _ _) (by omega) ht) ?_; simp only [go_sem, seval, reduceCtorEq])
          simp only at h
          cases h6 : ((tokL t j).kind == 6)
          · have h6' : ¬ (tokL t j).kind = 6 := by simpa using h6
            have h6n : ((tokL t j).kind != 6) = true := by simpa using h6
            rw [if_neg h6'] at h
            injection h with h
            subst h
            ((try refine W.a ?_); simp only [go_sem, seval, reduceCtorEq, h6n])
            refine W.yes rfl ?_
            ((try refine W.a ?_); simp only [go_sem, seval, reduceCtorEq])
            (apply W.dregE (List.cons_ne_nil _ _); case hc => ((apply CanonE.advPO; simp only [go_sem, seval, reduceCtorEq]); exact CanonE.nil))
            ((try refine W.a ?_); simp only [go_sem, seval, reduceCtorEq])
            (refine W.fg (rdr_ok hok b l t j) (d := .tup [Pre.none.v, wrongV 30 (tokL t j).pos]) (by simp only [r120, go_sem, seval, reduceCtorEq, wrongV, Pre.none]; rfl) (by simp only [resV, go_sem, seval, reduceCtorEq, wrongV, Pre.none]; exact wk_here) ?_ (hl := by (first | exact .c _ | (simp only [go_sem, seval, reduceCtorEq, wrongV, Pre.none]; done))))
            exact ⟨rfl, Pre.none, j, rfl, rfl⟩
          · have h6' : (tokL t j).kind = 6 := by simpa using h6
            have h6n : ((tokL t j).kind != 6) = false := by rw [h6']; rfl
            rw [if_pos h6'] at h
            injection h with h
            subst h
            have hw2 : IntKind.i64.wrap ((j : Int) + 1) = ((j + 1 : Nat) : Int) := by rw [wrap_in] <;> omega
            ((try refine W.a ?_); simp only [go_sem, seval, reduceCtorEq, h6n])
            refine W.no rfl ?_
            ((try refine W.a ?_); simp only [go_sem, seval, reduceCtorEq, hG' hb, hS' hb, rdr, hw2])
            (refine W.fg (rdr_ok hok b l t (j + 1)) (d := .tup [m.p.v, wrongV 0 0]) (by simp only [r120, go_sem, seval, reduceCtorEq, wrongV]; rfl) (by simp only [resV, go_sem, seval, reduceCtorEq, wrongV]; exact wk_here) ?_ (hl := by (first | exact .c _ | (simp only [go_sem, seval, reduceCtorEq, wrongV]; done))))
            exact ⟨rfl, rfl⟩
end
section

theorem atomF_eq (f : Nat) (l : List OpT) (t : List Tok) (depth i : Nat) : atomF (f + 1) l t depth i =
    if beginsL l (tokL t i) = false then some (.error ⟨30, (tokL t i).pos⟩)
    else if (tokL t i).kind = 5 then bracketsF f l t depth i
    else if (tokL t i).kind = 3 then some (.ok (.mk 2 [] (tokL t i).n [] (tokL t i).pos, i + 1))
    else if (tokL t i).kind ≠ 4 ∧ (tokL t (i + 1)).kind = 8 then
      match innerF f l t 0 depth (i + 2) (tokL t i).pos with
      | none => none
      | some (.error b) => some (.error b)
      | some (.ok (m, j)) => some (.ok (.mk 4 (tokL t i).text 0 [m.p] (tokL t i).pos, j))
    else some (.ok (.mk (if (tokL t i).kind = 2 then 1 else 0) (tokL t i).text 0 [] (tokL t i).pos, i + 1)) := by
  rw [atomF, bracketsF]
  simp only [innerF]
  by_cases hd : 200 ≤ depth
  · simp only [if_pos hd]
  · simp only [if_neg hd]
    rfl
theorem read_atom {w0 : World} {f : Nat} (hE : ExprOK w0 f) : AtomOK w0 (f + 1) := by
  intro l t depth i r σ b h hb hi ht hd
  have hlt := (List.getElem?_eq_some_iff.1 hb).1
  have hbe : σ[b]? = some (.cells [.c (opsC l), .c (toksC t), I i]) := hb
  rw [atomF_eq] at h
  refine k104.go rfl (fun hok hsz => ?_)
  ((try refine W.a ?_); simp only [go_sem, seval, reduceCtorEq, c104])
  (refine W.c1 (read_tok w0 l t i 0 _ b (hG hb _) (by omega) ht) ?_; simp only [go_sem, seval, reduceCtorEq])
  have hw : IntKind.i64.wrap ((i : Int) + 1) = ((i + 1 : Nat) : Int) := by rw [wrap_in] <;> omega
  cases hB : beginsL l (tokL t i)
  · rw [if_pos hB] at h
    injection h with h
    subst h
    (refine W.c1 (read_begins w0 l t i _ b (hG hb _) (by omega) ht) ?_; simp only [go_sem, seval, reduceCtorEq, hB])
    refine W.yes rfl ?_
    ((try refine W.a ?_); simp only [go_sem, seval, reduceCtorEq])
    (apply W.dregE (List.cons_ne_nil _ _); case hc => ((apply CanonE.advPO; simp only [go_sem, seval, reduceCtorEq]); exact CanonE.nil))
    ((try refine W.a ?_); simp only [go_sem, seval, reduceCtorEq])
    (refine W.fg (hok) (d := .tup [Pre.none.v, wrongV 30 (tokL t i).pos]) (by simp only [r104, go_sem, seval, reduceCtorEq, wrongV, Pre.none]; rfl) (by simp only [resV, go_sem, seval, reduceCtorEq, wrongV, Pre.none]; exact wk_here) ?_ (hl := by (first | exact .c _ | (simp only [go_sem, seval, reduceCtorEq, wrongV, Pre.none]; done))))
    exact ⟨rfl, Pre.none, i, rfl, (set_here hb).symm⟩
  · rw [if_neg (by rw [hB]; decide)] at h
    have hil : i < t.length := begins_lt (l := l) (by rw [hB]; decide)
    (refine W.c1 (read_begins w0 l t i _ b (hG hb _) (by omega) ht) ?_; simp only [go_sem, seval, reduceCtorEq, hB])
    refine W.no rfl ?_
    cases h5 : ((tokL t i).kind == 5)
    · rw [if_neg (by simpa using h5)] at h
      ((try refine W.a ?_); simp only [go_sem, seval, reduceCtorEq, h5])
      refine W.no rfl ?_
      cases h3 : ((tokL t i).kind == 3)
      · rw [if_neg (by simpa using h3)] at h
        ((try refine W.a ?_); simp only [go_sem, seval, reduceCtorEq, h3])
        refine W.no rfl ?_
        by_cases hc : (tokL t i).kind ≠ 4 ∧ (tokL t (i + 1)).kind = 8
        · rw [if_pos hc] at h
          obtain ⟨hc4, hc8⟩ := hc
          have h4 : ((tokL t i).kind != 4) = true := by simpa using hc4
          have hw2 : IntKind.i64.wrap ((i : Int) + 2) = ((i + 2 : Nat) : Int) := by rw [wrap_in] <;> omega
          have hi1 := tokL_lt (t := t) (i := i + 1) (by rw [hc8]; decide)
          ((try refine W.a ?_); simp only [go_sem, seval, reduceCtorEq, h4])
          (refine W.c1 (read_tok w0 l t i 1 _ b (hG hb _) (by omega) ht) ?_; simp only [go_sem, seval, reduceCtorEq, hc8])
          refine W.yes rfl ?_
          ((try refine W.a ?_); simp only [go_sem, seval, reduceCtorEq, hG hbe, hS hb, hw2])
          cases hr : innerF f l t 0 depth (i + 2) (tokL t i).pos with
          | none => rw [hr] at h; cases h
          | some y =>
            rw [hr] at h
            (refine W.call (read_inner hE l t 0 depth (i + 2) (tokL t i) y _ b hr (hG' hb _ _) (by omega) ht hd) rfl rfl (by first | rfl | simp) ?_)
            intro v σ1 hR
            cases y with
            | error x =>
              injection h with h
              subst h
              obtain ⟨he, m, k', j, rfl, rfl⟩ := hR
              ((try refine W.a ?_); simp only [go_sem, seval, reduceCtorEq, hS' hb, madeV, wrongV])
              (apply W.dregE (List.cons_ne_nil _ _); case hc => ((apply CanonE.advPO; simp only [go_sem, seval, reduceCtorEq]); exact CanonE.nil))
              ((try refine W.a ?_); simp only [go_sem, seval, reduceCtorEq])
              (refine W.fg (rdr_ok hok b l t j) (d := .tup [(Pre.mk 4 (tokL t i).text 0 [m.p] (tokL t i).pos).v, wrongV x.e x.pos]) (by simp only [r104, go_sem, seval, reduceCtorEq, wrongV]; rfl) (by simp only [resV, go_sem, seval, reduceCtorEq, wrongV]; exact wk_here) ?_ (hl := by (first | exact .c _ | (simp only [go_sem, seval, reduceCtorEq, wrongV]; done))))
              exact ⟨he, _, j, rfl, rfl⟩
            | ok y =>
              obtain ⟨m, j⟩ := y
              injection h with h
              subst h
              obtain ⟨k', hk, rfl, rfl⟩ := hR
              ((try refine W.a ?_); simp only [go_sem, seval, reduceCtorEq, hS' hb, madeV, wrongV])
              (apply W.dregE (List.cons_ne_nil _ _); case hc => ((apply CanonE.advPO; simp only [go_sem, seval, reduceCtorEq]); exact CanonE.nil))
              ((try refine W.a ?_); simp only [go_sem, seval, reduceCtorEq])
              (refine W.fg (rdr_ok hok b l t j) (d := .tup [(Pre.mk 4 (tokL t i).text 0 [m.p] (tokL t i).pos).v, wrongV 0 0]) (by simp only [r104, go_sem, seval, reduceCtorEq, wrongV]; rfl) (by simp only [resV, go_sem, seval, reduceCtorEq, wrongV]; exact wk_here) ?_ (hl := by (first | exact .c _ | (simp only [go_sem, seval, reduceCtorEq, wrongV]; done))))
              exact ⟨rfl, rfl⟩
        · rw [if_neg hc] at h
          injection h with h
          subst h
          have two : ((tokL t i).kind != 4) = false ∨ (((tokL t i).kind != 4) = true ∧ ((tokL t (i + 1)).kind == 8) = false) := by
            cases ho : ((tokL t i).kind != 4)
            · exact .inl rfl
            · refine .inr ⟨rfl, ?_⟩
              cases h6 : ((tokL t (i + 1)).kind == 8)
              · rfl
              · exact absurd ⟨by simpa using ho, by simpa using h6⟩ hc
          rcases two with ho | ⟨ho, h6⟩
          all_goals first
            | (((try refine W.a ?_); simp only [go_sem, seval, reduceCtorEq, ho])
               (refine W.c1 (read_tok w0 l t i 1 _ b (hG hb _) (by omega) ht) ?_; simp only [go_sem, seval, reduceCtorEq, h6])
               refine W.no rfl ?_)
            | (((try refine W.a ?_); simp only [go_sem, seval, reduceCtorEq, ho])
               refine W.no rfl ?_)
          all_goals
            cases h2 : ((tokL t i).kind == 2)
            · have h2' : ¬ (tokL t i).kind = 2 := by simpa using h2
              ((try refine W.a ?_); simp only [go_sem, seval, reduceCtorEq, h2])
              refine W.no rfl ?_
              ((try refine W.a ?_); simp only [go_sem, seval, reduceCtorEq, hG hbe, hS hb, hw])
              (refine W.fg (rdr_ok hok b l t (i + 1)) (d := .tup [(Pre.mk 0 (tokL t i).text 0 [] (tokL t i).pos).v, wrongV 0 0]) (by simp only [r104, go_sem, seval, reduceCtorEq, wrongV]; rfl) (by simp only [resV, go_sem, seval, reduceCtorEq, wrongV]; exact wk_here) ?_ (hl := by (first | exact .c _ | (simp only [go_sem, seval, reduceCtorEq, wrongV]; done))))
              exact ⟨by rw [if_neg h2'], rfl⟩
            · have h2' : (tokL t i).kind = 2 := by simpa using h2
              ((try refine W.a ?_); simp only [go_sem, seval, reduceCtorEq, h2])
              refine W.yes rfl ?_
              ((try refine W.a ?_); simp only [go_sem, seval, reduceCtorEq, hG hbe, hS hb, hw])
              (refine W.fg (rdr_ok hok b l t (i + 1)) (d := .tup [(Pre.mk 1 (tokL t i).text 0 [] (tokL t i).pos).v, wrongV 0 0]) (by simp only [r104, go_sem, seval, reduceCtorEq, wrongV]; rfl) (by simp only [resV, go_sem, seval, reduceCtorEq, wrongV]; exact wk_here) ?_ (hl := by (first | exact .c _ | (simp only [go_sem, seval, reduceCtorEq, wrongV]; done))))
              exact ⟨by rw [if_pos h2'], rfl⟩
      · rw [if_pos (by simpa using h3)] at h
        injection h with h
        subst h
        ((try refine W.a ?_); simp only [go_sem, seval, reduceCtorEq, h3])
        refine W.yes rfl ?_
        ((try refine W.a ?_); simp only [go_sem, seval, reduceCtorEq, hG hbe, hS hb, hw])
        (refine W.fg (rdr_ok hok b l t (i + 1)) (d := .tup [(Pre.mk 2 [] (tokL t i).n [] (tokL t i).pos).v, wrongV 0 0]) (by simp only [r104, go_sem, seval, reduceCtorEq, wrongV]; rfl) (by simp only [resV, go_sem, seval, reduceCtorEq, wrongV]; exact wk_here) ?_ (hl := by (first | exact .c _ | (simp only [go_sem, seval, reduceCtorEq, wrongV]; done))))
        exact ⟨rfl, rfl⟩
    · rw [if_pos (by simpa using h5)] at h
      ((try refine W.a ?_); simp only [go_sem, seval, reduceCtorEq, h5])
      refine W.yes rfl ?_
      ((try refine W.a ?_); simp only [go_sem, seval, reduceCtorEq])
      (refine W.call (read_brackets hE l t depth i r _ b h (hG hb _) hil ht hd) rfl rfl (by first | rfl | simp) ?_)
      intro v σ1 hR
      cases r with
      | ok x =>
        obtain ⟨rfl, rfl⟩ := hR
        ((try refine W.a ?_); simp only [go_sem, seval, reduceCtorEq, hS hb, wrongV])
        (refine W.fg (rdr_ok hok b l t x.2) (d := .tup [x.1.v, wrongV 0 0]) (by simp only [r104, go_sem, seval, reduceCtorEq, wrongV]; rfl) (by simp only [resV, go_sem, seval, reduceCtorEq, wrongV]; exact wk_here) ?_ (hl := by (first | exact .c _ | (simp only [go_sem, seval, reduceCtorEq, wrongV]; done))))
        exact ⟨rfl, rfl⟩
      | error x =>
        obtain ⟨he, q, j, rfl, rfl⟩ := hR
        ((try refine W.a ?_); simp only [go_sem, seval, reduceCtorEq, hS hb, wrongV])
        (refine W.fg (rdr_ok hok b l t j) (d := .tup [q.v, wrongV x.e x.pos]) (by simp only [r104, go_sem, seval, reduceCtorEq, wrongV]; rfl) (by simp only [resV, go_sem, seval, reduceCtorEq, wrongV]; exact wk_here) ?_ (hl := by (first | exact .c _ | (simp only [go_sem, seval, reduceCtorEq, wrongV]; done))))
        exact ⟨he, q, j, rfl, rfl⟩
end
section

def operandF (f : Nat) (l : List OpT) (t : List Tok) (depth i : Nat) : Option (Except Bad (Pre × Nat)) := match atomF f l t depth i with
  | none => none
  | some (.error b) => some (.error b)
  | some (.ok (p, j)) => argsF f l t depth j p p.pos (lamAt t i)
theorem operandF_bound {f : Nat} {l : List OpT} {t : List Tok} {depth i : Nat} {p : Pre} {j : Nat} (h : operandF f l t depth i = some (.ok (p, j))) : i < j ∧ j ≤ t.length := by
  rw [operandF] at h
  cases ha : atomF f l t depth i with
  | none => rw [ha] at h; cases h
  | some x =>
    rw [ha] at h
    cases x with
    | error b => cases h
    | ok x =>
      have h1 := (fuel_bounds f).1 _ _ _ _ _ _ ha
      have h2 := (fuel_bounds f).2.1 _ _ _ _ _ _ _ _ _ h h1.2
      omega
structure ArgsSt where
  g : Nat
  p : Pre
  i : Nat
  last : Bool
  e : Int
  pos : Int
theorem read_operand {w0 : World} {f : Nat} (hA : ∀ g, g ≤ f → AtomOK w0 g) (l : List OpT) (t : List Tok) (depth i : Nat) (r : Except Bad (Pre × Nat)) (σ : H) (b : Nat) (h : operandF f l t depth i = some r) (hb : σ[b]? = some (rdr l t i)) (hi : i ≤ t.length) (ht : t.length ≤ 1000000) (hd : depth ≤ 200) :
    DC Tryz.prog w0 77 [.ptr b 0, I depth] σ (RAtom l t σ b r) := by
  have hlt := (List.getElem?_eq_some_iff.1 hb).1
  have hbe : σ[b]? = some (.cells [.c (opsC l), .c (toksC t), I i]) := hb
  rw [operandF] at h
  refine k77.go rfl (fun hok hsz => ?_)
  ((try refine W.a ?_); simp only [go_sem, seval, reduceCtorEq, c77])
  (refine W.c1 (read_lambda w0 l t i _ b (hG hb _) (by omega) ht) ?_; simp only [go_sem, seval, reduceCtorEq])
  cases ha : atomF f l t depth i with
  | none => rw [ha] at h; cases h
  | some ra =>
    rw [ha] at h
    (refine W.call (hA f (Nat.le_refl f) l t depth i ra _ b ha (hG hb _) hi ht hd) rfl rfl (by first | rfl | simp) ?_)
    intro v σ1 hR
    have hx : ∃ x : ArgsSt, (x.e = 0 ∧ x.pos = 0 ∧ argsF x.g l t depth x.i x.p x.p.pos x.last = some r ∧ x.i ≤ t.length ∧ x.g ≤ f ∨ (x.e == 0) = false ∧ r = .error ⟨x.e, x.pos⟩) ∧ x.last = lamAt t i ∧
        v = .tup [x.p.v, wrongV x.e x.pos] ∧ σ1 = (σ ++ [Blk.cells [I 0, S [], I 0, .csl [], I 0], Blk.cells [I 0, I 0]]).set b (rdr l t x.i) := by
      cases ra with
      | ok y =>
        obtain ⟨rfl, rfl⟩ := hR
        exact ⟨⟨f, y.1, y.2, lamAt t i, 0, 0⟩, .inl ⟨rfl, rfl, h, ((fuel_bounds f).1 _ _ _ _ _ _ ha).2, Nat.le_refl f⟩, rfl, rfl, rfl⟩
      | error y =>
        obtain ⟨he, q, j, rfl, rfl⟩ := hR
        injection h with h
        exact ⟨⟨0, q, j, lamAt t i, y.e, y.pos⟩, .inr ⟨he, h.symm⟩, rfl, rfl, rfl⟩
    obtain ⟨x0, hinv0, hl0, rfl, rfl⟩ := hx
    ((try refine W.a ?_); simp only [go_sem, seval, reduceCtorEq, hS hb, wrongV])
    rw [← hl0]
    refine W.loopP (fun x : ArgsSt => (x.e = 0 ∧ x.pos = 0 ∧ argsF x.g l t depth x.i x.p x0.p.pos x.last = some r ∧ x.i ≤ t.length ∧ x.g ≤ f ∨ (x.e == 0) = false ∧ r = .error ⟨x.e, x.pos⟩))
      (fun x => ⟨((((((((base.put (some 0) (.ptr b 0)).put (some 1) (I depth)).put (some 4) (.ptr σ.length 0)).put (some 5) (.ptr (σ.length + 1) 0)).put (some 6) (B x.last)).put (some 7) (.ptr (σ.length + 2) 0)).put (some 8) (.ptr (σ.length + 3) 0)).put (some 9) (I x0.p.pos)), σ.set b (rdr l t x.i) ++ [.cells [I 0, S [], I 0, .csl [], I 0], .cells [I 0, I 0], .cells x.p.v.cellsV, .cells [I x.e, I x.pos]]⟩)
      (fun x => if x.e = 0 then x.g + 1 else 0) x0 hinv0 ?_ (fun x hx => ?_)
    · (refine Lew.env ?_; exact lee_here)
    · obtain ⟨g, p, i', last, e, pos⟩ := x
      simp only at hx
      rcases hx with ⟨rfl, rfl, hx, hi', hg⟩ | ⟨he, rfl⟩
      · obtain ⟨g', rfl⟩ : ∃ g', g = g' + 1 := by
          cases g with
          | zero => simp [argsF] at hx
          | succ g' => exact ⟨g', rfl⟩
        rw [argsF] at hx
        ((try refine W.a ?_); simp only [go_sem, seval, reduceCtorEq])
        by_cases hc : last = true ∨ beginsL l (tokL t i') = false
        · rw [if_pos hc] at hx
          injection hx with hx
          subst hx
          have two : last = true ∨ (last = false ∧ beginsL l (tokL t i') = false) := by
            cases last
            · exact .inr ⟨rfl, by simpa using hc⟩
            · exact .inl rfl
          rcases two with rfl | ⟨rfl, hB⟩
          all_goals first
            | ((refine W.c1 (wrong_ok w0 0 0 _) ?_; simp only [go_sem, seval, reduceCtorEq])
               (refine W.c1 (read_begins w0 l t i' _ b (hG' hb _ _) (by omega) ht) ?_; simp only [go_sem, seval, reduceCtorEq, hB])
               refine W.no rfl ?_)
            | ((refine W.c1 (wrong_ok w0 0 0 _) ?_; simp only [go_sem, seval, reduceCtorEq])
               refine W.no rfl ?_)
          all_goals
            ((try refine W.a ?_); simp only [go_sem, seval, reduceCtorEq])
            (apply W.dregE (List.cons_ne_nil _ _); case hc => ((apply CanonE.advPO; simp only [go_sem, seval, reduceCtorEq]); exact CanonE.nil))
            ((try refine W.a ?_); simp only [go_sem, seval, reduceCtorEq])
            (refine W.fg (rdr_ok hok b l t i') (d := .tup [p.v, wrongV 0 0]) (by simp only [r77, go_sem, seval, reduceCtorEq, wrongV]; rfl) (by simp only [resV, go_sem, seval, reduceCtorEq, wrongV]; exact wk_here) ?_ (hl := by (first | exact .c _ | (simp only [go_sem, seval, reduceCtorEq, wrongV]; done))))
            exact ⟨rfl, rfl⟩
        · rw [if_neg hc] at hx
          have hl : last = false := by cases last; rfl; exact absurd (.inl rfl) hc
          have hB : beginsL l (tokL t i') = true := by
            cases h : beginsL l (tokL t i')
            · exact absurd (.inr h) hc
            · rfl
          subst hl
          have hil : i' < t.length := begins_lt (l := l) (by rw [hB]; decide)
          (refine W.c1 (wrong_ok w0 0 0 _) ?_; simp only [go_sem, seval, reduceCtorEq])
          (refine W.c1 (read_begins w0 l t i' _ b (hG' hb _ _) (by omega) ht) ?_; simp only [go_sem, seval, reduceCtorEq, hB])
          refine W.yes rfl ?_
          ((try refine W.a ?_); simp only [go_sem, seval, reduceCtorEq])
          (refine W.c1 (read_lambda w0 l t i' _ b (hG' hb _ _) (by omega) ht) ?_; simp only [go_sem, seval, reduceCtorEq])
          cases ha' : atomF g' l t depth i' with
          | none => rw [ha'] at hx; cases hx
          | some ra' =>
            rw [ha'] at hx
            (refine W.call (hA g' (by omega) l t depth i' ra' _ b ha' (hG' hb _ _) hi' ht hd) rfl rfl (by first | rfl | simp) ?_)
            intro v σ1 hR
            cases ra' with
            | ok y =>
              obtain ⟨q, j⟩ := y
              obtain ⟨rfl, rfl⟩ := hR
              ((try refine W.a ?_); simp only [go_sem, seval, reduceCtorEq, hS' hb, wrongV])
              refine .inv ⟨⟨g', Pre.app p q x0.p.pos, j, lamAt t i', 0, 0⟩, .inl ⟨rfl, rfl, hx, ((fuel_bounds g').1 _ _ _ _ _ _ ha').2, Nat.le_of_succ_le hg⟩, by simp, ?_⟩
              simp only [go_sem, seval, reduceCtorEq]
              (refine Lew.cutL (rdr_ok hok b l t j) ?_ (by simp) (by simp) ?_ ?_ ?_; exact lee_here; ((try simp only [okB, wkB, go_sem, seval, reduceCtorEq]) <;> omega); (simp only [List.length_cons, List.length_nil, Nat.reduceAdd, List.take_succ_cons, List.take_zero, wkB, and_true]; (repeat' (refine And.intro ?_ ?_)) <;> (first | exact Blk.wk.rfl _ | exact Blk.wk.gone _ | (refine Blk.wk_cells ?_ rfl; (exact wk_here)))); (repeat' (first | exact LowE.base _ | (refine LowE.put ?_ (by first | exact .c _ | ((try simp only [okB, wkB, go_sem, seval, reduceCtorEq]) <;> omega))))))
            | error y =>
              obtain ⟨he, q, j, rfl, rfl⟩ := hR
              injection hx with hx
              subst hx
              have he' : ¬ y.e = 0 := by simpa using he
              ((try refine W.a ?_); simp only [go_sem, seval, reduceCtorEq, hS' hb, wrongV])
              refine .inv ⟨⟨g', Pre.app p q x0.p.pos, j, lamAt t i', y.e, y.pos⟩, .inr ⟨he, rfl⟩, by simp [he'], ?_⟩
              simp only [go_sem, seval, reduceCtorEq]
              (refine Lew.cutL (rdr_ok hok b l t j) ?_ (by simp) (by simp) ?_ ?_ ?_; exact lee_here; ((try simp only [okB, wkB, go_sem, seval, reduceCtorEq]) <;> omega); (simp only [List.length_cons, List.length_nil, Nat.reduceAdd, List.take_succ_cons, List.take_zero, wkB, and_true]; (repeat' (refine And.intro ?_ ?_)) <;> (first | exact Blk.wk.rfl _ | exact Blk.wk.gone _ | (refine Blk.wk_cells ?_ rfl; (exact wk_here)))); (repeat' (first | exact LowE.base _ | (refine LowE.put ?_ (by first | exact .c _ | ((try simp only [okB, wkB, go_sem, seval, reduceCtorEq]) <;> omega))))))
      · ((try refine W.a ?_); simp only [go_sem, seval, reduceCtorEq])
        (refine W.c1 (wrong_ok w0 e pos _) ?_; simp only [go_sem, seval, reduceCtorEq, he])
        refine W.no rfl ?_
        ((try refine W.a ?_); simp only [go_sem, seval, reduceCtorEq])
        (apply W.dregE (List.cons_ne_nil _ _); case hc => ((apply CanonE.advPO; simp only [go_sem, seval, reduceCtorEq]); exact CanonE.nil))
        ((try refine W.a ?_); simp only [go_sem, seval, reduceCtorEq])
        (refine W.fg (rdr_ok hok b l t i') (d := .tup [p.v, wrongV e pos]) (by simp only [r77, go_sem, seval, reduceCtorEq, wrongV]; rfl) (by simp only [resV, go_sem, seval, reduceCtorEq, wrongV]; exact wk_here) ?_ (hl := by (first | exact .c _ | (simp only [go_sem, seval, reduceCtorEq, wrongV]; done))))
        exact ⟨he, p, i', rfl, rfl⟩
end
section

theorem exprF_eq (f : Nat) (l : List OpT) (t : List Tok) (least : Int) (depth i : Nat) : exprF (f + 1) l t least depth i = match operandF f l t depth i with
    | none => none
    | some (.error b) => some (.error b)
    | some (.ok (q, k)) => chainF f l t least depth k ⟨q, none⟩ := by
  rw [exprF, operandF]
  cases atomF f l t depth i with
  | none => rfl
  | some x =>
    cases x with
    | error b => rfl
    | ok x =>
      simp only
      cases argsF f l t depth x.2 x.1 x.1.pos (lamAt t i) with
      | none => rfl
      | some y =>
        cases y with
        | error b => rfl
        | ok y => rfl
theorem chainF_eq (f : Nat) (l : List OpT) (t : List Tok) (least : Int) (depth i : Nat) (m : Made) : chainF (f + 1) l t least depth i m = match opOf l (tokL t i) with
    | none => some (.ok (m, i))
    | some o => if o.prec < least then some (.ok (m, i))
      else if clashL o m = true then some (.error ⟨32, (tokL t i).pos⟩)
      else match innerF f l t (nextL o) depth (i + 1) (tokL t i).pos with
        | none => none
        | some (.error b) => some (.error b)
        | some (.ok (r, j)) => match r.by_ with
          | some (b, pos) => if besideL o b 2 = true then chainF f l t least depth j ⟨applyL o (tokL t i).pos m.p r.p, some (o, (tokL t i).pos)⟩ else some (.error ⟨32, pos⟩)
          | none => chainF f l t least depth j ⟨applyL o (tokL t i).pos m.p r.p, some (o, (tokL t i).pos)⟩ := by
  rw [chainF]
  cases opOf l (tokL t i) with
  | none => rfl
  | some o =>
    simp only [innerF]
    by_cases hd : 200 ≤ depth
    · simp only [if_pos hd]
    · simp only [if_neg hd]
      rfl
structure ChainSt where
  g : Nat
  m : Made
  k : Tok
  i : Nat
  e : Int
  pos : Int
theorem byC_none {m : Made} (h : m.by_ = none) : byC m = .nilp := by rw [byC, h]
theorem byC_some {m : Made} {o : OpT} {p : Int} (h : m.by_ = some (o, p)) : byC m = .ref [.str o.name, .int .i64 o.prec, .int .i64 o.fix] 0 := by rw [byC, h]; rfl
theorem clash_none {o : OpT} {m : Made} (h : m.by_ = none) : clashL o m = false := by rw [clashL, h]
theorem clash_some {o o' : OpT} {p : Int} {m : Made} (h : m.by_ = some (o', p)) : clashL o m = !besideL o o' 1 := by rw [clashL, h]
set_option maxHeartbeats 4000000 in
theorem read_expr {w0 : World} {f : Nat} (hA : ∀ g, g ≤ f → AtomOK w0 g) (hE : ∀ g, g ≤ f → ExprOK w0 g) : ExprOK w0 (f + 1) := by
  intro l t least depth i r σ b h hb hi ht hd
  have hlt := (List.getElem?_eq_some_iff.1 hb).1
  have hbe : σ[b]? = some (.cells [.c (opsC l), .c (toksC t), I i]) := hb
  rw [exprF_eq] at h
  refine k37.go rfl (fun hok hsz => ?_)
  ((try refine W.a ?_); simp only [go_sem, seval, reduceCtorEq, c37])
  cases ha : operandF f l t depth i with
  | none => rw [ha] at h; cases h
  | some ra =>
    rw [ha] at h
    (refine W.call (read_operand hA l t depth i ra _ b ha (hG hb _) hi ht hd) rfl rfl (by first | rfl | simp) ?_)
    intro v σ1 hR
    have hx : ∃ x : ChainSt, (x.e = 0 ∧ x.pos = 0 ∧ chainF x.g l t least depth x.i x.m = some r ∧ x.i ≤ t.length ∧ x.g ≤ f ∧ fitsK x.m x.k ∨ (x.e == 0) = false ∧ r = .error ⟨x.e, x.pos⟩) ∧ x.m.by_ = none ∧ x.k = Tok.zero ∧
        v = .tup [x.m.p.v, wrongV x.e x.pos] ∧ σ1 = (σ ++ [Blk.cells [I 0, S [], I 0, .csl [], I 0, .c .nilp, I 0, S [], I 0, I 0], Blk.cells [I 0, I 0]]).set b (rdr l t x.i) := by
      cases ra with
      | ok y =>
        obtain ⟨rfl, rfl⟩ := hR
        exact ⟨⟨f, ⟨y.1, none⟩, Tok.zero, y.2, 0, 0⟩, .inl ⟨rfl, rfl, h, (operandF_bound ha).2, Nat.le_refl f, fun o p h => by cases h⟩, rfl, rfl, rfl, rfl⟩
      | error y =>
        obtain ⟨he, q, j, rfl, rfl⟩ := hR
        injection h with h
        exact ⟨⟨0, ⟨q, none⟩, Tok.zero, j, y.e, y.pos⟩, .inr ⟨he, h.symm⟩, rfl, rfl, rfl, rfl⟩
    obtain ⟨x0, hinv0, hby0, hk0, rfl, rfl⟩ := hx
    ((try refine W.a ?_); simp only [go_sem, seval, reduceCtorEq, hS hb, wrongV])
    refine W.loopP (fun x : ChainSt => (x.e = 0 ∧ x.pos = 0 ∧ chainF x.g l t least depth x.i x.m = some r ∧ x.i ≤ t.length ∧ x.g ≤ f ∧ fitsK x.m x.k ∨ (x.e == 0) = false ∧ r = .error ⟨x.e, x.pos⟩))
      (fun x => ⟨(((((((base.put (some 0) (.ptr b 0)).put (some 1) (I least)).put (some 2) (I depth)).put (some 6) (.ptr σ.length 0)).put (some 7) (.ptr (σ.length + 1) 0)).put (some 9) (.ptr (σ.length + 3) 0)).put (some 10) (.ptr (σ.length + 4) 0)), σ.set b (rdr l t x.i) ++ [.cells [I 0, S [], I 0, .csl [], I 0, .c .nilp, I 0, S [], I 0, I 0], .cells [I 0, I 0], .cells x0.m.p.v.cellsV, .cells [I x.e, I x.pos], .cells (madeV x.m x.k).cellsV]⟩)
      (fun x => if x.e = 0 then x.g + 1 else 0) x0 hinv0 ?_ (fun x hx => ?_)
    · simp only [go_sem, seval, reduceCtorEq, madeV, byC_none hby0, hk0, Tok.zero]
      (refine Lew.env ?_; exact lee_here)
    · obtain ⟨g, m, k, i', e, pos⟩ := x
      simp only at hx
      rcases hx with ⟨rfl, rfl, hx, hi', hg, hfit⟩ | ⟨he, rfl⟩
      · obtain ⟨g', rfl⟩ : ∃ g', g = g' + 1 := by
          cases g with
          | zero => simp [chainF] at hx
          | succ g' => exact ⟨g', rfl⟩
        rw [chainF_eq] at hx
        ((try refine W.a ?_); simp only [go_sem, seval, reduceCtorEq, madeV])
        (refine W.c1 (wrong_ok w0 0 0 _) ?_; simp only [go_sem, seval, reduceCtorEq])
        refine W.yes rfl ?_
        ((try refine W.a ?_); simp only [go_sem, seval, reduceCtorEq])
        (refine W.c1 (read_tok w0 l t i' 0 _ b (hG' hb _ _) (by omega) ht) ?_; simp only [go_sem, seval, reduceCtorEq])
        cases ho : opOf l (tokL t i') with
        | none =>
          rw [ho] at hx
          injection hx with hx
          subst hx
          (refine W.c1 (read_operator w0 l t i' (tokL t i') _ b (hG' hb _ _)) ?_; simp only [go_sem, seval, reduceCtorEq, foundV, ho, Option.isSome_none, Option.getD_none])
          refine W.yes rfl ?_
          ((try refine W.a ?_); simp only [go_sem, seval, reduceCtorEq])
          (apply W.dregE (List.cons_ne_nil _ _); case hc => ((apply CanonE.advPO; simp only [go_sem, seval, reduceCtorEq]); exact CanonE.nil))
          ((try refine W.a ?_); simp only [go_sem, seval, reduceCtorEq])
          (refine W.fg (rdr_ok hok b l t i') (d := .tup [madeV m k, wrongV 0 0]) (by simp only [r37, go_sem, seval, reduceCtorEq, madeV, wrongV]; rfl) (by simp only [resV, go_sem, seval, reduceCtorEq, madeV, wrongV]; exact wk_here) ?_ (hl := by (first | exact .c _ | (simp only [go_sem, seval, reduceCtorEq, madeV, wrongV]; done))))
          exact ⟨k, hfit, rfl, rfl⟩
        | some o =>
          rw [ho] at hx
          simp only at hx
          by_cases hp : o.prec < least
          · rw [if_pos hp] at hx
            injection hx with hx
            subst hx
            (refine W.c1 (read_operator w0 l t i' (tokL t i') _ b (hG' hb _ _)) ?_; simp only [go_sem, seval, reduceCtorEq, foundV, ho, Option.isSome_some, Option.getD_some, hp])
            refine W.yes rfl ?_
            ((try refine W.a ?_); simp only [go_sem, seval, reduceCtorEq])
            (apply W.dregE (List.cons_ne_nil _ _); case hc => ((apply CanonE.advPO; simp only [go_sem, seval, reduceCtorEq]); exact CanonE.nil))
            ((try refine W.a ?_); simp only [go_sem, seval, reduceCtorEq])
            (refine W.fg (rdr_ok hok b l t i') (d := .tup [madeV m k, wrongV 0 0]) (by simp only [r37, go_sem, seval, reduceCtorEq, madeV, wrongV]; rfl) (by simp only [resV, go_sem, seval, reduceCtorEq, madeV, wrongV]; exact wk_here) ?_ (hl := by (first | exact .c _ | (simp only [go_sem, seval, reduceCtorEq, madeV, wrongV]; done))))
            exact ⟨k, hfit, rfl, rfl⟩
          · rw [if_neg hp] at hx
            (refine W.c1 (read_operator w0 l t i' (tokL t i') _ b (hG' hb _ _)) ?_; simp only [go_sem, seval, reduceCtorEq, foundV, ho, Option.isSome_some, Option.getD_some, hp])
            refine W.no rfl ?_
            ((try refine W.a ?_); simp only [go_sem, seval, reduceCtorEq])
            have hil : i' < t.length := opOf_lt ho
            have hw : IntKind.i64.wrap ((i' : Int) + 1) = ((i' + 1 : Nat) : Int) := by rw [wrap_in] <;> omega
            cases hcl : clashL o m
            · rw [if_neg (by rw [hcl]; decide)] at hx
              have two : byC m = .nilp ∨ ∃ o' p', m.by_ = some (o', p') ∧ besideL o o' 1 = true := by
                cases hby : m.by_ with
                | none => exact .inl (byC_none hby)
                | some y =>
                  obtain ⟨o', p'⟩ := y
                  rw [clash_some hby] at hcl
                  exact .inr ⟨o', p', rfl, by simpa using hcl⟩
              rcases two with hz | ⟨o', p', hby, hbes⟩
              all_goals first
                | (apply W.dreg
                   case hc => ((apply Canon.advCO; simp only [advCO_nil, advCO_cons, cG_yes, cG_no, cS_some, cS_loud, go_sem, seval, reduceCtorEq, byC_some hby]); (apply Canon.call (ops_Left w0 o o' _); (case hg => rfl); (case hf => rfl); (case ha => first | rfl | simp)); (apply Canon.advCO; simp only [advCO_nil, advCO_cons, cG_yes, cG_no, cS_some, cS_loud, go_sem, seval, reduceCtorEq, hbes]); exact Canon.nil))
                | (apply W.dreg
                   case hc => ((apply Canon.advCO; simp only [advCO_nil, advCO_cons, cG_yes, cG_no, cS_some, cS_loud, go_sem, seval, reduceCtorEq, hz]); exact Canon.nil))
              all_goals
                ((try refine W.a ?_); simp only [go_sem, seval, reduceCtorEq])
                refine W.no rfl ?_
                have hin := fun y σx (hb' : σx[b]? = some (rdr l t (i' + 1))) (hr : innerF g' l t (nextL o) depth (i' + 1) (tokL t i').pos = some y) => read_inner (hE g' (by omega)) l t (nextL o) depth (i' + 1) (tokL t i') y σx b hr hb' (by omega) ht hd
                have two : (nextL o = IntKind.i64.wrap (o.prec + 1) ∧ (o.fix == 2) = false) ∨ (nextL o = o.prec ∧ (o.fix == 2) = true) := by
                  rw [nextL]
                  cases h : (o.fix == 2)
                  · exact .inl ⟨if_neg (by simpa using h), rfl⟩
                  · exact .inr ⟨if_pos (by simpa using h), rfl⟩
                rcases two with ⟨hn, hfix⟩ | ⟨hn, hfix⟩
                all_goals first
                  | (((try refine W.a ?_); simp only [go_sem, seval, reduceCtorEq, hG' hb, hS' hb, rdr, hw, hfix])
                     refine W.no rfl ?_)
                  | (((try refine W.a ?_); simp only [go_sem, seval, reduceCtorEq, hG' hb, hS' hb, rdr, hw, hfix])
                     refine W.yes rfl ?_)
                all_goals
                  ((try refine W.a ?_); simp only [go_sem, seval, reduceCtorEq])
                  rw [hn] at hin
                  cases hr : innerF g' l t (nextL o) depth (i' + 1) (tokL t i').pos with
                  | none => rw [hr] at hx; cases hx
                  | some y =>
                    rw [hr] at hx
                    rw [hn] at hr
                    (refine W.call (hin y _ (hG' hb _ _) hr) rfl rfl (by first | rfl | simp) ?_)
                    intro v σ1 hR
                    cases y with
                    | error x =>
                      injection hx with hx
                      subst hx
                      obtain ⟨he, m', k', j, rfl, rfl⟩ := hR
                      have he' : ¬ x.e = 0 := by simpa using he
                      ((try refine W.a ?_); simp only [go_sem, seval, reduceCtorEq, hS' hb, madeV, wrongV])
                      apply W.dreg
                      case hc => ((apply Canon.advCO; simp only [advCO_nil, advCO_cons, cG_yes, cG_no, cS_some, cS_loud, go_sem, seval, reduceCtorEq]); (apply Canon.call (wrong_ok w0 x.e x.pos _); (case hg => rfl); (case hf => rfl); (case ha => first | rfl | simp)); (apply Canon.advCO; simp only [advCO_nil, advCO_cons, cG_yes, cG_no, cS_some, cS_loud, go_sem, seval, reduceCtorEq, he]); exact Canon.nil)
                      ((try refine W.a ?_); simp only [go_sem, seval, reduceCtorEq])
                      refine W.no rfl ?_
                      ((try refine W.a ?_); simp only [go_sem, seval, reduceCtorEq])
                      refine W.frz 12 (by rfl) (by simp only [go_sem, seval, reduceCtorEq]; rfl) (by rfl) ?_
                      ((try refine W.a ?_); simp only [go_sem, seval, reduceCtorEq])
                      apply W.dregE (List.cons_ne_nil _ _)
                      case hc =>
                        (apply CanonE.advPO; simp only [go_sem, seval, reduceCtorEq])
                        (apply CanonE.call (read_apply w0 o (tokL t i').pos m.p m'.p _); (case hg => rfl); (case hf => rfl); (case ha => first | rfl | simp))
                        (apply CanonE.advPO; simp only [go_sem, seval, reduceCtorEq])
                        exact CanonE.nil
                      ((try refine W.a ?_); simp only [go_sem, seval, reduceCtorEq])
                      refine .inv ⟨⟨0, ⟨applyL o (tokL t i').pos m.p m'.p, some (o, (tokL t i').pos)⟩, tokL t i', j, x.e, x.pos⟩, .inr ⟨he, rfl⟩, by simp [he'], ?_⟩
                      simp only [go_sem, seval, reduceCtorEq, madeV, byC]
                      (refine Lew.cutL (rdr_ok hok b l t j) ?_ (by simp) (by simp) ?_ ?_ ?_; exact lee_here; ((try simp only [okB, wkB, go_sem, seval, reduceCtorEq]) <;> omega); (simp only [List.length_cons, List.length_nil, Nat.reduceAdd, List.take_succ_cons, List.take_zero, wkB, and_true]; (repeat' (refine And.intro ?_ ?_)) <;> (first | exact Blk.wk.rfl _ | exact Blk.wk.gone _ | (refine Blk.wk_cells ?_ rfl; (exact wk_here)))); (repeat' (first | exact LowE.base _ | (refine LowE.put ?_ (by first | exact .c _ | ((try simp only [okB, wkB, go_sem, seval, reduceCtorEq]) <;> omega))))))
                    | ok y =>
                      obtain ⟨m', j⟩ := y
                      obtain ⟨k', hfit', rfl, rfl⟩ := hR
                      have hj := (innerF_bound hr).2
                      simp only at hx
                      ((try refine W.a ?_); simp only [go_sem, seval, reduceCtorEq, hS' hb, madeV, wrongV])
                      cases hby' : m'.by_ with
                      | none =>
                        rw [hby'] at hx
                        have hz' := byC_none hby'
                        apply W.dreg
                        case hc => ((apply Canon.advCO; simp only [advCO_nil, advCO_cons, cG_yes, cG_no, cS_some, cS_loud, go_sem, seval, reduceCtorEq]); (apply Canon.call (wrong_ok w0 0 0 _); (case hg => rfl); (case hf => rfl); (case ha => first | rfl | simp)); (apply Canon.advCO; simp only [advCO_nil, advCO_cons, cG_yes, cG_no, cS_some, cS_loud, go_sem, seval, reduceCtorEq, hz']); exact Canon.nil)
                        ((try refine W.a ?_); simp only [go_sem, seval, reduceCtorEq])
                        refine W.no rfl ?_
                        ((try refine W.a ?_); simp only [go_sem, seval, reduceCtorEq])
                        refine W.frz 12 (by rfl) (by simp only [go_sem, seval, reduceCtorEq]; rfl) (by rfl) ?_
                        ((try refine W.a ?_); simp only [go_sem, seval, reduceCtorEq])
                        apply W.dregE (List.cons_ne_nil _ _)
                        case hc =>
                          (apply CanonE.advPO; simp only [go_sem, seval, reduceCtorEq])
                          (apply CanonE.call (read_apply w0 o (tokL t i').pos m.p m'.p _); (case hg => rfl); (case hf => rfl); (case ha => first | rfl | simp))
                          (apply CanonE.advPO; simp only [go_sem, seval, reduceCtorEq])
                          exact CanonE.nil
                        ((try refine W.a ?_); simp only [go_sem, seval, reduceCtorEq])
                        refine .inv ⟨⟨g', ⟨applyL o (tokL t i').pos m.p m'.p, some (o, (tokL t i').pos)⟩, tokL t i', j, 0, 0⟩, .inl ⟨rfl, rfl, hx, hj, Nat.le_of_succ_le hg, fun o p h => by injection h with h; injection h⟩, by simp [], ?_⟩
                        simp only [go_sem, seval, reduceCtorEq, madeV, byC]
                        (refine Lew.cutL (rdr_ok hok b l t j) ?_ (by simp) (by simp) ?_ ?_ ?_; exact lee_here; ((try simp only [okB, wkB, go_sem, seval, reduceCtorEq]) <;> omega); (simp only [List.length_cons, List.length_nil, Nat.reduceAdd, List.take_succ_cons, List.take_zero, wkB, and_true]; (repeat' (refine And.intro ?_ ?_)) <;> (first | exact Blk.wk.rfl _ | exact Blk.wk.gone _ | (refine Blk.wk_cells ?_ rfl; (exact wk_here)))); (repeat' (first | exact LowE.base _ | (refine LowE.put ?_ (by first | exact .c _ | ((try simp only [okB, wkB, go_sem, seval, reduceCtorEq]) <;> omega))))))
                      | some y =>
                        obtain ⟨o2, p2⟩ := y
                        rw [hby'] at hx
                        simp only at hx
                        have hz' := byC_some hby'
                        cases hb2 : besideL o o2 2
                        · rw [if_neg (by rw [hb2]; decide)] at hx
                          injection hx with hx
                          subst hx
                          have hpk := hfit' _ _ hby'
                          apply W.dreg
                          case hc => ((apply Canon.advCO; simp only [advCO_nil, advCO_cons, cG_yes, cG_no, cS_some, cS_loud, go_sem, seval, reduceCtorEq]); (apply Canon.call (wrong_ok w0 0 0 _); (case hg => rfl); (case hf => rfl); (case ha => first | rfl | simp)); (apply Canon.advCO; simp only [advCO_nil, advCO_cons, cG_yes, cG_no, cS_some, cS_loud, go_sem, seval, reduceCtorEq, hz']); (apply Canon.call (ops_Right w0 o o2 _); (case hg => rfl); (case hf => rfl); (case ha => first | rfl | simp)); (apply Canon.advCO; simp only [advCO_nil, advCO_cons, cG_yes, cG_no, cS_some, cS_loud, go_sem, seval, reduceCtorEq, hb2]); exact Canon.nil)
                          ((try refine W.a ?_); simp only [go_sem, seval, reduceCtorEq])
                          refine W.yes rfl ?_
                          ((try refine W.a ?_); simp only [go_sem, seval, reduceCtorEq])
                          refine W.frz 12 (by rfl) (by simp only [go_sem, seval, reduceCtorEq]; rfl) (by rfl) ?_
                          ((try refine W.a ?_); simp only [go_sem, seval, reduceCtorEq])
                          apply W.dregE (List.cons_ne_nil _ _)
                          case hc =>
                            (apply CanonE.advPO; simp only [go_sem, seval, reduceCtorEq])
                            (apply CanonE.call (read_apply w0 o (tokL t i').pos m.p m'.p _); (case hg => rfl); (case hf => rfl); (case ha => first | rfl | simp))
                            (apply CanonE.advPO; simp only [go_sem, seval, reduceCtorEq])
                            exact CanonE.nil
                          ((try refine W.a ?_); simp only [go_sem, seval, reduceCtorEq])
                          refine .inv ⟨⟨0, ⟨applyL o (tokL t i').pos m.p m'.p, some (o, (tokL t i').pos)⟩, tokL t i', j, 32, p2⟩, .inr ⟨rfl, rfl⟩, by simp [], ?_⟩
                          simp only [go_sem, seval, reduceCtorEq, madeV, byC, hpk]
                          (refine Lew.cutL (rdr_ok hok b l t j) ?_ (by simp) (by simp) ?_ ?_ ?_; exact lee_here; ((try simp only [okB, wkB, go_sem, seval, reduceCtorEq]) <;> omega); (simp only [List.length_cons, List.length_nil, Nat.reduceAdd, List.take_succ_cons, List.take_zero, wkB, and_true]; (repeat' (refine And.intro ?_ ?_)) <;> (first | exact Blk.wk.rfl _ | exact Blk.wk.gone _ | (refine Blk.wk_cells ?_ rfl; (exact wk_here)))); (repeat' (first | exact LowE.base _ | (refine LowE.put ?_ (by first | exact .c _ | ((try simp only [okB, wkB, go_sem, seval, reduceCtorEq]) <;> omega))))))
                        · rw [if_pos hb2] at hx
                          apply W.dreg
                          case hc => ((apply Canon.advCO; simp only [advCO_nil, advCO_cons, cG_yes, cG_no, cS_some, cS_loud, go_sem, seval, reduceCtorEq]); (apply Canon.call (wrong_ok w0 0 0 _); (case hg => rfl); (case hf => rfl); (case ha => first | rfl | simp)); (apply Canon.advCO; simp only [advCO_nil, advCO_cons, cG_yes, cG_no, cS_some, cS_loud, go_sem, seval, reduceCtorEq, hz']); (apply Canon.call (ops_Right w0 o o2 _); (case hg => rfl); (case hf => rfl); (case ha => first | rfl | simp)); (apply Canon.advCO; simp only [advCO_nil, advCO_cons, cG_yes, cG_no, cS_some, cS_loud, go_sem, seval, reduceCtorEq, hb2]); exact Canon.nil)
                          ((try refine W.a ?_); simp only [go_sem, seval, reduceCtorEq])
                          refine W.no rfl ?_
                          ((try refine W.a ?_); simp only [go_sem, seval, reduceCtorEq])
                          refine W.frz 12 (by rfl) (by simp only [go_sem, seval, reduceCtorEq]; rfl) (by rfl) ?_
                          ((try refine W.a ?_); simp only [go_sem, seval, reduceCtorEq])
                          apply W.dregE (List.cons_ne_nil _ _)
                          case hc =>
                            (apply CanonE.advPO; simp only [go_sem, seval, reduceCtorEq])
                            (apply CanonE.call (read_apply w0 o (tokL t i').pos m.p m'.p _); (case hg => rfl); (case hf => rfl); (case ha => first | rfl | simp))
                            (apply CanonE.advPO; simp only [go_sem, seval, reduceCtorEq])
                            exact CanonE.nil
                          ((try refine W.a ?_); simp only [go_sem, seval, reduceCtorEq])
                          refine .inv ⟨⟨g', ⟨applyL o (tokL t i').pos m.p m'.p, some (o, (tokL t i').pos)⟩, tokL t i', j, 0, 0⟩, .inl ⟨rfl, rfl, hx, hj, Nat.le_of_succ_le hg, fun o p h => by injection h with h; injection h⟩, by simp [], ?_⟩
                          simp only [go_sem, seval, reduceCtorEq, madeV, byC]
                          (refine Lew.cutL (rdr_ok hok b l t j) ?_ (by simp) (by simp) ?_ ?_ ?_; exact lee_here; ((try simp only [okB, wkB, go_sem, seval, reduceCtorEq]) <;> omega); (simp only [List.length_cons, List.length_nil, Nat.reduceAdd, List.take_succ_cons, List.take_zero, wkB, and_true]; (repeat' (refine And.intro ?_ ?_)) <;> (first | exact Blk.wk.rfl _ | exact Blk.wk.gone _ | (refine Blk.wk_cells ?_ rfl; (exact wk_here)))); (repeat' (first | exact LowE.base _ | (refine LowE.put ?_ (by first | exact .c _ | ((try simp only [okB, wkB, go_sem, seval, reduceCtorEq]) <;> omega))))))
            · rw [if_pos hcl] at hx
              injection hx with hx
              subst hx
              cases hby : m.by_ with
              | none => rw [clash_none hby] at hcl; cases hcl
              | some y =>
                obtain ⟨o', p'⟩ := y
                rw [clash_some hby] at hcl
                have hbes : besideL o o' 1 = false := by simpa using hcl
                apply W.dreg
                case hc =>
                  (apply Canon.advCO; simp only [advCO_nil, advCO_cons, cG_yes, cG_no, cS_some, cS_loud, go_sem, seval, reduceCtorEq, byC_some hby])
                  (apply Canon.call (ops_Left w0 o o' _); (case hg => rfl); (case hf => rfl); (case ha => first | rfl | simp))
                  (apply Canon.advCO; simp only [advCO_nil, advCO_cons, cG_yes, cG_no, cS_some, cS_loud, go_sem, seval, reduceCtorEq, hbes])
                  exact Canon.nil
                ((try refine W.a ?_); simp only [go_sem, seval, reduceCtorEq])
                refine W.yes rfl ?_
                ((try refine W.a ?_); simp only [go_sem, seval, reduceCtorEq])
                (apply W.dregE (List.cons_ne_nil _ _); case hc => ((apply CanonE.advPO; simp only [go_sem, seval, reduceCtorEq]); exact CanonE.nil))
                ((try refine W.a ?_); simp only [go_sem, seval, reduceCtorEq])
                (refine W.fg (rdr_ok hok b l t i') (d := .tup [madeV ⟨Pre.none, none⟩ Tok.zero, wrongV 32 (tokL t i').pos]) (by simp only [r37, go_sem, seval, reduceCtorEq, madeV, wrongV, byC, Pre.none, Tok.zero]; rfl) (by simp only [resV, go_sem, seval, reduceCtorEq, madeV, wrongV, byC, Pre.none, Tok.zero]; exact wk_here) ?_ (hl := by (first | exact .c _ | (simp only [go_sem, seval, reduceCtorEq, madeV, wrongV, byC, Pre.none, Tok.zero]; done))))
                exact ⟨rfl, ⟨Pre.none, none⟩, Tok.zero, i', rfl, rfl⟩
      · ((try refine W.a ?_); simp only [go_sem, seval, reduceCtorEq, madeV])
        (refine W.c1 (wrong_ok w0 e pos _) ?_; simp only [go_sem, seval, reduceCtorEq, he])
        refine W.no rfl ?_
        ((try refine W.a ?_); simp only [go_sem, seval, reduceCtorEq])
        (apply W.dregE (List.cons_ne_nil _ _); case hc => ((apply CanonE.advPO; simp only [go_sem, seval, reduceCtorEq]); exact CanonE.nil))
        ((try refine W.a ?_); simp only [go_sem, seval, reduceCtorEq])
        (refine W.fg (rdr_ok hok b l t i') (d := .tup [madeV m k, wrongV e pos]) (by simp only [r37, go_sem, seval, reduceCtorEq, madeV, wrongV]; rfl) (by simp only [resV, go_sem, seval, reduceCtorEq, madeV, wrongV]; exact wk_here) ?_ (hl := by (first | exact .c _ | (simp only [go_sem, seval, reduceCtorEq, madeV, wrongV]; done))))
        exact ⟨he, m, k, i', rfl, rfl⟩
end
section

theorem read_all (w0 : World) : ∀ f, (∀ g, g ≤ f → AtomOK w0 g) ∧ (∀ g, g ≤ f → ExprOK w0 g)
  | 0 => ⟨fun g hg => by
      have : g = 0 := by omega
      subst this
      intro l t depth i r σ b h
      simp [atomF] at h, fun g hg => by
      have : g = 0 := by omega
      subst this
      intro l t least depth i r σ b h
      simp [exprF] at h⟩
  | f + 1 => by
    obtain ⟨h1, h2⟩ := read_all w0 f
    refine ⟨fun g hg => ?_, fun g hg => ?_⟩
    · rcases Nat.lt_or_ge f g with h | h
      · have : g = f + 1 := by omega
        subst this
        exact read_atom (h2 f (Nat.le_refl f))
      · exact h1 g h
    · rcases Nat.lt_or_ge f g with h | h
      · have : g = f + 1 := by omega
        subst this
        exact read_expr h1 h2
      · exact h2 g h
/-- What Read hands back. -/
def readV (from_ : Nat) : Except Bad (Made × Nat) → V
  | .ok (m, j) => .tup [m.p.v, I j, I 0, I 0]
  | .error b => .tup [Pre.none.v, I from_, I b.e, I b.pos]
theorem read_Read (w0 : World) (l : List OpT) (t : List Tok) (i : Nat) (r : Except Bad (Made × Nat)) (σ : H) (h : Lamb.Expr l t 0 0 i r) (hi : i ≤ t.length) (ht : t.length ≤ 1000000) :
    DC Tryz.prog w0 16 [.c (opsC l), .c (toksC t), I i] σ (Same (readV i r) σ) := by
  obtain ⟨f, h⟩ := h
  refine k16.go rfl (fun hok hsz => ?_)
  ((try refine W.a ?_); simp only [go_sem, seval, reduceCtorEq, c16])
  (refine W.call ((read_all w0 f).2 f (Nat.le_refl f) l t 0 0 i r _ (σ.length + 1) h (hget σ _ 1) hi ht (by omega)) rfl rfl (by first | rfl | simp) ?_)
  intro v σ1 hR
  cases r with
  | ok x =>
    obtain ⟨m, j⟩ := x
    obtain ⟨k, hk, rfl, rfl⟩ := hR
    ((try refine W.a ?_); simp only [go_sem, seval, reduceCtorEq, madeV, wrongV])
    (refine W.c1 (wrong_ok w0 0 0 _) ?_; simp only [go_sem, seval, reduceCtorEq])
    refine W.no rfl ?_
    ((try refine W.a ?_); simp only [go_sem, seval, reduceCtorEq])
    (apply W.dregE (List.cons_ne_nil _ _); case hc => ((apply CanonE.advPO; simp only [go_sem, seval, reduceCtorEq, rdr]); exact CanonE.nil))
    ((try refine W.a ?_); simp only [go_sem, seval, reduceCtorEq])
    (refine W.fs (hok) (by simp only [r16, go_sem, seval, reduceCtorEq, readV]; rfl) ?_ (hl := by (first | exact .c _ | (simp only [go_sem, seval, reduceCtorEq, readV]; done))); simp only [resV, readV]; try exact V.wk.rfl _)
    (all_goals exact wk_here)
  | error x =>
    obtain ⟨he, m, k, j, rfl, rfl⟩ := hR
    ((try refine W.a ?_); simp only [go_sem, seval, reduceCtorEq, madeV, wrongV])
    (refine W.c1 (wrong_ok w0 x.e x.pos _) ?_; simp only [go_sem, seval, reduceCtorEq, he])
    refine W.yes rfl ?_
    ((try refine W.a ?_); simp only [go_sem, seval, reduceCtorEq])
    (apply W.dregE (List.cons_ne_nil _ _); case hc => ((apply CanonE.advPO; simp only [go_sem, seval, reduceCtorEq]); exact CanonE.nil))
    ((try refine W.a ?_); simp only [go_sem, seval, reduceCtorEq])
    (refine W.fs (hok) (by simp only [r16, go_sem, seval, reduceCtorEq, readV, Pre.none]; rfl) ?_ (hl := by (first | exact .c _ | (simp only [go_sem, seval, reduceCtorEq, readV, Pre.none]; done))); simp only [resV, readV, Pre.none]; try exact V.wk.rfl _)
    (all_goals exact wk_here)
end
end Go.Proofs.YtljjlhdkkbaehaaGreatDoor
namespace Go.Proofs.YtljjlhdkkbaehaaGreatDoor
open Go.RowKit Go.Lamb
attribute [local go_sem] strsC sdX rz_len rz_g0 rz_g rz_s0 rz_s rz_sb

def zeroB : Blk := .cells [I 0, .csl [], I 0, I 0, S [], I 0, .csl [], S [], I 0, I 0, I 0, S [], I 0, .csl [], I 0, I 0]
attribute [local go_sem] zeroB
structure KindSt where
  n : Nat
  i : Nat
  e : Int
  p : Int
end Go.Proofs.YtljjlhdkkbaehaaGreatDoor
namespace Go.Proofs.YtljjlhdkkbaehaaGreatDoor
open Go.RowKit Go.Lamb
attribute [local go_sem] strsC sdX rz_len rz_g0 rz_g rz_s0 rz_s rz_sb zeroB Typ.v Typ.cs_eq tk_mk tname_mk tn_mk tl_mk tysC

end Go.Proofs.YtljjlhdkkbaehaaGreatDoor
namespace Go.Proofs.YtljjlhdkkbaehaaGreatDoor
open Go.RowKit Go.Lamb
attribute [local go_sem] strsC sdX rz_len rz_g0 rz_g rz_s0 rz_s rz_sb zeroB

structure OpSt where
  k : Nat
  l : List OpT
  e : Int
  p : Int
end Go.Proofs.YtljjlhdkkbaehaaGreatDoor
namespace Go.Proofs.YtljjlhdkkbaehaaGreatDoor
open Go.RowKit Go.Lamb
attribute [local go_sem] strsC sdX rz_len rz_g0 rz_g rz_s0 rz_s rz_sb zeroB

end Go.Proofs.YtljjlhdkkbaehaaGreatDoor
namespace Go.Proofs.YtljjlhdkkbaehaaGreatDoor
open Go.RowKit Go.Lamb
/-- ops.row -/
def c48 : AC :=
  .seq (.reg [.o 6 (.mov (.k (.csl [])))])
  (.seq (.reg [.o 7 (.mov (.k (.csl [])))])
  (.seq (.seq (.reg [.m 10 2, .o 11 (.lenr (.t 10)), .o 12 (.mov (.k (.c (.int .i64 0))))])
  (.block 0 (.loop (.seq (.reg [.o 13 (.bin .lss (.t 12) (.t 11))])
  (.seq (.cond (.t 13)
  (.skip)
  (.exit 0))
  (.seq (.block 1 (.seq (.reg [.o 14 (.iadd 1 (.t 10) (.t 12)), .l 15 14, .m 9 15])
  (.reg [.m 16 7, .m 17 9, .m 18 0, .m 19 1, .o 20 (.build [.c (.str []), .c (.int .i64 0), .c (.int .i64 0)] [(0, 1, (.t 17)), (1, 1, (.t 18)), (2, 1, (.t 19))]), .o 21 (.bsl 3 [(.t 20)]), .o 22 (.app 48 3 32 (.t 16) (.t 21)), .m 7 22])))
  (.reg [.o 23 (.bin .add (.t 12) (.k (.c (.int .i64 1)))), .m 12 23])))))))
  (.seq (.reg [.m 24 7, .m 6 24])
  (.ret))))
def r48 : List ResV := [.tmp 6]
theorem k48 : CodeIs Tryz.prog 48 3 Tryz.f48 c48 r48 := ⟨by kernel_rfl, Tryz.func48, rfl, by kernel_rfl, by kernel_rfl, by decide, enters_fn Tryz.func48 (by kernel_rfl) rfl⟩
/-- slices.Concat[[]api.Op,api.Op] -/
def c47 : AC :=
  .seq (.reg [.o 2 (.mov (.k (.csl [])))])
  (.seq (.reg [.o 3 (.mov (.k (.c (.int .i64 0))))])
  (.seq (.seq (.reg [.m 9 0, .o 10 (.lenr (.t 9)), .o 11 (.mov (.k (.c (.int .i64 0))))])
  (.block 0 (.loop (.seq (.reg [.o 12 (.bin .lss (.t 11) (.t 10))])
  (.seq (.cond (.t 12)
  (.skip)
  (.exit 0))
  (.seq (.block 1 (.seq (.reg [.o 13 (.iadd 1 (.t 9) (.t 11)), .l 14 13, .m 5 14])
  (.seq (.reg [.m 15 3, .m 16 5, .o 17 (.lenr (.t 16)), .o 18 (.bin .add (.t 15) (.t 17)), .m 3 18])
  (.seq (.reg [.m 19 3, .o 20 (.bin .lss (.t 19) (.k (.c (.int .i64 0))))])
  (.cond (.t 20)
  (.reg [.o 21 (.bad), ⟨none, .bad, none⟩])
  (.skip))))))
  (.reg [.o 22 (.bin .add (.t 11) (.k (.c (.int .i64 1)))), .m 11 22])))))))
  (.seq (.reg [.m 23 3, .k 24 87 [(.k (.csl [])), (.t 23)], .m 6 24])
  (.seq (.seq (.reg [.m 25 0, .o 26 (.lenr (.t 25)), .o 27 (.mov (.k (.c (.int .i64 0))))])
  (.block 2 (.loop (.seq (.reg [.o 28 (.bin .lss (.t 27) (.t 26))])
  (.seq (.cond (.t 28)
  (.skip)
  (.exit 2))
  (.seq (.block 3 (.seq (.reg [.o 29 (.iadd 1 (.t 25) (.t 27)), .l 30 29, .m 8 30])
  (.reg [.m 31 6, .m 32 8, .o 33 (.app 48 3 32 (.t 31) (.t 32)), .m 6 33])))
  (.reg [.o 34 (.bin .add (.t 27) (.k (.c (.int .i64 1)))), .m 27 34])))))))
  (.seq (.reg [.m 35 6, .m 2 35])
  (.ret))))))
def r47 : List ResV := [.tmp 2]
theorem k47 : CodeIs Tryz.prog 47 1 Tryz.f47 c47 r47 := ⟨by kernel_rfl, Tryz.func47, rfl, by kernel_rfl, by kernel_rfl, by decide, enters_fn Tryz.func47 (by kernel_rfl) rfl⟩
/-- ops.Default -/
def c20 : AC :=
  .seq (.reg [.o 0 (.mov (.k (.csl [])))])
  (.seq (.reg [.o 1 (.bsl 1 [(.k (.c (.str [58, 45])))]), .k 2 48 [(.k (.c (.int .i64 10))), (.k (.c (.int .i64 0))), (.t 1)], .o 3 (.bsl 1 [(.k (.c (.str [59])))]), .k 4 48 [(.k (.c (.int .i64 20))), (.k (.c (.int .i64 2))), (.t 3)], .o 5 (.bsl 1 [(.k (.c (.str [44])))]), .k 6 48 [(.k (.c (.int .i64 30))), (.k (.c (.int .i64 2))), (.t 5)], .o 7 (.bsl 1 [(.k (.c (.str [61, 62])))]), .k 8 48 [(.k (.c (.int .i64 40))), (.k (.c (.int .i64 2))), (.t 7)], .o 9 (.bsl 1 [(.k (.c (.str [61]))), (.k (.c (.str [105, 115]))), (.k (.c (.str [60]))), (.k (.c (.str [61, 60]))), (.k (.c (.str [62]))), (.k (.c (.str [62, 61])))]), .k 10 48 [(.k (.c (.int .i64 60))), (.k (.c (.int .i64 0))), (.t 9)], .o 11 (.bsl 1 [(.k (.c (.str [43]))), (.k (.c (.str [45])))]), .k 12 48 [(.k (.c (.int .i64 80))), (.k (.c (.int .i64 1))), (.t 11)], .o 13 (.bsl 1 [(.k (.c (.str [42]))), (.k (.c (.str [100, 105, 118]))), (.k (.c (.str [109, 111, 100])))]), .k 14 48 [(.k (.c (.int .i64 90))), (.k (.c (.int .i64 1))), (.t 13)], .o 15 (.bsl 1 [(.t 2), (.t 4), (.t 6), (.t 8), (.t 10), (.t 12), (.t 14)]), .k 16 47 [(.t 15)], .m 0 16])
  (.ret))
def r20 : List ResV := [.tmp 0]
theorem k20 : CodeIs Tryz.prog 20 0 Tryz.f20 c20 r20 := ⟨by kernel_rfl, Tryz.func20, rfl, by kernel_rfl, by kernel_rfl, by decide, enters_fn Tryz.func20 (by kernel_rfl) rfl⟩
--absent /-- ref03.Exact -/
/-- lambentref03.left -/
def c39 : AC :=
  .seq (.reg [.o 2 (.box (.t 0)), .o 4 (.mov (.k (.c (.int .i64 0))))])
  (.seq (.reg [.m 7 1, .o 8 (.bin .sub (.t 7) (.k (.c (.int .i64 1)))), .m 5 8])
  (.seq (.seq (.reg [.o 6 (.mov (.k (.c (.int .i64 0))))])
  (.block 0 (.loop (.seq (.seq (.reg [.m 9 6, .f 10 3 2, .l 11 10, .o 12 (.lenr (.t 11)), .o 13 (.bin .lss (.t 9) (.t 12)), .m 14 13, .y 15 (.mov (.t 5)) 14, .y 16 (.bin .geq (.t 15) (.k (.c (.int .i64 0)))) 14, .o 17 (.pick (.t 14) (.t 16) (.k (.c (.bool false))))])
  (.cond (.t 17)
  (.skip)
  (.exit 0)))
  (.seq (.block 1 (.reg [.f 20 3 2, .l 21 20, .m 22 6, .o 23 (.iadd 5 (.t 21) (.t 22)), .d 24 5 23, .m 25 5, .k 26 39 [(.t 24), (.t 25)], .m 5 26]))
  (.reg [.m 18 6, .o 19 (.bin .add (.t 18) (.k (.c (.int .i64 1)))), .m 6 19]))))))
  (.seq (.reg [.m 27 5, .m 4 27])
  (.ret))))
def r39 : List ResV := [.tmp 4]
theorem k39 : CodeIs Tryz.prog 39 2 Tryz.f39 c39 r39 := ⟨by kernel_rfl, Tryz.func39, rfl, by kernel_rfl, by kernel_rfl, by decide, enters_fn Tryz.func39 (by kernel_rfl) rfl⟩
/-- lambentref03.Deep -/
def c17 : AC :=
  .seq (.reg [.o 2 (.box (.t 0)), .o 4 (.mov (.k (.c (.bool false))))])
  (.seq (.reg [.d 6 5 2, .m 7 1, .k 8 39 [(.t 6), (.t 7)], .m 5 8])
  (.seq (.reg [.m 9 5, .o 10 (.bin .lss (.t 9) (.k (.c (.int .i64 0)))), .m 4 10])
  (.ret)))
def r17 : List ResV := [.tmp 4]
theorem k17 : CodeIs Tryz.prog 17 2 Tryz.f17 c17 r17 := ⟨by kernel_rfl, Tryz.func17, rfl, by kernel_rfl, by kernel_rfl, by decide, enters_fn Tryz.func17 (by kernel_rfl) rfl⟩
end Go.Proofs.YtljjlhdkkbaehaaGreatDoor
namespace Go.Proofs.YtljjlhdkkbaehaaGreatDoor
open Go.RowKit Go.Lamb
attribute [local go_sem] advO_skip advO_reg advO_seq advO_block advO_exit advO_endb advO_opsNil advO_ops advG_yes advG_no advG_none advS_some advS_none advO_cond advO_loop advO_dreg advO_ret advO_bad advO_inv advO_nil advO_zero wantedV Lamb.step ev_t ev_k put_some put_none argEnv popTo cellsAt V.cellsV V.rows V.toC toCs fillV bytesC byteRows appV rowsV boundV boundL binV binInt binStr eqC eqL V.isNil leaves V.leaf Ins.quiet Ins.pure List.getD_cons_zero List.getD_cons_succ List.getD_nil List.all_cons List.all_nil List.length_cons List.length_nil List.take_succ_cons List.take_zero List.drop_succ_cons List.drop_zero List.cons_append List.nil_append List.append_nil List.append_assoc List.map_cons List.map_nil List.getElem?_cons_zero List.getElem?_cons_succ List.length_append List.length_set hget0 hget hset0 hset hsets hgs0 hgs hss0 hss List.set_cons_zero List.set_cons_succ List.forall_mem_cons List.not_mem_nil false_implies implies_true Option.map_some Bool.and_true Bool.true_and Bool.not_not Bool.not_true Bool.not_false Bool.and_self Bool.or_true Bool.true_or Bool.or_false Bool.false_or Bool.and_false Bool.false_and Bool.false_eq_true beq_self_eq_true and_self and_true true_and if_true if_false Nat.zero_add Nat.add_zero Nat.le_refl Int.toNat_natCast decide_true decide_false beq_t beq_f List.length_map List.getElem?_map I S B opsC toksC OpT.v OpT.cs OpT.zero Tok.v Tok.cs Pre.v Pre.cs_eq k_mk name_mk n_mk l_mk pos_mk Pre.app applyL natCast0 natCast1 natCast2 AOp.o AOp.m AOp.f AOp.l AOp.d AOp.n AOp.x AOp.s AOp.k AOp.y AOp.z EOp.q low_c low_void low_any low_csl low_nilf low_ptr low_osl low_agg low_tup low_fn resEval advPO_nil advPO_loud advPO_quiet pL_yes pL_no pLS_some pLS_none pQ_yes pQ_no pQS_some pQS_loud eq_self Nat.sub_zero
section

def rowOf (prec fix : Int) (names : List (List UInt8)) : List OpT := names.map fun n => ⟨n, prec, fix⟩
theorem ops_row (w0 : World) (prec fix : Int) (names : List (List UInt8)) (hn : names.length ≤ 1000) (σ : H) :
    DC Tryz.prog w0 48 [I prec, I fix, .csl (names.map fun n => [.str n])] σ (Same (.c (opsC (rowOf prec fix names))) σ) := by
  refine k48.go rfl (fun hok hsz => ?_)
  ((try refine W.a ?_); simp only [go_sem, seval, reduceCtorEq, c48])
  refine W.own 7 48 3 rfl ?_
  refine W.loopP (fun i => i ≤ names.length) (fun i => ⟨((((((base.put (some 0) (I prec)).put (some 1) (I fix)).put (some 7) (.osl σ.length ((rowOf prec fix (names.take i)).map OpT.cs))).put (some 10) (.csl (names.map fun n => [.str n]))).put (some 11) (I names.length)).put (some 12) (I i)), σ ++ [.spare 48 3 i]⟩) (fun i => names.length - i) 0 (Nat.zero_le _) ?_ (fun i hi => ?_)
  · (refine Lew.env ?_; exact lee_here)
  · by_cases hlt : i < names.length
    · have h1 : ((i : Int) < (names.length : Int)) := by omega
      have hx : names[i]? = some names[i] := List.getElem?_eq_getElem hlt
      have hl : (rowOf prec fix (names.take i)).length = i := by simp [rowOf, hi]
      have hb1 : (i + 1) * 32 ≤ 140737488355328 := by omega
      have hb2 : i + 1 ≤ 140737488355328 := by omega
      have hta : (rowOf prec fix (names.take (i + 1))).map OpT.cs = (rowOf prec fix (names.take i)).map OpT.cs ++ [OpT.cs ⟨names[i], prec, fix⟩] := by
        unfold rowOf
        rw [List.take_add_one, hx, List.map_append, List.map_append]; rfl
      have hw : IntKind.i64.wrap ((i : Int) + 1) = ((i + 1 : Nat) : Int) := by rw [wrap_in] <;> omega
      ((try refine W.a ?_); simp only [go_sem, seval, reduceCtorEq, h1])
      refine W.yes rfl ?_
      ((try refine W.a ?_); simp only [go_sem, seval, reduceCtorEq, h1, nat0, hx, hl, hb1, hb2, eq_self, hw])
      refine .inv ⟨i + 1, hlt, by omega, ?_⟩
      simp only [go_sem, seval, reduceCtorEq, hta]
      (refine Lew.env ?_; exact lee_here)
    · have h1 : ¬ ((i : Int) < (names.length : Int)) := by omega
      have hi' : i = names.length := by omega
      subst hi'
      ((try refine W.a ?_); simp only [go_sem, seval, reduceCtorEq, h1])
      refine W.no rfl ?_
      ((try refine W.a ?_); simp only [go_sem, seval, reduceCtorEq, List.take_length])
      (refine W.fs (hok) (by simp only [r48, go_sem, seval, reduceCtorEq]; rfl) ?_; simp only [resV]; try exact V.wk.rfl _)
      (all_goals exact wk_here)
end
section

theorem flat_take {α : Type} {ls : List (List α)} {i : Nat} (h : i < ls.length) : (ls.take (i + 1)).flatten = (ls.take i).flatten ++ ls[i] := by
  rw [List.take_add_one, List.getElem?_eq_getElem h, List.flatten_append]
  congr 1
  exact List.append_nil _
theorem flat_le {α : Type} {ls : List (List α)} (i : Nat) : (ls.take i).flatten.length ≤ ls.flatten.length := by
  have : ls.flatten = (ls.take i).flatten ++ (ls.drop i).flatten := by rw [← List.flatten_append, List.take_append_drop]
  rw [this, List.length_append]
  omega
theorem slices_Concat (w0 : World) (ls : List (List OpT)) (hn : ls.flatten.length ≤ 100000) (hls : ls.length ≤ 100000) (σ : H) :
    DC Tryz.prog w0 47 [.csl (ls.map fun r => [opsC r])] σ (Same (.c (opsC ls.flatten)) σ) := by
  refine k47.go rfl (fun hok hsz => ?_)
  ((try refine W.a ?_); simp only [go_sem, seval, reduceCtorEq, c47])
  refine W.loopP (fun i => i ≤ ls.length) (fun i => ⟨(((((base.put (some 0) (.csl (ls.map fun r => [opsC r]))).put (some 3) (I (ls.take i).flatten.length)).put (some 9) (.csl (ls.map fun r => [opsC r]))).put (some 10) (I ls.length)).put (some 11) (I i)), σ⟩) (fun i => ls.length - i) 0 (Nat.zero_le _) ?_ (fun i hi => ?_)
  · (refine Lew.env ?_; exact lee_here)
  · by_cases hlt : i < ls.length
    · have h1 : ((i : Int) < (ls.length : Int)) := by omega
      have hx : ls[i]? = some ls[i] := List.getElem?_eq_getElem hlt
      have hft := flat_take hlt
      have hfl : (ls.take (i + 1)).flatten.length = (ls.take i).flatten.length + ls[i].length := by rw [hft, List.length_append]
      have hle := flat_le (ls := ls) (i + 1)
      have hw : IntKind.i64.wrap ((i : Int) + 1) = ((i + 1 : Nat) : Int) := by rw [wrap_in] <;> omega
      have hw2 : IntKind.i64.wrap (((ls.take i).flatten.length : Int) + (ls[i].length : Int)) = (((ls.take (i + 1)).flatten.length : Nat) : Int) := by rw [wrap_in] <;> omega
      have hneg : ¬ ((((ls.take (i + 1)).flatten.length : Nat) : Int) < 0) := by omega
      ((try refine W.a ?_); simp only [go_sem, seval, reduceCtorEq, h1])
      refine W.yes rfl ?_
      ((try refine W.a ?_); simp only [go_sem, seval, reduceCtorEq, h1, nat0, hx, hw2, hneg])
      refine W.no rfl ?_
      ((try refine W.a ?_); simp only [go_sem, seval, reduceCtorEq, hw])
      refine .inv ⟨i + 1, hlt, by omega, ?_⟩
      (refine Lew.env ?_; exact lee_here)
    · have h1 : ¬ ((i : Int) < (ls.length : Int)) := by omega
      have hi' : i = ls.length := by omega
      subst hi'
      ((try refine W.a ?_); simp only [go_sem, seval, reduceCtorEq, h1])
      refine W.no rfl ?_
      ((try refine W.a ?_); simp only [go_sem, seval, reduceCtorEq, List.take_length])
      (refine W.c1 (slices_Grow w0 ls.flatten.length (by omega) _) ?_; simp only [go_sem, seval, reduceCtorEq])
      refine W.loopP (fun i => i ≤ ls.length) (fun i => ⟨((((base.put (some 6) (.osl σ.length ((ls.take i).flatten.map OpT.cs))).put (some 25) (.csl (ls.map fun r => [opsC r]))).put (some 26) (I ls.length)).put (some 27) (I i)), σ ++ [.spare 48 3 (ls.take i).flatten.length]⟩) (fun i => ls.length - i) 0 (Nat.zero_le _) ?_ (fun i hi => ?_)
      · (refine Lew.env ?_; exact lee_here)
      · by_cases hlt : i < ls.length
        · have h1 : ((i : Int) < (ls.length : Int)) := by omega
          have hx : ls[i]? = some ls[i] := List.getElem?_eq_getElem hlt
          have hft := flat_take hlt
          have hfl : (ls.take (i + 1)).flatten.length = (ls.take i).flatten.length + ls[i].length := by rw [hft, List.length_append]
          have hle := flat_le (ls := ls) (i + 1)
          have hb1 : ((ls.take i).flatten.length + ls[i].length) * 32 ≤ 140737488355328 := by omega
          have hb2 : (ls.take i).flatten.length + ls[i].length ≤ 140737488355328 := by omega
          have hb3 : ∀ r ∈ ls[i].map OpT.cs, r.length = 3 := fun r hr => by obtain ⟨o, _, rfl⟩ := List.mem_map.1 hr; rfl
          have hta : (ls.take (i + 1)).flatten.map OpT.cs = (ls.take i).flatten.map OpT.cs ++ ls[i].map OpT.cs := by rw [hft, List.map_append]
          have hw : IntKind.i64.wrap ((i : Int) + 1) = ((i + 1 : Nat) : Int) := by rw [wrap_in] <;> omega
          ((try refine W.a ?_); simp only [go_sem, seval, reduceCtorEq, h1])
          refine W.yes rfl ?_
          ((try refine W.a ?_); simp only [go_sem, seval, reduceCtorEq, h1, nat0, hx, hb1, hb2, eq_self, hw, eq_true hb3])
          refine .inv ⟨i + 1, hlt, by omega, ?_⟩
          simp only [go_sem, seval, reduceCtorEq, hta, hfl]
          (refine Lew.env ?_; exact lee_here)
        · have h1 : ¬ ((i : Int) < (ls.length : Int)) := by omega
          have hi' : i = ls.length := by omega
          subst hi'
          ((try refine W.a ?_); simp only [go_sem, seval, reduceCtorEq, h1])
          refine W.no rfl ?_
          ((try refine W.a ?_); simp only [go_sem, seval, reduceCtorEq, List.take_length])
          (refine W.fs (hok) (by simp only [r47, go_sem, seval, reduceCtorEq]; rfl) ?_; simp only [resV]; try exact V.wk.rfl _)
          (all_goals exact wk_here)
end
section

def firstRows : List (List OpT) := [rowOf 10 0 [[58, 45]], rowOf 20 2 [[59]], rowOf 30 2 [[44]], rowOf 40 2 [[61, 62]], rowOf 60 0 [[61], [105, 115], [60], [61, 60], [62], [62, 61]], rowOf 80 1 [[43], [45]], rowOf 90 1 [[42], [100, 105, 118], [109, 111, 100]]]
theorem ops_Default (w0 : World) (σ : H) : DC Tryz.prog w0 20 [] σ (Same (.c (opsC firstRows.flatten)) σ) := by
  refine k20.go rfl (fun hok hsz => ?_)
  ((try refine W.a ?_); simp only [go_sem, seval, reduceCtorEq, c20])
  (refine W.c1 (ops_row w0 10 0 [[58, 45]] (by decide) _) ?_; simp only [go_sem, seval, reduceCtorEq])
  (refine W.c1 (ops_row w0 20 2 [[59]] (by decide) _) ?_; simp only [go_sem, seval, reduceCtorEq])
  (refine W.c1 (ops_row w0 30 2 [[44]] (by decide) _) ?_; simp only [go_sem, seval, reduceCtorEq])
  (refine W.c1 (ops_row w0 40 2 [[61, 62]] (by decide) _) ?_; simp only [go_sem, seval, reduceCtorEq])
  (refine W.c1 (ops_row w0 60 0 [[61], [105, 115], [60], [61, 60], [62], [62, 61]] (by decide) _) ?_; simp only [go_sem, seval, reduceCtorEq])
  (refine W.c1 (ops_row w0 80 1 [[43], [45]] (by decide) _) ?_; simp only [go_sem, seval, reduceCtorEq])
  (refine W.c1 (ops_row w0 90 1 [[42], [100, 105, 118], [109, 111, 100]] (by decide) _) ?_; simp only [go_sem, seval, reduceCtorEq])
  (refine W.c1 (slices_Concat w0 firstRows (by decide) (by decide) _) ?_; simp only [go_sem, seval, reduceCtorEq])
  (refine W.fs (hok) (by simp only [r20, go_sem, seval, reduceCtorEq]; rfl) ?_; simp only [resV]; try exact V.wk.rfl _)
end
end Go.Proofs.YtljjlhdkkbaehaaGreatDoor
namespace Go.Proofs.YtljjlhdkkbaehaaGreatDoor
open Go.RowKit Go.Lamb
def ops0 : List OpT := firstRows.flatten
end Go.Proofs.YtljjlhdkkbaehaaGreatDoor
namespace Go.Proofs.YtljjlhdkkbaehaaGreatDoor
open Go.RowKit Go.Lamb
attribute [local go_sem] strsC sdX rz_len rz_g0 rz_g rz_s0 rz_s rz_sb zeroB

structure AllSt where
  acc : List Sent
  i : Nat
  l : List OpT
end Go.Proofs.YtljjlhdkkbaehaaGreatDoor
namespace Go.Proofs.YtljjlhdkkbaehaaGreatDoor
open Go.RowKit Go.Lamb
attribute [local go_sem] strsC rz_len rz_g0 rz_g rz_s0 rz_s rz_sb

end Go.Proofs.YtljjlhdkkbaehaaGreatDoor
namespace Go.Proofs.YtljjlhdkkbaehaaGreatDoor
open Go.RowKit Go.Lamb
--absent /-- (*ref10.State).fail -/
--absent /-- (*ref10.State).tok -/
--absent /-- (*ref10.State).word -/
--absent /-- (*ref10.State).Names -/
--absent /-- (*ref10.State).end -/
--absent /-- (*ref10.State).kind -/
--absent /-- (*ref10.State).types -/
--absent /-- (*ref10.State).op -/
--absent /-- (*ref10.State).clause -/
--absent /-- (*ref10.State).One -/
--absent /-- ref10.Read -/
/-- lambentref02.Declare -/
def c34 : AC :=
  .seq (.reg [.o 3 (.box (.t 1)), .o 4 (.mov (.k (.c (.int .i64 0))))])
  (.seq (.seq (.reg [.f 10 2 3, .l 11 10, .o 12 (.bin .neq (.t 11) (.k (.c (.int .i64 0)))), .m 13 12, .y 14 (.fadd 2 (.t 3)) 13, .y 15 (.load1 (.t 14)) 13, .y 16 (.bin .neq (.t 15) (.k (.c (.int .i64 1)))) 13, .o 17 (.pick (.t 13) (.t 16) (.k (.c (.bool false)))), .m 18 17, .y 19 (.fadd 2 (.t 3)) 18, .y 20 (.load1 (.t 19)) 18, .y 21 (.bin .neq (.t 20) (.k (.c (.int .i64 2)))) 18, .o 22 (.pick (.t 18) (.t 21) (.k (.c (.bool false))))])
  (.cond (.t 22)
  (.seq (.reg [.o 4 (.mov (.k (.c (.int .i64 1))))])
  (.ret))
  (.skip)))
  (.seq (.reg [.f 23 0 3, .l 24 23, .k 25 63 [(.t 24)], .m 5 25])
  (.seq (.reg [.f 26 0 3, .l 27 26, .k 28 64 [(.t 27)], .m 6 28])
  (.seq (.reg [.f 29 0 3, .l 30 29, .m 7 30])
  (.seq (.seq (.reg [.m 31 5, .o 32 (.un .not (.t 31)), .m 33 32, .y 34 (.mov (.t 6)) 33, .y 35 (.un .not (.t 34)) 33, .o 36 (.pick (.t 33) (.t 35) (.k (.c (.bool false)))), .m 37 36, .z 38 (.mov (.t 7)) 37, .z 39 (.bin .eql (.t 38) (.k (.c (.str [33])))) 37, .o 40 (.pick (.t 37) (.k (.c (.bool true))) (.t 39)), .m 41 40, .z 42 (.mov (.t 7)) 41, .z 43 (.bin .eql (.t 42) (.k (.c (.str [45, 62])))) 41, .o 44 (.pick (.t 41) (.k (.c (.bool true))) (.t 43)), .m 45 44, .z 46 (.mov (.t 7)) 45, .z 47 (.bin .eql (.t 46) (.k (.c (.str [107, 105, 110, 100])))) 45, .o 48 (.pick (.t 45) (.k (.c (.bool true))) (.t 47)), .m 49 48, .z 50 (.mov (.t 7)) 49, .z 51 (.bin .eql (.t 50) (.k (.c (.str [116, 121, 112, 101])))) 49, .o 52 (.pick (.t 49) (.k (.c (.bool true))) (.t 51)), .m 53 52, .z 54 (.mov (.t 7)) 53, .z 55 (.bin .eql (.t 54) (.k (.c (.str [105, 110, 102, 105, 120])))) 53, .o 56 (.pick (.t 53) (.k (.c (.bool true))) (.t 55)), .m 57 56, .z 58 (.mov (.t 7)) 57, .z 59 (.bin .eql (.t 58) (.k (.c (.str [105, 110, 102, 105, 120, 108])))) 57, .o 60 (.pick (.t 57) (.k (.c (.bool true))) (.t 59)), .m 61 60, .z 62 (.mov (.t 7)) 61, .z 63 (.bin .eql (.t 62) (.k (.c (.str [105, 110, 102, 105, 120, 114])))) 61, .o 64 (.pick (.t 61) (.k (.c (.bool true))) (.t 63))])
  (.cond (.t 64)
  (.seq (.reg [.o 4 (.mov (.k (.c (.int .i64 20))))])
  (.ret))
  (.skip)))
  (.seq (.seq (.reg [.f 65 1 3, .l 66 65, .o 67 (.bin .lss (.t 66) (.k (.c (.int .i64 1)))), .m 68 67, .z 69 (.fadd 1 (.t 3)) 68, .z 70 (.load1 (.t 69)) 68, .z 71 (.bin .gtr (.t 70) (.k (.c (.int .i64 200)))) 68, .o 72 (.pick (.t 68) (.k (.c (.bool true))) (.t 71))])
  (.cond (.t 72)
  (.seq (.reg [.o 4 (.mov (.k (.c (.int .i64 21))))])
  (.ret))
  (.skip)))
  (.seq (.reg [.m 74 0, .f 75 0 3, .l 76 75, .k 77 49 [(.t 74), (.t 76)], .m 73 77, .x 78 73 0, .x 79 73 1, .o 8 (.box (.k (.agg [.c (.str []), .c (.int .i64 0), .c (.int .i64 0)]))), .s 3 8 78, .m 9 79])
  (.seq (.seq (.reg [.m 80 9])
  (.cond (.t 80)
  (.seq (.reg [.o 4 (.mov (.k (.c (.int .i64 22))))])
  (.ret))
  (.skip)))
  (.seq (.seq (.reg [.m 81 0, .o 82 (.lenr (.t 81)), .o 83 (.bin .geq (.t 82) (.k (.c (.int .i64 64))))])
  (.cond (.t 83)
  (.seq (.reg [.o 4 (.mov (.k (.c (.int .i64 23))))])
  (.ret))
  (.skip)))
  (.seq (.reg [.o 4 (.mov (.k (.c (.int .i64 0))))])
  (.ret)))))))))))
def r34 : List ResV := [.tmp 4]
theorem k34 : CodeIs Tryz.prog 34 2 Tryz.f34 c34 r34 := ⟨by kernel_rfl, Tryz.func34, rfl, by kernel_rfl, by kernel_rfl, by decide, enters_fn Tryz.func34 (by kernel_rfl) rfl⟩
--absent /-- ref02.Default -/
--absent /-- ref02.one -/
--absent /-- ref02.Same -/
--absent /-- ref10.Same -/
--absent /-- ref10.SameAll -/
--absent /-- law10.works -/
--absent /-- law10.alike -/
--absent /-- law10.SourceReads -/
--absent /-- law10.SourceGlue -/
--absent /-- law10.SourceOne -/
--absent /-- ref01.Lex -/
end Go.Proofs.YtljjlhdkkbaehaaGreatDoor
namespace Go.Proofs.YtljjlhdkkbaehaaGreatDoor
open Go.RowKit Go.Lamb

end Go.Proofs.YtljjlhdkkbaehaaGreatDoor
namespace Go.Proofs.YtljjlhdkkbaehaaGreatDoor
open Go.RowKit Go.Lamb

end Go.Proofs.YtljjlhdkkbaehaaGreatDoor
namespace Go.Proofs.YtljjlhdkkbaehaaGreatDoor
open Go.RowKit Go.Lamb
--absent /-- ref03.Same -/
end Go.Proofs.YtljjlhdkkbaehaaGreatDoor
namespace Go.Proofs.YtljjlhdkkbaehaaGreatDoor
open Go.RowKit Go.Lamb
--absent /-- (*ref05.State).fail -/
--absent /-- (*ref05.State).atom -/
--absent /-- (*ref05.State).Atom -/
--absent /-- (*ref05.State).Type -/
--absent /-- ref05.Read -/
--absent /-- ref05.left -/
--absent /-- ref05.Large -/
end Go.Proofs.YtljjlhdkkbaehaaGreatDoor
namespace Go.Proofs.YtljjlhdkkbaehaaGreatDoor
open Go.RowKit Go.Lamb
--absent /-- ref03.Tok -/
--absent /-- (*ref03.State).fail -/
--absent /-- (*ref03.State).begins -/
--absent /-- (*ref03.State).deep -/
--absent /-- (*ref03.State).Atom -/
--absent /-- (*ref03.State).Operand -/
--absent /-- (*ref03.State).Expr -/
--absent /-- ref03.Read -/
end Go.Proofs.YtljjlhdkkbaehaaGreatDoor
namespace Go.Proofs.YtljjlhdkkbaehaaGreatDoor
open Go.RowKit Go.Lamb

end Go.Proofs.YtljjlhdkkbaehaaGreatDoor
namespace Go.Proofs.YtljjlhdkkbaehaaGreatDoor
open Go.RowKit Go.Lamb

/-- The document's type reader's blocks. -/
def tqX (t : List Tok) (i : Int) (v : Nat) (vs : List Str) (e p : Int) : Blk := .cells [.c (toksC t), I i, I e, I p, .osl v (strsR vs)]
abbrev tqs (σ : H) (b v : Nat) (t : List Tok) (i : Int) (vs : List Str) (e p : Int) : H := rs σ b v (tqX t i v vs e p) (tyY vs)
attribute [local go_sem] tqX tyY rs_len rs_g0 rs_g rs_s0 rs_s rs_sv Typ.v Typ.cs_eq tk_mk tname_mk tn_mk tl_mk tysC
end Go.Proofs.YtljjlhdkkbaehaaGreatDoor
namespace Go.Proofs.YtljjlhdkkbaehaaGreatDoor
open Go.RowKit Go.Lamb

abbrev tqo (σ : H) (b v : Nat) (t : List Tok) (o : TyO) : H := tqs σ b v t o.j o.ws o.e o.p
attribute [local go_sem] tqX tyY rs_len rs_g0 rs_g rs_s0 rs_s rs_sv Typ.v Typ.cs_eq tk_mk tname_mk tn_mk tl_mk tysC
end Go.Proofs.YtljjlhdkkbaehaaGreatDoor
namespace Go.Proofs.YtljjlhdkkbaehaaGreatDoor
open Go.RowKit Go.Lamb
attribute [local go_sem] tqX tyY rs_len rs_g0 rs_g rs_s0 rs_s rs_sv Typ.v Typ.cs_eq tk_mk tname_mk tn_mk tl_mk tysC

end Go.Proofs.YtljjlhdkkbaehaaGreatDoor
namespace Go.Proofs.YtljjlhdkkbaehaaGreatDoor
open Go.RowKit Go.Lamb
attribute [local go_sem] tqX tyY rs_len rs_g0 rs_g rs_s0 rs_s rs_sv Typ.v Typ.cs_eq tk_mk tname_mk tn_mk tl_mk tysC

end Go.Proofs.YtljjlhdkkbaehaaGreatDoor
namespace Go.Proofs.YtljjlhdkkbaehaaGreatDoor
open Go.RowKit Go.Lamb

theorem pre_len {p : Pre} {args : List V} (h : ∀ y ∈ args, V.Sz y) (hx : p.v ∈ args) : p.l.length ≤ 9223372036854775807 := by
  have := h _ hx
  rw [Pre.v, sz_agg] at this
  exact sz_rows (this (.c (.sl (p.l.map Pre.cs))) (by simp))
end Go.Proofs.YtljjlhdkkbaehaaGreatDoor
