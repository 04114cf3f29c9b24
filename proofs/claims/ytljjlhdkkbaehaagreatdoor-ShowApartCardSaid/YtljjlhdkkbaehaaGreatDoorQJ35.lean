/-
  The code of some functions, without addresses.
  The code of some functions, without addresses.
  Walks: the document's operators: the first ones; what is wrong with one more.
  The code of some functions, without addresses.
  Walks: which trees could have been read, which are the same, and how large they are.
  Walks: which trees could have been read, which are the same, and how large they are.
  Walks: which trees could have been read, by both.
  Walks: which trees could have been read, and which are the same, in the document's words; how large they are.
  Walks: which trees could have been read, in the document's words; what is more than is looked at.
  Walks: the document's reader, an atom.
  Walks: the document's reader, atoms applied.
  Walks: the document's reader, an expression; and its Read.
  Walks: the document's Read.
  Walks: what is more than is looked at; the statements' own functions.
  Walks: what is more than is looked at (layer 4).
  Walks: strings.Builder in a writer's block: what its writing methods call first.
  The code of some functions, without addresses.
  Walks: what a writer writes: strings.Builder's methods at a writer's block.
  The code of some functions, without addresses.
  Walks: what a tree is; the operator that makes it.
  Walks: what is no operator's, no abstraction and no application, written.
  The code of some functions, without addresses.
  Walks: a tree that is written in brackets, or not (show.part).
  The code of some functions, without addresses.
  Walks: the document's answer: what a tree is; brackets.
  Walks: a tree to one side of an operator (show.side); trees written (show.tree).
  Walks: trees written (show.tree).
  Walks: trees written (show.tree): those that an operator makes; all.
  Walks: strings.Builder's String at a writer's block.
  Walks: trees as texts (show.Text).
  The code of some functions, without addresses.
  Walks: how long a tree's text is (show.Width); trees as lines (show.Lines).
-/
import Derived.Test.YtljjlhdkkbaehaaGreatDoorChecked
import Derived.Test.YtljjlhdkkbaehaaGreatDoorQJ34
import Derived.Test.YtljjlhdkkbaehaaGreatDoorQRefH
import Derived.Test.YtljjlhdkkbaehaaGreatDoorQRefI
import Derived.Test.YtljjlhdkkbaehaaGreatDoorQJ10
import Derived.Test.YtljjlhdkkbaehaaGreatDoorQJ15
import Derived.Test.YtljjlhdkkbaehaaGreatDoorQLexC
import Derived.Test.YtljjlhdkkbaehaaGreatDoorQLxD
import Derived.Test.YtljjlhdkkbaehaaGreatDoorQLexA
import Derived.Lib.Builder
import Derived.Laws.Externs
import Derived.OwnWalk
import Derived.Handy
import Derived.Test.YtljjlhdkkbaehaaGreatDoorQLexG
import Derived.Lib.ItoaLen
import Derived.BigRegion
import Derived.Lib.ItoaMem
set_option linter.unusedSimpArgs false
set_option linter.unusedVariables false
set_option maxHeartbeats 8000000
set_option maxRecDepth 20000
namespace Go.Proofs.YtljjlhdkkbaehaaGreatDoor
open Go.RowKit Go.Lamb
/-- read.Valid -/
def c18 : AC :=
  .seq (.reg [.o 2 (.box (.t 0)), .o 3 (.box (.t 1)), .o 4 (.mov (.k (.c (.bool false))))])
  (.seq (.reg [.l 12 2, .f 13 1 3, .l 14 13, .k 15 40 [(.t 12), (.t 14)], .m 11 15, .x 16 11 0, .x 17 11 1, .o 5 (.box (.k (.agg [.c (.str []), .c (.int .i64 0), .c (.int .i64 0)]))), .s 3 5 16, .m 6 17])
  (.seq (.dreg [.f 18 1 3, .l 19 18, .k 20 41 [(.t 19)], .f 21 1 3, .l 22 21, .k 23 42 [(.t 22)], .m 7 20, .m 8 23]
    [.q (.f 18 1 3), .q (.l 19 18), ⟨.k 20 41 [(.t 19)], true, 0⟩, .q (.f 21 1 3), .q (.l 22 21), ⟨.k 23 42 [(.t 22)], true, 1⟩, ⟨.m 7 20, false, 2⟩, ⟨.m 8 23, false, 2⟩])
  (.seq (.reg [.o 9 (.mov (.k (.c (.bool false))))])
  (.seq (.reg [.o 10 (.mov (.k (.c (.int .i64 0))))])
  (.seq (.seq (.reg [.f 24 0 3, .l 25 24])
  (.block 0 (.seq (.reg [.o 27 (.bin .eql (.t 25) (.k (.c (.int .i64 0)))), .m 26 27])
  (.cond (.t 26)
  (.reg [.m 28 7, .m 29 28, .z 30 (.fadd 1 (.t 3)) 29, .z 31 (.load1 (.t 30)) 29, .z 32 (.call (.k (.fn 43 [])) [(.t 31)]) 29, .o 33 (.pick (.t 29) (.k (.c (.bool true))) (.t 32)), .m 9 33])
  (.seq (.reg [.o 35 (.bin .eql (.t 25) (.k (.c (.int .i64 1)))), .m 34 35])
  (.cond (.t 34)
  (.reg [.m 36 8, .m 37 36, .y 38 (.mov (.t 6)) 37, .y 39 (.un .not (.t 38)) 37, .o 40 (.pick (.t 37) (.t 39) (.k (.c (.bool false)))), .m 9 40])
  (.seq (.reg [.o 42 (.bin .eql (.t 25) (.k (.c (.int .i64 2)))), .m 41 42])
  (.cond (.t 41)
  (.reg [.f 43 1 3, .l 44 43, .o 45 (.bin .eql (.t 44) (.k (.c (.str [])))), .m 46 45, .y 47 (.fadd 2 (.t 3)) 46, .y 48 (.load1 (.t 47)) 46, .y 49 (.bin .geq (.t 48) (.k (.c (.int .i64 0)))) 46, .o 50 (.pick (.t 46) (.t 49) (.k (.c (.bool false)))), .m 9 50])
  (.seq (.reg [.o 52 (.bin .eql (.t 25) (.k (.c (.int .i64 3)))), .m 51 52])
  (.cond (.t 51)
  (.reg [.f 53 1 3, .l 54 53, .o 55 (.bin .eql (.t 54) (.k (.c (.str [])))), .m 9 55, .o 10 (.mov (.k (.c (.int .i64 2))))])
  (.seq (.reg [.o 57 (.bin .eql (.t 25) (.k (.c (.int .i64 4)))), .m 56 57])
  (.cond (.t 56)
  (.reg [.m 58 7, .m 59 58, .z 60 (.mov (.t 8)) 59, .o 61 (.pick (.t 59) (.k (.c (.bool true))) (.t 60)), .m 62 61, .y 63 (.mov (.t 6)) 62, .y 64 (.un .not (.t 63)) 62, .o 65 (.pick (.t 62) (.t 64) (.k (.c (.bool false)))), .m 9 65, .o 10 (.mov (.k (.c (.int .i64 1))))])
  (.skip)))))))))))))
  (.seq (.seq (.reg [.m 66 9, .o 67 (.un .not (.t 66)), .m 68 67, .z 69 (.fadd 3 (.t 3)) 68, .z 70 (.load1 (.t 69)) 68, .z 71 (.lenr (.t 70)) 68, .z 72 (.mov (.t 10)) 68, .z 73 (.bin .neq (.t 71) (.t 72)) 68, .o 74 (.pick (.t 68) (.k (.c (.bool true))) (.t 73)), .m 75 74, .z 76 (.fadd 0 (.t 3)) 75, .z 77 (.load1 (.t 76)) 75, .z 78 (.bin .neq (.t 77) (.k (.c (.int .i64 2)))) 75, .z 79 (.mov (.t 78)) 75, .y 80 (.fadd 2 (.t 3)) 79, .y 81 (.load1 (.t 80)) 79, .y 82 (.bin .neq (.t 81) (.k (.c (.int .i64 0)))) 79, .z 83 (.pick (.t 79) (.t 82) (.k (.c (.bool false)))) 75, .o 84 (.pick (.t 75) (.k (.c (.bool true))) (.t 83))])
  (.cond (.t 84)
  (.seq (.reg [.o 4 (.mov (.k (.c (.bool false))))])
  (.ret))
  (.skip)))
  (.seq (.reg [.f 85 3 3, .l 86 85, .o 87 (.mkfn 45 [(.t 2)]), .k 88 44 [(.t 86), (.t 87)], .o 89 (.un .not (.t 88)), .m 4 89])
  (.ret))))))))
def r18 : List ResV := [.tmp 4]
theorem k18 : CodeIs Tryz.prog 18 2 Tryz.f18 c18 r18 := ⟨by kernel_rfl, Tryz.func18, rfl, by kernel_rfl, by kernel_rfl, by decide, enters_fn Tryz.func18 (by kernel_rfl) rfl⟩
/-- read.Valid$1 -/
def c45 : AC :=
  .seq (.reg [.o 2 (.box (.t 0)), .o 3 (.mov (.k (.c (.bool false))))])
  (.seq (.reg [.l 4 1, .d 5 5 2, .k 6 18 [(.t 4), (.t 5)], .o 7 (.un .not (.t 6)), .m 3 7])
  (.ret))
def r45 : List ResV := [.tmp 3]
theorem k45 : CodeIs Tryz.prog 45 2 Tryz.f45 c45 r45 := ⟨by kernel_rfl, Tryz.func45, rfl, by kernel_rfl, by kernel_rfl, by decide, enters_fn Tryz.func45 (by kernel_rfl) rfl⟩
/-- read.Same -/
def c19 : AC :=
  .seq (.reg [.o 2 (.box (.t 0)), .o 3 (.box (.t 1)), .o 4 (.mov (.k (.c (.bool false))))])
  (.seq (.reg [.f 5 0 2, .l 6 5, .f 7 0 3, .l 8 7, .o 9 (.bin .eql (.t 6) (.t 8)), .m 10 9, .y 11 (.fadd 1 (.t 2)) 10, .y 12 (.load1 (.t 11)) 10, .y 13 (.fadd 1 (.t 3)) 10, .y 14 (.load1 (.t 13)) 10, .y 15 (.bin .eql (.t 12) (.t 14)) 10, .o 16 (.pick (.t 10) (.t 15) (.k (.c (.bool false)))), .m 17 16, .y 18 (.fadd 2 (.t 2)) 17, .y 19 (.load1 (.t 18)) 17, .y 20 (.fadd 2 (.t 3)) 17, .y 21 (.load1 (.t 20)) 17, .y 22 (.bin .eql (.t 19) (.t 21)) 17, .o 23 (.pick (.t 17) (.t 22) (.k (.c (.bool false)))), .m 24 23, .y 25 (.fadd 3 (.t 2)) 24, .y 26 (.load1 (.t 25)) 24, .y 27 (.fadd 3 (.t 3)) 24, .y 28 (.load1 (.t 27)) 24, .y 29 (.call (.k (.fn 46 [])) [(.t 26), (.t 28), (.k (.fn 19 []))]) 24, .o 30 (.pick (.t 24) (.t 29) (.k (.c (.bool false)))), .m 4 30])
  (.ret))
def r19 : List ResV := [.tmp 4]
theorem k19 : CodeIs Tryz.prog 19 2 Tryz.f19 c19 r19 := ⟨by kernel_rfl, Tryz.func19, rfl, by kernel_rfl, by kernel_rfl, by decide, enters_fn Tryz.func19 (by kernel_rfl) rfl⟩
/-- slices.ContainsFunc[[]api.Pre,api.Pre] -/
def c44 : AC :=
  .seq (.reg [.o 4 (.mov (.k (.c (.bool false))))])
  (.seq (.reg [.m 5 0, .m 6 1, .k 7 86 [(.t 5), (.t 6)], .o 8 (.bin .geq (.t 7) (.k (.c (.int .i64 0)))), .m 4 8])
  (.ret))
def r44 : List ResV := [.tmp 4]
theorem k44 : CodeIs Tryz.prog 44 2 Tryz.f44 c44 r44 := ⟨by kernel_rfl, Tryz.func44, rfl, by kernel_rfl, by kernel_rfl, by decide, enters_fn Tryz.func44 (by kernel_rfl) rfl⟩
/-- slices.EqualFunc[[]api.Pre,[]api.Pre,api.Pre,api.Pre] -/
def c46 : AC :=
  .seq (.reg [.o 6 (.mov (.k (.c (.bool false))))])
  (.seq (.seq (.reg [.m 10 0, .o 11 (.lenr (.t 10)), .m 12 1, .o 13 (.lenr (.t 12)), .o 14 (.bin .neq (.t 11) (.t 13))])
  (.cond (.t 14)
  (.seq (.reg [.o 6 (.mov (.k (.c (.bool false))))])
  (.ret))
  (.skip)))
  (.seq (.seq (.reg [.m 15 0, .o 16 (.lenr (.t 15)), .o 17 (.mov (.k (.c (.int .i64 0))))])
  (.block 0 (.loop (.seq (.reg [.o 18 (.bin .lss (.t 17) (.t 16))])
  (.seq (.cond (.t 18)
  (.skip)
  (.exit 0))
  (.seq (.block 1 (.seq (.reg [.m 19 17, .o 20 (.iadd 5 (.t 15) (.t 17)), .d 21 5 20, .o 8 (.box (.k (.agg [.c (.int .i64 0), .c (.str []), .c (.int .i64 0), .csl [], .c (.int .i64 0)]))), .m 7 19, .s 5 8 21])
  (.seq (.reg [.m 22 1, .m 23 7, .o 24 (.iadd 5 (.t 22) (.t 23)), .d 25 5 24, .o 9 (.box (.k (.agg [.c (.int .i64 0), .c (.str []), .c (.int .i64 0), .csl [], .c (.int .i64 0)]))), .s 5 9 25])
  (.seq (.reg [.m 26 2, .d 27 5 8, .d 28 5 9, .o 29 (.call (.t 26) [(.t 27), (.t 28)]), .o 30 (.un .not (.t 29))])
  (.cond (.t 30)
  (.seq (.reg [.o 6 (.mov (.k (.c (.bool false))))])
  (.ret))
  (.skip))))))
  (.reg [.o 31 (.bin .add (.t 17) (.k (.c (.int .i64 1)))), .m 17 31])))))))
  (.seq (.reg [.o 6 (.mov (.k (.c (.bool true))))])
  (.ret))))
def r46 : List ResV := [.tmp 6]
theorem k46 : CodeIs Tryz.prog 46 3 Tryz.f46 c46 r46 := ⟨by kernel_rfl, Tryz.func46, rfl, by kernel_rfl, by kernel_rfl, by decide, enters_fn Tryz.func46 (by kernel_rfl) rfl⟩
/-- slices.IndexFunc[[]api.Pre,api.Pre] -/
def c86 : AC :=
  .seq (.reg [.o 4 (.mov (.k (.c (.int .i64 0))))])
  (.seq (.seq (.reg [.m 6 0, .o 7 (.lenr (.t 6)), .o 8 (.mov (.k (.c (.int .i64 0))))])
  (.block 0 (.loop (.seq (.reg [.o 9 (.bin .lss (.t 8) (.t 7))])
  (.seq (.cond (.t 9)
  (.skip)
  (.exit 0))
  (.seq (.block 1 (.seq (.reg [.m 10 8, .m 5 10])
  (.seq (.reg [.m 11 1, .m 12 0, .m 13 5, .o 14 (.iadd 5 (.t 12) (.t 13)), .d 15 5 14, .o 16 (.call (.t 11) [(.t 15)])])
  (.cond (.t 16)
  (.seq (.reg [.m 17 5, .m 4 17])
  (.ret))
  (.skip)))))
  (.reg [.o 18 (.bin .add (.t 8) (.k (.c (.int .i64 1)))), .m 8 18])))))))
  (.seq (.reg [.o 4 (.mov (.k (.c (.int .i64 (-1)))))])
  (.ret)))
def r86 : List ResV := [.tmp 4]
theorem k86 : CodeIs Tryz.prog 86 2 Tryz.f86 c86 r86 := ⟨by kernel_rfl, Tryz.func86, rfl, by kernel_rfl, by kernel_rfl, by decide, enters_fn Tryz.func86 (by kernel_rfl) rfl⟩
--absent /-- ref03.Valid -/
--absent /-- ref03.Same -/
--absent /-- law03.over -/
--absent /-- law03.works -/
--absent /-- law03.ReadTexts -/
--absent /-- law03.ReadTrees -/
--absent /-- law03.ReadParts -/
--absent /-- law03.ReadDeep -/
end Go.Proofs.YtljjlhdkkbaehaaGreatDoor
namespace Go.Proofs.YtljjlhdkkbaehaaGreatDoor
open Go.RowKit Go.Lamb
/-- lambentref01.IsName -/
def c63 : AC :=
  .seq (.reg [.o 2 (.mov (.k (.c (.bool false))))])
  (.seq (.seq (.reg [.m 5 0, .o 6 (.lens (.t 5)), .o 7 (.bin .lss (.t 6) (.k (.c (.int .i64 1)))), .m 8 7, .z 9 (.mov (.t 0)) 8, .z 10 (.lens (.t 9)) 8, .z 11 (.bin .gtr (.t 10) (.k (.c (.int .i64 32)))) 8, .o 12 (.pick (.t 8) (.k (.c (.bool true))) (.t 11)), .m 13 12, .z 14 (.mov (.t 0)) 13, .z 15 (.index (.t 14) (.k (.c (.int .i64 0)))) 13, .z 16 (.call (.k (.fn 91 [])) [(.t 15)]) 13, .z 17 (.un .not (.t 16)) 13, .o 18 (.pick (.t 13) (.k (.c (.bool true))) (.t 17))])
  (.cond (.t 18)
  (.seq (.reg [.o 2 (.mov (.k (.c (.bool false))))])
  (.ret))
  (.skip)))
  (.seq (.seq (.reg [.o 3 (.mov (.k (.c (.int .i64 0))))])
  (.block 0 (.loop (.seq (.seq (.reg [.m 19 3, .m 20 0, .o 21 (.lens (.t 20)), .o 22 (.bin .lss (.t 19) (.t 21))])
  (.cond (.t 22)
  (.skip)
  (.exit 0)))
  (.seq (.block 1 (.seq (.reg [.m 25 0, .m 26 3, .o 27 (.index (.t 25) (.t 26)), .k 28 92 [(.t 27)], .m 4 28])
  (.seq (.reg [.m 29 4, .o 30 (.un .not (.t 29))])
  (.cond (.t 30)
  (.seq (.reg [.o 2 (.mov (.k (.c (.bool false))))])
  (.ret))
  (.skip)))))
  (.reg [.m 23 3, .o 24 (.bin .add (.t 23) (.k (.c (.int .i64 1)))), .m 3 24]))))))
  (.seq (.reg [.o 2 (.mov (.k (.c (.bool true))))])
  (.ret))))
def r63 : List ResV := [.tmp 2]
theorem k63 : CodeIs Tryz.prog 63 1 Tryz.f63 c63 r63 := ⟨by kernel_rfl, Tryz.func63, rfl, by kernel_rfl, by kernel_rfl, by decide, enters_fn Tryz.func63 (by kernel_rfl) rfl⟩
--absent /-- ref01.IsVar -/
/-- lambentref01.IsSym -/
def c64 : AC :=
  .seq (.reg [.o 2 (.mov (.k (.c (.bool false))))])
  (.seq (.seq (.reg [.m 5 0, .o 6 (.bin .eql (.t 5) (.k (.c (.str [44])))), .m 7 6, .z 8 (.mov (.t 0)) 7, .z 9 (.bin .eql (.t 8) (.k (.c (.str [59])))) 7, .o 10 (.pick (.t 7) (.k (.c (.bool true))) (.t 9)), .m 11 10, .z 12 (.mov (.t 0)) 11, .z 13 (.bin .eql (.t 12) (.k (.c (.str [33])))) 11, .o 14 (.pick (.t 11) (.k (.c (.bool true))) (.t 13))])
  (.cond (.t 14)
  (.seq (.reg [.o 2 (.mov (.k (.c (.bool true))))])
  (.ret))
  (.skip)))
  (.seq (.seq (.reg [.o 3 (.mov (.k (.c (.int .i64 0))))])
  (.block 0 (.loop (.seq (.seq (.reg [.m 15 3, .m 16 0, .o 17 (.lens (.t 16)), .o 18 (.bin .lss (.t 15) (.t 17))])
  (.cond (.t 18)
  (.skip)
  (.exit 0)))
  (.seq (.block 1 (.seq (.reg [.m 21 0, .m 22 3, .o 23 (.index (.t 21) (.t 22)), .k 24 93 [(.t 23)], .m 4 24])
  (.seq (.reg [.m 25 4, .o 26 (.un .not (.t 25))])
  (.cond (.t 26)
  (.seq (.reg [.o 2 (.mov (.k (.c (.bool false))))])
  (.ret))
  (.skip)))))
  (.reg [.m 19 3, .o 20 (.bin .add (.t 19) (.k (.c (.int .i64 1)))), .m 3 20]))))))
  (.seq (.reg [.m 27 0, .o 28 (.lens (.t 27)), .o 29 (.bin .geq (.t 28) (.k (.c (.int .i64 1)))), .m 30 29, .y 31 (.mov (.t 0)) 30, .y 32 (.lens (.t 31)) 30, .y 33 (.bin .leq (.t 32) (.k (.c (.int .i64 32)))) 30, .o 34 (.pick (.t 30) (.t 33) (.k (.c (.bool false)))), .m 2 34])
  (.ret))))
def r64 : List ResV := [.tmp 2]
theorem k64 : CodeIs Tryz.prog 64 1 Tryz.f64 c64 r64 := ⟨by kernel_rfl, Tryz.func64, rfl, by kernel_rfl, by kernel_rfl, by decide, enters_fn Tryz.func64 (by kernel_rfl) rfl⟩
end Go.Proofs.YtljjlhdkkbaehaaGreatDoor
namespace Go.Proofs.YtljjlhdkkbaehaaGreatDoor
open Go.RowKit Go.Lamb
attribute [local go_sem] advO_skip advO_reg advO_seq advO_block advO_exit advO_endb advO_opsNil advO_ops advG_yes advG_no advG_none advS_some advS_none advO_cond advO_loop advO_dreg advO_ret advO_bad advO_inv advO_nil advO_zero wantedV Lamb.step ev_t ev_k put_some put_none argEnv popTo cellsAt V.cellsV V.rows V.toC toCs fillV bytesC byteRows appV rowsV boundV boundL binV binInt binStr eqC eqL V.isNil leaves V.leaf Ins.quiet Ins.pure List.getD_cons_zero List.getD_cons_succ List.getD_nil List.all_cons List.all_nil List.length_cons List.length_nil List.take_succ_cons List.take_zero List.drop_succ_cons List.drop_zero List.cons_append List.nil_append List.append_nil List.append_assoc List.map_cons List.map_nil List.getElem?_cons_zero List.getElem?_cons_succ List.length_append List.length_set hget0 hget hset0 hset hsets hgs0 hgs hss0 hss List.set_cons_zero List.set_cons_succ List.forall_mem_cons List.not_mem_nil false_implies implies_true Option.map_some Bool.and_true Bool.true_and Bool.not_not Bool.not_true Bool.not_false Bool.and_self Bool.or_true Bool.true_or Bool.or_false Bool.false_or Bool.and_false Bool.false_and Bool.false_eq_true beq_self_eq_true and_self and_true true_and if_true if_false Nat.zero_add Nat.add_zero Nat.le_refl Int.toNat_natCast decide_true decide_false beq_t beq_f List.length_map List.getElem?_map I S B opsC toksC OpT.v OpT.cs OpT.zero Tok.v Tok.cs Pre.v Pre.cs_eq k_mk name_mk n_mk l_mk pos_mk Pre.app applyL natCast0 natCast1 natCast2 AOp.o AOp.m AOp.f AOp.l AOp.d AOp.n AOp.x AOp.s AOp.k AOp.y AOp.z EOp.q low_c low_void low_any low_csl low_nilf low_ptr low_osl low_agg low_tup low_fn resEval advPO_nil advPO_loud advPO_quiet pL_yes pL_no pLS_some pLS_none pQ_yes pQ_no pQS_some pQS_loud eq_self Nat.sub_zero

theorem DC.of_byte {w0 : World} {f : FuncId} {c : UInt8} {b : Bool} {σ : H} (hen : Enters Tryz.prog f) (h : ∀ w, Calls Tryz.prog f #[.int .u8 c.toNat] w (Ret (.bool b) w)) : DC Tryz.prog w0 f [.c (.int .u8 c.toNat)] σ (Same (B b) σ) := by
  refine DC.of_calls hen fun κ w vs hrep hfit => ?_
  obtain ⟨v, ys, rfl, hv, hfit⟩ := hfit.cons_inv
  have := hfit.nil_inv
  subst this
  cases hv with
  | c hv =>
    cases hv with
    | int _ =>
      refine ⟨.bool b, .c (.bool b), (h w).mono ?_⟩
      rintro e w' ⟨rfl, rfl⟩
      exact ⟨rfl, Below.refl _ _⟩
theorem ref01_signD (w0 : World) (c : UInt8) (σ : H) : DC Tryz.prog w0 93 [.c (.int .u8 c.toNat)] σ (Same (B (signB c)) σ) :=
  DC.of_byte (enters_fn Tryz.func93 (by kernel_rfl) rfl) fun w => ref_sign c w
theorem fits_no {s : List UInt8} (h : 32 < s.length) : fitsB s = false := by simp [fitsB]; omega
theorem ref01_IsNameD (w0 : World) (s : List UInt8) (σ : H) : DC Tryz.prog w0 63 [S s] σ (Same (B (isNameB s)) σ) := by
  by_cases hs : s.length ≤ 1000000
  · exact DC.of_text (enters_fn Tryz.func63 (by kernel_rfl) rfl) fun w _ => ref_IsName s w (by omega)
  · refine k63.go rfl (fun hok hsz => ?_)
    have h1 : ¬ ((s.length : Int) < 1) := by omega
    have h2 : ((s.length : Int) > 32) := by omega
    ((try refine W.a ?_); simp only [go_sem, seval, reduceCtorEq, c63, h1, h2])
    refine W.yes rfl ?_
    ((try refine W.a ?_); simp only [go_sem, seval, reduceCtorEq])
    (refine W.fs (hok) (by simp only [r63, go_sem, seval, reduceCtorEq]; rfl) ?_; simp only [resV]; try exact V.wk.rfl _)
    rw [isNameB, fits_no (by omega)]; exact .rfl _
theorem ref01_IsSymD (w0 : World) (s : List UInt8) (σ : H) : DC Tryz.prog w0 64 [S s] σ (Same (B (isSymB s)) σ) := by
  by_cases hs : s.length ≤ 1000000
  · exact DC.of_text (enters_fn Tryz.func64 (by kernel_rfl) rfl) fun w _ => ref_IsSym s w (by omega)
  · refine k64.go rfl (fun hok hsz => ?_)
    have hlen : s.length ≤ 9223372036854775807 := by have := sz_text hsz (List.mem_cons_self ..); unfold maxLen at this; exact this
    have hne : ∀ c : UInt8, (s == [c]) = false := fun c => by
      rw [beq_eq_false_iff_ne]; intro e; rw [e] at hs; simp at hs
    have hF : isSymB s = false := by rw [isSymB, fits_no (by omega)]; rfl
    ((try refine W.a ?_); simp only [go_sem, seval, reduceCtorEq, c64, hne])
    refine W.no rfl ?_
    ((try refine W.a ?_); simp only [go_sem, seval, reduceCtorEq])
    refine W.loopP (fun i => i ≤ s.length) (fun i => ⟨((base.put (some 0) (S s)).put (some 3) (I (i : Nat))), σ⟩) (fun i => s.length - i) 0 (Nat.zero_le _) ?_ (fun i hi => ?_)
    · (refine Lew.env ?_; exact lee_here)
    · by_cases hlt : i < s.length
      · have h1 : ((i : Int) < (s.length : Int)) := by omega
        have hx : s[i]? = some s[i] := List.getElem?_eq_getElem hlt
        have hw := wrap_next hlt hlen
        ((try refine W.a ?_); simp only [go_sem, seval, reduceCtorEq, h1])
        refine W.yes rfl ?_
        ((try refine W.a ?_); simp only [go_sem, seval, reduceCtorEq, h1, nat0, hx])
        (refine W.c1 (ref01_signD w0 s[i] _) ?_; simp only [go_sem, seval, reduceCtorEq])
        refine W.testn rfl (fun h => ?_) (fun h => ?_)
        · ((try refine W.a ?_); simp only [go_sem, seval, reduceCtorEq, hw])
          refine .inv ⟨i + 1, hlt, by omega, ?_⟩
          (refine Lew.env ?_; exact lee_here)
        · ((try refine W.a ?_); simp only [go_sem, seval, reduceCtorEq])
          (refine W.fs (hok) (by simp only [r64, go_sem, seval, reduceCtorEq]; rfl) ?_; simp only [resV]; try exact V.wk.rfl _)
          rw [hF]; exact .rfl _
      · have h1 : ¬ ((i : Int) < (s.length : Int)) := by omega
        have h2 : ((s.length : Int) ≥ 1) := by omega
        have h3 : ¬ ((s.length : Int) ≤ 32) := by omega
        ((try refine W.a ?_); simp only [go_sem, seval, reduceCtorEq, h1])
        refine W.no rfl ?_
        ((try refine W.a ?_); simp only [go_sem, seval, reduceCtorEq, h2, h3])
        (refine W.fs (hok) (by simp only [r64, go_sem, seval, reduceCtorEq]; rfl) ?_; simp only [resV]; try exact V.wk.rfl _)
        rw [hF]; exact .rfl _

theorem reserved_first {s : Str} (h : reservedL s = true) : ((s == [33]) = true) ∨ ((s == [33]) = false ∧ (s == [45, 62]) = true) ∨ ((s == [33]) = false ∧ (s == [45, 62]) = false ∧ (s == [107, 105, 110, 100]) = true) ∨ ((s == [33]) = false ∧ (s == [45, 62]) = false ∧ (s == [107, 105, 110, 100]) = false ∧ (s == [116, 121, 112, 101]) = true) ∨ ((s == [33]) = false ∧ (s == [45, 62]) = false ∧ (s == [107, 105, 110, 100]) = false ∧ (s == [116, 121, 112, 101]) = false ∧ (s == [105, 110, 102, 105, 120]) = true) ∨ ((s == [33]) = false ∧ (s == [45, 62]) = false ∧ (s == [107, 105, 110, 100]) = false ∧ (s == [116, 121, 112, 101]) = false ∧ (s == [105, 110, 102, 105, 120]) = false ∧ (s == [105, 110, 102, 105, 120, 108]) = true) ∨ ((s == [33]) = false ∧ (s == [45, 62]) = false ∧ (s == [107, 105, 110, 100]) = false ∧ (s == [116, 121, 112, 101]) = false ∧ (s == [105, 110, 102, 105, 120]) = false ∧ (s == [105, 110, 102, 105, 120, 108]) = false ∧ (s == [105, 110, 102, 105, 120, 114]) = true) := by
  unfold reservedL at h
  simp only [Bool.or_eq_true] at h
  cases e1 : (s == [33])
  case true => simp
  cases e2 : (s == [45, 62])
  case true => simp
  cases e3 : (s == [107, 105, 110, 100])
  case true => simp
  cases e4 : (s == [116, 121, 112, 101])
  case true => simp
  cases e5 : (s == [105, 110, 102, 105, 120])
  case true => simp
  cases e6 : (s == [105, 110, 102, 105, 120, 108])
  case true => simp
  cases e7 : (s == [105, 110, 102, 105, 120, 114])
  case true => simp
  simp [e1, e2, e3, e4, e5, e6, e7] at h
theorem reserved_not {s : Str} (h : reservedL s = false) : (s == [33]) = false ∧ (s == [45, 62]) = false ∧ (s == [107, 105, 110, 100]) = false ∧ (s == [116, 121, 112, 101]) = false ∧ (s == [105, 110, 102, 105, 120]) = false ∧ (s == [105, 110, 102, 105, 120, 108]) = false ∧ (s == [105, 110, 102, 105, 120, 114]) = false := by
  simpa [reservedL, and_assoc] using h
theorem ref02_Declare (w0 : World) (l : List OpT) (name : Str) (prec fix : Int) (hf : fix = 0 ∨ fix = 1 ∨ fix = 2) (σ : H) : DC Tryz.prog w0 34 [.c (opsC l), OpT.v ⟨name, prec, fix⟩] σ (Same (I (wrongL l ⟨name, prec, fix⟩)) σ) := by
  refine k34.go rfl (fun hok hsz => ?_)
  have hw : wrongL l ⟨name, prec, fix⟩ = if (isNameB name = false ∧ isSymB name = false) ∨ reservedL name = true then 20 else if prec < 1 ∨ 200 < prec then 21 else if (findL l name).isSome = true then 22 else if 64 ≤ l.length then 23 else 0 := by
    unfold wrongL
    rw [if_neg (by simp only; omega)]
  rw [hw]
  rcases hf with rfl | rfl | rfl
  all_goals
    ((try refine W.a ?_); simp only [go_sem, seval, reduceCtorEq, c34])
    refine W.no rfl ?_
    ((try refine W.a ?_); simp only [go_sem, seval, reduceCtorEq])
    cases hR : reservedL name
    · obtain ⟨e1, e2, e3, e4, e5, e6, e7⟩ := reserved_not hR
      cases hN : isNameB name <;> cases hS : isSymB name
      all_goals
        (refine W.c1 (ref01_IsNameD w0 name _) ?_; simp only [go_sem, seval, reduceCtorEq])
        (refine W.c1 (ref01_IsSymD w0 name _) ?_; simp only [go_sem, seval, reduceCtorEq, hN, hS, e1, e2, e3, e4, e5, e6, e7])
        first
          | (refine W.yes rfl ?_
             ((try refine W.a ?_); simp only [go_sem, seval, reduceCtorEq])
             (refine W.fs (hok) (by simp only [r34, go_sem, seval, reduceCtorEq]; rfl) ?_; simp only [resV]; try exact V.wk.rfl _))
          | (refine W.no rfl ?_
             simp only [and_false, false_and, or_false, Bool.true_eq_false, Bool.false_eq_true, if_false, reduceCtorEq]
             by_cases p1 : prec < 1
             · rw [if_pos (.inl p1)]
               ((try refine W.a ?_); simp only [go_sem, seval, reduceCtorEq, p1])
               refine W.yes rfl ?_
               ((try refine W.a ?_); simp only [go_sem, seval, reduceCtorEq])
               (refine W.fs (hok) (by simp only [r34, go_sem, seval, reduceCtorEq]; rfl) ?_; simp only [resV]; try exact V.wk.rfl _)
             · by_cases p2 : 200 < prec
               · rw [if_pos (.inr p2)]
                 have p2' : prec > 200 := p2
                 ((try refine W.a ?_); simp only [go_sem, seval, reduceCtorEq, p1, p2'])
                 refine W.yes rfl ?_
                 ((try refine W.a ?_); simp only [go_sem, seval, reduceCtorEq])
                 (refine W.fs (hok) (by simp only [r34, go_sem, seval, reduceCtorEq]; rfl) ?_; simp only [resV]; try exact V.wk.rfl _)
               · rw [if_neg (by omega)]
                 have p2' : ¬ prec > 200 := p2
                 ((try refine W.a ?_); simp only [go_sem, seval, reduceCtorEq, p1, p2'])
                 refine W.no rfl ?_
                 ((try refine W.a ?_); simp only [go_sem, seval, reduceCtorEq])
                 cases hF : (findL l name).isSome
                 · by_cases hL : 64 ≤ l.length
                   · have hL' : (l.length : Int) ≥ 64 := by omega
                     (refine W.c1 (ref02_Find w0 l name _) ?_; simp only [go_sem, seval, reduceCtorEq, foundV, hF])
                     refine W.no rfl ?_
                     ((try refine W.a ?_); simp only [go_sem, seval, reduceCtorEq, hL'])
                     refine W.yes rfl ?_
                     ((try refine W.a ?_); simp only [go_sem, seval, reduceCtorEq])
                     rw [if_pos hL]
                     (refine W.fs (hok) (by simp only [r34, go_sem, seval, reduceCtorEq, hF]; rfl) ?_ (hl := by (first | exact .c _ | (simp only [go_sem, seval, reduceCtorEq, hF]; done))); simp only [resV, hF]; try exact V.wk.rfl _)
                   · have hL' : ¬ (l.length : Int) ≥ 64 := by omega
                     (refine W.c1 (ref02_Find w0 l name _) ?_; simp only [go_sem, seval, reduceCtorEq, foundV, hF])
                     refine W.no rfl ?_
                     ((try refine W.a ?_); simp only [go_sem, seval, reduceCtorEq, hL'])
                     refine W.no rfl ?_
                     ((try refine W.a ?_); simp only [go_sem, seval, reduceCtorEq])
                     rw [if_neg hL]
                     (refine W.fs (hok) (by simp only [r34, go_sem, seval, reduceCtorEq, hF]; rfl) ?_ (hl := by (first | exact .c _ | (simp only [go_sem, seval, reduceCtorEq, hF]; done))); simp only [resV, hF]; try exact V.wk.rfl _)
                 · (refine W.c1 (ref02_Find w0 l name _) ?_; simp only [go_sem, seval, reduceCtorEq, foundV, hF])
                   refine W.yes rfl ?_
                   ((try refine W.a ?_); simp only [go_sem, seval, reduceCtorEq])
                   (refine W.fs (hok) (by simp only [r34, go_sem, seval, reduceCtorEq, hF]; rfl) ?_ (hl := by (first | exact .c _ | (simp only [go_sem, seval, reduceCtorEq, hF]; done))); simp only [resV, hF]; try exact V.wk.rfl _))
    · cases hN : isNameB name <;> cases hS : isSymB name
      all_goals
        rcases reserved_first hR with e1 | ⟨e1, e2⟩ | ⟨e1, e2, e3⟩ | ⟨e1, e2, e3, e4⟩ | ⟨e1, e2, e3, e4, e5⟩ | ⟨e1, e2, e3, e4, e5, e6⟩ | ⟨e1, e2, e3, e4, e5, e6, e7⟩
        · (refine W.c1 (ref01_IsNameD w0 _ _) ?_; simp only [go_sem, seval, reduceCtorEq])
          (refine W.c1 (ref01_IsSymD w0 _ _) ?_; simp only [go_sem, seval, reduceCtorEq, hN, hS, e1])
          refine W.yes rfl ?_
          ((try refine W.a ?_); simp only [go_sem, seval, reduceCtorEq])
          (refine W.fs (hok) (by simp only [r34, go_sem, seval, reduceCtorEq, or_true]; rfl) ?_ (hl := by (first | exact .c _ | (simp only [go_sem, seval, reduceCtorEq, or_true]; done))); simp only [resV, or_true]; try exact V.wk.rfl _)
        · (refine W.c1 (ref01_IsNameD w0 _ _) ?_; simp only [go_sem, seval, reduceCtorEq])
          (refine W.c1 (ref01_IsSymD w0 _ _) ?_; simp only [go_sem, seval, reduceCtorEq, hN, hS, e1, e2])
          refine W.yes rfl ?_
          ((try refine W.a ?_); simp only [go_sem, seval, reduceCtorEq])
          (refine W.fs (hok) (by simp only [r34, go_sem, seval, reduceCtorEq, or_true]; rfl) ?_ (hl := by (first | exact .c _ | (simp only [go_sem, seval, reduceCtorEq, or_true]; done))); simp only [resV, or_true]; try exact V.wk.rfl _)
        · (refine W.c1 (ref01_IsNameD w0 _ _) ?_; simp only [go_sem, seval, reduceCtorEq])
          (refine W.c1 (ref01_IsSymD w0 _ _) ?_; simp only [go_sem, seval, reduceCtorEq, hN, hS, e1, e2, e3])
          refine W.yes rfl ?_
          ((try refine W.a ?_); simp only [go_sem, seval, reduceCtorEq])
          (refine W.fs (hok) (by simp only [r34, go_sem, seval, reduceCtorEq, or_true]; rfl) ?_ (hl := by (first | exact .c _ | (simp only [go_sem, seval, reduceCtorEq, or_true]; done))); simp only [resV, or_true]; try exact V.wk.rfl _)
        · (refine W.c1 (ref01_IsNameD w0 _ _) ?_; simp only [go_sem, seval, reduceCtorEq])
          (refine W.c1 (ref01_IsSymD w0 _ _) ?_; simp only [go_sem, seval, reduceCtorEq, hN, hS, e1, e2, e3, e4])
          refine W.yes rfl ?_
          ((try refine W.a ?_); simp only [go_sem, seval, reduceCtorEq])
          (refine W.fs (hok) (by simp only [r34, go_sem, seval, reduceCtorEq, or_true]; rfl) ?_ (hl := by (first | exact .c _ | (simp only [go_sem, seval, reduceCtorEq, or_true]; done))); simp only [resV, or_true]; try exact V.wk.rfl _)
        · (refine W.c1 (ref01_IsNameD w0 _ _) ?_; simp only [go_sem, seval, reduceCtorEq])
          (refine W.c1 (ref01_IsSymD w0 _ _) ?_; simp only [go_sem, seval, reduceCtorEq, hN, hS, e1, e2, e3, e4, e5])
          refine W.yes rfl ?_
          ((try refine W.a ?_); simp only [go_sem, seval, reduceCtorEq])
          (refine W.fs (hok) (by simp only [r34, go_sem, seval, reduceCtorEq, or_true]; rfl) ?_ (hl := by (first | exact .c _ | (simp only [go_sem, seval, reduceCtorEq, or_true]; done))); simp only [resV, or_true]; try exact V.wk.rfl _)
        · (refine W.c1 (ref01_IsNameD w0 _ _) ?_; simp only [go_sem, seval, reduceCtorEq])
          (refine W.c1 (ref01_IsSymD w0 _ _) ?_; simp only [go_sem, seval, reduceCtorEq, hN, hS, e1, e2, e3, e4, e5, e6])
          refine W.yes rfl ?_
          ((try refine W.a ?_); simp only [go_sem, seval, reduceCtorEq])
          (refine W.fs (hok) (by simp only [r34, go_sem, seval, reduceCtorEq, or_true]; rfl) ?_ (hl := by (first | exact .c _ | (simp only [go_sem, seval, reduceCtorEq, or_true]; done))); simp only [resV, or_true]; try exact V.wk.rfl _)
        · (refine W.c1 (ref01_IsNameD w0 _ _) ?_; simp only [go_sem, seval, reduceCtorEq])
          (refine W.c1 (ref01_IsSymD w0 _ _) ?_; simp only [go_sem, seval, reduceCtorEq, hN, hS, e1, e2, e3, e4, e5, e6, e7])
          refine W.yes rfl ?_
          ((try refine W.a ?_); simp only [go_sem, seval, reduceCtorEq])
          (refine W.fs (hok) (by simp only [r34, go_sem, seval, reduceCtorEq, or_true]; rfl) ?_ (hl := by (first | exact .c _ | (simp only [go_sem, seval, reduceCtorEq, or_true]; done))); simp only [resV, or_true]; try exact V.wk.rfl _)
end Go.Proofs.YtljjlhdkkbaehaaGreatDoor
namespace Go.Proofs.YtljjlhdkkbaehaaGreatDoor
open Go.RowKit Go.Lamb
/-- lambentlaw04.over -/
def c9 : AC :=
  .seq (.reg [.o 3 (.box (.t 1)), .o 4 (.mov (.k (.c (.bool false))))])
  (.seq (.seq (.reg [.m 6 0, .o 7 (.lenr (.t 6)), .o 8 (.bin .gtr (.t 7) (.k (.c (.int .i64 100))))])
  (.cond (.t 8)
  (.seq (.reg [.o 4 (.mov (.k (.c (.bool true))))])
  (.ret))
  (.skip)))
  (.seq (.seq (.reg [.o 5 (.mov (.k (.c (.int .i64 0))))])
  (.block 0 (.loop (.seq (.seq (.reg [.m 9 5, .m 10 0, .o 11 (.lenr (.t 10)), .o 12 (.bin .lss (.t 9) (.t 11))])
  (.cond (.t 12)
  (.skip)
  (.exit 0)))
  (.seq (.block 1 (.seq (.reg [.m 15 0, .m 16 5, .o 17 (.iadd 3 (.t 15) (.t 16)), .f 18 0 17, .l 19 18, .o 20 (.lens (.t 19)), .o 21 (.bin .gtr (.t 20) (.k (.c (.int .i64 100))))])
  (.cond (.t 21)
  (.seq (.reg [.o 4 (.mov (.k (.c (.bool true))))])
  (.ret))
  (.skip))))
  (.reg [.m 13 5, .o 14 (.bin .add (.t 13) (.k (.c (.int .i64 1)))), .m 5 14]))))))
  (.seq (.reg [.d 22 5 3, .k 23 17 [(.t 22), (.k (.c (.int .i64 150)))], .m 24 23, .z 25 (.loadn 5 (.t 3)) 24, .z 26 (.call (.k (.fn 22 [])) [(.t 25)]) 24, .o 27 (.pick (.t 24) (.k (.c (.bool true))) (.t 26)), .m 4 27])
  (.ret))))
def r9 : List ResV := [.tmp 4]
theorem k9 : CodeIs Tryz.prog 9 2 Tryz.f9 c9 r9 := ⟨by kernel_rfl, Tryz.func9, rfl, by kernel_rfl, by kernel_rfl, by decide, enters_fn Tryz.func9 (by kernel_rfl) rfl⟩
/-- lambentlaw04.long -/
def c22 : AC :=
  .seq (.reg [.o 1 (.box (.t 0)), .o 2 (.mov (.k (.c (.bool false))))])
  (.seq (.seq (.reg [.f 5 1 1, .l 6 5, .o 7 (.lens (.t 6)), .o 8 (.bin .gtr (.t 7) (.k (.c (.int .i64 100))))])
  (.cond (.t 8)
  (.seq (.reg [.o 2 (.mov (.k (.c (.bool true))))])
  (.ret))
  (.skip)))
  (.seq (.seq (.reg [.o 3 (.mov (.k (.c (.int .i64 0))))])
  (.block 0 (.loop (.seq (.seq (.reg [.m 9 3, .f 10 3 1, .l 11 10, .o 12 (.lenr (.t 11)), .o 13 (.bin .lss (.t 9) (.t 12))])
  (.cond (.t 13)
  (.skip)
  (.exit 0)))
  (.seq (.block 1 (.seq (.reg [.f 16 3 1, .l 17 16, .m 18 3, .o 19 (.iadd 5 (.t 17) (.t 18)), .d 20 5 19, .k 21 22 [(.t 20)], .m 4 21])
  (.seq (.reg [.m 22 4])
  (.cond (.t 22)
  (.seq (.reg [.o 2 (.mov (.k (.c (.bool true))))])
  (.ret))
  (.skip)))))
  (.reg [.m 14 3, .o 15 (.bin .add (.t 14) (.k (.c (.int .i64 1)))), .m 3 15]))))))
  (.seq (.reg [.o 2 (.mov (.k (.c (.bool false))))])
  (.ret))))
def r22 : List ResV := [.tmp 2]
theorem k22 : CodeIs Tryz.prog 22 1 Tryz.f22 c22 r22 := ⟨by kernel_rfl, Tryz.func22, rfl, by kernel_rfl, by kernel_rfl, by decide, enters_fn Tryz.func22 (by kernel_rfl) rfl⟩
/-- lambentlaw04.tree -/
def c21 : AC :=
  .seq (.reg [.o 2 (.box (.k (.agg [.c (.int .i64 0), .c (.str []), .c (.int .i64 0), .csl [], .c (.int .i64 0)])))])
  (.seq (.reg [.m 11 0, .k 12 15 [(.t 11)], .m 10 12, .x 13 10 0, .x 14 10 1, .x 15 10 2, .m 3 13, .m 4 14, .m 5 15])
  (.seq (.reg [.k 17 20 [], .m 18 3, .k 19 16 [(.t 17), (.t 18), (.k (.c (.int .i64 0)))], .m 16 19, .x 20 16 0, .x 21 16 1, .x 22 16 2, .x 23 16 3, .o 6 (.box (.k (.agg [.c (.int .i64 0), .c (.str []), .c (.int .i64 0), .csl [], .c (.int .i64 0)]))), .s 5 6 20, .m 7 21, .m 8 22, .m 9 23])
  (.seq (.reg [.d 24 5 6, .s 5 2 24])
  (.ret))))
def r21 : List ResV := [.celln 5 2]
theorem k21 : CodeIs Tryz.prog 21 1 Tryz.f21 c21 r21 := ⟨by kernel_rfl, Tryz.func21, rfl, by kernel_rfl, by kernel_rfl, by decide, enters_fn Tryz.func21 (by kernel_rfl) rfl⟩
/-- lambentlaw04.works -/
def c8 : AC :=
  .seq (.reg [.o 0 (.mov (.k (.c (.bool false))))])
  (.seq (.reg [.k 4 20 [], .m 1 4])
  (.seq (.reg [.m 5 1, .k 6 21 [(.k (.c (.str [97, 32, 45, 32, 40, 98, 32, 45, 32, 99, 41])))], .k 7 11 [(.t 5), (.t 6)], .o 8 (.bin .eql (.t 7) (.k (.c (.str [97, 32, 45, 32, 40, 98, 32, 45, 32, 99, 41])))), .m 9 8, .y 10 (.mov (.t 1)) 9, .y 11 (.call (.k (.fn 21 [])) [(.k (.c (.str [40, 97, 32, 45, 32, 98, 41, 32, 45, 32, 99])))]) 9, .y 12 (.call (.k (.fn 11 [])) [(.t 10), (.t 11)]) 9, .y 13 (.bin .eql (.t 12) (.k (.c (.str [97, 32, 45, 32, 98, 32, 45, 32, 99])))) 9, .o 14 (.pick (.t 9) (.t 13) (.k (.c (.bool false)))), .m 15 14, .y 16 (.mov (.t 1)) 15, .y 17 (.call (.k (.fn 21 [])) [(.k (.c (.str [112, 32, 40, 120, 92, 32, 120, 41, 32, 40, 102, 32, 121, 41])))]) 15, .y 18 (.call (.k (.fn 11 [])) [(.t 16), (.t 17)]) 15, .y 19 (.bin .eql (.t 18) (.k (.c (.str [112, 32, 40, 120, 92, 32, 120, 41, 32, 40, 102, 32, 121, 41])))) 15, .o 20 (.pick (.t 15) (.t 19) (.k (.c (.bool false)))), .m 2 20])
  (.seq (.reg [.m 21 1, .k 22 21 [(.k (.c (.str [40, 120, 92, 32, 120, 41, 32, 44, 32, 121])))], .k 23 11 [(.t 21), (.t 22)], .o 24 (.bin .eql (.t 23) (.k (.c (.str [40, 120, 92, 32, 120, 41, 32, 44, 32, 121])))), .m 25 24, .y 26 (.mov (.t 1)) 25, .y 27 (.call (.k (.fn 21 [])) [(.k (.c (.str [40, 97, 32, 61, 32, 98, 41, 32, 61, 32, 99])))]) 25, .y 28 (.call (.k (.fn 11 [])) [(.t 26), (.t 27)]) 25, .y 29 (.bin .eql (.t 28) (.k (.c (.str [40, 97, 32, 61, 32, 98, 41, 32, 61, 32, 99])))) 25, .o 30 (.pick (.t 25) (.t 29) (.k (.c (.bool false)))), .m 31 30, .y 32 (.mov (.t 1)) 31, .y 33 (.call (.k (.fn 21 [])) [(.k (.c (.str [40, 43, 41, 32, 49])))]) 31, .y 34 (.call (.k (.fn 11 [])) [(.t 32), (.t 33)]) 31, .y 35 (.bin .eql (.t 34) (.k (.c (.str [40, 43, 41, 32, 49])))) 31, .o 36 (.pick (.t 31) (.t 35) (.k (.c (.bool false)))), .m 3 36])
  (.seq (.reg [.m 37 2, .m 38 37, .y 39 (.mov (.t 3)) 38, .o 40 (.pick (.t 38) (.t 39) (.k (.c (.bool false)))), .m 41 40, .y 42 (.mov (.t 1)) 41, .y 43 (.call (.k (.fn 21 [])) [(.k (.c (.str [97])))]) 41, .y 44 (.call (.k (.fn 12 [])) [(.t 42), (.t 43)]) 41, .y 45 (.bin .eql (.t 44) (.k (.c (.int .i64 1)))) 41, .o 46 (.pick (.t 41) (.t 45) (.k (.c (.bool false)))), .m 47 46, .y 48 (.mov (.t 1)) 47, .y 49 (.call (.k (.fn 21 [])) [(.k (.c (.str [97])))]) 47, .y 50 (.call (.k (.fn 21 [])) [(.k (.c (.str [98])))]) 47, .y 51 (.bsl 5 [(.t 49), (.t 50)]) 47, .y 52 (.call (.k (.fn 13 [])) [(.t 48), (.t 51)]) 47, .y 53 (.bin .eql (.t 52) (.k (.c (.str [97, 46, 10, 98, 46, 10])))) 47, .o 54 (.pick (.t 47) (.t 53) (.k (.c (.bool false)))), .m 0 54])
  (.ret)))))
def r8 : List ResV := [.tmp 0]
theorem k8 : CodeIs Tryz.prog 8 0 Tryz.f8 c8 r8 := ⟨by kernel_rfl, Tryz.func8, rfl, by kernel_rfl, by kernel_rfl, by decide, enters_fn Tryz.func8 (by kernel_rfl) rfl⟩
/-- lambentlaw04.ShowTexts -/
def c3 : AC :=
  .seq (.reg [.o 3 (.box (.t 1)), .o 4 (.mov (.k (.c (.bool false))))])
  (.seq (.reg [.k 8 8 [], .m 5 8])
  (.seq (.seq (.reg [.m 9 5, .o 10 (.un .not (.t 9))])
  (.cond (.t 10)
  (.seq (.reg [.o 4 (.mov (.k (.c (.bool false))))])
  (.ret))
  (.skip)))
  (.seq (.reg [.m 11 0, .d 12 5 3, .k 13 9 [(.t 11), (.t 12)], .m 6 13])
  (.seq (.seq (.reg [.m 14 6])
  (.cond (.t 14)
  (.seq (.reg [.m 15 5, .m 4 15])
  (.ret))
  (.skip)))
  (.seq (.reg [.m 16 0, .d 17 5 3, .k 18 10 [(.t 16), (.t 17)], .m 7 18])
  (.seq (.reg [.m 19 5, .m 20 19, .y 21 (.mov (.t 0)) 20, .y 22 (.loadn 5 (.t 3)) 20, .y 23 (.call (.k (.fn 11 [])) [(.t 21), (.t 22)]) 20, .y 24 (.mov (.t 7)) 20, .y 25 (.bin .eql (.t 23) (.t 24)) 20, .o 26 (.pick (.t 20) (.t 25) (.k (.c (.bool false)))), .m 27 26, .y 28 (.mov (.t 0)) 27, .y 29 (.loadn 5 (.t 3)) 27, .y 30 (.call (.k (.fn 12 [])) [(.t 28), (.t 29)]) 27, .y 31 (.mov (.t 7)) 27, .y 32 (.lens (.t 31)) 27, .y 33 (.bin .eql (.t 30) (.t 32)) 27, .o 34 (.pick (.t 27) (.t 33) (.k (.c (.bool false)))), .m 4 34])
  (.ret)))))))
def r3 : List ResV := [.tmp 4]
theorem k3 : CodeIs Tryz.prog 3 2 Tryz.f3 c3 r3 := ⟨by kernel_rfl, Tryz.func3, rfl, by kernel_rfl, by kernel_rfl, by decide, enters_fn Tryz.func3 (by kernel_rfl) rfl⟩
/-- lambentlaw04.ShowLines -/
def c4 : AC :=
  .seq (.reg [.o 4 (.mov (.k (.c (.bool false))))])
  (.seq (.reg [.k 9 8 [], .m 5 9])
  (.seq (.seq (.reg [.m 10 5, .o 11 (.un .not (.t 10))])
  (.cond (.t 11)
  (.seq (.reg [.o 4 (.mov (.k (.c (.bool false))))])
  (.ret))
  (.skip)))
  (.seq (.seq (.reg [.m 12 1, .o 13 (.lenr (.t 12)), .o 14 (.bin .gtr (.t 13) (.k (.c (.int .i64 10))))])
  (.cond (.t 14)
  (.seq (.reg [.m 15 5, .m 4 15])
  (.ret))
  (.skip)))
  (.seq (.reg [.o 6 (.mov (.k (.c (.str []))))])
  (.seq (.seq (.reg [.o 7 (.mov (.k (.c (.int .i64 0))))])
  (.block 0 (.loop (.seq (.seq (.reg [.m 16 7, .m 17 1, .o 18 (.lenr (.t 17)), .o 19 (.bin .lss (.t 16) (.t 18))])
  (.cond (.t 19)
  (.skip)
  (.exit 0)))
  (.seq (.block 1 (.seq (.reg [.m 22 0, .m 23 1, .m 24 7, .o 25 (.iadd 5 (.t 23) (.t 24)), .d 26 5 25, .k 27 9 [(.t 22), (.t 26)], .m 8 27])
  (.seq (.seq (.reg [.m 28 8])
  (.cond (.t 28)
  (.seq (.reg [.m 29 5, .m 4 29])
  (.ret))
  (.skip)))
  (.reg [.m 30 6, .m 31 0, .m 32 1, .m 33 7, .o 34 (.iadd 5 (.t 32) (.t 33)), .d 35 5 34, .k 36 10 [(.t 31), (.t 35)], .o 37 (.bin .add (.t 30) (.t 36)), .o 38 (.bin .add (.t 37) (.k (.c (.str [46, 10])))), .m 6 38]))))
  (.reg [.m 20 7, .o 21 (.bin .add (.t 20) (.k (.c (.int .i64 1)))), .m 7 21]))))))
  (.seq (.reg [.m 39 5, .m 40 39, .y 41 (.mov (.t 0)) 40, .y 42 (.mov (.t 1)) 40, .y 43 (.call (.k (.fn 13 [])) [(.t 41), (.t 42)]) 40, .y 44 (.mov (.t 6)) 40, .y 45 (.bin .eql (.t 43) (.t 44)) 40, .o 46 (.pick (.t 40) (.t 45) (.k (.c (.bool false)))), .m 4 46])
  (.ret)))))))
def r4 : List ResV := [.tmp 4]
theorem k4 : CodeIs Tryz.prog 4 2 Tryz.f4 c4 r4 := ⟨by kernel_rfl, Tryz.func4, rfl, by kernel_rfl, by kernel_rfl, by decide, enters_fn Tryz.func4 (by kernel_rfl) rfl⟩
end Go.Proofs.YtljjlhdkkbaehaaGreatDoor
namespace Go.Proofs.YtljjlhdkkbaehaaGreatDoor
open Go.RowKit Go.Lamb
attribute [local go_sem] advO_skip advO_reg advO_seq advO_block advO_exit advO_endb advO_opsNil advO_ops advG_yes advG_no advG_none advS_some advS_none advO_cond advO_loop advO_dreg advO_ret advO_bad advO_inv advO_nil advO_zero wantedV Lamb.step ev_t ev_k put_some put_none argEnv popTo cellsAt V.cellsV V.rows V.toC toCs fillV bytesC byteRows appV rowsV boundV boundL binV binInt binStr eqC eqL V.isNil leaves V.leaf Ins.quiet Ins.pure List.getD_cons_zero List.getD_cons_succ List.getD_nil List.all_cons List.all_nil List.length_cons List.length_nil List.take_succ_cons List.take_zero List.drop_succ_cons List.drop_zero List.cons_append List.nil_append List.append_nil List.append_assoc List.map_cons List.map_nil List.getElem?_cons_zero List.getElem?_cons_succ List.length_append List.length_set hget0 hget hset0 hset hsets hgs0 hgs hss0 hss List.set_cons_zero List.set_cons_succ List.forall_mem_cons List.not_mem_nil false_implies implies_true Option.map_some Bool.and_true Bool.true_and Bool.not_not Bool.not_true Bool.not_false Bool.and_self Bool.or_true Bool.true_or Bool.or_false Bool.false_or Bool.and_false Bool.false_and Bool.false_eq_true beq_self_eq_true and_self and_true true_and if_true if_false Nat.zero_add Nat.add_zero Nat.le_refl Int.toNat_natCast decide_true decide_false beq_t beq_f List.length_map List.getElem?_map I S B opsC toksC OpT.v OpT.cs OpT.zero Tok.v Tok.cs Pre.v Pre.cs_eq k_mk name_mk n_mk l_mk pos_mk Pre.app applyL natCast0 natCast1 natCast2 AOp.o AOp.m AOp.f AOp.l AOp.d AOp.n AOp.x AOp.s AOp.k AOp.y AOp.z EOp.q low_c low_void low_any low_csl low_nilf low_ptr low_osl low_agg low_tup low_fn resEval advPO_nil advPO_loud advPO_quiet pL_yes pL_no pLS_some pLS_none pQ_yes pQ_no pQS_some pQS_loud eq_self Nat.sub_zero
section

theorem sz_row_len {α : Type} {f : α → List C} {l : List α} {x : V} {args : List V} (h : ∀ y ∈ args, V.Sz y) (hx : x ∈ args) (e : x = .c (.sl (l.map f))) : l.length ≤ 9223372036854775807 := by
  subst e
  exact sz_rows (h _ hx)
theorem lex_IsVarD (w0 : World) (s : List UInt8) (σ : H) : DC Tryz.prog w0 42 [S s] σ (Same (B (isVarB s)) σ) :=
  DC.of_text (enters_fn Tryz.func42 (by kernel_rfl) rfl) fun w hs => lex_IsVar (bs s) w hs
end
section

theorem IndexFunc_pre (w0 : World) (l : List Pre) (f : FuncId) (caps : List V) (p : Pre → Bool) (σ : H) (hp : ∀ o ∈ l, DC Tryz.prog w0 f (o.v :: caps) σ (Same (B (p o)) σ)) : DC Tryz.prog w0 86 [.c (.sl (l.map Pre.cs)), .fn f caps] σ (Same (I (idxI p l)) σ) := by
  refine k86.go rfl (fun hok hsz => ?_)
  have hlen := sz_row_len hsz (List.mem_cons_self ..) rfl
  ((try refine W.a ?_); simp only [go_sem, seval, reduceCtorEq, c86])
  refine W.loopP (fun i => i ≤ l.length ∧ UpTo p l i) (fun i => ⟨((((base.put (some 0) (.c (.sl (l.map Pre.cs)))).put (some 1) (.fn f caps)).put (some 7) (I l.length)).put (some 8) (I i)), σ⟩) (fun i => l.length - i) 0 ⟨Nat.zero_le _, upTo_zero⟩ ?_ (fun i hi => ?_)
  · (refine Lew.env ?_; exact lee_here)
  · obtain ⟨hi, hinv⟩ := hi
    by_cases hlt : i < l.length
    · have h1 : ((i : Int) < (l.length : Int)) := by omega
      have hx : l[i]? = some l[i] := List.getElem?_eq_getElem hlt
      ((try refine W.a ?_); simp only [go_sem, seval, reduceCtorEq, h1])
      refine W.yes rfl ?_
      ((try refine W.a ?_); simp only [go_sem, seval, reduceCtorEq, h1, nat0, hx])
      (refine W.c1 (hp l[i] (List.getElem_mem hlt)) ?_; simp only [go_sem, seval, reduceCtorEq])
      refine W.test rfl (fun h => ?_) (fun h => ?_)
      · ((try refine W.a ?_); simp only [go_sem, seval, reduceCtorEq])
        (refine W.ret (Fin.same hok (by simp only [resEval, r86, go_sem, seval, reduceCtorEq]; rfl) ?_ (by first | exact .c _ | (simp only [go_sem, seval, reduceCtorEq]; done)) (by first | exact ⟨[], (List.append_nil _).symm⟩ | exact ⟨_, rfl⟩)); simp only [resV])
        rw [idxI_at hinv hlt h]
      · have hw := wrap_next hlt hlen
        ((try refine W.a ?_); simp only [go_sem, seval, reduceCtorEq, hw])
        refine .inv ⟨i + 1, ⟨hlt, upTo_next hinv hlt h⟩, by omega, ?_⟩
        (refine Lew.env ?_; exact lee_here)
    · have h1 : ¬ ((i : Int) < (l.length : Int)) := by omega
      ((try refine W.a ?_); simp only [go_sem, seval, reduceCtorEq, h1])
      refine W.no rfl ?_
      ((try refine W.a ?_); simp only [go_sem, seval, reduceCtorEq])
      (refine W.ret (Fin.same hok (by simp only [resEval, r86, go_sem, seval, reduceCtorEq]; rfl) ?_ (by first | exact .c _ | (simp only [go_sem, seval, reduceCtorEq]; done)) (by first | exact ⟨[], (List.append_nil _).symm⟩ | exact ⟨_, rfl⟩)); simp only [resV])
      rw [idxI_none (fun j hj => hinv j hj (by omega))]
theorem idxI_geq {α : Type} (p : α → Bool) (l : List α) : decide (idxI p l ≥ 0) = l.any p := by
  rcases idxI_cases p l with ⟨h, h'⟩ | ⟨i, hi, h, h'⟩
  · rw [h]
    rw [idxI_none_iff] at h
    have : l.any p = false := by simpa using h
    rw [this]; decide
  · rw [h]
    have : l.any p = true := by
      rw [List.any_eq_true]
      rw [List.find?_eq_some_iff_getElem] at h'
      exact ⟨l[i], List.getElem_mem hi, h'.1⟩
    rw [this]; simp
theorem ContainsFunc_pre (w0 : World) (l : List Pre) (f : FuncId) (caps : List V) (p : Pre → Bool) (σ : H) (hp : ∀ o ∈ l, DC Tryz.prog w0 f (o.v :: caps) σ (Same (B (p o)) σ)) : DC Tryz.prog w0 44 [.c (.sl (l.map Pre.cs)), .fn f caps] σ (Same (B (l.any p)) σ) := by
  refine k44.go rfl (fun hok hsz => ?_)
  ((try refine W.a ?_); simp only [go_sem, seval, reduceCtorEq, c44])
  (refine W.c1 (IndexFunc_pre w0 l f caps p σ hp) ?_; simp only [go_sem, seval, reduceCtorEq])
  (refine W.fs (hok) (by simp only [r44, go_sem, seval, reduceCtorEq]; rfl) ?_; simp only [resV]; (first | exact V.wk.rfl _ | (refine wk_bool ?_; clear hsz hok; rw [idxI_geq] <;> ((try simp only [beq_iff_eq, beq_eq_false_iff_ne, ne_eq, decide_eq_true_eq, decide_eq_false_iff_not] at *); first | (exfalso; omega) | (simp [*]; done) | (simp [*]; omega) | (simp [*])))))
theorem EqualFunc_pre (w0 : World) (l r : List Pre) (f : FuncId) (p : Pre → Pre → Bool) (hp : ∀ x ∈ l, ∀ y σ, DC Tryz.prog w0 f [x.v, Pre.v y] σ (Same (B (p x y)) σ)) (σ : H) : DC Tryz.prog w0 46 [.c (.sl (l.map Pre.cs)), .c (.sl (r.map Pre.cs)), .fn f []] σ (Same (B (zipAll p l r)) σ) := by
  refine k46.go rfl (fun hok hsz => ?_)
  have hlen := sz_row_len hsz (List.mem_cons_self ..) rfl
  by_cases hlr : l.length = r.length
  · have hb : ((l.length : Int) != (r.length : Int)) = false := by simp [hlr]
    ((try refine W.a ?_); simp only [go_sem, seval, reduceCtorEq, c46, hb])
    refine W.no rfl ?_
    ((try refine W.a ?_); simp only [go_sem, seval, reduceCtorEq])
    refine W.loopP (fun i => i ≤ l.length ∧ ∀ j (hj : j < l.length) (hj' : j < r.length), j < i → p l[j] r[j] = true) (fun i => ⟨(((((base.put (some 1) (.c (.sl (r.map Pre.cs)))).put (some 2) (.fn f [])).put (some 15) (.c (.sl (l.map Pre.cs)))).put (some 16) (I l.length)).put (some 17) (I i)), σ⟩) (fun i => l.length - i) 0 ⟨Nat.zero_le _, fun _ _ _ h => absurd h (by omega)⟩ ?_ (fun i hi => ?_)
    · (refine Lew.env ?_; exact lee_here)
    · obtain ⟨hi, hinv⟩ := hi
      by_cases hlt : i < l.length
      · have h1 : ((i : Int) < (l.length : Int)) := by omega
        have h2 : ((i : Int) < (r.length : Int)) := by omega
        have hltr : i < r.length := by omega
        have hx : l[i]? = some l[i] := List.getElem?_eq_getElem hlt
        have hy : r[i]? = some r[i] := List.getElem?_eq_getElem hltr
        ((try refine W.a ?_); simp only [go_sem, seval, reduceCtorEq, h1])
        refine W.yes rfl ?_
        ((try refine W.a ?_); simp only [go_sem, seval, reduceCtorEq, h1, h2, nat0, hx, hy])
        (refine W.c1 (hp l[i] (List.getElem_mem hlt) r[i] _) ?_; simp only [go_sem, seval, reduceCtorEq])
        refine W.test rfl (fun h => ?_) (fun h => ?_)
        · ((try refine W.a ?_); simp only [go_sem, seval, reduceCtorEq])
          (refine W.fs (hok) (by simp only [r46, go_sem, seval, reduceCtorEq]; rfl) ?_; simp only [resV]; try exact V.wk.rfl _)
          rw [zipAll_no hlt hltr (by simpa using h)]
          exact .rfl _
        · have hw := wrap_next hlt hlen
          ((try refine W.a ?_); simp only [go_sem, seval, reduceCtorEq, hw])
          refine .inv ⟨i + 1, ⟨hlt, fun j hj hj' hji => ?_⟩, by omega, ?_⟩
          · rcases Nat.lt_succ_iff_lt_or_eq.1 hji with h' | h'
            · exact hinv j hj hj' h'
            · subst h'; simpa using h
          · (refine Lew.drop ?_ (Nat.le_refl _) (hok) ?_; exact lee_here; (repeat' (first | exact LowE.base _ | (refine LowE.put ?_ (by first | exact .c _ | (simp only [go_sem, seval, reduceCtorEq]; done) | exact V.low_fn_nil _ _)))))
      · have h1 : ¬ ((i : Int) < (l.length : Int)) := by omega
        ((try refine W.a ?_); simp only [go_sem, seval, reduceCtorEq, h1])
        refine W.no rfl ?_
        ((try refine W.a ?_); simp only [go_sem, seval, reduceCtorEq])
        (refine W.fs (hok) (by simp only [r46, go_sem, seval, reduceCtorEq]; rfl) ?_; simp only [resV]; try exact V.wk.rfl _)
        rw [zipAll_yes hlr (fun j hj hj' => hinv j hj hj' (by omega))]
        exact .rfl _
  · have hb : ((l.length : Int) != (r.length : Int)) = true := bne_iff_ne.2 (by omega)
    ((try refine W.a ?_); simp only [go_sem, seval, reduceCtorEq, c46, hb])
    refine W.yes rfl ?_
    ((try refine W.a ?_); simp only [go_sem, seval, reduceCtorEq])
    (refine W.fs (hok) (by simp only [r46, go_sem, seval, reduceCtorEq]; rfl) ?_; simp only [resV]; try exact V.wk.rfl _)
    rw [zipAll_len hlr]
    exact .rfl _
theorem read_Same (w0 : World) (p : Pre) : ∀ (q : Pre) (σ : H), DC Tryz.prog w0 19 [p.v, q.v] σ (Same (B (samePre p q)) σ) := by
  refine Pre.ind (P := fun p => ∀ (q : Pre) (σ : H), DC Tryz.prog w0 19 [p.v, q.v] σ (Same (B (samePre p q)) σ)) (fun p ih q σ => ?_) p
  refine k19.go rfl (fun hok hsz => ?_)
  (((try refine W.a ?_); (try simp only [bne, go_sem, seval, reduceCtorEq, c19, *])); (repeat' (first | (refine W.yes rfl ?_; (refine W.a ?_; simp only [bne, go_sem, seval, reduceCtorEq, c19, *])) | (refine W.no rfl ?_; (refine W.a ?_; simp only [bne, go_sem, seval, reduceCtorEq, c19, *])) | (refine W.c1 (EqualFunc_pre w0 p.l q.l 19 samePre (fun x hx y σ => ih x hx y σ) _) ?_; simp only [bne, go_sem, seval, reduceCtorEq, c19, *]) | (refine W.testn rfl (fun hT => ?_) (fun hT => ?_) <;> (refine W.a ?_; simp only [bne, go_sem, seval, reduceCtorEq, c19, *])) | (refine W.test rfl (fun hT => ?_) (fun hT => ?_) <;> (refine W.a ?_; simp only [bne, go_sem, seval, reduceCtorEq, c19, *])) | (refine advG_ifn _ _ _ _ (fun hT => ?_) (fun hT => ?_) <;> simp only [bne, go_sem, seval, reduceCtorEq, c19, *]) | (refine advG_if _ _ _ _ (fun hT => ?_) (fun hT => ?_) <;> simp only [bne, go_sem, seval, reduceCtorEq, c19, *]))))
  all_goals (refine W.fs (hok) (by simp only [r19, go_sem, seval, reduceCtorEq]; rfl) ?_; simp only [resV]; (first | exact V.wk.rfl _ | (refine wk_bool ?_; clear hsz hok; rw [samePre_eq] <;> ((try simp only [beq_iff_eq, beq_eq_false_iff_ne, ne_eq, decide_eq_true_eq, decide_eq_false_iff_not] at *); first | (exfalso; omega) | (simp [*]; done) | (simp [*]; omega) | (simp [*])))))
theorem read_Valid1 (w0 : World) (o : List OpT) (p : Pre) (b : Bool) (σ : H) (c : Nat) (hc : σ[c]? = some (.cells [.c (opsC o)])) (hp : ∀ τ, DC Tryz.prog w0 18 [.c (opsC o), p.v] τ (Same (B b) τ)) :
    DC Tryz.prog w0 45 [p.v, .ptr c 0] σ (Same (B (!b)) σ) := by
  refine k45.go rfl (fun hok hsz => ?_)
  ((try refine W.a ?_); simp only [go_sem, seval, reduceCtorEq, c45, hG hc])
  (refine W.c1 (hp _) ?_; simp only [go_sem, seval, reduceCtorEq])
  (refine W.fs (hok) (by simp only [r45, go_sem, seval, reduceCtorEq]; rfl) ?_; simp only [resV]; try exact V.wk.rfl _)
end
section

theorem any_all {α : Type} (l : List α) (p : α → Bool) : (l.any fun q => !p q) = !l.all p := by
  induction l with
  | nil => rfl
  | cons x l ih => simp only [List.any_cons, List.all_cons, ih]; cases p x <;> simp
theorem len_ne {n : Nat} (k : Nat) : ((n : Int) == (k : Int)) = (n == k) := by
  rw [Bool.eq_iff_iff]; simp; omega
theorem read_Valid (w0 : World) (o : List OpT) (p : Pre) : ∀ (σ : H), DC Tryz.prog w0 18 [.c (opsC o), p.v] σ (Same (B (validPre o p)) σ) := by
  refine Pre.ind (P := fun p => ∀ (σ : H), DC Tryz.prog w0 18 [.c (opsC o), p.v] σ (Same (B (validPre o p)) σ)) (fun p ih σ => ?_) p
  refine k18.go rfl (fun hok hsz => ?_)
  have hD : ∀ q ∈ p.l, ∀ L, DC Tryz.prog w0 45 [q.v, .ptr σ.length 0] (σ ++ .cells [.c (opsC o)] :: L) (Same (B (!validPre o q)) (σ ++ .cells [.c (opsC o)] :: L)) := fun q hq L => read_Valid1 w0 o q _ _ σ.length (hget0 σ _) (fun τ => ih q hq τ)
  have hC := fun L => ContainsFunc_pre w0 p.l 45 [.ptr σ.length 0] (fun q => !validPre o q) (σ ++ .cells [.c (opsC o)] :: L) (fun q hq => hD q hq L)
  have l0 := len_ne (n := p.l.length) 0
  have l1 := len_ne (n := p.l.length) 1
  have l2 := len_ne (n := p.l.length) 2
  simp only [natCast0, natCast1, natCast2] at l0 l1 l2
  ((try refine W.a ?_); simp only [go_sem, seval, reduceCtorEq, c18])
  (refine W.c1 (ops_Find w0 o p.name _) ?_; simp only [go_sem, seval, reduceCtorEq, foundV])
  apply W.dregE (List.cons_ne_nil _ _)
  case hc =>
    (apply CanonE.advPO; simp only [go_sem, seval, reduceCtorEq])
    (apply CanonE.call (lex_IsNameD w0 p.name _); (case hg => rfl); (case hf => rfl); (case ha => first | rfl | simp))
    (apply CanonE.advPO; simp only [go_sem, seval, reduceCtorEq])
    (apply CanonE.call (lex_IsVarD w0 p.name _); (case hg => rfl); (case hf => rfl); (case ha => first | rfl | simp))
    (apply CanonE.advPO; simp only [go_sem, seval, reduceCtorEq])
    exact CanonE.nil
  (((try refine W.a ?_); (try simp only [bne, go_sem, seval, reduceCtorEq, l0, l1, l2, *])); (repeat' (first | (refine W.yes rfl ?_; (refine W.a ?_; simp only [bne, go_sem, seval, reduceCtorEq, l0, l1, l2, *])) | (refine W.no rfl ?_; (refine W.a ?_; simp only [bne, go_sem, seval, reduceCtorEq, l0, l1, l2, *])) | (refine W.c1 (lex_IsSymD w0 p.name _) ?_; simp only [bne, go_sem, seval, reduceCtorEq, l0, l1, l2, *]) | (refine W.c1 (hC _) ?_; simp only [bne, go_sem, seval, reduceCtorEq, l0, l1, l2, *]) | (refine W.testn rfl (fun hT => ?_) (fun hT => ?_) <;> (refine W.a ?_; simp only [bne, go_sem, seval, reduceCtorEq, l0, l1, l2, *])) | (refine W.test rfl (fun hT => ?_) (fun hT => ?_) <;> (refine W.a ?_; simp only [bne, go_sem, seval, reduceCtorEq, l0, l1, l2, *])) | (refine advG_ifn _ _ _ _ (fun hT => ?_) (fun hT => ?_) <;> simp only [bne, go_sem, seval, reduceCtorEq, l0, l1, l2, *]) | (refine advG_if _ _ _ _ (fun hT => ?_) (fun hT => ?_) <;> simp only [bne, go_sem, seval, reduceCtorEq, l0, l1, l2, *]))))
  all_goals (refine W.fs (hok) (by simp only [r18, go_sem, seval, reduceCtorEq]; rfl) ?_; simp only [resV]; (first | exact V.wk.rfl _ | (refine wk_bool ?_; clear hsz hok; rw [validPre_eq] <;> ((try simp only [beq_iff_eq, beq_eq_false_iff_ne, ne_eq, decide_eq_true_eq, decide_eq_false_iff_not] at *); first | (exfalso; omega) | (simp [nodeOk, any_all, *]; done) | (simp [nodeOk, any_all, *]; omega) | (simp [nodeOk, any_all, *])))))
end
section

theorem ref03_left (w0 : World) (p : Pre) : ∀ (n : Int), 0 ≤ n → n ≤ 1000000 → ∀ (σ : H), DC Tryz.prog w0 39 [p.v, I n] σ (Same (I (leftP p n)) σ) := by
  refine Pre.ind (P := fun p => ∀ (n : Int), 0 ≤ n → n ≤ 1000000 → ∀ (σ : H), DC Tryz.prog w0 39 [p.v, I n] σ (Same (I (leftP p n)) σ)) (fun p ih n hn hn' σ => ?_) p
  refine k39.go rfl (fun hok hsz => ?_)
  have hlen := pre_len hsz (List.mem_cons_self ..)
  have hw0 : IntKind.i64.wrap (n - 1) = n - 1 := by rw [wrap_in] <;> omega
  ((try refine W.a ?_); simp only [go_sem, seval, reduceCtorEq, c39, hw0])
  refine W.loopP (α := Nat × Int) (fun x => x.1 ≤ p.l.length ∧ -1 ≤ x.2 ∧ x.2 ≤ 1000000 ∧ leftPs (p.l.drop x.1) x.2 = leftP p n) (fun x => ⟨((((base.put (some 2) (.ptr σ.length 0)).put (some 4) (I 0)).put (some 5) (I x.2)).put (some 6) (I (x.1 : Nat))), σ ++ [.cells p.v.cellsV]⟩) (fun x => p.l.length - x.1) (0, n - 1) ⟨Nat.zero_le _, by simp only; omega, by simp only; omega, by rw [leftP_eq]; rfl⟩ ?_ (fun x hi => ?_)
  · (refine Lew.env ?_; exact lee_here)
  · obtain ⟨i, m⟩ := x
    obtain ⟨hi, hm, hm', hinv⟩ := hi
    simp only at hi hm hm' hinv
    by_cases hlt : i < p.l.length
    · have h1 : ((i : Int) < (p.l.length : Int)) := by omega
      have hx : p.l[i]? = some p.l[i] := List.getElem?_eq_getElem hlt
      have hw : IntKind.i64.wrap ((i : Int) + 1) = ((i + 1 : Nat) : Int) := wrap_next hlt hlen
      by_cases h0 : 0 ≤ m
      · have h0' : m ≥ 0 := h0
        ((try refine W.a ?_); simp only [go_sem, seval, reduceCtorEq, h1, h0'])
        refine W.yes rfl ?_
        ((try refine W.a ?_); simp only [go_sem, seval, reduceCtorEq, h1, nat0, hx])
        (refine W.c1 (ih p.l[i] (List.getElem_mem hlt) m h0 hm' _) ?_; simp only [go_sem, seval, reduceCtorEq, hw])
        have := leftP_le p.l[i] m h0
        refine .inv ⟨(i + 1, leftP p.l[i] m), ⟨hlt, this.1, by simp only; omega, by rw [← hinv, leftPs_step hlt h0]⟩, by simp only; omega, ?_⟩
        (refine Lew.env ?_; exact lee_here)
      · have h0' : ¬ m ≥ 0 := h0
        ((try refine W.a ?_); simp only [go_sem, seval, reduceCtorEq, h1, h0'])
        refine W.no rfl ?_
        ((try refine W.a ?_); simp only [go_sem, seval, reduceCtorEq])
        (refine W.fs (hok) (by simp only [r39, go_sem, seval, reduceCtorEq]; rfl) ?_; simp only [resV]; try exact V.wk.rfl _)
        rw [← hinv, leftPs_neg h0]
        exact .rfl _
    · have h1 : ¬ ((i : Int) < (p.l.length : Int)) := by omega
      ((try refine W.a ?_); simp only [go_sem, seval, reduceCtorEq, h1])
      refine W.no rfl ?_
      ((try refine W.a ?_); simp only [go_sem, seval, reduceCtorEq])
      (refine W.fs (hok) (by simp only [r39, go_sem, seval, reduceCtorEq]; rfl) ?_; simp only [resV]; try exact V.wk.rfl _)
      rw [← hinv, leftPs_end (by omega)]
      exact .rfl _
theorem ref03_Deep (w0 : World) (p : Pre) (n : Int) (hn : 0 ≤ n) (hn' : n ≤ 1000000) (σ : H) : DC Tryz.prog w0 17 [p.v, I n] σ (Same (B (decide (leftP p n < 0))) σ) := by
  refine k17.go rfl (fun hok hsz => ?_)
  ((try refine W.a ?_); simp only [go_sem, seval, reduceCtorEq, c17])
  (refine W.c1 (ref03_left w0 p n hn hn' _) ?_; simp only [go_sem, seval, reduceCtorEq])
  (refine W.fs (hok) (by simp only [r17, go_sem, seval, reduceCtorEq]; rfl) ?_; simp only [resV]; try exact V.wk.rfl _)
end
end Go.Proofs.YtljjlhdkkbaehaaGreatDoor
namespace Go.Proofs.YtljjlhdkkbaehaaGreatDoor
open Go.RowKit Go.Lamb

end Go.Proofs.YtljjlhdkkbaehaaGreatDoor
namespace Go.Proofs.YtljjlhdkkbaehaaGreatDoor
open Go.RowKit Go.Lamb

end Go.Proofs.YtljjlhdkkbaehaaGreatDoor
namespace Go.Proofs.YtljjlhdkkbaehaaGreatDoor
open Go.RowKit Go.Lamb

end Go.Proofs.YtljjlhdkkbaehaaGreatDoor
namespace Go.Proofs.YtljjlhdkkbaehaaGreatDoor
open Go.RowKit Go.Lamb

structure QSt where
  g : Nat
  m : Made
  i : Nat
  e : Int
  pos : Int
end Go.Proofs.YtljjlhdkkbaehaaGreatDoor
namespace Go.Proofs.YtljjlhdkkbaehaaGreatDoor
open Go.RowKit Go.Lamb

end Go.Proofs.YtljjlhdkkbaehaaGreatDoor
namespace Go.Proofs.YtljjlhdkkbaehaaGreatDoor
open Go.RowKit Go.Lamb

theorem any_at {α : Type} {l : List α} {f : α → Bool} {j : Nat} (hj : j < l.length) (h : f l[j] = true) : l.any f = true := by
  rw [List.any_eq_true]; exact ⟨_, List.getElem_mem hj, h⟩
theorem any_no {α : Type} {l : List α} {f : α → Bool} (h : ∀ j (hj : j < l.length), f l[j] = false) : l.any f = false := by
  rw [List.any_eq_false]; intro x hx; obtain ⟨j, hj, rfl⟩ := List.getElem_of_mem hx; rw [h j hj]; simp
end Go.Proofs.YtljjlhdkkbaehaaGreatDoor
namespace Go.Lamb
/-- Is there more than is looked at? -/
def overS (l : List OpT) (p : Pre) : Bool := decide (100 < l.length) || l.any (fun x => decide (100 < x.name.length)) || (decide (leftP p 150 < 0) || longP p)
theorem overS_no {l : List OpT} {p : Pre} (h : overS l p = false) : l.length ≤ 100 ∧ (∀ o ∈ l, o.name.length ≤ 100) ∧ nodesP p ≤ 150 ∧ longP p = false := by
  unfold overS at h
  simp only [Bool.or_eq_false_iff, decide_eq_false_iff_not] at h
  obtain ⟨⟨h1, h2⟩, h3, h4⟩ := h
  refine ⟨by omega, fun o ho => ?_, ?_, h4⟩
  · have := List.any_eq_false.1 h2 o ho
    simp only [decide_eq_true_eq] at this
    omega
  · have := leftP_nodes p 150 (by omega)
    omega
theorem overS_len {l : List OpT} {p : Pre} (h : overS l p = false) (hO : OkP p) : (showL l p).length ≤ 30900 := by
  obtain ⟨_, _, h3, h4⟩ := overS_no h
  have := showL_len l p h4 hO
  have h5 : 206 * nodesP p ≤ 206 * 150 := Nat.mul_le_mul_left _ h3
  omega
end Go.Lamb
namespace Go.Proofs.YtljjlhdkkbaehaaGreatDoor
open Go.RowKit Go.Lamb
attribute [local go_sem] advO_skip advO_reg advO_seq advO_block advO_exit advO_endb advO_opsNil advO_ops advG_yes advG_no advG_none advS_some advS_none advO_cond advO_loop advO_dreg advO_ret advO_bad advO_inv advO_nil advO_zero wantedV Lamb.step ev_t ev_k put_some put_none argEnv popTo cellsAt V.cellsV V.rows V.toC toCs fillV bytesC byteRows appV rowsV boundV boundL binV binInt binStr eqC eqL V.isNil leaves V.leaf Ins.quiet Ins.pure List.getD_cons_zero List.getD_cons_succ List.getD_nil List.all_cons List.all_nil List.length_cons List.length_nil List.take_succ_cons List.take_zero List.drop_succ_cons List.drop_zero List.cons_append List.nil_append List.append_nil List.append_assoc List.map_cons List.map_nil List.getElem?_cons_zero List.getElem?_cons_succ List.length_append List.length_set hget0 hget hset0 hset hsets hgs0 hgs hss0 hss List.set_cons_zero List.set_cons_succ List.forall_mem_cons List.not_mem_nil false_implies implies_true Option.map_some Bool.and_true Bool.true_and Bool.not_not Bool.not_true Bool.not_false Bool.and_self Bool.or_true Bool.true_or Bool.or_false Bool.false_or Bool.and_false Bool.false_and Bool.false_eq_true beq_self_eq_true and_self and_true true_and if_true if_false Nat.zero_add Nat.add_zero Nat.le_refl Int.toNat_natCast decide_true decide_false beq_t beq_f List.length_map List.getElem?_map I S B opsC toksC OpT.v OpT.cs OpT.zero Tok.v Tok.cs Pre.v Pre.cs_eq k_mk name_mk n_mk l_mk pos_mk Pre.app applyL natCast0 natCast1 natCast2 AOp.o AOp.m AOp.f AOp.l AOp.d AOp.n AOp.x AOp.s AOp.k AOp.y AOp.z EOp.q low_c low_void low_any low_csl low_nilf low_ptr low_osl low_agg low_tup low_fn resEval advPO_nil advPO_loud advPO_quiet pL_yes pL_no pLS_some pLS_none pQ_yes pQ_no pQS_some pQS_loud eq_self Nat.sub_zero
theorem law04_long (w0 : World) (p : Pre) : ∀ σ, DC Tryz.prog w0 22 [p.v] σ (Same (B (longP p)) σ) := by
  refine Pre.ind (P := fun p => ∀ σ, DC Tryz.prog w0 22 [p.v] σ (Same (B (longP p)) σ)) (fun p ih σ => ?_) p
  refine k22.go rfl (fun hok hsz => ?_)
  have hlen : p.l.length ≤ 9223372036854775807 := by
    have := hsz _ (List.mem_cons_self ..)
    rw [Pre.v, sz_agg] at this
    exact sz_rows (this (.c (.sl (p.l.map Pre.cs))) (by simp))
  rw [longP_eq]
  by_cases hn : (p.name.length : Int) > 100
  · rw [decide_eq_true hn, Bool.true_or]
    ((try refine W.a ?_); simp only [go_sem, seval, reduceCtorEq, c22, hn])
    refine W.yes rfl ?_
    ((try refine W.a ?_); simp only [go_sem, seval, reduceCtorEq])
    (refine W.fs (hok) (by simp only [r22, go_sem, seval, reduceCtorEq]; rfl) ?_; simp only [resV]; try exact V.wk.rfl _)
  rw [decide_eq_false hn, Bool.false_or]
  ((try refine W.a ?_); simp only [go_sem, seval, reduceCtorEq, c22, hn])
  refine W.no rfl ?_
  ((try refine W.a ?_); simp only [go_sem, seval, reduceCtorEq])
  refine W.loopP (fun i => i ≤ p.l.length ∧ UpTo longP p.l i) (fun i => ⟨((base.put (some 1) (.ptr σ.length 0)).put (some 3) (I (i : Nat))), σ ++ [.cells p.v.cellsV]⟩) (fun i => p.l.length - i) 0 ⟨Nat.zero_le _, upTo_zero⟩ ?_ (fun i hi => ?_)
  · (refine Lew.env ?_; exact lee_here)
  · obtain ⟨hi, hinv⟩ := hi
    by_cases hlt : i < p.l.length
    · have h1 : ((i : Int) < (p.l.length : Int)) := by omega
      have hx : p.l[i]? = some p.l[i] := List.getElem?_eq_getElem hlt
      have hw : IntKind.i64.wrap ((i : Int) + 1) = ((i + 1 : Nat) : Int) := wrap_next hlt hlen
      have hc := ih p.l[i] (List.getElem_mem hlt)
      cases hb : longP p.l[i]
      · rw [hb] at hc
        ((try refine W.a ?_); simp only [go_sem, seval, reduceCtorEq, h1])
        refine W.yes rfl ?_
        ((try refine W.a ?_); simp only [go_sem, seval, reduceCtorEq, h1, nat0, hx])
        (refine W.c1 (hc _) ?_; simp only [go_sem, seval, reduceCtorEq])
        refine W.no rfl ?_
        ((try refine W.a ?_); simp only [go_sem, seval, reduceCtorEq, hw])
        refine .inv ⟨i + 1, ⟨hlt, upTo_next hinv hlt hb⟩, by omega, ?_⟩
        (refine Lew.env ?_; exact lee_here)
      · rw [hb] at hc
        ((try refine W.a ?_); simp only [go_sem, seval, reduceCtorEq, h1])
        refine W.yes rfl ?_
        ((try refine W.a ?_); simp only [go_sem, seval, reduceCtorEq, h1, nat0, hx])
        (refine W.c1 (hc _) ?_; simp only [go_sem, seval, reduceCtorEq])
        refine W.yes rfl ?_
        ((try refine W.a ?_); simp only [go_sem, seval, reduceCtorEq])
        rw [any_at hlt hb]
        (refine W.fs (hok) (by simp only [r22, go_sem, seval, reduceCtorEq]; rfl) ?_; simp only [resV]; try exact V.wk.rfl _)
    · have h1 : ¬ ((i : Int) < (p.l.length : Int)) := by omega
      ((try refine W.a ?_); simp only [go_sem, seval, reduceCtorEq, h1])
      refine W.no rfl ?_
      ((try refine W.a ?_); simp only [go_sem, seval, reduceCtorEq])
      rw [any_no (fun j hj => hinv j hj (by omega))]
      (refine W.fs (hok) (by simp only [r22, go_sem, seval, reduceCtorEq]; rfl) ?_; simp only [resV]; try exact V.wk.rfl _)
theorem law04_over (w0 : World) (l : List OpT) (p : Pre) (σ : H) : DC Tryz.prog w0 9 [.c (opsC l), p.v] σ (Same (B (overS l p)) σ) := by
  refine k9.go rfl (fun hok hsz => ?_)
  by_cases ho : 100 < l.length
  · have h1 : (l.length : Int) > 100 := by omega
    have e : overS l p = true := by rw [overS, decide_eq_true ho]; rfl
    rw [e]
    ((try refine W.a ?_); simp only [go_sem, seval, reduceCtorEq, c9, h1])
    refine W.yes rfl ?_
    ((try refine W.a ?_); simp only [go_sem, seval, reduceCtorEq])
    (refine W.fs (hok) (by simp only [r9, go_sem, seval, reduceCtorEq]; rfl) ?_; simp only [resV]; try exact V.wk.rfl _)
  have h1 : ¬ (l.length : Int) > 100 := by omega
  have hO : overS l p = (l.any (fun x => decide (100 < x.name.length)) || (decide (leftP p 150 < 0) || longP p)) := by rw [overS, decide_eq_false ho]; rfl
  rw [hO]
  have hd := fun σ => ref03_Deep w0 p 150 (by omega) (by omega) σ
  have hl := fun σ => law04_long w0 p σ
  ((try refine W.a ?_); simp only [go_sem, seval, reduceCtorEq, c9, h1])
  refine W.no rfl ?_
  ((try refine W.a ?_); simp only [go_sem, seval, reduceCtorEq])
  refine W.loopP (fun i => i ≤ l.length ∧ UpTo (fun x => decide (100 < x.name.length)) l i) (fun i => ⟨(((base.put (some 0) (.c (opsC l))).put (some 3) (.ptr σ.length 0)).put (some 5) (I (i : Nat))), σ ++ [.cells p.v.cellsV]⟩) (fun i => l.length - i) 0 ⟨Nat.zero_le _, upTo_zero⟩ ?_ (fun i hi => ?_)
  · (refine Lew.env ?_; exact lee_here)
  · obtain ⟨hi, hinv⟩ := hi
    by_cases hlt : i < l.length
    · have h1 : ((i : Int) < (l.length : Int)) := by omega
      have hx : l[i]? = some l[i] := List.getElem?_eq_getElem hlt
      have hw : IntKind.i64.wrap ((i : Int) + 1) = ((i + 1 : Nat) : Int) := by rw [wrap_in] <;> omega
      ((try refine W.a ?_); simp only [go_sem, seval, reduceCtorEq, h1])
      refine W.yes rfl ?_
      ((try refine W.a ?_); simp only [go_sem, seval, reduceCtorEq, h1, nat0, hx])
      refine W.test rfl (fun h => ?_) (fun h => ?_)
      · have hb : decide (100 < l[i].name.length) = true := by simp only [decide_eq_true_eq] at h ⊢; omega
        rw [any_at hlt hb]
        ((try refine W.a ?_); simp only [go_sem, seval, reduceCtorEq])
        (refine W.fs (hok) (by simp only [r9, go_sem, seval, reduceCtorEq]; rfl) ?_; simp only [resV]; try exact V.wk.rfl _)
      · have hb : decide (100 < l[i].name.length) = false := by simp only [decide_eq_false_iff_not] at h ⊢; omega
        ((try refine W.a ?_); simp only [go_sem, seval, reduceCtorEq, hw])
        refine .inv ⟨i + 1, ⟨hlt, upTo_next hinv hlt hb⟩, by omega, ?_⟩
        (refine Lew.env ?_; exact lee_here)
    · have h1 : ¬ ((i : Int) < (l.length : Int)) := by omega
      rw [any_no (fun j hj => hinv j hj (by omega)), Bool.false_or]
      generalize decide (leftP p 150 < 0) = bd at *
      generalize longP p = bl at *
      cases bd
      · ((try refine W.a ?_); simp only [go_sem, seval, reduceCtorEq, h1])
        refine W.no rfl ?_
        ((try refine W.a ?_); simp only [go_sem, seval, reduceCtorEq])
        (refine W.c1 (hd _) ?_; simp only [go_sem, seval, reduceCtorEq])
        (refine W.c1 (hl _) ?_; simp only [go_sem, seval, reduceCtorEq])
        (refine W.fs (hok) (by simp only [r9, go_sem, seval, reduceCtorEq]; rfl) ?_; simp only [resV]; try exact V.wk.rfl _)
      · ((try refine W.a ?_); simp only [go_sem, seval, reduceCtorEq, h1])
        refine W.no rfl ?_
        ((try refine W.a ?_); simp only [go_sem, seval, reduceCtorEq])
        (refine W.c1 (hd _) ?_; simp only [go_sem, seval, reduceCtorEq])
        (refine W.fs (hok) (by simp only [r9, go_sem, seval, reduceCtorEq]; rfl) ?_; simp only [resV]; try exact V.wk.rfl _)
end Go.Proofs.YtljjlhdkkbaehaaGreatDoor
namespace Go.Proofs.YtljjlhdkkbaehaaGreatDoor
open Go.RowKit Go.Lamb

theorem size_builder : (Tryz.prog.info? 58).map (·.size) = some 2 := by kernel_rfl
theorem lies_builder : liesAt Tryz.prog Tryz.prog.depth 60 (3 / Tryz.prog.cellsOf 60) 1 58 1 = true := by kernel_rfl
set_option maxHeartbeats 1000000 in
set_option maxRecDepth 100000 in
theorem copyCheck_used (w : World) (p : Nat) (h0 : w.cell? ⟨p, 1, none⟩ = some (.pointer (some ⟨p, 1, none⟩))) :
    Calls Tryz.prog 62 #[.pointer (some ⟨p, 1, none⟩)] w fun e w' => e = .returned (.tuple #[]) ∧ w' = w := by
  obtain ⟨j, hj, _⟩ := Option.map_eq_some_iff.1 size_builder
  go_enter Tryz.func62, Tryz.ntmps62
  go_wp2
  rw [Lib.run_neq_ptr_same w _ Tryz.underlying55 hj]
  go_wp2
  go_end0
  exact ⟨rfl, rfl⟩
set_option maxHeartbeats 1000000 in
set_option maxRecDepth 100000 in
theorem copyCheck_fresh (w : World) (p : Nat) (h0 : w.cell? ⟨p, 1, none⟩ = some (.pointer none)) (hsh : w.shape? p = some (60, 3)) (hfz : w.frozen? ⟨p, 1, none⟩ = false) :
    Calls Tryz.prog 62 #[.pointer (some ⟨p, 1, none⟩)] w fun e w' => e = .returned (.tuple #[]) ∧ w' = w.setCell ⟨p, 1, none⟩ (.pointer (some ⟨p, 1, none⟩)) := by
  obtain ⟨j, hj, hjs⟩ := Option.map_eq_some_iff.1 size_builder
  go_enter Tryz.func62, Tryz.ntmps62
  go_wp2
  rw [Lib.run_to_unsafe w ⟨p, 1, none⟩ Tryz.underlying55 Tryz.underlying120 hj (by rw [hjs]; decide) hsh (show 1 < 3 by decide)]
  simp only [Result.andThen]
  rw [Oper.upon_value]
  go_wp2
  rw [run_callFunc_extern Tryz.func90 (by kernel_rfl) (by kernel_rfl) (by kernel_rfl) (e := Extern.AbiNoEscape.same) (by kernel_rfl)]
  rw [Lib.run_noEscape]
  simp only [Result.andThen]
  rw [Oper.upon_value]
  go_wp2
  rw [Lib.run_from_unsafe w ⟨p, 1, none⟩ Tryz.underlying120 Tryz.underlying55 hj hsh lies_builder]
  simp only [Result.andThen]
  rw [Oper.upon_value]
  go_wp2
  go_end0
  exact ⟨rfl, rfl⟩
/-- One cell of a row is written. -/
theorem setCell_row {w : World} {p o : Nat} {vs : Array Value} {t : TypeId} {fr : Nat × Nat} (h : w.heap[p]? = some (.cells vs t fr)) (v : Value) : w.setCell ⟨p, o, none⟩ v = w.setRow p (vs.setIfInBounds o v) := by
  unfold World.setCell World.setRow
  congr 1
  apply Array.ext_getElem?
  intro i
  rw [Array.getElem?_modify, Array.getElem?_modify]
  by_cases hi : p = i
  · subst hi
    rw [if_pos rfl, if_pos rfl, h]
    rfl
  · rw [if_neg hi, if_neg hi]
theorem copyCheckD (w0 : World) (σ : H) (b : Nat) (x A y : V) (hb : σ[b]? = some (.cells [x, A, y] (some 60))) (hA : A = .c .nilp ∨ A = .ptr b 1) :
    DC Tryz.prog w0 62 [.ptr b 1] σ (fun d σ' => d = .tup [] ∧ σ' = σ.set b (.cells [x, .ptr b 1, y] (some 60))) := by
  refine ⟨enters_fn Tryz.func62 (by kernel_rfl) rfl, fun κ w vs hrep hfit => ?_⟩
  obtain ⟨v, ys, rfl, hv, hfit⟩ := hfit.cons_inv
  have := hfit.nil_inv
  subst this
  obtain ⟨hlt, hb'⟩ := List.getElem?_eq_some_iff.1 hb
  have hblk := hrep.blk b hlt
  rw [hb'] at hblk
  obtain ⟨us, T, k1, k2, k3⟩ := hblk.row
  obtain ⟨us', k4⟩ := hblk.ty _ rfl
  have hT : T = 60 := by rw [k1] at k4; injection k4 with k4; injection k4
  subst hT
  have k2 : us.size = 3 := k2
  have hc1 : w.cell? ⟨κ.pos b, 1, none⟩ = us[1]? := Lib.cell_of_heap k1 1
  have hu1 : us[1]? = some (us.getD 1 undef) := by rw [Array.getElem?_eq_getElem (by omega)]; simp [Array.getD, k2]
  have h1 := (k3 1 (by simp)).2
  have hvp : v = .pointer (some ⟨κ.pos b, 1, none⟩) := by cases hv; rfl
  subst hvp
  have hn : κ.n = σ.length := hrep.n
  rcases hA with rfl | rfl
  · have h2 : us.getD 1 undef = .pointer none := by
      generalize us.getD 1 undef = z at h1
      cases h1 with | c h => cases h; rfl
    refine (copyCheck_fresh w (κ.pos b) (by rw [hc1, hu1, h2]) (by simp [World.shape?, k1, k2]) (Lib.frozen_of_heap k1 1)).mono ?_
    rintro e w' ⟨rfl, rfl⟩
    refine ⟨_, .tup [], _, κ, rfl, ⟨rfl, rfl⟩, K.le_refl κ, ?_, .tup rfl (fun j hj => absurd hj (Nat.not_lt_zero _))⟩
    rw [setCell_row k1]
    have hw := hrep.wrote (cs' := [x, .ptr b 1, y]) (vs := (us.setIfInBounds 1 (.pointer (some ⟨κ.pos b, 1, none⟩))).toList) hb (by
      have l0 := (k3 0 (by simp)).1; have l2 := (k3 2 (by simp)).1
      simp only [List.getElem_cons_zero, List.getElem_cons_succ] at l0 l2
      unfold leaves
      simp only [List.all_cons, List.all_nil, l0, l2]
      rfl) (by simp [k2]) (fun j hj => by
      have r0 := (k3 0 (by simp)).2; have r2 := (k3 2 (by simp)).2
      match j, hj with
      | 0, _ => simpa [List.getD, Array.getD, k2] using r0
      | 1, _ => simpa [List.getD, k2] using RV.ptr (κ := κ) (b := b) (o := 1) (by omega) hblk.fr
      | 2, _ => simpa [List.getD, Array.getD, k2] using r2)
    rwa [Array.toArray_toList] at hw
  · have h2 : us.getD 1 undef = .pointer (some ⟨κ.pos b, 1, none⟩) := by
      generalize us.getD 1 undef = z at h1
      cases h1; rfl
    refine (copyCheck_used w (κ.pos b) (by rw [hc1, hu1, h2])).mono ?_
    rintro e w' ⟨rfl, rfl⟩
    refine ⟨_, .tup [], σ, κ, rfl, ⟨rfl, ?_⟩, K.le_refl κ, hrep, .tup rfl (fun j hj => absurd hj (Nat.not_lt_zero _))⟩
    apply List.ext_getElem?
    intro i
    rw [List.getElem?_set]
    by_cases hi : b = i
    · subst hi; rw [if_pos rfl, if_pos hlt, hb]
    · rw [if_neg hi]
end Go.Proofs.YtljjlhdkkbaehaaGreatDoor
namespace Go.Proofs.YtljjlhdkkbaehaaGreatDoor
open Go.RowKit Go.Lamb
/-- (*strings.Builder).WriteString -/
def c33 : AC :=
  .seq (.reg [.o 4 (.mov (.k (.c (.int .i64 0)))), .o 5 (.mov (.k (.c (.nili))))])
  (.seq (.reg [.m 6 0, .k 7 62 [(.t 6)]])
  (.seq (.reg [.m 8 0, .m 9 0, .n 10 9, .f 11 1 10, .l 12 11, .m 13 1, .o 14 (.appS 5 1 (.t 12) (.t 13)), .n 15 8, .f 16 1 15, .s 1 16 14])
  (.seq (.reg [.m 17 1, .o 18 (.lens (.t 17)), .m 4 18, .o 5 (.mov (.k (.c (.nili))))])
  (.ret))))
def r33 : List ResV := [.tmp 4, .tmp 5]
theorem k33 : CodeIs Tryz.prog 33 2 Tryz.f33 c33 r33 := ⟨by kernel_rfl, Tryz.func33, rfl, by kernel_rfl, by kernel_rfl, by decide, enters_fn Tryz.func33 (by kernel_rfl) rfl⟩
/-- (*strings.Builder).WriteByte -/
def c60 : AC :=
  .seq (.reg [.o 4 (.mov (.k (.c (.nili))))])
  (.seq (.reg [.m 5 0, .k 6 62 [(.t 5)]])
  (.seq (.reg [.m 7 0, .m 8 0, .n 9 8, .f 10 1 9, .l 11 10, .m 12 1, .o 13 (.bsl 1 [(.t 12)]), .o 14 (.app 5 1 1 (.t 11) (.t 13)), .n 15 7, .f 16 1 15, .s 1 16 14])
  (.seq (.reg [.o 4 (.mov (.k (.c (.nili))))])
  (.ret))))
def r60 : List ResV := [.tmp 4]
theorem k60 : CodeIs Tryz.prog 60 2 Tryz.f60 c60 r60 := ⟨by kernel_rfl, Tryz.func60, rfl, by kernel_rfl, by kernel_rfl, by decide, enters_fn Tryz.func60 (by kernel_rfl) rfl⟩
/-- (*strings.Builder).Len -/
def c32 : AC :=
  .seq (.reg [.o 2 (.mov (.k (.c (.int .i64 0))))])
  (.seq (.reg [.m 3 0, .n 4 3, .f 5 1 4, .l 6 5, .o 7 (.lenr (.t 6)), .m 2 7])
  (.ret))
def r32 : List ResV := [.tmp 2]
theorem k32 : CodeIs Tryz.prog 32 1 Tryz.f32 c32 r32 := ⟨by kernel_rfl, Tryz.func32, rfl, by kernel_rfl, by kernel_rfl, by decide, enters_fn Tryz.func32 (by kernel_rfl) rfl⟩
end Go.Proofs.YtljjlhdkkbaehaaGreatDoor
namespace Go.Proofs.YtljjlhdkkbaehaaGreatDoor
open Go.RowKit Go.Lamb
attribute [local go_sem] advO_skip advO_reg advO_seq advO_block advO_exit advO_endb advO_opsNil advO_ops advG_yes advG_no advG_none advS_some advS_none advO_cond advO_loop advO_dreg advO_ret advO_bad advO_inv advO_nil advO_zero wantedV Lamb.step ev_t ev_k put_some put_none argEnv popTo cellsAt V.cellsV V.rows V.toC toCs fillV bytesC byteRows appV rowsV boundV boundL binV binInt binStr eqC eqL V.isNil leaves V.leaf Ins.quiet Ins.pure List.getD_cons_zero List.getD_cons_succ List.getD_nil List.all_cons List.all_nil List.length_cons List.length_nil List.take_succ_cons List.take_zero List.drop_succ_cons List.drop_zero List.cons_append List.nil_append List.append_nil List.append_assoc List.map_cons List.map_nil List.getElem?_cons_zero List.getElem?_cons_succ List.length_append List.length_set hget0 hget hset0 hset hsets hgs0 hgs hss0 hss List.set_cons_zero List.set_cons_succ List.forall_mem_cons List.not_mem_nil false_implies implies_true Option.map_some Bool.and_true Bool.true_and Bool.not_not Bool.not_true Bool.not_false Bool.and_self Bool.or_true Bool.true_or Bool.or_false Bool.false_or Bool.and_false Bool.false_and Bool.false_eq_true beq_self_eq_true and_self and_true true_and if_true if_false Nat.zero_add Nat.add_zero Nat.le_refl Int.toNat_natCast decide_true decide_false beq_t beq_f List.length_map List.getElem?_map I S B opsC toksC OpT.v OpT.cs OpT.zero Tok.v Tok.cs Pre.v Pre.cs_eq k_mk name_mk n_mk l_mk pos_mk Pre.app applyL natCast0 natCast1 natCast2 AOp.o AOp.m AOp.f AOp.l AOp.d AOp.n AOp.x AOp.s AOp.k AOp.y AOp.z EOp.q low_c low_void low_any low_csl low_nilf low_ptr low_osl low_agg low_tup low_fn resEval advPO_nil advPO_loud advPO_quiet pL_yes pL_no pLS_some pLS_none pQ_yes pQ_no pQS_some pQS_loud eq_self Nat.sub_zero
/-- A writer's block, and the bytes behind it. -/
def wrC (l : List OpT) (A : V) (v : Nat) (s : List UInt8) : Blk := .cells [.c (opsC l), A, .osl v (byteRows s)] (some 60)
def wrY (s : List UInt8) : Blk := .spare 5 1 s.length
abbrev wrs (σ : H) (b v : Nat) (l : List OpT) (A : V) (s : List UInt8) : H := rs σ b v (wrC l A v s) (wrY s)
theorem wrs_ok {σ : H} {b v : Nat} (D : Two σ b v) {X Y : Blk} (h : H.ok (rs σ b v X Y)) (l : List OpT) (s : List UInt8) : H.ok (wrs σ b v l (.ptr b 1) s) :=
  rs_ok D h (fun cs tg hc x hx => by
    unfold wrC at hc
    injection hc with hc _
    subst hc
    simp only [List.mem_cons, List.not_mem_nil, or_false] at hx
    rcases hx with rfl | rfl | rfl
    · exact .c _
    · exact .ptr D.lb
    · exact .osl D.lv) (fun cs tg hc => by unfold wrY at hc; cases hc)
theorem copyCheckW (w0 : World) (σ : H) (b v : Nat) (D : Two σ b v) (l : List OpT) (A : V) (hA : A = .c .nilp ∨ A = .ptr b 1) (s : List UInt8) :
    DC Tryz.prog w0 62 [.ptr b 1] (wrs σ b v l A s) (Same (.tup []) (wrs σ b v l (.ptr b 1) s)) :=
  (copyCheckD w0 _ b _ A _ (rs_b D _ _) hA).mono fun d σ' ⟨h1, h2⟩ => ⟨h1, by rw [h2]; exact rs_sb D _ _ _⟩
theorem wrs_push (σ : H) (b v : Nat) (l : List OpT) (A : V) (s t : List UInt8) : wrs σ b v l A (s ++ t) = rs σ b v (.cells [.c (opsC l), A, .osl v (byteRows s ++ byteRows t)] (some 60)) (.spare 5 1 (s.length + t.length)) := by
  show rs σ b v (wrC l A v (s ++ t)) (wrY (s ++ t)) = _
  simp only [wrC, wrY, byteRows, List.map_append, List.length_append]
attribute [local go_sem] wrC wrY rs_len rs_g0 rs_g rs_s0 rs_s rs_sv
theorem builder_WriteString (w0 : World) (σ : H) (b v : Nat) (D : Two σ b v) (l : List OpT) (A : V) (hA : A = .c .nilp ∨ A = .ptr b 1) (s t : List UInt8) (hn : s.length + t.length ≤ 100000000) :
    DC Tryz.prog w0 33 [.ptr b 1, S t] (wrs σ b v l A s) (Same (.tup [I t.length, .c .nili]) (wrs σ b v l (.ptr b 1) (s ++ t))) := by
  refine k33.go rfl (fun hok hsz => ?_)
  have hok2 := wrs_ok D hok l (s ++ t)
  rw [wrs_push] at hok2 ⊢
  have hl1 : (byteRows s).length = s.length := by simp [byteRows]
  have hl2 : (byteRows t).length = t.length := by simp [byteRows]
  have hr : ∀ r ∈ t.map (fun b => [C.int .u8 b.toNat]), r.length = 1 := fun r hr => by
    obtain ⟨c, _, rfl⟩ := List.mem_map.1 hr
    rfl
  have hb1 : (s.length + t.length) * 1 ≤ 140737488355328 := by omega
  have hb2 : s.length + t.length ≤ 140737488355328 := by omega
  ((try refine W.a ?_); simp only [go_sem, seval, reduceCtorEq, c33, rsA D])
  (refine W.c1 (copyCheckW w0 σ b v D l A hA s) ?_; simp only [go_sem, seval, reduceCtorEq])
  ((try refine W.a ?_); simp only [go_sem, seval, reduceCtorEq, rsA D, hl1, hl2, eq_true hr, hb1, hb2])
  (refine W.fs (hok2) (by simp only [r33, go_sem, seval, reduceCtorEq]; rfl) ?_; simp only [resV]; try exact V.wk.rfl _)
theorem builder_WriteByte (w0 : World) (σ : H) (b v : Nat) (D : Two σ b v) (l : List OpT) (A : V) (hA : A = .c .nilp ∨ A = .ptr b 1) (s : List UInt8) (t : UInt8) (hn : s.length + 1 ≤ 100000000) :
    DC Tryz.prog w0 60 [.ptr b 1, .c (.int .u8 t.toNat)] (wrs σ b v l A s) (Same (.c .nili) (wrs σ b v l (.ptr b 1) (s ++ [t]))) := by
  refine k60.go rfl (fun hok hsz => ?_)
  have hok2 := wrs_ok D hok l (s ++ [t])
  rw [wrs_push] at hok2 ⊢
  have hl1 : (byteRows s).length = s.length := by simp [byteRows]
  have hb1 : (s.length + 1) * 1 ≤ 140737488355328 := by omega
  have hb2 : s.length + 1 ≤ 140737488355328 := by omega
  ((try refine W.a ?_); simp only [go_sem, seval, reduceCtorEq, c60, rsA D])
  (refine W.c1 (copyCheckW w0 σ b v D l A hA s) ?_; simp only [go_sem, seval, reduceCtorEq])
  ((try refine W.a ?_); simp only [go_sem, seval, reduceCtorEq, rsA D, hl1, hb1, hb2])
  (refine W.fs (hok2) (by simp only [r60, go_sem, seval, reduceCtorEq]; rfl) ?_; simp only [resV]; try exact V.wk.rfl _)
theorem builder_Len (w0 : World) (σ : H) (b v : Nat) (D : Two σ b v) (l : List OpT) (A : V) (s : List UInt8) :
    DC Tryz.prog w0 32 [.ptr b 1] (wrs σ b v l A s) (Same (I s.length) (wrs σ b v l A s)) := by
  refine k32.go rfl (fun hok hsz => ?_)
  have hl1 : (byteRows s).length = s.length := by simp [byteRows]
  ((try refine W.a ?_); simp only [go_sem, seval, reduceCtorEq, c32, rsA D, hl1])
  (refine W.fs (hok) (by simp only [r32, go_sem, seval, reduceCtorEq]; rfl) ?_; simp only [resV]; try exact V.wk.rfl _)
end Go.Proofs.YtljjlhdkkbaehaaGreatDoor
namespace Go.Proofs.YtljjlhdkkbaehaaGreatDoor
open Go.RowKit Go.Lamb
/-- show.lambda -/
def c57 : AC :=
  .seq (.reg [.o 1 (.box (.t 0)), .o 2 (.mov (.k (.c (.bool false))))])
  (.seq (.reg [.f 3 0 1, .l 4 3, .o 5 (.bin .eql (.t 4) (.k (.c (.int .i64 4)))), .m 6 5, .y 7 (.fadd 3 (.t 1)) 6, .y 8 (.load1 (.t 7)) 6, .y 9 (.lenr (.t 8)) 6, .y 10 (.bin .eql (.t 9) (.k (.c (.int .i64 1)))) 6, .o 11 (.pick (.t 6) (.t 10) (.k (.c (.bool false)))), .m 2 11])
  (.ret))
def r57 : List ResV := [.tmp 2]
theorem k57 : CodeIs Tryz.prog 57 1 Tryz.f57 c57 r57 := ⟨by kernel_rfl, Tryz.func57, rfl, by kernel_rfl, by kernel_rfl, by decide, enters_fn Tryz.func57 (by kernel_rfl) rfl⟩
/-- show.application -/
def c58 : AC :=
  .seq (.reg [.o 1 (.box (.t 0)), .o 2 (.mov (.k (.c (.bool false))))])
  (.seq (.reg [.f 3 0 1, .l 4 3, .o 5 (.bin .eql (.t 4) (.k (.c (.int .i64 3)))), .m 6 5, .y 7 (.fadd 3 (.t 1)) 6, .y 8 (.load1 (.t 7)) 6, .y 9 (.lenr (.t 8)) 6, .y 10 (.bin .eql (.t 9) (.k (.c (.int .i64 2)))) 6, .o 11 (.pick (.t 6) (.t 10) (.k (.c (.bool false)))), .m 2 11])
  (.ret))
def r58 : List ResV := [.tmp 2]
theorem k58 : CodeIs Tryz.prog 58 1 Tryz.f58 c58 r58 := ⟨by kernel_rfl, Tryz.func58, rfl, by kernel_rfl, by kernel_rfl, by decide, enters_fn Tryz.func58 (by kernel_rfl) rfl⟩
/-- (*show.writer).infix -/
def c51 : AC :=
  .seq (.reg [.o 3 (.box (.t 1)), .o 4 (.box (.k (.agg [.c (.str []), .c (.int .i64 0), .c (.int .i64 0)]))), .o 5 (.box (.k (.agg [.c (.int .i64 0), .c (.str []), .c (.int .i64 0), .csl [], .c (.int .i64 0)]))), .o 6 (.box (.k (.agg [.c (.int .i64 0), .c (.str []), .c (.int .i64 0), .csl [], .c (.int .i64 0)]))), .o 7 (.mov (.k (.c (.bool false))))])
  (.seq (.seq (.reg [.d 8 5 3, .k 9 58 [(.t 8)], .o 10 (.un .not (.t 9)), .m 11 10, .z 12 (.fadd 3 (.t 3)) 11, .z 13 (.load1 (.t 12)) 11, .z 14 (.iadd 5 (.t 13) (.k (.c (.int .i64 0)))) 11, .z 15 (.loadn 5 (.t 14)) 11, .z 16 (.call (.k (.fn 58 [])) [(.t 15)]) 11, .z 17 (.un .not (.t 16)) 11, .o 18 (.pick (.t 11) (.k (.c (.bool true))) (.t 17)), .m 19 18, .z 20 (.fadd 3 (.t 3)) 19, .z 21 (.load1 (.t 20)) 19, .z 22 (.iadd 5 (.t 21) (.k (.c (.int .i64 0)))) 19, .z 23 (.fadd 3 (.t 22)) 19, .z 24 (.load1 (.t 23)) 19, .z 25 (.iadd 5 (.t 24) (.k (.c (.int .i64 0)))) 19, .z 26 (.fadd 0 (.t 25)) 19, .z 27 (.load1 (.t 26)) 19, .z 28 (.bin .neq (.t 27) (.k (.c (.int .i64 0)))) 19, .o 29 (.pick (.t 19) (.k (.c (.bool true))) (.t 28))])
  (.cond (.t 29)
  (.ret)
  (.skip)))
  (.seq (.dreg [.m 31 0, .n 32 31, .f 33 0 32, .l 34 33, .f 35 3 3, .l 36 35, .o 37 (.iadd 5 (.t 36) (.k (.c (.int .i64 0)))), .f 38 3 37, .l 39 38, .o 40 (.iadd 5 (.t 39) (.k (.c (.int .i64 0)))), .f 41 1 40, .l 42 41, .k 43 40 [(.t 34), (.t 42)], .m 30 43, .x 44 30 0, .x 45 30 1, .s 3 4 44, .m 7 45]
    [.q (.m 31 0), .q (.n 32 31), .q (.f 33 0 32), .q (.l 34 33), .q (.f 35 3 3), .q (.l 36 35), .q (.o 37 (.iadd 5 (.t 36) (.k (.c (.int .i64 0))))), .q (.f 38 3 37), .q (.l 39 38), .q (.o 40 (.iadd 5 (.t 39) (.k (.c (.int .i64 0))))), .q (.f 41 1 40), .q (.l 42 41), ⟨.k 43 40 [(.t 34), (.t 42)], true, 0⟩, ⟨.m 30 43, false, 1⟩, ⟨.x 44 30 0, false, 1⟩, ⟨.s 3 4 44, true, 1⟩, ⟨.x 45 30 1, false, 1⟩, ⟨.m 7 45, false, 2⟩])
  (.seq (.dreg [.d 46 3 4, .f 47 3 3, .l 48 47, .o 49 (.iadd 5 (.t 48) (.k (.c (.int .i64 0)))), .f 50 3 49, .l 51 50, .o 52 (.iadd 5 (.t 51) (.k (.c (.int .i64 1)))), .d 53 5 52, .f 54 3 3, .l 55 54, .o 56 (.iadd 5 (.t 55) (.k (.c (.int .i64 1)))), .d 57 5 56, .m 58 7, .s 3 4 46, .s 5 5 53, .s 5 6 57, .m 7 58]
    [.q (.d 46 3 4), ⟨.s 3 4 46, true, 0⟩, .q (.f 47 3 3), .q (.l 48 47), .q (.o 49 (.iadd 5 (.t 48) (.k (.c (.int .i64 0))))), .q (.f 50 3 49), .q (.l 51 50), .q (.o 52 (.iadd 5 (.t 51) (.k (.c (.int .i64 1))))), .q (.d 53 5 52), ⟨.s 5 5 53, true, 1⟩, .q (.f 54 3 3), .q (.l 55 54), .q (.o 56 (.iadd 5 (.t 55) (.k (.c (.int .i64 1))))), .q (.d 57 5 56), ⟨.s 5 6 57, true, 2⟩, .q (.m 58 7), ⟨.m 7 58, false, 3⟩])
  (.ret))))
def r51 : List ResV := [.celln 3 4, .celln 5 5, .celln 5 6, .tmp 7]
theorem k51 : CodeIs Tryz.prog 51 2 Tryz.f51 c51 r51 := ⟨by kernel_rfl, Tryz.func51, rfl, by kernel_rfl, by kernel_rfl, by decide, enters_fn Tryz.func51 (by kernel_rfl) rfl⟩
/-- (*show.writer).word -/
def c61 : AC :=
  .seq (.reg [.o 3 (.box (.t 1))])
  (.seq (.reg [.o 4 (.mov (.k (.c (.str [63]))))])
  (.seq (.seq (.reg [.f 7 0 3, .l 8 7])
  (.block 0 (.seq (.reg [.o 10 (.bin .eql (.t 8) (.k (.c (.int .i64 0)))), .m 9 10])
  (.cond (.t 9)
  (.seq (.reg [.f 11 1 3, .l 12 11, .m 4 12])
  (.seq (.reg [.m 14 0, .n 15 14, .f 16 0 15, .l 17 16, .m 18 4, .k 19 40 [(.t 17), (.t 18)], .m 13 19, .x 20 13 0, .x 21 13 1, .o 5 (.box (.k (.agg [.c (.str []), .c (.int .i64 0), .c (.int .i64 0)]))), .s 3 5 20, .m 6 21])
  (.seq (.reg [.m 22 6])
  (.cond (.t 22)
  (.reg [.m 23 4, .o 24 (.bin .add (.k (.c (.str [40]))) (.t 23)), .o 25 (.bin .add (.t 24) (.k (.c (.str [41])))), .m 4 25])
  (.skip)))))
  (.seq (.reg [.o 27 (.bin .eql (.t 8) (.k (.c (.int .i64 1)))), .m 26 27])
  (.cond (.t 26)
  (.reg [.f 28 1 3, .l 29 28, .m 4 29])
  (.seq (.reg [.o 31 (.bin .eql (.t 8) (.k (.c (.int .i64 2)))), .m 30 31])
  (.cond (.t 30)
  (.reg [.f 32 2 3, .l 33 32, .o 34 (.mx (.t 33) (.k (.c (.int .i64 0)))), .k 35 89 [(.t 34)], .m 4 35])
  (.skip)))))))))
  (.reg [.m 36 0, .n 37 36, .f 38 1 37, .m 39 4, .k 40 33 [(.t 38), (.t 39)]])))
def r61 : List ResV := []
theorem k61 : CodeIs Tryz.prog 61 2 Tryz.f61 c61 r61 := ⟨by kernel_rfl, Tryz.func61, rfl, by kernel_rfl, by kernel_rfl, by decide, enters_fn Tryz.func61 (by kernel_rfl) rfl⟩
end Go.Proofs.YtljjlhdkkbaehaaGreatDoor
namespace Go.Lamb
/-- The operator that makes a tree, and what it is made of, as the program tells them. -/
def infR (l : List OpT) (p : Pre) : OpT × Pre × Pre × Bool :=
  if appP p = true then match p.l with
    | [f, b] => if appP f = true then match f.l with
        | [c, a] => if c.k = 0 then ((findL l c.name).getD .zero, a, b, (findL l c.name).isSome) else (.zero, .none, .none, false)
        | _ => (.zero, .none, .none, false)
      else (.zero, .none, .none, false)
    | _ => (.zero, .none, .none, false)
  else (.zero, .none, .none, false)
def infV (l : List OpT) (p : Pre) : V := .tup [(infR l p).1.v, (infR l p).2.1.v, (infR l p).2.2.1.v, B (infR l p).2.2.2]
end Go.Lamb
namespace Go.Proofs.YtljjlhdkkbaehaaGreatDoor
open Go.RowKit Go.Lamb
attribute [local go_sem] advO_skip advO_reg advO_seq advO_block advO_exit advO_endb advO_opsNil advO_ops advG_yes advG_no advG_none advS_some advS_none advO_cond advO_loop advO_dreg advO_ret advO_bad advO_inv advO_nil advO_zero wantedV Lamb.step ev_t ev_k put_some put_none argEnv popTo cellsAt V.cellsV V.rows V.toC toCs fillV bytesC byteRows appV rowsV boundV boundL binV binInt binStr eqC eqL V.isNil leaves V.leaf Ins.quiet Ins.pure List.getD_cons_zero List.getD_cons_succ List.getD_nil List.all_cons List.all_nil List.length_cons List.length_nil List.take_succ_cons List.take_zero List.drop_succ_cons List.drop_zero List.cons_append List.nil_append List.append_nil List.append_assoc List.map_cons List.map_nil List.getElem?_cons_zero List.getElem?_cons_succ List.length_append List.length_set hget0 hget hset0 hset hsets hgs0 hgs hss0 hss List.set_cons_zero List.set_cons_succ List.forall_mem_cons List.not_mem_nil false_implies implies_true Option.map_some Bool.and_true Bool.true_and Bool.not_not Bool.not_true Bool.not_false Bool.and_self Bool.or_true Bool.true_or Bool.or_false Bool.false_or Bool.and_false Bool.false_and Bool.false_eq_true beq_self_eq_true and_self and_true true_and if_true if_false Nat.zero_add Nat.add_zero Nat.le_refl Int.toNat_natCast decide_true decide_false beq_t beq_f List.length_map List.getElem?_map I S B opsC toksC OpT.v OpT.cs OpT.zero Tok.v Tok.cs Pre.v Pre.cs_eq k_mk name_mk n_mk l_mk pos_mk Pre.app applyL natCast0 natCast1 natCast2 AOp.o AOp.m AOp.f AOp.l AOp.d AOp.n AOp.x AOp.s AOp.k AOp.y AOp.z EOp.q low_c low_void low_any low_csl low_nilf low_ptr low_osl low_agg low_tup low_fn resEval advPO_nil advPO_loud advPO_quiet pL_yes pL_no pLS_some pLS_none pQ_yes pQ_no pQS_some pQS_loud eq_self Nat.sub_zero
theorem show_lambda (w0 : World) (p : Pre) (σ : H) : DC Tryz.prog w0 57 [p.v] σ (Same (B (lamP p)) σ) := by
  refine k57.go rfl (fun hok hsz => ?_)
  have hl : ((p.l.length : Int) == 1) = (p.l.length == 1) := by rw [Bool.eq_iff_iff]; simp; omega
  unfold lamP
  cases hk : p.k == 4
  · ((try refine W.a ?_); simp only [go_sem, seval, reduceCtorEq, c57, hk])
    (refine W.fs (hok) (by simp only [r57, go_sem, seval, reduceCtorEq]; rfl) ?_; simp only [resV]; try exact V.wk.rfl _)
  · ((try refine W.a ?_); simp only [go_sem, seval, reduceCtorEq, c57, hk, hl])
    (refine W.fs (hok) (by simp only [r57, go_sem, seval, reduceCtorEq]; rfl) ?_; simp only [resV]; try exact V.wk.rfl _)
theorem show_application (w0 : World) (p : Pre) (σ : H) : DC Tryz.prog w0 58 [p.v] σ (Same (B (appP p)) σ) := by
  refine k58.go rfl (fun hok hsz => ?_)
  have hl : ((p.l.length : Int) == 2) = (p.l.length == 2) := by rw [Bool.eq_iff_iff]; simp; omega
  unfold appP
  cases hk : p.k == 3
  · ((try refine W.a ?_); simp only [go_sem, seval, reduceCtorEq, c58, hk])
    (refine W.fs (hok) (by simp only [r58, go_sem, seval, reduceCtorEq]; rfl) ?_; simp only [resV]; try exact V.wk.rfl _)
  · ((try refine W.a ?_); simp only [go_sem, seval, reduceCtorEq, c58, hk, hl])
    (refine W.fs (hok) (by simp only [r58, go_sem, seval, reduceCtorEq]; rfl) ?_; simp only [resV]; try exact V.wk.rfl _)
theorem app_two {p : Pre} (h : appP p = true) : ∃ f b, p.l = [f, b] := by
  unfold appP at h
  simp only [Bool.and_eq_true, beq_iff_eq] at h
  match p.l, h.2 with
  | [f, b], _ => exact ⟨f, b, rfl⟩
attribute [local go_sem] wrC wrY rs_len rs_g0 rs_g rs_s0 rs_s rs_sv Pre.v Pre.cs_eq
theorem writer_infix (w0 : World) (σ : H) (b v : Nat) (D : Two σ b v) (l : List OpT) (A : V) (s : List UInt8) (p : Pre) :
    DC Tryz.prog w0 51 [.ptr b 0, p.v] (wrs σ b v l A s) (Same (infV l p) (wrs σ b v l A s)) := by
  refine k51.go rfl (fun hok hsz => ?_)
  have a1 := fun σ => show_application w0 p σ
  have e0 : infR l p = (.zero, .none, .none, false) → infV l p = .tup [.agg [S [], I 0, I 0], .agg [I 0, S [], I 0, .c (.sl []), I 0], .agg [I 0, S [], I 0, .c (.sl []), I 0], B false] := fun e => by
    unfold infV
    rw [e]
    rfl
  cases h1 : appP p
  · rw [h1] at a1
    rw [e0 (by unfold infR; rw [h1]; rfl)]
    ((try refine W.a ?_); simp only [go_sem, seval, reduceCtorEq, c51, rsA D])
    (refine W.c1 (a1 _) ?_; simp only [go_sem, seval, reduceCtorEq, rsA D])
    refine W.yes rfl ?_
    ((try refine W.a ?_); simp only [go_sem, seval, reduceCtorEq, rsA D])
    (refine W.fs (hok) (by simp only [r51, go_sem, seval, reduceCtorEq]; rfl) ?_; simp only [resV]; try exact V.wk.rfl _)
    (all_goals exact wk_here)
  obtain ⟨f, t, hl⟩ := app_two h1
  have a2 := fun σ => show_application w0 f σ
  rw [h1] at a1
  cases h2 : appP f
  · rw [h2] at a2
    rw [e0 (by unfold infR; rw [h1, if_pos rfl, hl]; simp only [h2]; rfl)]
    ((try refine W.a ?_); simp only [go_sem, seval, reduceCtorEq, c51, rsA D])
    (refine W.c1 (a1 _) ?_; simp only [go_sem, seval, reduceCtorEq, rsA D, hl, nat0])
    (refine W.c1 (a2 _) ?_; simp only [go_sem, seval, reduceCtorEq, rsA D])
    refine W.yes rfl ?_
    ((try refine W.a ?_); simp only [go_sem, seval, reduceCtorEq, rsA D])
    (refine W.fs (hok) (by simp only [r51, go_sem, seval, reduceCtorEq]; rfl) ?_; simp only [resV]; try exact V.wk.rfl _)
    (all_goals exact wk_here)
  obtain ⟨c, a, hl2⟩ := app_two h2
  rw [h2] at a2
  by_cases h3 : c.k = 0
  · have k3 : (c.k != 0) = false := by simpa using h3
    have a3 := fun σ => ops_Find w0 l c.name σ
    have e1 : infV l p = .tup [((findL l c.name).getD .zero).v, a.v, t.v, B (findL l c.name).isSome] := by
      unfold infV infR
      rw [h1, if_pos rfl, hl]
      simp only [h2, if_true, hl2, h3]
    rw [e1]
    unfold foundV at a3
    generalize (findL l c.name).getD .zero = o at *
    generalize (findL l c.name).isSome = is at *
    ((try refine W.a ?_); simp only [go_sem, seval, reduceCtorEq, c51, rsA D])
    (refine W.c1 (a1 _) ?_; simp only [go_sem, seval, reduceCtorEq, rsA D, hl, nat0])
    (refine W.c1 (a2 _) ?_; simp only [go_sem, seval, reduceCtorEq, rsA D, hl2, nat0, k3])
    refine W.no rfl ?_
    ((try refine W.a ?_); simp only [go_sem, seval, reduceCtorEq, rsA D])
    apply W.dregE (List.cons_ne_nil _ _)
    case hc =>
      (apply CanonE.advPO; simp only [go_sem, seval, reduceCtorEq, rsA D, hl, hl2, nat0])
      (apply CanonE.call (a3 _); (case hg => rfl); (case hf => rfl); (case ha => first | rfl | simp))
      (apply CanonE.advPO; simp only [go_sem, seval, reduceCtorEq, rsA D])
      exact CanonE.nil
    ((try refine W.a ?_); simp only [go_sem, seval, reduceCtorEq, rsA D])
    (apply W.dregE (List.cons_ne_nil _ _); case hc => ((apply CanonE.advPO; simp only [go_sem, seval, reduceCtorEq, rsA D, hl, hl2, nat0]); exact CanonE.nil))
    ((try refine W.a ?_); simp only [go_sem, seval, reduceCtorEq, rsA D])
    (refine W.fs (hok) (by simp only [r51, go_sem, seval, reduceCtorEq]; rfl) ?_; simp only [resV]; try exact V.wk.rfl _)
  · have k3 : (c.k != 0) = true := by simpa using h3
    rw [e0 (by unfold infR; rw [h1, if_pos rfl, hl]; simp only [h2, if_true, hl2, if_neg h3])]
    ((try refine W.a ?_); simp only [go_sem, seval, reduceCtorEq, c51, rsA D])
    (refine W.c1 (a1 _) ?_; simp only [go_sem, seval, reduceCtorEq, rsA D, hl, nat0])
    (refine W.c1 (a2 _) ?_; simp only [go_sem, seval, reduceCtorEq, rsA D, hl2, nat0, k3])
    refine W.yes rfl ?_
    ((try refine W.a ?_); simp only [go_sem, seval, reduceCtorEq, rsA D])
    (refine W.fs (hok) (by simp only [r51, go_sem, seval, reduceCtorEq]; rfl) ?_; simp only [resV]; try exact V.wk.rfl _)
    (all_goals exact wk_here)
end Go.Proofs.YtljjlhdkkbaehaaGreatDoor
namespace Go.Proofs.YtljjlhdkkbaehaaGreatDoor
open Go.RowKit Go.Lamb
attribute [local go_sem] advO_skip advO_reg advO_seq advO_block advO_exit advO_endb advO_opsNil advO_ops advG_yes advG_no advG_none advS_some advS_none advO_cond advO_loop advO_dreg advO_ret advO_bad advO_inv advO_nil advO_zero wantedV Lamb.step ev_t ev_k put_some put_none argEnv popTo cellsAt V.cellsV V.rows V.toC toCs fillV bytesC byteRows appV rowsV boundV boundL binV binInt binStr eqC eqL V.isNil leaves V.leaf Ins.quiet Ins.pure List.getD_cons_zero List.getD_cons_succ List.getD_nil List.all_cons List.all_nil List.length_cons List.length_nil List.take_succ_cons List.take_zero List.drop_succ_cons List.drop_zero List.cons_append List.nil_append List.append_nil List.append_assoc List.map_cons List.map_nil List.getElem?_cons_zero List.getElem?_cons_succ List.length_append List.length_set hget0 hget hset0 hset hsets hgs0 hgs hss0 hss List.set_cons_zero List.set_cons_succ List.forall_mem_cons List.not_mem_nil false_implies implies_true Option.map_some Bool.and_true Bool.true_and Bool.not_not Bool.not_true Bool.not_false Bool.and_self Bool.or_true Bool.true_or Bool.or_false Bool.false_or Bool.and_false Bool.false_and Bool.false_eq_true beq_self_eq_true and_self and_true true_and if_true if_false Nat.zero_add Nat.add_zero Nat.le_refl Int.toNat_natCast decide_true decide_false beq_t beq_f List.length_map List.getElem?_map I S B opsC toksC OpT.v OpT.cs OpT.zero Tok.v Tok.cs Pre.v Pre.cs_eq k_mk name_mk n_mk l_mk pos_mk Pre.app applyL natCast0 natCast1 natCast2 AOp.o AOp.m AOp.f AOp.l AOp.d AOp.n AOp.x AOp.s AOp.k AOp.y AOp.z EOp.q low_c low_void low_any low_csl low_nilf low_ptr low_osl low_agg low_tup low_fn resEval advPO_nil advPO_loud advPO_quiet pL_yes pL_no pLS_some pLS_none pQ_yes pQ_no pQS_some pQS_loud eq_self Nat.sub_zero
theorem strconv_ItoaS {w0 : World} (hG : Glob w0) (n : Int) (h0 : -9223372036854775808 ≤ n) (h1 : n ≤ 9223372036854775807) (σ : H) : DC Tryz.prog w0 89 [I n] σ (Same (S (Lib.itoa n)) σ) := by
  refine DC.of_calls (enters_fn Tryz.func89 (by kernel_rfl) rfl) fun κ w vs hrep hfit => ?_
  obtain ⟨v, ys, rfl, hv, hfit⟩ := hfit.cons_inv
  have := hfit.nil_inv
  subst this
  cases hv with
  | c hv =>
    cases hv with
    | int _ _ =>
      refine ⟨_, .c (.str _ (by have := Lib.itoa_length_le n h0 h1; unfold maxLen; omega)), (itoaC n w h0 h1 (hG.ext hrep.ext)).mono ?_⟩
      rintro e w' ⟨rfl, hb⟩
      exact ⟨rfl, hb⟩
attribute [local go_sem] wrC wrY rs_len rs_g0 rs_g rs_s0 rs_s rs_sv Pre.v
theorem wrs_put (σ : H) (b v : Nat) (l : List OpT) (A : V) (s t : List UInt8) : wrs σ b v l A (s ++ t) = rs σ b v (.cells [.c (opsC l), A, .osl v (byteRows (s ++ t))] (some 60)) (.spare 5 1 (s.length + t.length)) := by
  show rs σ b v (wrC l A v (s ++ t)) (wrY (s ++ t)) = _
  simp only [wrC, wrY, List.length_append]
theorem writer_word {w0 : World} (hG : Glob w0) (σ : H) (b v : Nat) (D : Two σ b v) (l : List OpT) (A : V) (hA : A = .c .nilp ∨ A = .ptr b 1) (s : List UInt8) (p : Pre) (hn : p.n ≤ 9223372036854775807) (hlen : s.length + (wordP l p).length ≤ 100000000) :
    DC Tryz.prog w0 61 [.ptr b 0, p.v] (wrs σ b v l A s) (Same (.tup []) (wrs σ b v l (.ptr b 1) (s ++ wordP l p))) := by
  refine k61.go rfl (fun hok hsz => ?_)
  by_cases k0 : p.k = 0
  · have e0 : (p.k == 0) = true := by simpa using k0
    have a3 := fun σ => ops_Find w0 l p.name σ
    unfold foundV at a3
    have ew : wordP l p = if (findL l p.name).isSome = true then 40 :: p.name ++ [41] else p.name := by unfold wordP; rw [if_pos k0]
    generalize (findL l p.name).getD .zero = o at a3
    generalize (findL l p.name).isSome = is at a3 ew
    cases is
    · rw [if_neg (by decide)] at ew
      rw [ew] at hlen ⊢
      have hok2 := wrs_ok D hok l (s ++ p.name)
      rw [wrs_put] at hok2 ⊢
      ((try refine W.a ?_); simp only [go_sem, seval, reduceCtorEq, c61, rsA D, e0])
      refine W.yes rfl ?_
      ((try refine W.a ?_); simp only [go_sem, seval, reduceCtorEq, rsA D])
      (refine W.c1 (a3 _) ?_; simp only [go_sem, seval, reduceCtorEq, rsA D])
      refine W.no rfl ?_
      ((try refine W.a ?_); simp only [go_sem, seval, reduceCtorEq, rsA D])
      (refine W.c1 (DC.lift D (fun D' => builder_WriteString w0 _ b v D' l A hA s p.name hlen)) ?_; simp only [go_sem, seval, reduceCtorEq, rsA D])
      (refine W.done (Fin.sameW (hok2) (by (first | rfl | exact List.length_set .. | simp)) (by simp only [r61, go_sem, seval, reduceCtorEq]; rfl) ?_ (by (first | exact .c _ | (simp only [go_sem, seval, reduceCtorEq]; done))) (by (first | rfl | exact (List.append_nil _).symm))); simp only [resV]; try exact V.wk.rfl _)
    · rw [if_pos rfl, List.cons_append] at ew
      have hln : (40 :: (p.name ++ [41])).length = p.name.length + 1 + 1 := by simp
      rw [ew] at hlen ⊢
      have hok2 := wrs_ok D hok l (s ++ (40 :: (p.name ++ [41])))
      rw [wrs_put, hln] at hok2 ⊢
      have hl : p.name.length + 2 ≤ 100000000 := by simp only [List.length_append, List.length_cons, List.length_nil] at hlen; omega
      have h1 : 1 + p.name.length ≤ 9223372036854775807 := by omega
      have h2 : p.name.length + 1 + 1 ≤ 9223372036854775807 := by omega
      have h3 : p.name.length + 1 ≤ 9223372036854775806 := by omega
      have h4 : p.name.length + 1 ≤ 9223372036854775807 := by omega
      ((try refine W.a ?_); simp only [go_sem, seval, reduceCtorEq, c61, rsA D, e0])
      refine W.yes rfl ?_
      ((try refine W.a ?_); simp only [go_sem, seval, reduceCtorEq, rsA D])
      (refine W.c1 (a3 _) ?_; simp only [go_sem, seval, reduceCtorEq, rsA D])
      refine W.yes rfl ?_
      ((try refine W.a ?_); simp only [go_sem, seval, reduceCtorEq, rsA D, h1, h2, h3, h4])
      (refine W.c1 (DC.lift D (fun D' => builder_WriteString w0 _ b v D' l A hA s (40 :: (p.name ++ [41])) hlen)) ?_; simp only [go_sem, seval, reduceCtorEq, rsA D])
      (refine W.done (Fin.sameW (hok2) (by (first | rfl | exact List.length_set .. | simp)) (by simp only [r61, go_sem, seval, reduceCtorEq]; rfl) ?_ (by (first | exact .c _ | (simp only [go_sem, seval, reduceCtorEq]; done))) (by (first | rfl | exact (List.append_nil _).symm))); simp only [resV]; try exact V.wk.rfl _)
  have e0 : (p.k == 0) = false := by simpa using k0
  by_cases k1 : p.k = 1
  · have e1 : (p.k == 1) = true := by simpa using k1
    have ew : wordP l p = p.name := by unfold wordP; rw [if_neg k0, if_pos k1]
    rw [ew] at hlen ⊢
    have hok2 := wrs_ok D hok l (s ++ p.name)
    rw [wrs_put] at hok2 ⊢
    ((try refine W.a ?_); simp only [go_sem, seval, reduceCtorEq, c61, rsA D, e0])
    refine W.no rfl ?_
    ((try refine W.a ?_); simp only [go_sem, seval, reduceCtorEq, rsA D, e1])
    refine W.yes rfl ?_
    ((try refine W.a ?_); simp only [go_sem, seval, reduceCtorEq, rsA D])
    (refine W.c1 (DC.lift D (fun D' => builder_WriteString w0 _ b v D' l A hA s p.name hlen)) ?_; simp only [go_sem, seval, reduceCtorEq, rsA D])
    (refine W.done (Fin.sameW (hok2) (by (first | rfl | exact List.length_set .. | simp)) (by simp only [r61, go_sem, seval, reduceCtorEq]; rfl) ?_ (by (first | exact .c _ | (simp only [go_sem, seval, reduceCtorEq]; done))) (by (first | rfl | exact (List.append_nil _).symm))); simp only [resV]; try exact V.wk.rfl _)
  have e1 : (p.k == 1) = false := by simpa using k1
  by_cases k2 : p.k = 2
  · have e2 : (p.k == 2) = true := by simpa using k2
    have ew : wordP l p = Lib.itoa (max p.n 0) := by unfold wordP; rw [if_neg k0, if_neg k1, if_pos k2]
    have hm : (if p.n < 0 then 0 else p.n) = max p.n 0 := by split <;> omega
    have hi := fun σ => strconv_ItoaS hG (max p.n 0) (by omega) (by omega) σ
    rw [ew] at hlen ⊢
    have hok2 := wrs_ok D hok l (s ++ (Lib.itoa (max p.n 0)))
    rw [wrs_put] at hok2 ⊢
    ((try refine W.a ?_); simp only [go_sem, seval, reduceCtorEq, c61, rsA D, e0])
    refine W.no rfl ?_
    ((try refine W.a ?_); simp only [go_sem, seval, reduceCtorEq, rsA D, e1])
    refine W.no rfl ?_
    ((try refine W.a ?_); simp only [go_sem, seval, reduceCtorEq, rsA D, e2])
    refine W.yes rfl ?_
    ((try refine W.a ?_); simp only [go_sem, seval, reduceCtorEq, rsA D, hm])
    (refine W.c1 (hi _) ?_; simp only [go_sem, seval, reduceCtorEq, rsA D])
    (refine W.c1 (DC.lift D (fun D' => builder_WriteString w0 _ b v D' l A hA s (Lib.itoa (max p.n 0)) hlen)) ?_; simp only [go_sem, seval, reduceCtorEq, rsA D])
    (refine W.done (Fin.sameW (hok2) (by (first | rfl | exact List.length_set .. | simp)) (by simp only [r61, go_sem, seval, reduceCtorEq]; rfl) ?_ (by (first | exact .c _ | (simp only [go_sem, seval, reduceCtorEq]; done))) (by (first | rfl | exact (List.append_nil _).symm))); simp only [resV]; try exact V.wk.rfl _)
  have e2 : (p.k == 2) = false := by simpa using k2
  have ew : wordP l p = [63] := by unfold wordP; rw [if_neg k0, if_neg k1, if_neg k2]
  rw [ew] at hlen ⊢
  have hok2 := wrs_ok D hok l (s ++ [63])
  rw [wrs_put] at hok2 ⊢
  ((try refine W.a ?_); simp only [go_sem, seval, reduceCtorEq, c61, rsA D, e0])
  refine W.no rfl ?_
  ((try refine W.a ?_); simp only [go_sem, seval, reduceCtorEq, rsA D, e1])
  refine W.no rfl ?_
  ((try refine W.a ?_); simp only [go_sem, seval, reduceCtorEq, rsA D, e2])
  refine W.no rfl ?_
  ((try refine W.a ?_); simp only [go_sem, seval, reduceCtorEq, rsA D])
  (refine W.c1 (DC.lift D (fun D' => builder_WriteString w0 _ b v D' l A hA s [63] hlen)) ?_; simp only [go_sem, seval, reduceCtorEq, rsA D])
  (refine W.done (Fin.sameW (hok2) (by (first | rfl | exact List.length_set .. | simp)) (by simp only [r61, go_sem, seval, reduceCtorEq]; rfl) ?_ (by (first | exact .c _ | (simp only [go_sem, seval, reduceCtorEq]; done))) (by (first | rfl | exact (List.append_nil _).symm))); simp only [resV]; try exact V.wk.rfl _)
end Go.Proofs.YtljjlhdkkbaehaaGreatDoor
namespace Go.Proofs.YtljjlhdkkbaehaaGreatDoor
open Go.RowKit Go.Lamb
/-- (*show.writer).side -/
def c52 : AC :=
  .seq (.reg [.o 4 (.box (.t 1))])
  (.seq (.reg [.m 11 0, .d 12 5 4, .k 13 51 [(.t 11), (.t 12)], .m 10 13, .x 14 10 0, .x 15 10 1, .x 16 10 2, .x 17 10 3, .o 6 (.box (.k (.agg [.c (.str []), .c (.int .i64 0), .c (.int .i64 0)]))), .o 7 (.box (.k (.agg [.c (.int .i64 0), .c (.str []), .c (.int .i64 0), .csl [], .c (.int .i64 0)]))), .o 8 (.box (.k (.agg [.c (.int .i64 0), .c (.str []), .c (.int .i64 0), .csl [], .c (.int .i64 0)]))), .s 3 6 14, .s 5 7 15, .s 5 8 16, .m 9 17])
  (.dreg [.m 18 0, .d 19 5 4, .d 20 5 4, .k 21 57 [(.t 20)], .m 22 21, .z 23 (.mov (.t 9)) 22, .z 24 (.mov (.t 23)) 22, .y 25 (.mov (.t 2)) 24, .y 26 (.loadn 3 (.t 6)) 24, .y 27 (.call (.t 25) [(.t 26)]) 24, .y 28 (.un .not (.t 27)) 24, .z 29 (.pick (.t 24) (.t 28) (.k (.c (.bool false)))) 22, .o 30 (.pick (.t 22) (.k (.c (.bool true))) (.t 29)), .k 31 59 [(.t 18), (.t 19), (.t 30)]]
    [.q (.d 20 5 4), ⟨.k 21 57 [(.t 20)], true, 0⟩, ⟨.m 22 21, false, 1⟩, ⟨.z 23 (.mov (.t 9)) 22, false, 1⟩, ⟨.z 24 (.mov (.t 23)) 22, false, 1⟩, ⟨.y 25 (.mov (.t 2)) 24, false, 1⟩, ⟨.y 26 (.loadn 3 (.t 6)) 24, false, 1⟩, ⟨.y 27 (.call (.t 25) [(.t 26)]) 24, true, 1⟩, .q (.m 18 0), .q (.d 19 5 4), ⟨.y 28 (.un .not (.t 27)) 24, false, 2⟩, ⟨.z 29 (.pick (.t 24) (.t 28) (.k (.c (.bool false)))) 22, false, 2⟩, ⟨.o 30 (.pick (.t 22) (.k (.c (.bool true))) (.t 29)), false, 2⟩, ⟨.k 31 59 [(.t 18), (.t 19), (.t 30)], true, 2⟩]))
def r52 : List ResV := []
theorem k52 : CodeIs Tryz.prog 52 3 Tryz.f52 c52 r52 := ⟨by kernel_rfl, Tryz.func52, rfl, by kernel_rfl, by kernel_rfl, by decide, enters_fn Tryz.func52 (by kernel_rfl) rfl⟩
/-- (*show.writer).tree -/
def c30 : AC :=
  .seq (.reg [.o 3 (.box (.t 1))])
  (.seq (.reg [.m 13 0, .d 14 5 3, .k 15 51 [(.t 13), (.t 14)], .m 12 15, .x 16 12 0, .x 17 12 1, .x 18 12 2, .x 19 12 3, .o 4 (.box (.k (.agg [.c (.str []), .c (.int .i64 0), .c (.int .i64 0)]))), .o 5 (.box (.k (.agg [.c (.int .i64 0), .c (.str []), .c (.int .i64 0), .csl [], .c (.int .i64 0)]))), .o 6 (.box (.k (.agg [.c (.int .i64 0), .c (.str []), .c (.int .i64 0), .csl [], .c (.int .i64 0)]))), .s 3 4 16, .s 5 5 17, .s 5 6 18, .m 7 19])
  (.block 0 (.seq (.reg [.m 24 7, .m 23 24])
  (.cond (.t 23)
  (.seq (.reg [.m 25 0, .d 26 5 5, .o 27 (.mkfn 53 [(.t 4)]), .k 28 52 [(.t 25), (.t 26), (.t 27)]])
  (.seq (.dreg [.m 29 0, .n 30 29, .f 31 1 30, .f 32 0 4, .l 33 32, .o 34 (.bin .add (.k (.c (.str [32]))) (.t 33)), .o 35 (.bin .add (.t 34) (.k (.c (.str [32])))), .k 36 33 [(.t 31), (.t 35)]]
    [.q (.m 29 0), .q (.n 30 29), .q (.f 31 1 30), .q (.f 32 0 4), .q (.l 33 32), .q (.o 34 (.bin .add (.k (.c (.str [32]))) (.t 33))), .q (.o 35 (.bin .add (.t 34) (.k (.c (.str [32]))))), ⟨.k 36 33 [(.t 31), (.t 35)], true, 0⟩])
  (.reg [.m 37 0, .d 38 5 6, .o 39 (.mkfn 55 [(.t 4)]), .k 40 52 [(.t 37), (.t 38), (.t 39)]])))
  (.seq (.reg [.d 42 5 3, .k 43 57 [(.t 42)], .m 41 43])
  (.cond (.t 41)
  (.seq (.dreg [.m 44 0, .n 45 44, .f 46 1 45, .f 47 1 3, .l 48 47, .o 49 (.bin .add (.t 48) (.k (.c (.str [92, 32])))), .k 50 33 [(.t 46), (.t 49)]]
    [.q (.m 44 0), .q (.n 45 44), .q (.f 46 1 45), .q (.f 47 1 3), .q (.l 48 47), .q (.o 49 (.bin .add (.t 48) (.k (.c (.str [92, 32]))))), ⟨.k 50 33 [(.t 46), (.t 49)], true, 0⟩])
  (.reg [.m 51 0, .f 52 3 3, .l 53 52, .o 54 (.iadd 5 (.t 53) (.k (.c (.int .i64 0)))), .d 55 5 54, .k 56 30 [(.t 51), (.t 55)]]))
  (.seq (.reg [.d 58 5 3, .k 59 58 [(.t 58)], .m 57 59])
  (.cond (.t 57)
  (.seq (.reg [.m 61 0, .f 62 3 3, .l 63 62, .o 64 (.iadd 5 (.t 63) (.k (.c (.int .i64 0)))), .d 65 5 64, .k 66 51 [(.t 61), (.t 65)], .m 60 66, .x 67 60 0, .x 68 60 1, .x 69 60 2, .x 70 60 3, .o 8 (.box (.k (.agg [.c (.str []), .c (.int .i64 0), .c (.int .i64 0)]))), .o 9 (.box (.k (.agg [.c (.int .i64 0), .c (.str []), .c (.int .i64 0), .csl [], .c (.int .i64 0)]))), .o 10 (.box (.k (.agg [.c (.int .i64 0), .c (.str []), .c (.int .i64 0), .csl [], .c (.int .i64 0)]))), .s 3 8 67, .s 5 9 68, .s 5 10 69, .m 11 70])
  (.seq (.dreg [.m 71 0, .f 72 3 3, .l 73 72, .o 74 (.iadd 5 (.t 73) (.k (.c (.int .i64 0)))), .d 75 5 74, .m 76 11, .m 77 76, .z 78 (.fadd 3 (.t 3)) 77, .z 79 (.load1 (.t 78)) 77, .z 80 (.iadd 5 (.t 79) (.k (.c (.int .i64 0)))) 77, .z 81 (.loadn 5 (.t 80)) 77, .z 82 (.call (.k (.fn 57 [])) [(.t 81)]) 77, .o 83 (.pick (.t 77) (.k (.c (.bool true))) (.t 82)), .k 84 59 [(.t 71), (.t 75), (.t 83)]]
    [.q (.m 76 11), .q (.m 77 76), .q (.z 78 (.fadd 3 (.t 3)) 77), .q (.z 79 (.load1 (.t 78)) 77), .q (.z 80 (.iadd 5 (.t 79) (.k (.c (.int .i64 0)))) 77), .q (.z 81 (.loadn 5 (.t 80)) 77), ⟨.z 82 (.call (.k (.fn 57 [])) [(.t 81)]) 77, true, 0⟩, .q (.m 71 0), .q (.f 72 3 3), .q (.l 73 72), .q (.o 74 (.iadd 5 (.t 73) (.k (.c (.int .i64 0))))), .q (.d 75 5 74), ⟨.o 83 (.pick (.t 77) (.k (.c (.bool true))) (.t 82)), false, 1⟩, ⟨.k 84 59 [(.t 71), (.t 75), (.t 83)], true, 1⟩])
  (.seq (.reg [.m 85 0, .n 86 85, .f 87 1 86, .k 88 60 [(.t 87), (.k (.c (.int .u8 32)))]])
  (.dreg [.m 89 0, .f 90 3 3, .l 91 90, .o 92 (.iadd 5 (.t 91) (.k (.c (.int .i64 1)))), .d 93 5 92, .f 94 3 3, .l 95 94, .o 96 (.iadd 5 (.t 95) (.k (.c (.int .i64 1)))), .d 97 5 96, .k 98 57 [(.t 97)], .m 99 98, .z 100 (.fadd 3 (.t 3)) 99, .z 101 (.load1 (.t 100)) 99, .z 102 (.iadd 5 (.t 101) (.k (.c (.int .i64 1)))) 99, .z 103 (.loadn 5 (.t 102)) 99, .z 104 (.call (.k (.fn 58 [])) [(.t 103)]) 99, .o 105 (.pick (.t 99) (.k (.c (.bool true))) (.t 104)), .k 106 59 [(.t 89), (.t 93), (.t 105)]]
    [.q (.f 94 3 3), .q (.l 95 94), .q (.o 96 (.iadd 5 (.t 95) (.k (.c (.int .i64 1))))), .q (.d 97 5 96), ⟨.k 98 57 [(.t 97)], true, 0⟩, ⟨.m 99 98, false, 1⟩, ⟨.z 100 (.fadd 3 (.t 3)) 99, false, 1⟩, ⟨.z 101 (.load1 (.t 100)) 99, false, 1⟩, ⟨.z 102 (.iadd 5 (.t 101) (.k (.c (.int .i64 1)))) 99, false, 1⟩, ⟨.z 103 (.loadn 5 (.t 102)) 99, false, 1⟩, ⟨.z 104 (.call (.k (.fn 58 [])) [(.t 103)]) 99, true, 1⟩, .q (.m 89 0), .q (.f 90 3 3), .q (.l 91 90), .q (.o 92 (.iadd 5 (.t 91) (.k (.c (.int .i64 1))))), .q (.d 93 5 92), ⟨.o 105 (.pick (.t 99) (.k (.c (.bool true))) (.t 104)), false, 2⟩, ⟨.k 106 59 [(.t 89), (.t 93), (.t 105)], true, 2⟩]))))
  (.reg [.m 20 0, .d 21 5 3, .k 22 61 [(.t 20), (.t 21)]])))))))))
def r30 : List ResV := []
theorem k30 : CodeIs Tryz.prog 30 2 Tryz.f30 c30 r30 := ⟨by kernel_rfl, Tryz.func30, rfl, by kernel_rfl, by kernel_rfl, by decide, enters_fn Tryz.func30 (by kernel_rfl) rfl⟩
/-- (*show.writer).tree$1 -/
def c53 : AC :=
  .seq (.reg [.o 2 (.box (.t 0)), .o 3 (.mov (.k (.c (.bool false))))])
  (.seq (.reg [.d 4 3 1, .d 5 3 2, .k 6 54 [(.t 4), (.t 5)], .m 3 6])
  (.ret))
def r53 : List ResV := [.tmp 3]
theorem k53 : CodeIs Tryz.prog 53 2 Tryz.f53 c53 r53 := ⟨by kernel_rfl, Tryz.func53, rfl, by kernel_rfl, by kernel_rfl, by decide, enters_fn Tryz.func53 (by kernel_rfl) rfl⟩
/-- (*show.writer).tree$2 -/
def c55 : AC :=
  .seq (.reg [.o 2 (.box (.t 0)), .o 3 (.mov (.k (.c (.bool false))))])
  (.seq (.reg [.d 4 3 1, .d 5 3 2, .k 6 56 [(.t 4), (.t 5)], .m 3 6])
  (.ret))
def r55 : List ResV := [.tmp 3]
theorem k55 : CodeIs Tryz.prog 55 2 Tryz.f55 c55 r55 := ⟨by kernel_rfl, Tryz.func55, rfl, by kernel_rfl, by kernel_rfl, by decide, enters_fn Tryz.func55 (by kernel_rfl) rfl⟩
/-- (*show.writer).part -/
def c59 : AC :=
  .seq (.reg [.o 4 (.box (.t 1))])
  (.seq (.seq (.reg [.m 6 2])
  (.cond (.t 6)
  (.seq (.reg [.m 7 0, .n 8 7, .f 9 1 8, .k 10 60 [(.t 9), (.k (.c (.int .u8 40)))]])
  (.reg [.m 11 0, .n 12 11, .f 13 1 12, ⟨none, .bad, none⟩]))
  (.skip)))
  (.reg [.m 14 0, .d 15 5 4, .k 16 30 [(.t 14), (.t 15)]]))
def r59 : List ResV := []
theorem k59 : CodeIs Tryz.prog 59 3 Tryz.f59 c59 r59 := ⟨by kernel_rfl, Tryz.func59, rfl, by kernel_rfl, by kernel_rfl, by decide, enters_fn Tryz.func59 (by kernel_rfl) rfl⟩
end Go.Proofs.YtljjlhdkkbaehaaGreatDoor
namespace Go.Proofs.YtljjlhdkkbaehaaGreatDoor
open Go.RowKit Go.Lamb
attribute [local go_sem] advO_skip advO_reg advO_seq advO_block advO_exit advO_endb advO_opsNil advO_ops advG_yes advG_no advG_none advS_some advS_none advO_cond advO_loop advO_dreg advO_ret advO_bad advO_inv advO_nil advO_zero wantedV Lamb.step ev_t ev_k put_some put_none argEnv popTo cellsAt V.cellsV V.rows V.toC toCs fillV bytesC byteRows appV rowsV boundV boundL binV binInt binStr eqC eqL V.isNil leaves V.leaf Ins.quiet Ins.pure List.getD_cons_zero List.getD_cons_succ List.getD_nil List.all_cons List.all_nil List.length_cons List.length_nil List.take_succ_cons List.take_zero List.drop_succ_cons List.drop_zero List.cons_append List.nil_append List.append_nil List.append_assoc List.map_cons List.map_nil List.getElem?_cons_zero List.getElem?_cons_succ List.length_append List.length_set hget0 hget hset0 hset hsets hgs0 hgs hss0 hss List.set_cons_zero List.set_cons_succ List.forall_mem_cons List.not_mem_nil false_implies implies_true Option.map_some Bool.and_true Bool.true_and Bool.not_not Bool.not_true Bool.not_false Bool.and_self Bool.or_true Bool.true_or Bool.or_false Bool.false_or Bool.and_false Bool.false_and Bool.false_eq_true beq_self_eq_true and_self and_true true_and if_true if_false Nat.zero_add Nat.add_zero Nat.le_refl Int.toNat_natCast decide_true decide_false beq_t beq_f List.length_map List.getElem?_map I S B opsC toksC OpT.v OpT.cs OpT.zero Tok.v Tok.cs Pre.v Pre.cs_eq k_mk name_mk n_mk l_mk pos_mk Pre.app applyL natCast0 natCast1 natCast2 AOp.o AOp.m AOp.f AOp.l AOp.d AOp.n AOp.x AOp.s AOp.k AOp.y AOp.z EOp.q low_c low_void low_any low_csl low_nilf low_ptr low_osl low_agg low_tup low_fn resEval advPO_nil advPO_loud advPO_quiet pL_yes pL_no pLS_some pLS_none pQ_yes pQ_no pQS_some pQS_loud eq_self Nat.sub_zero
attribute [local go_sem] wrC wrY rs_len rs_g0 rs_g rs_s0 rs_s rs_sv
theorem builder_WriteByteD (w0 : World) (σ : H) (b v : Nat) (D : Two σ b v) (l : List OpT) (A : V) (hA : A = .c .nilp ∨ A = .ptr b 1) (s : List UInt8) (t : UInt8) (hn : s.length + 1 ≤ 100000000) :
    DCD Tryz.prog w0 60 [.ptr b 1, .c (.int .u8 t.toNat)] (wrs σ b v l A s) (Same (.c .nili) (wrs σ b v l (.ptr b 1) (s ++ [t]))) := by
  refine (k60).goD rfl (fun hok hsz => ?_)
  have hok2 := wrs_ok D hok l (s ++ [t])
  rw [wrs_push] at hok2 ⊢
  have hl1 : (byteRows s).length = s.length := by simp [byteRows]
  have hb1 : (s.length + 1) * 1 ≤ 140737488355328 := by omega
  have hb2 : s.length + 1 ≤ 140737488355328 := by omega
  ((try refine W.a ?_); simp only [go_sem, seval, reduceCtorEq, c60, rsA D])
  (refine W.c1 (copyCheckW w0 σ b v D l A hA s) ?_; simp only [go_sem, seval, reduceCtorEq])
  ((try refine W.a ?_); simp only [go_sem, seval, reduceCtorEq, rsA D, hl1, hb1, hb2])
  (refine W.fs (hok2) (by simp only [r60, go_sem, seval, reduceCtorEq]; rfl) ?_; simp only [resV]; try exact V.wk.rfl _)
/-- A tree's text is written. -/
def TreeD (w0 : World) (l : List OpT) (p : Pre) (t : List UInt8) : Prop :=
  ∀ (σ : H) (b v : Nat) (D : Two σ b v) (A : V) (hA : A = .c .nilp ∨ A = .ptr b 1) (s : List UInt8), s.length + t.length ≤ 100000000 →
    DC Tryz.prog w0 30 [.ptr b 0, p.v] (wrs σ b v l A s) (Same (.tup []) (wrs σ b v l (.ptr b 1) (s ++ t)))
theorem pre_value {κ : K} {p : Pre} {v : Value} (h : RV κ p.v v) : ∃ A c, v = .agg #[.int .i64 p.k, .string (bs p.name), .int .i64 p.n, .slice A p.l.length c, .int .i64 p.pos] := by
  unfold Pre.v at h
  cases h with
  | agg hl h1 =>
    rename_i xs
    match xs, hl, h1 with
    | [y0, y1, y2, y3, y4], _, h1 =>
      have r0 := h1 0 (by simp)
      have r1 := h1 1 (by simp)
      have r2 := h1 2 (by simp)
      have r3 := h1 3 (by simp)
      have r4 := h1 4 (by simp)
      simp only [List.getElem_cons_zero, List.getElem_cons_succ, List.getD_cons_zero, List.getD_cons_succ] at r0 r1 r2 r3 r4
      cases r0 with | c r0 => cases r0 with | int =>
      cases r1 with | c r1 => cases r1 with | str =>
      cases r2 with | c r2 => cases r2 with | int =>
      cases r4 with | c r4 => cases r4 with | int =>
      cases r3 with | c r3 =>
        cases r3 with
        | sl _ _ A cap =>
          rw [List.length_map]
          exact ⟨A, cap, rfl⟩
theorem pre_cells {w0 w : World} {κ : K} {σ : H} (h : Rep w0 κ σ w) {i : Nat} {p : Pre} (hi : σ[i]? = some (.cells p.v.cellsV none)) :
    ∃ y0 y1 y2 y3 y4, (∃ T, w.heap[κ.pos i]? = some (.cells #[y0, y1, y2, y3, y4] T (0, 0))) ∧ RV κ p.v (.agg #[y0, y1, y2, y3, y4]) := by
  obtain ⟨hlt, hie⟩ := List.getElem?_eq_some_iff.1 hi
  have hb := h.blk i hlt
  rw [hie] at hb
  obtain ⟨vs, t, k1, k2, k3⟩ := hb.row
  have k2 : vs.size = 5 := k2
  refine ⟨vs[0], vs[1], vs[2], vs[3], vs[4], ⟨t, ?_⟩, ?_⟩
  · rw [k1]
    congr 1
    congr 1
    apply Array.ext
    · simp [k2]
    · intro j h1 h2
      match j, h1 with
      | 0, _ => rfl
      | 1, _ => rfl
      | 2, _ => rfl
      | 3, _ => rfl
      | 4, _ => rfl
      | j + 5, h1 => omega
  · have e : ∀ j (hj : j < 5), vs.getD j undef = vs[j] := fun j hj => by simp [Array.getD, k2, hj]
    refine RV.agg (xs := [vs[0], vs[1], vs[2], vs[3], vs[4]]) rfl (fun j hj => ?_)
    have hj : j < 5 := hj
    have := (k3 j hj).2
    rw [e j hj] at this
    match j, hj, this with
    | 0, _, this => exact this
    | 1, _, this => exact this
    | 2, _, this => exact this
    | 3, _, this => exact this
    | 4, _, this => exact this
theorem part_brackets (w0 : World) (l : List OpT) (p : Pre) (t : List UInt8) (hT : TreeD w0 l p t) (σ : H) (b v : Nat) (D : Two σ b v) (A : V) (hA : A = .c .nilp ∨ A = .ptr b 1) (s : List UInt8) (hn : s.length + t.length + 2 ≤ 100000000) :
    DC Tryz.prog w0 59 [.ptr b 0, p.v, B true] (wrs σ b v l A s) (Same (.tup []) (wrs σ b v l (.ptr b 1) (s ++ (40 :: t ++ [41])))) := by
  refine ⟨enters_fn Tryz.func59 (by kernel_rfl) rfl, fun κ w vs hrep hfit => ?_⟩
  obtain ⟨x, ys, rfl, hx, hfit⟩ := hfit.cons_inv
  obtain ⟨y, zs, rfl, hy, hfit⟩ := hfit.cons_inv
  obtain ⟨z, us, rfl, hz, hfit⟩ := hfit.cons_inv
  have := hfit.nil_inv
  subst this
  have ez : z = .bool true := by cases hz with | c h => cases h; rfl
  have ex : x = .pointer (some ⟨κ.pos b, 0, none⟩) := by cases hx; rfl
  subst ez ex
  obtain ⟨vA, vc, ey⟩ := pre_value hy
  subst ey
  have hn0 : (wrs σ b v l A s).length = σ.length := rs_len _ _
  have hxn : b < κ.n ∧ κ.fr b = none := by cases hx with | ptr h1 h2 => exact ⟨h1, h2⟩
  have hbox := hrep.box (cs := p.v.cellsV) (vs := [.int .i64 p.k, .string (bs p.name), .int .i64 p.n, .slice vA p.l.length vc, .int .i64 p.pos]) 26 (tg := none) (fun T h => by cases h) rfl rfl (by
    have := cells_ok hy rfl
    exact this.2)
  obtain ⟨hb1, hb2⟩ := hbox
  rw [← rs_app D] at hb1
  have hle0 : κ.le (κ.more w.heap.size) := K.more_le
  rw [hn0] at hb2
  have hpn : b < (κ.more w.heap.size).n ∧ (κ.more w.heap.size).fr b = none ∧ (κ.more w.heap.size).pos b = κ.pos b := ⟨by have := hle0.n; omega, hle0.cells b hxn.1 hxn.2⟩
  have hqn : σ.length < (κ.more w.heap.size).n ∧ (κ.more w.heap.size).fr σ.length = none ∧ (κ.more w.heap.size).pos σ.length = w.heap.size := by
    generalize hg : Value.pointer (some ⟨w.heap.size, 0, none⟩) = g at hb2
    cases hb2 with
    | ptr h1 h2 => injection hg with hg; injection hg with hg; injection hg with hg; exact ⟨h1, h2, hg.symm⟩
  generalize κ.more w.heap.size = κ0 at *
  have hx2 : RV κ0 (.ptr b 1) (.pointer (some ⟨κ.pos b, 1, none⟩)) := by rw [← hpn.2.2]; exact .ptr hpn.1 hpn.2.1
  have hat : ∀ (X Y : Blk), (rs (σ ++ [Blk.cells p.v.cellsV]) b v X Y)[σ.length]? = some (.cells p.v.cellsV none) := fun X Y => by rw [rs_app D, rs_g0]
  go_enter_defers Tryz.func59, Tryz.ntmps59
  go_wp2_with (fail)
  refine ((builder_WriteByte w0 (σ ++ [.cells p.v.cellsV]) b v (D.app _) l A hA s 40 (by omega)).run _ _ [.pointer (some ⟨κ.pos b, 1, none⟩), .int .u8 40] hb1 (Fits.cons hx2 (Fits.cons (.c (.int _ _)) Fits.nil))).mono ?_
  rintro e w1 ⟨v1, d1, σ1, κ1, rfl, ⟨rfl, rfl⟩, hle1, hrep1, hv1⟩
  have hpn1 : b < κ1.n ∧ κ1.fr b = none ∧ κ1.pos b = κ.pos b := ⟨by have := hle1.n; omega, (hle1.cells b hpn.1 hpn.2.1).1, (hle1.cells b hpn.1 hpn.2.1).2.trans hpn.2.2⟩
  have hqn1 : κ1.pos σ.length = w.heap.size := (hle1.cells _ hqn.1 hqn.2.1).2.trans hqn.2.2
  obtain ⟨y0, y1, y2, y3, y4, ⟨T, hT1⟩, hy1⟩ := pre_cells hrep1 (hat _ _)
  obtain ⟨vA1, vc1, ey⟩ := pre_value hy1
  injection ey with ey
  injection ey with ey
  injection ey with e0 ey
  injection ey with e1 ey
  injection ey with e2 ey
  injection ey with e3 ey
  injection ey with e4 ey
  subst e0 e1 e2 e3 e4
  rw [hqn1] at hT1
  have c0 : w1.cell? ⟨w.heap.size, 0, none⟩ = _ := Lib.cell_of_heap hT1 0
  have c1 : w1.cell? ⟨w.heap.size, 1, none⟩ = _ := Lib.cell_of_heap hT1 1
  have c2 : w1.cell? ⟨w.heap.size, 2, none⟩ = _ := Lib.cell_of_heap hT1 2
  have c3 : w1.cell? ⟨w.heap.size, 3, none⟩ = _ := Lib.cell_of_heap hT1 3
  have c4 : w1.cell? ⟨w.heap.size, 4, none⟩ = _ := Lib.cell_of_heap hT1 4
  simp only [List.getElem?_toArray, List.getElem?_cons_zero, List.getElem?_cons_succ] at c0 c1 c2 c3 c4
  go_wp2_with (fail)
  have hx3 : RV κ1 (.ptr b 0) (.pointer (some ⟨κ.pos b, 0, none⟩)) := by rw [← hpn1.2.2]; exact .ptr hpn1.1 hpn1.2.1
  refine ((hT (σ ++ [.cells p.v.cellsV]) b v (D.app _) (.ptr b 1) (.inr rfl) (s ++ [40]) (by simp; omega)).run _ _ [.pointer (some ⟨κ.pos b, 0, none⟩), _] hrep1 (Fits.cons hx3 (Fits.cons hy1 Fits.nil))).mono ?_
  rintro e w2 ⟨v2, d2, σ2, κ2, rfl, ⟨rfl, rfl⟩, hle2, hrep2, hv2⟩
  have hpn2 : b < κ2.n ∧ κ2.fr b = none ∧ κ2.pos b = κ.pos b := ⟨by have := hle2.n; omega, (hle2.cells b hpn1.1 hpn1.2.1).1, (hle2.cells b hpn1.1 hpn1.2.1).2.trans hpn1.2.2⟩
  have hx4 : RV κ2 (.ptr b 1) (.pointer (some ⟨κ.pos b, 1, none⟩)) := by rw [← hpn2.2.2]; exact .ptr hpn2.1 hpn2.2.1
  go_wp2_with (fail)
  refine leaves_cons (f := 60) (args := #[.pointer (some ⟨κ.pos b, 1, none⟩), .int .u8 41]) (by simp) (by
    have hen := (builder_WriteByte w0 (σ ++ [.cells p.v.cellsV]) b v (D.app _) l A hA s 40 (by omega)).enters
    first | exact hen _ _ | simpa [invoke] using hen _ _ | simpa [go_sem] using hen _ _) ?_
  refine (builder_WriteByteD w0 (σ ++ [.cells p.v.cellsV]) b v (D.app _) l (.ptr b 1) (.inr rfl) (s ++ [40] ++ t) 41 (by simp; omega) κ2 w2 [.pointer (some ⟨κ.pos b, 1, none⟩), .int .u8 41] .returning hrep2 (Fits.cons hx4 (Fits.cons (.c (.int _ _)) Fits.nil))).mono ?_
  rintro e u' w3 ⟨rfl, v3, d3, σ3, κ3, rfl, ⟨rfl, rfl⟩, hle3, hrep3, hv3⟩
  refine ⟨_, by first | exact results_none rfl _ _ _ | (simp [results]; rfl), ?_⟩
  have hle : κ.le κ3 := K.le_trans hle0 (K.le_trans hle1 (K.le_trans hle2 hle3))
  have hs : s ++ [40] ++ t ++ [41] = s ++ 40 :: (t ++ [41]) := by simp
  rw [hs] at hrep3
  have hok2 := wrs_ok D hrep.ok l (s ++ 40 :: (t ++ [41]))
  have hr3 : Rep w0 κ3 (wrs σ b v l (.ptr b 1) (s ++ 40 :: (t ++ [41])) ++ [.cells p.v.cellsV]) w3 := by rw [← rs_app D]; exact hrep3
  have ht : (wrs σ b v l (.ptr b 1) (s ++ 40 :: (t ++ [41])) ++ [Blk.cells p.v.cellsV]).take σ.length = wrs σ b v l (.ptr b 1) (s ++ 40 :: (t ++ [41])) := List.take_left' (rs_len _ _)
  have hcut := hr3.cut σ.length (by simp) (by rw [ht]; exact hok2)
  rw [ht] at hcut
  exact ⟨_, .tup [], _, κ3.cut σ.length, rfl, ⟨rfl, rfl⟩, K.cut_le hle (by rw [hrep.n, hn0]; exact Nat.le_refl _), hcut, .tup rfl (fun j hj => absurd hj (Nat.not_lt_zero _))⟩
theorem writer_part (w0 : World) (l : List OpT) (p : Pre) (t : List UInt8) (hT : TreeD w0 l p t) (br : Bool) (σ : H) (b v : Nat) (D : Two σ b v) (A : V) (hA : A = .c .nilp ∨ A = .ptr b 1) (s : List UInt8) (hn : s.length + (putP t br).length ≤ 100000000) :
    DC Tryz.prog w0 59 [.ptr b 0, p.v, B br] (wrs σ b v l A s) (Same (.tup []) (wrs σ b v l (.ptr b 1) (s ++ putP t br))) := by
  cases br
  · rw [show putP t false = t from rfl] at hn ⊢
    refine k59.go rfl (fun hok hsz => ?_)
    have hok2 := wrs_ok D hok l (s ++ t)
    have hT := fun σ D => hT σ b v D A hA s hn
    rw [wrs_put] at hok2 ⊢
    ((try refine W.a ?_); simp only [go_sem, seval, reduceCtorEq, c59, rsA D, Pre.v])
    refine W.no rfl ?_
    ((try refine W.a ?_); simp only [go_sem, seval, reduceCtorEq, rsA D])
    have hT2 : ∀ (L : H), DC Tryz.prog w0 30 [.ptr b 0, p.v] (rs σ b v (wrC l A v s) (wrY s) ++ L) (Same (.tup []) (rs σ b v (.cells [.c (opsC l), .ptr b 1, .osl v (byteRows (s ++ t))] (some 60)) (.spare 5 1 (s.length + t.length)) ++ L)) := fun L => DC.lift D (fun D' => by have := hT _ D'; rwa [wrs_put] at this)
    (refine W.c1 (hT2 _) ?_; simp only [go_sem, seval, reduceCtorEq, rsA D])
    (refine W.done (Fin.sameW (hok2) (by (first | rfl | exact List.length_set .. | simp)) (by simp only [r59, go_sem, seval, reduceCtorEq]; rfl) ?_ (by (first | exact .c _ | (simp only [go_sem, seval, reduceCtorEq]; done))) (by (first | rfl | exact (List.append_nil _).symm))); simp only [resV]; try exact V.wk.rfl _)
  · exact part_brackets w0 l p t hT σ b v D A hA s (by simp [putP] at hn; omega)
end Go.Proofs.YtljjlhdkkbaehaaGreatDoor
namespace Go.Proofs.YtljjlhdkkbaehaaGreatDoor
open Go.RowKit Go.Lamb
end Go.Proofs.YtljjlhdkkbaehaaGreatDoor
namespace Go.Proofs.YtljjlhdkkbaehaaGreatDoor
open Go.RowKit Go.Lamb
attribute [local go_sem] advO_skip advO_reg advO_seq advO_block advO_exit advO_endb advO_opsNil advO_ops advG_yes advG_no advG_none advS_some advS_none advO_cond advO_loop advO_dreg advO_ret advO_bad advO_inv advO_nil advO_zero wantedV Lamb.step ev_t ev_k put_some put_none argEnv popTo cellsAt V.cellsV V.rows V.toC toCs fillV bytesC byteRows appV rowsV boundV boundL binV binInt binStr eqC eqL V.isNil leaves V.leaf Ins.quiet Ins.pure List.getD_cons_zero List.getD_cons_succ List.getD_nil List.all_cons List.all_nil List.length_cons List.length_nil List.take_succ_cons List.take_zero List.drop_succ_cons List.drop_zero List.cons_append List.nil_append List.append_nil List.append_assoc List.map_cons List.map_nil List.getElem?_cons_zero List.getElem?_cons_succ List.length_append List.length_set hget0 hget hset0 hset hsets hgs0 hgs hss0 hss List.set_cons_zero List.set_cons_succ List.forall_mem_cons List.not_mem_nil false_implies implies_true Option.map_some Bool.and_true Bool.true_and Bool.not_not Bool.not_true Bool.not_false Bool.and_self Bool.or_true Bool.true_or Bool.or_false Bool.false_or Bool.and_false Bool.false_and Bool.false_eq_true beq_self_eq_true and_self and_true true_and if_true if_false Nat.zero_add Nat.add_zero Nat.le_refl Int.toNat_natCast decide_true decide_false beq_t beq_f List.length_map List.getElem?_map I S B opsC toksC OpT.v OpT.cs OpT.zero Tok.v Tok.cs Pre.v Pre.cs_eq k_mk name_mk n_mk l_mk pos_mk Pre.app applyL natCast0 natCast1 natCast2 AOp.o AOp.m AOp.f AOp.l AOp.d AOp.n AOp.x AOp.s AOp.k AOp.y AOp.z EOp.q low_c low_void low_any low_csl low_nilf low_ptr low_osl low_agg low_tup low_fn resEval advPO_nil advPO_loud advPO_quiet pL_yes pL_no pLS_some pLS_none pQ_yes pQ_no pQS_some pQS_loud eq_self Nat.sub_zero
section
attribute [local go_sem] Pre.v Pre.cs_eq
theorem infP_R (l : List OpT) (p : Pre) : infP l p = if (infR l p).2.2.2 = true then some ((infR l p).1, (infR l p).2.1, (infR l p).2.2.1) else none := by
  cases h1 : appP p
  · have h0 : infP l p = none := by
      cases e : infP l p with
      | none => rfl
      | some x =>
        have := infP_app (l := l) (p := p) (by rw [e]; rfl)
        rw [h1] at this
        cases this
    rw [h0]
    unfold infR
    rw [h1]
    rfl
  · obtain ⟨f, t, hl⟩ := app_two h1
    have hk : p.k = 3 := by unfold appP at h1; simp only [Bool.and_eq_true, beq_iff_eq] at h1; exact h1.1
    unfold infP infR
    rw [h1, if_pos rfl, if_pos hk, hl]
    simp only []
    cases h2 : appP f
    · by_cases hf : f.k = 3
      · rw [if_pos hf]
        have hlen : ¬ f.l.length = 2 := fun e => by simp [appP, hf, e] at h2
        split
        · rename_i e
          rw [e] at hlen
          exact absurd rfl hlen
        · rfl
      · rw [if_neg hf]
        rfl
    · obtain ⟨c, a, hl2⟩ := app_two h2
      have hf : f.k = 3 := by unfold appP at h2; simp only [Bool.and_eq_true, beq_iff_eq] at h2; exact h2.1
      rw [if_pos hf, hl2]
      simp only [if_true]
      by_cases h3 : c.k = 0
      · rw [if_pos h3, if_pos h3]
        cases findL l c.name <;> rfl
      · rw [if_neg h3, if_neg h3]
        rfl
end
section
attribute [local go_sem] wrC wrY rs_len rs_g0 rs_g rs_s0 rs_s rs_sv
theorem tree_left (w0 : World) (σ : H) (q : Nat) (o x : OpT) (hq : ∀ L, (σ ++ L)[q]? = some (.cells o.v.cellsV none)) : DC Tryz.prog w0 53 [x.v, .ptr q 0] σ (Same (B (besideL o x 1)) σ) := by
  refine k53.go rfl (fun hok hsz => ?_)
  ((try refine W.a ?_); simp only [go_sem, seval, reduceCtorEq, c53, hq])
  (refine W.c1 (ops_Left w0 o x _) ?_; simp only [go_sem, seval, reduceCtorEq])
  (refine W.fs (hok) (by simp only [r53, go_sem, seval, reduceCtorEq]; rfl) ?_; simp only [resV]; try exact V.wk.rfl _)
theorem tree_right (w0 : World) (σ : H) (q : Nat) (o x : OpT) (hq : ∀ L, (σ ++ L)[q]? = some (.cells o.v.cellsV none)) : DC Tryz.prog w0 55 [x.v, .ptr q 0] σ (Same (B (besideL o x 2)) σ) := by
  refine k55.go rfl (fun hok hsz => ?_)
  ((try refine W.a ?_); simp only [go_sem, seval, reduceCtorEq, c55, hq])
  (refine W.c1 (ops_Right w0 o x _) ?_; simp only [go_sem, seval, reduceCtorEq])
  (refine W.fs (hok) (by simp only [r55, go_sem, seval, reduceCtorEq]; rfl) ?_; simp only [resV]; try exact V.wk.rfl _)
/-- Brackets by a test of the operator. -/
def sideG (l : List OpT) (g : OpT → Bool) (p : Pre) : Bool := lamP p || (match infP l p with | some (x, _, _) => !g x | none => false)
theorem writer_side (w0 : World) (l : List OpT) (p : Pre) (t : List UInt8) (hT : TreeD w0 l p t) (f : FuncId) (caps : List V) (g : OpT → Bool) (σ : H) (b v : Nat) (D : Two σ b v) (A : V) (hA : A = .c .nilp ∨ A = .ptr b 1) (s : List UInt8)
    (hF : ∀ L x, DC Tryz.prog w0 f (x.v :: caps) (wrs σ b v l A s ++ L) (Same (B (g x)) (wrs σ b v l A s ++ L))) (hn : s.length + (putP t (sideG l g p)).length ≤ 100000000) :
    DC Tryz.prog w0 52 [.ptr b 0, p.v, .fn f caps] (wrs σ b v l A s) (Same (.tup []) (wrs σ b v l (.ptr b 1) (s ++ putP t (sideG l g p)))) := by
  refine k52.go rfl (fun hok hsz => ?_)
  have hok2 := wrs_ok D hok l (s ++ putP t (sideG l g p))
  have hi := fun L => DC.lift (L := L) D (fun D' => writer_infix w0 (σ ++ L) b v D' l A s p)
  have hl := fun σ => show_lambda w0 p σ
  have hsd : sideG l g p = (lamP p || (match infP l p with | some (x, _, _) => !g x | none => false)) := rfl
  have hp := fun L (br : Bool) hn => DC.lift (L := L) D (fun D' => writer_part w0 l p t hT br (σ ++ L) b v D' A hA s hn)
  unfold infV at hi
  rw [infP_R] at hsd
  have hR : infR l p = ((infR l p).1, (infR l p).2.1, (infR l p).2.2.1, (infR l p).2.2.2) := rfl
  generalize (infR l p).1 = o at *
  generalize (infR l p).2.1 = x at *
  generalize (infR l p).2.2.1 = y at *
  generalize (infR l p).2.2.2 = is at *
  generalize lamP p = lm at *
  generalize sideG l g p = br at *
  have hpb := fun L => hp L br hn
  rw [wrs_put] at hok2 ⊢
  cases lm
  · cases is
    · have e : br = false := by rw [hsd]; rfl
      subst e
      ((try refine W.a ?_); simp only [go_sem, seval, reduceCtorEq, c52, rsA D, Pre.v])
      (refine W.c1 (hi _) ?_; simp only [go_sem, seval, reduceCtorEq, rsA D, Pre.v])
      apply W.dregE (List.cons_ne_nil _ _)
      case hc =>
        (apply CanonE.advPO; simp only [go_sem, seval, reduceCtorEq, rsA D, Pre.v])
        (apply CanonE.call (hl _); (case hg => rfl); (case hf => rfl); (case ha => first | rfl | simp))
        (apply CanonE.advPO; simp only [go_sem, seval, reduceCtorEq, rsA D, Pre.v])
        (apply CanonE.call (hpb _); (case hg => rfl); (case hf => rfl); (case ha => first | rfl | simp))
        (apply CanonE.advPO; simp only [go_sem, seval, reduceCtorEq, rsA D, Pre.v])
        exact CanonE.nil
      ((try refine W.a ?_); simp only [go_sem, seval, reduceCtorEq, rsA D])
      (refine W.done (Fin.sameW (hok2) (by (first | rfl | exact List.length_set .. | simp)) (by simp only [r52, go_sem, seval, reduceCtorEq]; rfl) ?_ (by (first | exact .c _ | (simp only [go_sem, seval, reduceCtorEq]; done))) (by (first | rfl | exact (List.append_nil _).symm))); simp only [resV]; try exact V.wk.rfl _)
    · have e : br = !g o := by rw [hsd]; rfl
      subst e
      ((try refine W.a ?_); simp only [go_sem, seval, reduceCtorEq, c52, rsA D, Pre.v])
      (refine W.c1 (hi _) ?_; simp only [go_sem, seval, reduceCtorEq, rsA D, Pre.v])
      apply W.dregE (List.cons_ne_nil _ _)
      case hc =>
        (apply CanonE.advPO; simp only [go_sem, seval, reduceCtorEq, rsA D, Pre.v])
        (apply CanonE.call (hl _); (case hg => rfl); (case hf => rfl); (case ha => first | rfl | simp))
        (apply CanonE.advPO; simp only [go_sem, seval, reduceCtorEq, rsA D, Pre.v])
        (apply CanonE.call (hF _ o); (case hg => rfl); (case hf => rfl); (case ha => first | rfl | simp))
        (apply CanonE.advPO; simp only [go_sem, seval, reduceCtorEq, rsA D, Pre.v])
        (apply CanonE.call (hpb _); (case hg => rfl); (case hf => rfl); (case ha => first | rfl | simp))
        (apply CanonE.advPO; simp only [go_sem, seval, reduceCtorEq, rsA D, Pre.v])
        exact CanonE.nil
      ((try refine W.a ?_); simp only [go_sem, seval, reduceCtorEq, rsA D])
      (refine W.done (Fin.sameW (hok2) (by (first | rfl | exact List.length_set .. | simp)) (by simp only [r52, go_sem, seval, reduceCtorEq]; rfl) ?_ (by (first | exact .c _ | (simp only [go_sem, seval, reduceCtorEq]; done))) (by (first | rfl | exact (List.append_nil _).symm))); simp only [resV]; try exact V.wk.rfl _)
  · have e : br = true := by rw [hsd]; rfl
    subst e
    ((try refine W.a ?_); simp only [go_sem, seval, reduceCtorEq, c52, rsA D, Pre.v])
    (refine W.c1 (hi _) ?_; simp only [go_sem, seval, reduceCtorEq, rsA D, Pre.v])
    apply W.dregE (List.cons_ne_nil _ _)
    case hc =>
      (apply CanonE.advPO; simp only [go_sem, seval, reduceCtorEq, rsA D, Pre.v])
      (apply CanonE.call (hl _); (case hg => rfl); (case hf => rfl); (case ha => first | rfl | simp))
      (apply CanonE.advPO; simp only [go_sem, seval, reduceCtorEq, rsA D, Pre.v])
      (apply CanonE.call (hpb _); (case hg => rfl); (case hf => rfl); (case ha => first | rfl | simp))
      (apply CanonE.advPO; simp only [go_sem, seval, reduceCtorEq, rsA D, Pre.v])
      exact CanonE.nil
    ((try refine W.a ?_); simp only [go_sem, seval, reduceCtorEq, rsA D])
    (refine W.done (Fin.sameW (hok2) (by (first | rfl | exact List.length_set .. | simp)) (by simp only [r52, go_sem, seval, reduceCtorEq]; rfl) ?_ (by (first | exact .c _ | (simp only [go_sem, seval, reduceCtorEq]; done))) (by (first | rfl | exact (List.append_nil _).symm))); simp only [resV]; try exact V.wk.rfl _)
end
section
attribute [local go_sem] wrC wrY rs_len rs_g0 rs_g rs_s0 rs_s rs_sv
theorem sideG_sideB (l : List OpT) (o : OpT) (fix : Int) (p : Pre) : sideG l (fun x => besideL o x fix) p = sideB l o fix p := rfl
theorem tree_word {w0 : World} (hG : Glob w0) (l : List OpT) (p : Pre) (hO : OkP p) (h1 : lamP p = false) (h2 : appP p = false) : TreeD w0 l p (showL l p) := by
  intro σ b v D A hA s hn
  rw [showL_word h1 h2] at hn ⊢
  refine k30.go rfl (fun hok hsz => ?_)
  have hok2 := wrs_ok D hok l (s ++ wordP l p)
  have hi := fun L => DC.lift (L := L) D (fun D' => writer_infix w0 (σ ++ L) b v D' l A s p)
  have hl := fun σ => show_lambda w0 p σ
  have ha := fun σ => show_application w0 p σ
  have hw := fun L => DC.lift (L := L) D (fun D' => writer_word hG (σ ++ L) b v D' l A hA s p hO.n hn)
  have hR : (infR l p).2.2.2 = false := by unfold infR; rw [h2]; rfl
  unfold infV at hi
  rw [hR] at hi
  rw [h1] at hl
  rw [h2] at ha
  generalize (infR l p).1 = o at *
  generalize (infR l p).2.1 = x at *
  generalize (infR l p).2.2.1 = y at *
  rw [wrs_put] at hok2 ⊢
  ((try refine W.a ?_); simp only [go_sem, seval, reduceCtorEq, c30, rsA D, Pre.v])
  (refine W.c1 (hi _) ?_; simp only [go_sem, seval, reduceCtorEq, rsA D, Pre.v])
  refine W.no rfl ?_
  ((try refine W.a ?_); simp only [go_sem, seval, reduceCtorEq, rsA D, Pre.v])
  (refine W.c1 (hl _) ?_; simp only [go_sem, seval, reduceCtorEq, rsA D, Pre.v])
  refine W.no rfl ?_
  ((try refine W.a ?_); simp only [go_sem, seval, reduceCtorEq, rsA D, Pre.v])
  (refine W.c1 (ha _) ?_; simp only [go_sem, seval, reduceCtorEq, rsA D, Pre.v])
  refine W.no rfl ?_
  ((try refine W.a ?_); simp only [go_sem, seval, reduceCtorEq, rsA D, Pre.v])
  (refine W.c1 (hw _) ?_; simp only [go_sem, seval, reduceCtorEq, rsA D, Pre.v])
  (refine W.done (Fin.sameW (hok2) (by (first | rfl | exact List.length_set .. | simp)) (by simp only [r30, go_sem, seval, reduceCtorEq]; rfl) ?_ (by (first | exact .c _ | (simp only [go_sem, seval, reduceCtorEq]; done))) (by (first | rfl | exact (List.append_nil _).symm))); simp only [resV]; try exact V.wk.rfl _)
theorem tree_lam {w0 : World} (l : List OpT) (p q : Pre) (h1 : p.k = 4) (h2 : p.l = [q]) (hT : TreeD w0 l q (showL l q)) : TreeD w0 l p (showL l p) := by
  intro σ b v D A hA s hn
  rw [showL_lam h1 h2] at hn ⊢
  rw [List.append_assoc] at hn ⊢
  refine k30.go rfl (fun hok hsz => ?_)
  have hok2 := wrs_ok D hok l (s ++ (p.name ++ ([92, 32] ++ showL l q)))
  have hi := fun L => DC.lift (L := L) D (fun D' => writer_infix w0 (σ ++ L) b v D' l A s p)
  have hl := fun σ => show_lambda w0 p σ
  have hw := fun L => DC.lift (L := L) D (fun D' => builder_WriteString w0 (σ ++ L) b v D' l A hA s (p.name ++ [92, 32]) (by simp at hn ⊢; omega))
  have ht := fun L => DC.lift (L := L) D (fun D' => hT (σ ++ L) b v D' (.ptr b 1) (.inr rfl) (s ++ (p.name ++ [92, 32])) (by simp at hn ⊢; omega))
  have hR : (infR l p).2.2.2 = false := by unfold infR appP; simp [h1]
  have hlm : lamP p = true := by simp [lamP, h1, h2]
  have es : s ++ (p.name ++ [92, 32]) ++ showL l q = s ++ (p.name ++ ([92, 32] ++ showL l q)) := by simp
  unfold infV at hi
  rw [hR] at hi
  rw [hlm] at hl
  rw [es] at ht
  have k1 : p.name.length + 2 ≤ 9223372036854775807 := by simp at hn; omega
  have k2 : p.name.length + 1 + 1 ≤ 9223372036854775807 := by simp at hn; omega
  generalize p.name ++ ([92, 32] ++ showL l q) = u at *
  generalize s ++ u = s3 at *
  generalize s ++ (p.name ++ [92, 32]) = s1 at hw ht
  generalize (infR l p).1 = o at *
  generalize (infR l p).2.1 = x at *
  generalize (infR l p).2.2.1 = y at *
  ((try refine W.a ?_); simp only [go_sem, seval, reduceCtorEq, c30, rsA D, Pre.v])
  (refine W.c1 (hi _) ?_; simp only [go_sem, seval, reduceCtorEq, rsA D, Pre.v])
  refine W.no rfl ?_
  ((try refine W.a ?_); simp only [go_sem, seval, reduceCtorEq, rsA D, Pre.v])
  (refine W.c1 (hl _) ?_; simp only [go_sem, seval, reduceCtorEq, rsA D, Pre.v])
  refine W.yes rfl ?_
  ((try refine W.a ?_); simp only [go_sem, seval, reduceCtorEq, rsA D, Pre.v])
  apply W.dregE (List.cons_ne_nil _ _)
  case hc =>
    (apply CanonE.advPO; simp only [go_sem, seval, reduceCtorEq, rsA D, Pre.v, k1, k2])
    (apply CanonE.call (hw _); (case hg => rfl); (case hf => rfl); (case ha => first | rfl | simp))
    (apply CanonE.advPO; simp only [go_sem, seval, reduceCtorEq, rsA D, Pre.v])
    exact CanonE.nil
  ((try refine W.a ?_); simp only [go_sem, seval, reduceCtorEq, rsA D, h2, nat0])
  (refine W.c1 (ht _) ?_; simp only [go_sem, seval, reduceCtorEq, rsA D, Pre.v])
  (refine W.done (Fin.sameW (hok2) (by (first | rfl | exact List.length_set .. | simp)) (by simp only [r30, go_sem, seval, reduceCtorEq]; rfl) ?_ (by (first | exact .c _ | (simp only [go_sem, seval, reduceCtorEq]; done))) (by (first | rfl | exact (List.append_nil _).symm))); simp only [resV]; try exact V.wk.rfl _)
theorem tree_app {w0 : World} (l : List OpT) (p f c : Pre) (hi0 : infP l p = none) (h1 : p.k = 3) (h2 : p.l = [f, c]) (hf : TreeD w0 l f (showL l f)) (hc : TreeD w0 l c (showL l c)) : TreeD w0 l p (showL l p) := by
  intro σ b v D A hA s hn
  rw [showL_app hi0 h1 h2] at hn ⊢
  refine k30.go rfl (fun hok hsz => ?_)
  have hlf : ((infP l f).isSome || lamP f) = ((infR l f).2.2.2 || lamP f) := by rw [infP_R]; cases (infR l f).2.2.2 <;> rfl
  rw [hlf] at hn ⊢
  have hi := fun L => DC.lift (L := L) D (fun D' => writer_infix w0 (σ ++ L) b v D' l A s p)
  have hif := fun L => DC.lift (L := L) D (fun D' => writer_infix w0 (σ ++ L) b v D' l A s f)
  have hl := fun σ => show_lambda w0 p σ
  have ha := fun σ => show_application w0 p σ
  have hlF := fun σ => show_lambda w0 f σ
  have hlC := fun σ => show_lambda w0 c σ
  have haC := fun σ => show_application w0 c σ
  have hlm : lamP p = false := by simp [lamP, h1]
  have hap : appP p = true := by simp [appP, h1, h2]
  have hR : (infR l p).2.2.2 = false := by
    rw [infP_R] at hi0
    cases e : (infR l p).2.2.2
    · rfl
    · rw [e, if_pos rfl] at hi0; cases hi0
  unfold infV at hi hif
  rw [hR] at hi
  rw [hlm] at hl
  rw [hap] at ha
  generalize (infR l p).1 = o at *
  generalize (infR l p).2.1 = x at *
  generalize (infR l p).2.2.1 = y at *
  generalize (infR l f).1 = of at *
  generalize (infR l f).2.1 = xf at *
  generalize (infR l f).2.2.1 = yf at *
  generalize (infR l f).2.2.2 = isf at *
  have hp1 := fun L => DC.lift (L := L) D (fun D' => writer_part w0 l f _ hf (isf || lamP f) (σ ++ L) b v D' A hA s (by simp at hn ⊢; omega))
  have hw := fun L => DC.lift (L := L) D (fun D' => builder_WriteByte w0 (σ ++ L) b v D' l (.ptr b 1) (.inr rfl) (s ++ putP (showL l f) (isf || lamP f)) 32 (by simp at hn ⊢; omega))
  have hp2 := fun L => DC.lift (L := L) D (fun D' => writer_part w0 l c _ hc (lamP c || appP c) (σ ++ L) b v D' (.ptr b 1) (.inr rfl) (s ++ putP (showL l f) (isf || lamP f) ++ [32]) (by simp at hn ⊢; omega))
  have es : s ++ putP (showL l f) (isf || lamP f) ++ [32] ++ putP (showL l c) (lamP c || appP c) = s ++ (putP (showL l f) (isf || lamP f) ++ 32 :: putP (showL l c) (lamP c || appP c)) := by simp
  rw [es] at hp2
  generalize putP (showL l f) (isf || lamP f) ++ 32 :: putP (showL l c) (lamP c || appP c) = u at *
  have hok2 := wrs_ok D hok l (s ++ u)
  have hu8 : ((32 : UInt8).toNat : Int) = 32 := rfl
  rw [hu8] at hw
  generalize putP (showL l f) (isf || lamP f) = u1 at *
  generalize hb1 : (isf || lamP f) = b1 at *
  generalize hb2 : (lamP c || appP c) = b2 at *
  generalize s ++ u = s3 at *
  generalize s ++ u1 = s1 at hp1 hw hp2
  generalize s1 ++ [32] = s2 at hw hp2
  have hif2 : isf = true → b1 = true := fun e => by rw [← hb1, e]; rfl
  have hif3 : isf = false → ∀ σ, DC Tryz.prog w0 57 [f.v] σ (Same (B b1) σ) := fun e σ => by rw [← hb1, e]; exact hlF σ
  have hc2 : lamP c = true → b2 = true := fun e => by rw [← hb2, e]; rfl
  have hc3 : lamP c = false → ∀ σ, DC Tryz.prog w0 58 [c.v] σ (Same (B b2) σ) := fun e σ => by rw [← hb2, e]; exact haC σ
  clear hb1 hb2
  generalize lamP c = lc at *
  cases isf <;> cases lc <;> (
    (try (have e := hif2 rfl; subst e))
    (try (have e := hc2 rfl; subst e))
    ((try refine W.a ?_); simp only [go_sem, seval, reduceCtorEq, c30, rsA D, Pre.v])
    (refine W.c1 (hi _) ?_; simp only [go_sem, seval, reduceCtorEq, rsA D, Pre.v])
    refine W.no rfl ?_
    ((try refine W.a ?_); simp only [go_sem, seval, reduceCtorEq, rsA D, Pre.v])
    (refine W.c1 (hl _) ?_; simp only [go_sem, seval, reduceCtorEq, rsA D, Pre.v])
    refine W.no rfl ?_
    ((try refine W.a ?_); simp only [go_sem, seval, reduceCtorEq, rsA D, Pre.v])
    (refine W.c1 (ha _) ?_; simp only [go_sem, seval, reduceCtorEq, rsA D, Pre.v])
    refine W.yes rfl ?_
    ((try refine W.a ?_); simp only [go_sem, seval, reduceCtorEq, rsA D, h2, nat0])
    (refine W.c1 (hif _) ?_; simp only [go_sem, seval, reduceCtorEq, rsA D, Pre.v, h2, nat0])
    apply W.dregE (List.cons_ne_nil _ _)
    case hc =>
      (apply CanonE.advPO; simp only [go_sem, seval, reduceCtorEq, rsA D, h2, nat0])
      (try ((apply CanonE.call (hif3 rfl _); (case hg => rfl); (case hf => rfl); (case ha => first | rfl | simp)); (apply CanonE.advPO; simp only [go_sem, seval, reduceCtorEq, rsA D, h2, nat0])))
      (apply CanonE.call (hp1 _); (case hg => rfl); (case hf => rfl); (case ha => first | rfl | simp))
      (apply CanonE.advPO; simp only [go_sem, seval, reduceCtorEq, rsA D])
      exact CanonE.nil
    ((try refine W.a ?_); simp only [go_sem, seval, reduceCtorEq, rsA D, h2, nat0])
    (refine W.c1 (hw _) ?_; simp only [go_sem, seval, reduceCtorEq, rsA D])
    apply W.dregE (List.cons_ne_nil _ _)
    case hc =>
      (apply CanonE.advPO; simp only [go_sem, seval, reduceCtorEq, rsA D, h2, nat0])
      (apply CanonE.call (hlC _); (case hg => rfl); (case hf => rfl); (case ha => first | rfl | simp))
      (apply CanonE.advPO; simp only [go_sem, seval, reduceCtorEq, rsA D, h2, nat0])
      (try ((apply CanonE.call (hc3 rfl _); (case hg => rfl); (case hf => rfl); (case ha => first | rfl | simp)); (apply CanonE.advPO; simp only [go_sem, seval, reduceCtorEq, rsA D, h2, nat0])))
      (apply CanonE.call (hp2 _); (case hg => rfl); (case hf => rfl); (case ha => first | rfl | simp))
      (apply CanonE.advPO; simp only [go_sem, seval, reduceCtorEq, rsA D])
      exact CanonE.nil
    ((try refine W.a ?_); simp only [go_sem, seval, reduceCtorEq, rsA D])
    (refine W.done (Fin.sameW (hok2) (by (first | rfl | exact List.length_set .. | simp)) (by simp only [r30, go_sem, seval, reduceCtorEq]; rfl) ?_ (by (first | exact .c _ | (simp only [go_sem, seval, reduceCtorEq]; done))) (by (first | rfl | exact (List.append_nil _).symm))); simp only [resV]; try exact V.wk.rfl _))
end
section
attribute [local go_sem] wrC wrY rs_len rs_g0 rs_g rs_s0 rs_s rs_sv
theorem tree_inf {w0 : World} (l : List OpT) (p : Pre) (o : OpT) (a c : Pre) (hi0 : infP l p = some (o, a, c)) (ha : TreeD w0 l a (showL l a)) (hc : TreeD w0 l c (showL l c)) : TreeD w0 l p (showL l p) := by
  intro σ b v D A hA s hn
  rw [showL_inf hi0] at hn ⊢
  refine k30.go rfl (fun hok hsz => ?_)
  have hi := fun L => DC.lift (L := L) D (fun D' => writer_infix w0 (σ ++ L) b v D' l A s p)
  have hR : infR l p = (o, a, c, true) := by
    rw [infP_R] at hi0
    cases e : (infR l p).2.2.2
    · rw [e, if_neg (by decide)] at hi0; cases hi0
    · rw [e, if_pos rfl] at hi0
      injection hi0 with hi0
      injection hi0 with e1 e2
      injection e2 with e2 e3
      rw [← e1, ← e2, ← e3, ← e]
  unfold infV at hi
  rw [hR] at hi
  have hn1 : s.length + (putP (showL l a) (sideB l o 1 a)).length ≤ 100000000 := by simp at hn ⊢; omega
  have hn2 : (s ++ putP (showL l a) (sideB l o 1 a)).length + (32 :: (o.name ++ [32])).length ≤ 100000000 := by simp at hn ⊢; omega
  have hn3 : (s ++ putP (showL l a) (sideB l o 1 a) ++ (32 :: (o.name ++ [32]))).length + (putP (showL l c) (sideB l o 2 c)).length ≤ 100000000 := by simp at hn ⊢; omega
  have k1 : 1 + o.name.length ≤ 9223372036854775807 := by simp at hn; omega
  have k2 : o.name.length + 1 + 1 ≤ 9223372036854775807 := by simp at hn; omega
  have k3 : o.name.length + 1 ≤ 9223372036854775806 := by simp at hn; omega
  have k4 : o.name.length + 1 ≤ 9223372036854775807 := by omega
  have es : s ++ (putP (showL l a) (sideB l o 1 a) ++ (32 :: o.name ++ [32]) ++ putP (showL l c) (sideB l o 2 c)) = s ++ putP (showL l a) (sideB l o 1 a) ++ (32 :: (o.name ++ [32])) ++ putP (showL l c) (sideB l o 2 c) := by simp
  rw [es]
  have hok2 := wrs_ok D hok l (s ++ putP (showL l a) (sideB l o 1 a) ++ (32 :: (o.name ++ [32])) ++ putP (showL l c) (sideB l o 2 c))
  have h1 := fun (x y1 y2 : Blk) => DC.lift (L := [x, .cells o.v.cellsV, y1, y2]) D (fun D' => writer_side w0 l a _ ha 53 [.ptr (σ.length + 1) 0] (fun x => besideL o x 1) (σ ++ [x, .cells o.v.cellsV, y1, y2]) b v D' A hA s (fun L x => by
    exact tree_left w0 _ (σ.length + 1) o x (fun M => by
      show (rs (σ ++ _) b v _ _ ++ L ++ M)[_]? = _
      rw [rs_app D, List.append_assoc, List.append_assoc, rs_g]
      rfl)) hn1)
  have h2 := fun (x y1 y2 : Blk) => DC.lift (L := [x, .cells o.v.cellsV, y1, y2]) D (fun D' => builder_WriteString w0 (σ ++ [x, .cells o.v.cellsV, y1, y2]) b v D' l (.ptr b 1) (.inr rfl) (s ++ putP (showL l a) (sideB l o 1 a)) (32 :: (o.name ++ [32])) hn2)
  have h3 := fun (x y1 y2 : Blk) => DC.lift (L := [x, .cells o.v.cellsV, y1, y2]) D (fun D' => writer_side w0 l c _ hc 55 [.ptr (σ.length + 1) 0] (fun x => besideL o x 2) (σ ++ [x, .cells o.v.cellsV, y1, y2]) b v D' (.ptr b 1) (.inr rfl) (s ++ putP (showL l a) (sideB l o 1 a) ++ (32 :: (o.name ++ [32]))) (fun L x => by
    exact tree_right w0 _ (σ.length + 1) o x (fun M => by
      show (rs (σ ++ _) b v _ _ ++ L ++ M)[_]? = _
      rw [rs_app D, List.append_assoc, List.append_assoc, rs_g]
      rfl)) hn3)
  rw [sideG_sideB] at h1 h3
  generalize putP (showL l a) (sideB l o 1 a) = u1 at *
  generalize putP (showL l c) (sideB l o 2 c) = u2 at *
  generalize s ++ u1 ++ (32 :: (o.name ++ [32])) ++ u2 = s3 at *
  generalize s ++ u1 ++ (32 :: (o.name ++ [32])) = s2 at *
  generalize s ++ u1 = s1 at *
  ((try refine W.a ?_); simp only [go_sem, seval, reduceCtorEq, c30, rsA D, Pre.v])
  (refine W.c1 (hi _) ?_; simp only [go_sem, seval, reduceCtorEq, rsA D, Pre.v])
  refine W.yes rfl ?_
  ((try refine W.a ?_); simp only [go_sem, seval, reduceCtorEq, rsA D, Pre.v])
  (refine W.c1 (h1 _ _ _) ?_; simp only [go_sem, seval, reduceCtorEq, rsA D, Pre.v])
  apply W.dregE (List.cons_ne_nil _ _)
  case hc =>
    (apply CanonE.advPO; simp only [go_sem, seval, reduceCtorEq, rsA D, k1, k2, k3, k4])
    (apply CanonE.call (h2 _ _ _); (case hg => rfl); (case hf => rfl); (case ha => first | rfl | simp))
    (apply CanonE.advPO; simp only [go_sem, seval, reduceCtorEq, rsA D])
    exact CanonE.nil
  ((try refine W.a ?_); simp only [go_sem, seval, reduceCtorEq, rsA D, Pre.v])
  (refine W.c1 (h3 _ _ _) ?_; simp only [go_sem, seval, reduceCtorEq, rsA D, Pre.v])
  (refine W.done (Fin.sameW (hok2) (by (first | rfl | exact List.length_set .. | simp)) (by simp only [r30, go_sem, seval, reduceCtorEq]; rfl) ?_ (by (first | exact .c _ | (simp only [go_sem, seval, reduceCtorEq]; done))) (by (first | rfl | exact (List.append_nil _).symm))); simp only [resV]; try exact V.wk.rfl _)
theorem writer_tree {w0 : World} (hG : Glob w0) (l : List OpT) (p : Pre) (hO : OkP p) : TreeD w0 l p (showL l p) := by
  refine (Pre.ind (P := fun p => OkP p → TreeD w0 l p (showL l p) ∧ ∀ q ∈ p.l, TreeD w0 l q (showL l q)) (fun p ih hO => ⟨?_, fun q hq => (ih q hq (hO.mem hq)).1⟩) p hO).1
  cases hi : infP l p with
  | some x =>
    obtain ⟨o, a, c⟩ := x
    obtain ⟨_, f, _, h2, _, h3, _⟩ := infP_some hi
    have hf : f ∈ p.l := by rw [h2]; simp
    exact tree_inf l p o a c hi ((ih f hf (hO.mem hf)).2 a (by rw [h3]; simp)) (ih c (by rw [h2]; simp) (hO.mem (by rw [h2]; simp))).1
  | none =>
    by_cases h1 : lamP p = true
    · have h1' := h1
      unfold lamP at h1'
      simp only [Bool.and_eq_true, beq_iff_eq] at h1'
      obtain ⟨q, hq⟩ := List.length_eq_one_iff.1 h1'.2
      have hqm : q ∈ p.l := by rw [hq]; simp
      exact tree_lam l p q h1'.1 hq (ih q hqm (hO.mem hqm)).1
    · have h1 : lamP p = false := by simpa using h1
      by_cases h2 : appP p = true
      · obtain ⟨f, c, hq⟩ := app_two h2
        have hk : p.k = 3 := by unfold appP at h2; simp only [Bool.and_eq_true, beq_iff_eq] at h2; exact h2.1
        have hf : f ∈ p.l := by rw [hq]; simp
        have hc : c ∈ p.l := by rw [hq]; simp
        exact tree_app l p f c hi hk hq (ih f hf (hO.mem hf)).1 (ih c hc (hO.mem hc)).1
      · have h2 : appP p = false := by simpa using h2
        exact tree_word hG l p hO h1 h2
end
end Go.Proofs.YtljjlhdkkbaehaaGreatDoor
namespace Go.Proofs.YtljjlhdkkbaehaaGreatDoor
open Go.RowKit Go.Lamb
theorem cells_byte : Tryz.prog.cellsOf 5 = 1 := by kernel_rfl
set_option maxHeartbeats 1000000 in
set_option maxRecDepth 100000 in
theorem string_row (w : World) (p g cap cells : Nat) (s : List UInt8) (h0 : s ≠ []) (hc : cap ≠ 0) (hn : s.length ≤ cells) (h63 : s.length ≤ 9223372036854775807)
    (h2 : w.cell? ⟨p, 2, none⟩ = some (.slice (some ⟨g, 0, none⟩) s.length cap)) (hsh : w.shape? g = some (5, cells)) (hcell : ∀ j x, s[j]? = some x → w.cell? ((⟨g, 0, none⟩ : Addr).add j) = some (.int .u8 x.toNat)) :
    Calls Tryz.prog 31 #[.pointer (some ⟨p, 1, none⟩)] w fun e w' => e = .returned (.string ⟨s.toArray⟩) ∧ w' = w.drew.freeze ⟨g, 0, none⟩ s.length := by
  have c1 : w.drew.cell? ⟨p, 2, none⟩ = some (.slice (some ⟨g, 0, none⟩) s.length cap) := h2
  have hSD : (Builtin.unsafeSliceData_ #[56] 99 #[.slice (some ⟨g, 0, none⟩) s.length cap]).run Tryz.prog w.drew = .ok (.pointer (some ⟨g, 0, none⟩)) w.drew :=
    Lib.run_unsafeSliceData_row _ _ _ _ _ _ hc
  have hUS : (Builtin.unsafeString_ #[99, 3] 9 #[.pointer (some ⟨g, 0, none⟩), .int .i64 s.length]).run Tryz.prog w.drew = .ok (.string ⟨s.toArray⟩) (w.drew.freeze ⟨g, 0, none⟩ s.length) :=
    Lib.run_unsafeString_row w.drew 99 3 9 5 Tryz.underlying99 cells_byte g cells hsh s h0 hn h63 hcell
  go_enter Tryz.func31, Tryz.ntmps31
  go_wp2
  go_region
  all_goals (go_wp2; go_ret; exact ⟨rfl, rfl⟩)
theorem rc_sl {m : Mem} {rows : List (List C)} {B : Option Addr} {n cap : Nat} (h : RC m (.sl rows) (.slice B n cap)) : n = rows.length ∧ ∃ (sz : Nat) (xs : List Value), (∀ r ∈ rows, r.length = sz) ∧ xs.length = rows.length * sz ∧ (rows ≠ [] → ∃ b o, B = some ⟨b, o, none⟩ ∧ ∀ k, k < xs.length → m b (o + k) = xs[k]?) ∧ ∀ i (hi : i < rows.length) j (hj : j < rows[i].length), RC m rows[i][j] (xs.getD (i * sz + j) undef) := by
  cases h with
  | sl _ sz _ _ xs z0 z1 z2 z3 z4 z5 => exact ⟨rfl, sz, xs, z0, z3, z4, z5⟩
theorem builder_String (w0 : World) (σ : H) (b v : Nat) (D : Two σ b v) (l : List OpT) (A : V) (s : List UInt8) (h0 : s ≠ []) :
    DC Tryz.prog w0 31 [.ptr b 1] (wrs σ b v l A s) (fun d σ' => d = S s ∧ σ' = rs σ b v (wrC l A v s) .gone) := by
  refine ⟨enters_fn Tryz.func31 (by kernel_rfl) rfl, fun κ w vs hrep hfit => ?_⟩
  obtain ⟨p, ys, rfl, hp, hfit⟩ := hfit.cons_inv
  have := hfit.nil_inv
  subst this
  have hvp : p = .pointer (some ⟨κ.pos b, 1, none⟩) := by cases hp; rfl
  subst hvp
  have hgb := rs_b D (wrC l A v s) (wrY s)
  have hgv := rs_v D (wrC l A v s) (wrY s)
  obtain ⟨hltb, hb'⟩ := List.getElem?_eq_some_iff.1 hgb
  obtain ⟨hltv, hv'⟩ := List.getElem?_eq_some_iff.1 hgv
  have hB := hrep.blk b hltb
  have hV := hrep.blk v hltv
  rw [hb'] at hB
  rw [hv'] at hV
  obtain ⟨us, T, k1, k2, k3⟩ := hB.row
  have k2 : us.size = 3 := k2
  have r2 := (k3 2 (by simp)).2
  have hlr : (byteRows s).length = s.length := by simp [byteRows]
  have hpos : 0 < s.length := List.length_pos_iff.2 h0
  have hu2 : us[2]? = some (us.getD 2 undef) := by rw [Array.getElem?_eq_getElem (by omega)]; simp [Array.getD, k2]
  have hc2 : w.cell? ⟨κ.pos b, 2, none⟩ = us[2]? := Lib.cell_of_heap k1 2
  generalize us.getD 2 undef = u at r2 hu2
  cases r2 with
  | osl hr q1 q2 q3 q4 q5 =>
    have hfr : κ.fr v = some s.length := hV.fr
    rw [hfr] at q2
    injection q2 with q2
    subst q2
    have hu := q4 hlr
    rcases hV.row with ⟨hz, _⟩ | ⟨xs, hown⟩
    · omega
    rcases hown.2 with ⟨_, hz⟩ | ⟨g, cap, cur, hsv, hbg, hg, hnc, hcm, hcs, htake⟩
    · omega
    rw [hsv] at hu
    subst hu
    have hcap : cap ≠ 0 := by omega
    have hcell : ∀ j x, s[j]? = some x → w.cell? ((⟨g, 0, none⟩ : Addr).add j) = some (.int .u8 x.toNat) := fun j x hx => by
      obtain ⟨hj, hx⟩ := List.getElem?_eq_some_iff.1 hx
      rw [Lib.add_plain, Nat.zero_add]
      obtain ⟨_, sz, ws, z0, z3, z4, z5⟩ := rc_sl hr
      obtain ⟨b', o', hA', hm⟩ := z4 (fun e => by rw [e] at hlr; simp at hlr; omega)
      injection hA' with hA'
      injection hA' with e1 e2
      subst e1 e2
      have hrj : (byteRows s)[j]'(by omega) = [C.int .u8 x.toNat] := by simp only [byteRows, List.getElem_map, hx]
      have hsz : sz = 1 := by
        have := z0 _ (List.getElem_mem (show j < (byteRows s).length by omega))
        rw [hrj] at this
        exact this.symm
      subst hsz
      have hjw : j < ws.length := by rw [z3]; omega
      have h5 := z5 j (by omega) 0 (by rw [hrj]; exact Nat.zero_lt_one)
      have h7 := hm j hjw
      rw [List.getElem?_eq_getElem hjw, Nat.zero_add] at h7
      rw [hrep.mem _ _ _ h7]
      have e3 : ws.getD (j * 1 + 0) undef = ws[j] := by simp [List.getD, hjw]
      rw [e3] at h5
      simp only [hrj, List.getElem_cons_zero] at h5
      generalize ws[j] = y at h5
      cases h5
      rfl
    unfold maxLen at hcm
    refine (string_row w (κ.pos b) g cap cur.size s h0 hcap (by omega) (by omega) (by rw [hc2, hu2]) (by simp [World.shape?, hg]) hcell).mono ?_
    rintro e w' ⟨rfl, rfl⟩
    have hd : Rep w0 κ (wrs σ b v l A s) w.drew := hrep.drew
    have hgone := hd.gone (n := s.length) hgv (show heldBy (κ.sv v) = some g from by rw [hsv]; cases cap with | zero => exact absurd rfl hcap | succ c => rfl) hbg
    rw [rs_sv] at hgone
    exact ⟨_, S s, _, κ, rfl, ⟨rfl, rfl⟩, K.le_refl κ, hgone, .c (.str s (by unfold maxLen; omega))⟩
set_option maxHeartbeats 1000000 in
set_option maxRecDepth 100000 in
/-- Of a builder that nothing was written to (its slice is nil). -/
theorem string_nil (w : World) (p : Nat) (h2 : w.cell? ⟨p, 2, none⟩ = some (.slice none 0 0)) :
    Calls Tryz.prog 31 #[.pointer (some ⟨p, 1, none⟩)] w fun e w' => e = .returned (.string .empty) ∧ w' = w.drew := by
  have c1 : w.drew.cell? ⟨p, 2, none⟩ = some (.slice none 0 0) := h2
  have hSD : (Builtin.unsafeSliceData_ #[56] 99 #[.slice none 0 0]).run Tryz.prog w.drew = .ok (.pointer none) w.drew := rfl
  have hUS : (Builtin.unsafeString_ #[99, 3] 9 #[.pointer none, .int .i64 0]).run Tryz.prog w.drew = .ok (.string .empty) w.drew := Lib.run_unsafeString_none w.drew _ _ _ none
  go_enter Tryz.func31, Tryz.ntmps31
  go_wp2
  go_region
  all_goals (go_wp2; go_ret; exact ⟨rfl, rfl⟩)
end Go.Proofs.YtljjlhdkkbaehaaGreatDoor
namespace Go.Proofs.YtljjlhdkkbaehaaGreatDoor
open Go.RowKit Go.Lamb
/-- A writer's text is handed back. -/
theorem string_end {w0 w : World} {κ : K} {σ : H} {b v : Nat} (D : Two σ b v) (l : List OpT) (A : V) (s : List UInt8) (hrep : Rep w0 κ (wrs σ b v l A s) w) (hnil : s = [] → κ.sv v = .slice none 0 0) :
    Calls Tryz.prog 31 #[.pointer (some ⟨κ.pos b, 1, none⟩)] w fun e w' => e = .returned (.string (bs s)) ∧ s.length ≤ maxLen ∧ ∃ κ' Y, κ.le κ' ∧ Rep w0 κ' (rs σ b v (wrC l A v s) Y) w' ∧ (∀ cs tg, Y = .cells cs tg → False) := by
  have hgb := rs_b D (wrC l A v s) (wrY s)
  have hgv := rs_v D (wrC l A v s) (wrY s)
  obtain ⟨hltb, hb'⟩ := List.getElem?_eq_some_iff.1 hgb
  obtain ⟨hltv, hv'⟩ := List.getElem?_eq_some_iff.1 hgv
  have hB := hrep.blk b hltb
  have hV := hrep.blk v hltv
  rw [hb'] at hB
  rw [hv'] at hV
  obtain ⟨us, T, k1, k2, k3⟩ := hB.row
  have k2 : us.size = 3 := k2
  have r2 := (k3 2 (by simp)).2
  have hu2 : us[2]? = some (us.getD 2 undef) := by rw [Array.getElem?_eq_getElem (by omega)]; simp [Array.getD, k2]
  have hc2 : w.cell? ⟨κ.pos b, 2, none⟩ = us[2]? := Lib.cell_of_heap k1 2
  generalize us.getD 2 undef = u at r2 hu2
  have hptr : RV κ (.ptr b 1) (.pointer (some ⟨κ.pos b, 1, none⟩)) := .ptr (by rw [hrep.n]; exact hltb) hB.fr
  by_cases h0 : s = []
  · subst h0
    have hu : u = .slice none 0 0 := by
      cases r2 with
      | osl hr q1 q2 q3 q4 q5 =>
        have hfr : κ.fr v = some 0 := hV.fr
        rw [hfr] at q2
        injection q2 with q2
        exact (q4 q2).trans (hnil rfl)
    subst hu
    refine (string_nil w (κ.pos b) (by rw [hc2, hu2])).mono ?_
    rintro e w' ⟨rfl, rfl⟩
    exact ⟨rfl, Nat.zero_le _, κ, wrY [], K.le_refl κ, hrep.drew, fun cs tg h => by cases h⟩
  · refine ((builder_String w0 σ b v D l A s h0).run κ w [.pointer (some ⟨κ.pos b, 1, none⟩)] hrep (Fits.cons hptr Fits.nil)).mono ?_
    rintro e w' ⟨v', d, σ', κ', rfl, ⟨rfl, rfl⟩, hle, hrep', hv⟩
    cases hv with
    | c hv =>
      cases hv with
      | str _ hlen => exact ⟨rfl, hlen, κ', .gone, hle, hrep', fun cs tg h => by cases h⟩
theorem writer_new {w0 w : World} {κ : K} {σ : H} {l : List OpT} {x : Value} (hrep : Rep w0 κ σ w) (hx : RV κ (.c (opsC l)) x) :
    ∃ κ3, κ.le κ3 ∧ Rep w0 κ3 (wrs (σ ++ [Blk.gone, Blk.gone]) σ.length (σ.length + 1) l (.c .nilp) []) (w.alloc (.cells #[x, .pointer none, .slice none 0 0] 60)) ∧ κ3.pos σ.length = w.heap.size ∧ κ3.sv (σ.length + 1) = .slice none 0 0 ∧ κ3.fr (σ.length + 1) = some 0 := by
  obtain ⟨h1, h2⟩ := hrep.box (cs := [.c (opsC l), .c .nilp, .csl []]) (vs := [x, .pointer none, .slice none 0 0]) 60 (tg := some 60) (fun T h => by injection h with h; exact h.symm) rfl rfl (fun j hj => by
    match j, hj with
    | 0, _ => exact hx
    | 1, _ => exact .c .nilp
    | 2, _ => exact .csl (A := none) (RC.nil _))
  have hle : κ.le (κ.more w.heap.size) := K.more_le
  have hp : (κ.more w.heap.size).pos σ.length = w.heap.size := by
    generalize hg : Value.pointer (some ⟨w.heap.size, 0, none⟩) = g at h2
    cases h2 with
    | ptr h1 h2 => injection hg with hg; injection hg with hg; injection hg with hg; exact hg.symm
  obtain ⟨κ3, k1, k2, k3, k4⟩ := turnNil h1 (b := σ.length) (j := 2) 5 1 (cs := [.c (opsC l), .c .nilp, .csl []]) (tg := some 60) (by simp) (by simp) (by rw [hp]; exact heap_alloc_new w _) rfl
  rw [show (σ ++ [Blk.cells [.c (opsC l), .c .nilp, .csl []] (some 60)]).length = σ.length + 1 from by simp] at k2 k3 k4
  refine ⟨κ3, K.le_trans hle k1, ?_, ?_, k3, k4⟩
  · have e : wrs (σ ++ [Blk.gone, Blk.gone]) σ.length (σ.length + 1) l (.c .nilp) [] = (σ ++ [Blk.cells [.c (opsC l), .c .nilp, .csl []] (some 60)] ++ [Blk.spare 5 1 0]).set σ.length (.cells ([V.c (opsC l), .c .nilp, .csl []].set 2 (.osl (σ.length + 1) [])) (some 60)) := by
      unfold wrs rs
      rw [List.append_assoc, hset0, hset0, hset]
      rfl
    rw [e]
    exact k2
  · have hB := h1.blk σ.length (by simp)
    rw [show (σ ++ [Blk.cells [.c (opsC l), .c .nilp, .csl []] (some 60)])[σ.length]'(by simp) = Blk.cells [.c (opsC l), .c .nilp, .csl []] (some 60) from by simp] at hB
    exact (k1.cells σ.length (by rw [h1.n]; simp) hB.fr).2.trans hp
theorem show_Text {w0 : World} (hG : Glob w0) (l : List OpT) (p : Pre) (hO : OkP p) (hn : (showL l p).length ≤ 100000000) (σ : H) :
    DC Tryz.prog w0 11 [.c (opsC l), p.v] σ (Same (S (showL l p)) σ) := by
  refine ⟨enters_fn Tryz.func11 (by kernel_rfl) rfl, fun κ w vs hrep hfit => ?_⟩
  obtain ⟨x, ys, rfl, hx, hfit⟩ := hfit.cons_inv
  obtain ⟨y, zs, rfl, hy, hfit⟩ := hfit.cons_inv
  have := hfit.nil_inv
  subst this
  obtain ⟨vA, vc, ey⟩ := pre_value hy
  subst ey
  obtain ⟨xA, xn, xc, ex⟩ : ∃ A n c, x = .slice A n c := by
    unfold opsC at hx
    cases hx with | c h => cases h; exact ⟨_, _, _, rfl⟩
  subst ex
  have hs1 : (w.alloc (.cells #[.int .i64 p.k, .string (bs p.name), .int .i64 p.n, .slice vA p.l.length vc, .int .i64 p.pos] 26)).heap.size = w.heap.size + 1 := Array.size_push ..
  obtain ⟨κ3, hle3, hr3, hp3, hnil, hfr3⟩ := writer_new (hrep.alloc (.cells #[.int .i64 p.k, .string (bs p.name), .int .i64 p.n, .slice vA p.l.length vc, .int .i64 p.pos] 26)) hx
  rw [hs1] at hp3
  have D : Two (σ ++ [Blk.gone, Blk.gone]) σ.length (σ.length + 1) := ⟨by omega, by simp, by simp⟩
  have hq3 : σ.length < κ3.n ∧ κ3.fr σ.length = none := by
    refine ⟨by rw [hr3.n]; simp, ?_⟩
    have e := rs_b D (wrC l (.c .nilp) (σ.length + 1) []) (wrY [])
    obtain ⟨hlt, e⟩ := List.getElem?_eq_some_iff.1 e
    have hB := hr3.blk σ.length hlt
    rw [e] at hB
    exact hB.fr
  have hx3 : RV κ3 (.ptr σ.length 0) (.pointer (some ⟨w.heap.size + 1, 0, none⟩)) := by
    rw [← hp3]
    exact .ptr hq3.1 hq3.2
  go_enter Tryz.func11, Tryz.ntmps11
  go_wp2_with (fail)
  refine ((writer_tree hG l p hO _ _ _ D (.c .nilp) (.inl rfl) [] (by simpa using hn)).run κ3 _ [.pointer (some ⟨w.heap.size + 1, 0, none⟩), _] hr3 (Fits.cons hx3 (Fits.cons (hy.mono hle3) Fits.nil))).mono ?_
  rintro e w1 ⟨v1, d1, σ1, κ4, rfl, ⟨rfl, rfl⟩, hle4, hr4, hv4⟩
  rw [List.nil_append] at hr4
  have hp4 : κ4.pos σ.length = w.heap.size + 1 := (hle4.cells _ hq3.1 hq3.2).2.trans hp3
  go_wp2_with (fail)
  rw [← hp4]
  refine (string_end D l _ _ hr4 (fun e => ?_)).mono ?_
  · obtain ⟨f', q1, q2, q3, q4⟩ := hle4.spare (σ.length + 1) 0 (by rw [hr3.n]; simp) hfr3
    have e2 := rs_v D (wrC l (.ptr σ.length 1) (σ.length + 1) (showL l p)) (wrY (showL l p))
    obtain ⟨hlt, e2⟩ := List.getElem?_eq_some_iff.1 e2
    have hV := hr4.blk _ hlt
    rw [e2] at hV
    have hf : κ4.fr (σ.length + 1) = some (showL l p).length := hV.fr
    rw [hf, e] at q1
    injection q1 with q1
    rw [q3 q1.symm, hnil]
  · rintro e w2 ⟨rfl, hlen, κ5, Y, hle5, hr5, hY⟩
    go_wp2
    go_ret
    have hfin : Rep w0 (κ5.cut σ.length) σ w2 := by
      have e3 : (rs (σ ++ [Blk.gone, Blk.gone]) σ.length (σ.length + 1) (wrC l (.ptr σ.length 1) (σ.length + 1) (showL l p)) Y).take σ.length = σ := by
        unfold rs
        rw [List.take_set_of_le (by omega), List.take_set_of_le (by omega), List.take_left' rfl]
      have := hr5.cut σ.length (by simp) (by rw [e3]; exact hrep.ok)
      rwa [e3] at this
    exact ⟨_, S (showL l p), σ, κ5.cut σ.length, rfl, ⟨rfl, rfl⟩, K.cut_le (K.le_trans hle3 (K.le_trans hle4 hle5)) (by rw [hrep.n]; exact Nat.le_refl _), hfin, .c (.str _ hlen)⟩
end Go.Proofs.YtljjlhdkkbaehaaGreatDoor
namespace Go.Proofs.YtljjlhdkkbaehaaGreatDoor
open Go.RowKit Go.Lamb
/-- show.Width -/
def c12 : AC :=
  .seq (.reg [.o 3 (.box (.t 1)), .o 4 (.mov (.k (.c (.int .i64 0))))])
  (.seq (.reg [.m 6 0, .o 7 (.build [.csl [], .c (.nilp), .csl []] [(0, 1, (.t 6))]), .o 8 (.box (.t 7) (some 60)), .m 5 8])
  (.seq (.reg [.m 9 5, .d 10 5 3, .k 11 30 [(.t 9), (.t 10)]])
  (.seq (.reg [.m 12 5, .n 13 12, .f 14 1 13, .k 15 32 [(.t 14)], .m 4 15])
  (.ret))))
def r12 : List ResV := [.tmp 4]
theorem k12 : CodeIs Tryz.prog 12 2 Tryz.f12 c12 r12 := ⟨by kernel_rfl, Tryz.func12, rfl, by kernel_rfl, by kernel_rfl, by decide, enters_fn Tryz.func12 (by kernel_rfl) rfl⟩
/-- show.Lines -/
def c13 : AC :=
  .seq (.reg [.o 4 (.mov (.k (.c (.str []))))])
  (.seq (.reg [.m 8 0, .o 9 (.build [.csl [], .c (.nilp), .csl []] [(0, 1, (.t 8))]), .o 10 (.box (.t 9) (some 60)), .m 5 10])
  (.seq (.seq (.reg [.m 11 1, .o 12 (.lenr (.t 11)), .o 13 (.mov (.k (.c (.int .i64 0))))])
  (.block 0 (.loop (.seq (.reg [.o 14 (.bin .lss (.t 13) (.t 12))])
  (.seq (.cond (.t 14)
  (.skip)
  (.exit 0))
  (.seq (.block 1 (.seq (.reg [.o 15 (.iadd 5 (.t 11) (.t 13)), .d 16 5 15, .o 7 (.box (.k (.agg [.c (.int .i64 0), .c (.str []), .c (.int .i64 0), .csl [], .c (.int .i64 0)]))), .s 5 7 16])
  (.seq (.reg [.m 17 5, .d 18 5 7, .k 19 30 [(.t 17), (.t 18)]])
  (.reg [.m 20 5, .n 21 20, .f 22 1 21, .k 23 33 [(.t 22), (.k (.c (.str [46, 10])))]]))))
  (.reg [.o 24 (.bin .add (.t 13) (.k (.c (.int .i64 1)))), .m 13 24])))))))
  (.seq (.reg [.m 25 5, .n 26 25, .f 27 1 26, .k 28 31 [(.t 27)], .m 4 28])
  (.ret))))
def r13 : List ResV := [.tmp 4]
theorem k13 : CodeIs Tryz.prog 13 2 Tryz.f13 c13 r13 := ⟨by kernel_rfl, Tryz.func13, rfl, by kernel_rfl, by kernel_rfl, by decide, enters_fn Tryz.func13 (by kernel_rfl) rfl⟩
end Go.Proofs.YtljjlhdkkbaehaaGreatDoor
namespace Go.Lamb
/-- Trees as lines. -/
def linesL (l : List OpT) : List Pre → List UInt8
  | [] => []
  | p :: r => showL l p ++ [46, 10] ++ linesL l r
theorem linesL_app (l : List OpT) : ∀ a b : List Pre, linesL l (a ++ b) = linesL l a ++ linesL l b
  | [], b => rfl
  | p :: a, b => by rw [List.cons_append, linesL, linesL, linesL_app l a b]; simp only [List.append_assoc]
theorem linesL_take (l : List OpT) {ps : List Pre} {i : Nat} (h : i < ps.length) : linesL l (ps.take (i + 1)) = linesL l (ps.take i) ++ showL l ps[i] ++ [46, 10] := by
  rw [List.take_succ_eq_append_getElem h, linesL_app]
  simp [linesL]
theorem linesL_le (l : List OpT) (ps : List Pre) (i : Nat) : (linesL l (ps.take i)).length ≤ (linesL l ps).length := by
  have := linesL_app l (ps.take i) (ps.drop i)
  rw [List.take_append_drop] at this
  rw [this, List.length_append]
  omega
end Go.Lamb
namespace Go.Proofs.YtljjlhdkkbaehaaGreatDoor
open Go.RowKit Go.Lamb
attribute [local go_sem] advO_skip advO_reg advO_seq advO_block advO_exit advO_endb advO_opsNil advO_ops advG_yes advG_no advG_none advS_some advS_none advO_cond advO_loop advO_dreg advO_ret advO_bad advO_inv advO_nil advO_zero wantedV Lamb.step ev_t ev_k put_some put_none argEnv popTo cellsAt V.cellsV V.rows V.toC toCs fillV bytesC byteRows appV rowsV boundV boundL binV binInt binStr eqC eqL V.isNil leaves V.leaf Ins.quiet Ins.pure List.getD_cons_zero List.getD_cons_succ List.getD_nil List.all_cons List.all_nil List.length_cons List.length_nil List.take_succ_cons List.take_zero List.drop_succ_cons List.drop_zero List.cons_append List.nil_append List.append_nil List.append_assoc List.map_cons List.map_nil List.getElem?_cons_zero List.getElem?_cons_succ List.length_append List.length_set hget0 hget hset0 hset hsets hgs0 hgs hss0 hss List.set_cons_zero List.set_cons_succ List.forall_mem_cons List.not_mem_nil false_implies implies_true Option.map_some Bool.and_true Bool.true_and Bool.not_not Bool.not_true Bool.not_false Bool.and_self Bool.or_true Bool.true_or Bool.or_false Bool.false_or Bool.and_false Bool.false_and Bool.false_eq_true beq_self_eq_true and_self and_true true_and if_true if_false Nat.zero_add Nat.add_zero Nat.le_refl Int.toNat_natCast decide_true decide_false beq_t beq_f List.length_map List.getElem?_map I S B opsC toksC OpT.v OpT.cs OpT.zero Tok.v Tok.cs Pre.v Pre.cs_eq k_mk name_mk n_mk l_mk pos_mk Pre.app applyL natCast0 natCast1 natCast2 AOp.o AOp.m AOp.f AOp.l AOp.d AOp.n AOp.x AOp.s AOp.k AOp.y AOp.z EOp.q low_c low_void low_any low_csl low_nilf low_ptr low_osl low_agg low_tup low_fn resEval advPO_nil advPO_loud advPO_quiet pL_yes pL_no pLS_some pLS_none pQ_yes pQ_no pQS_some pQS_loud eq_self Nat.sub_zero
theorem wrs_new (σ : H) (l : List OpT) (A : V) (s : List UInt8) (P : Blk) : wrs (σ ++ [P, .gone, .gone]) (σ.length + 1) (σ.length + 2) l A s = σ ++ [P, wrC l A (σ.length + 2) s, wrY s] := by
  unfold wrs rs
  rw [hset, hset]
  rfl
theorem show_Width {w0 : World} (hG : Glob w0) (l : List OpT) (p : Pre) (hO : OkP p) (hn : (showL l p).length ≤ 100000000) (σ : H) :
    DC Tryz.prog w0 12 [.c (opsC l), p.v] σ (Same (I (showL l p).length) σ) := by
  refine k12.go rfl (fun hok hsz => ?_)
  have D : ∀ P, Two (σ ++ [P, Blk.gone, Blk.gone]) (σ.length + 1) (σ.length + 2) := fun P => ⟨by omega, by simp, by simp⟩
  have ht := fun P => writer_tree hG l p hO _ _ _ (D P) (.c .nilp) (.inl rfl) [] (by simpa using hn)
  have hl := fun P => builder_Len w0 _ _ _ (D P) l (.ptr (σ.length + 1) 1) (showL l p)
  rw [List.nil_append] at ht
  simp only [wrs_new] at ht hl
  generalize showL l p = s at *
  ((try refine W.a ?_); simp only [go_sem, seval, reduceCtorEq, c12, Pre.v])
  refine W.ownCell (σ.length + 1) 2 5 1 (cs := [.c (opsC l), .c .nilp, .csl []]) (tg := some 60) ?_ rfl ?_
  · simp only [hget, List.getElem?_cons_succ, List.getElem?_cons_zero]; rfl
  ((try refine W.a ?_); simp only [go_sem, seval, reduceCtorEq])
  (refine W.c1 (ht _) ?_; simp only [go_sem, seval, reduceCtorEq, wrC, wrY])
  (refine W.c1 (hl _) ?_; simp only [go_sem, seval, reduceCtorEq, wrC, wrY])
  (refine W.fs (hok) (by simp only [r12, go_sem, seval, reduceCtorEq]; rfl) ?_; simp only [resV]; try exact V.wk.rfl _)
theorem wrs_new2 (σ : H) (l : List OpT) (A : V) (s : List UInt8) : wrs (σ ++ [.gone, .gone]) σ.length (σ.length + 1) l A s = σ ++ [wrC l A (σ.length + 1) s, wrY s] := by
  unfold wrs rs
  rw [hset0, hset]
  rfl
theorem wrs_new3 (σ : H) (l : List OpT) (A : V) (s : List UInt8) (x : Blk) : wrs (σ ++ [.gone, .gone, x]) σ.length (σ.length + 1) l A s = σ ++ [wrC l A (σ.length + 1) s, wrY s, x] := by
  unfold wrs rs
  rw [hset0, hset]
  rfl
def pOr (A B : V) : Nat → V
  | 0 => A
  | _ + 1 => B
theorem lines_some {w0 : World} (hG : Glob w0) (l : List OpT) (ps : List Pre) (hne : ps ≠ []) (hO : ∀ p ∈ ps, OkP p) (hn : (linesL l ps).length ≤ 100000000) (σ : H) :
    DC Tryz.prog w0 13 [.c (opsC l), .c (.sl (ps.map Pre.cs))] σ (Same (S (linesL l ps)) σ) := by
  refine k13.go rfl (fun hok hsz => ?_)
  have hlen : ps.length ≤ 9223372036854775807 := by
    have := (sz_sl.1 (sz_c.1 (hsz _ (List.mem_cons_of_mem _ (List.mem_cons_self ..))))).1
    rw [List.length_map] at this
    exact this
  have D : ∀ P, Two (σ ++ [Blk.gone, Blk.gone, P]) σ.length (σ.length + 1) := fun P => ⟨by omega, by simp, by simp⟩
  have hpos : 0 < ps.length := List.length_pos_iff.2 hne
  ((try refine W.a ?_); simp only [go_sem, seval, reduceCtorEq, c13])
  refine W.ownCell σ.length 2 5 1 (cs := [.c (opsC l), .c .nilp, .csl []]) (tg := some 60) ?_ rfl ?_
  · simp only [hget0, List.getElem?_cons_succ, List.getElem?_cons_zero]; rfl
  ((try refine W.a ?_); simp only [go_sem, seval, reduceCtorEq])
  refine W.loopP (fun i => i ≤ ps.length) (fun i => ⟨((((base.put (some 5) (.ptr σ.length 0)).put (some 11) (.c (.sl (ps.map Pre.cs)))).put (some 12) (I ps.length)).put (some 13) (I i)), σ ++ [wrC l (pOr (.c .nilp) (.ptr σ.length 1) i) (σ.length + 1) (linesL l (ps.take i)), wrY (linesL l (ps.take i))]⟩) (fun i => ps.length - i) 0 (Nat.zero_le _) ?_ (fun i hi => ?_)
  · simp only [go_sem, seval, reduceCtorEq, List.take_zero, linesL, wrC, wrY, pOr]
    (refine Lew.env ?_; exact lee_here)
  · by_cases hlt : i < ps.length
    · have h1 : ((i : Int) < (ps.length : Int)) := by omega
      have hx : ps[i]? = some ps[i] := List.getElem?_eq_getElem hlt
      have hw := wrap_next hlt hlen
      have htk := linesL_take l hlt
      have hle := linesL_le l ps (i + 1)
      have hA : pOr (.c .nilp) (.ptr σ.length 1) i = .c .nilp ∨ pOr (.c .nilp) (.ptr σ.length 1) i = .ptr σ.length 1 := by
        cases i
        · exact .inl rfl
        · exact .inr rfl
      have hOi := hO _ (List.getElem_mem hlt)
      generalize hA1 : pOr (.c .nilp) (.ptr σ.length 1) i = A at *
      generalize linesL l (ps.take i) = s at *
      generalize ps[i] = x at *
      rw [htk] at hle
      have ht := fun P => writer_tree hG l x hOi _ _ _ (D P) A hA s (by simp at hle; omega)
      have hb := fun P => builder_WriteString w0 _ _ _ (D P) l (.ptr σ.length 1) (.inr rfl) (s ++ showL l x) [46, 10] (by simp at hle ⊢; omega)
      simp only [wrs_new3] at ht hb
      generalize showL l x = u at *
      generalize hs2 : s ++ u ++ [46, 10] = s2 at *
      generalize s ++ u = s1 at *
      ((try refine W.a ?_); simp only [go_sem, seval, reduceCtorEq, h1, wrC, wrY])
      refine W.yes rfl ?_
      ((try refine W.a ?_); simp only [go_sem, seval, reduceCtorEq, h1, nat0, hx, wrC, wrY])
      (refine W.c1 (ht _) ?_; simp only [go_sem, seval, reduceCtorEq, wrC, wrY])
      (refine W.c1 (hb _) ?_; simp only [go_sem, seval, reduceCtorEq, wrC, wrY])
      ((try refine W.a ?_); simp only [go_sem, seval, reduceCtorEq, hw])
      refine .inv ⟨i + 1, hlt, by omega, ?_⟩
      rw [htk]
      simp only [go_sem, seval, reduceCtorEq, wrC, wrY, pOr]
      (refine Lew.cutL (hok) ?_ (by simp) (by simp) ?_ ?_ ?_; exact lee_here; ((try simp only [okB, wkB, go_sem, seval, reduceCtorEq]) <;> omega); (simp only [List.length_cons, List.length_nil, Nat.reduceAdd, List.take_succ_cons, List.take_zero, wkB, and_true]; (repeat' (refine And.intro ?_ ?_)) <;> (first | exact Blk.wk.rfl _ | exact Blk.wk.gone _ | (refine Blk.wk_cells ?_ rfl; (exact wk_here)))); (repeat' (first | exact LowE.base _ | (refine LowE.put ?_ (by first | exact .c _ | ((try simp only [okB, wkB, go_sem, seval, reduceCtorEq]) <;> omega))))))
    · have h1 : ¬ ((i : Int) < (ps.length : Int)) := by omega
      have hi2 : i = ps.length := by omega
      subst hi2
      have hne2 : linesL l ps ≠ [] := by
        cases ps with
        | nil => exact absurd rfl hne
        | cons p r => simp [linesL]
      have D2 : Two (σ ++ [Blk.gone, Blk.gone]) σ.length (σ.length + 1) := ⟨by omega, by simp, by simp⟩
      have hS := builder_String w0 _ _ _ D2 l (.ptr σ.length 1) (linesL l ps) hne2
      rw [show rs (σ ++ [Blk.gone, Blk.gone]) σ.length (σ.length + 1) (wrC l (.ptr σ.length 1) (σ.length + 1) (linesL l ps)) .gone = σ ++ [wrC l (.ptr σ.length 1) (σ.length + 1) (linesL l ps), .gone] from by unfold rs; rw [hset0, hset]; rfl] at hS
      simp only [wrs_new2] at hS
      have hA : pOr (.c .nilp) (.ptr σ.length 1) ps.length = .ptr σ.length 1 := by
        obtain ⟨k, hk⟩ : ∃ k, ps.length = k + 1 := ⟨ps.length - 1, by omega⟩
        rw [hk]; rfl
      rw [hA, List.take_length]
      generalize linesL l ps = s at *
      ((try refine W.a ?_); simp only [go_sem, seval, reduceCtorEq, h1, wrC, wrY])
      refine W.no rfl ?_
      ((try refine W.a ?_); simp only [go_sem, seval, reduceCtorEq, wrC, wrY])
      (refine W.c1 (hS) ?_; simp only [go_sem, seval, reduceCtorEq, wrC, wrY])
      (refine W.fs (hok) (by simp only [r13, go_sem, seval, reduceCtorEq]; rfl) ?_; simp only [resV]; try exact V.wk.rfl _)
end Go.Proofs.YtljjlhdkkbaehaaGreatDoor
