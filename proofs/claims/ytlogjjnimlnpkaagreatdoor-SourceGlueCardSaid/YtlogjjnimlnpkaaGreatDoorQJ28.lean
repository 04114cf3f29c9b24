/-
  The code of some functions, without addresses.
  The code of some functions, without addresses.
  The code of some functions, without addresses.
  Walks: the document's reader, its small functions.
  Walks: the document's type reader, its small functions.
  Walks: the document's type reader: an atom.
  Walks: the document's type reader: a type; its Read.
  Walks: the document's Read of types; which types are the same, and how large they are.
  Walks: when two sentences are the same.
  Plain: what else is known of sentences that are read: errors, places, how many there are.
  What is read of a text, and of more behind it, begins with what is read of the first one.
-/
import Derived.Test.YtlogjjnimlnpkaaGreatDoorChecked
import Derived.Test.YtlogjjnimlnpkaaGreatDoorQJ11
import Derived.Test.YtlogjjnimlnpkaaGreatDoorQJ10
import Derived.Test.YtlogjjnimlnpkaaGreatDoorQJ25
import Derived.Test.YtlogjjnimlnpkaaGreatDoorQJ27
set_option linter.unusedSimpArgs false
set_option linter.unusedVariables false
set_option maxHeartbeats 8000000
set_option maxRecDepth 20000
namespace Go.Proofs.YtlogjjnimlnpkaaGreatDoor
open Go.RowKit Go.Lamb
/-- lambentref03.Same -/
def c104 : AC :=
  .seq (.reg [⟨some 2, .box (.t 0), none⟩, ⟨some 3, .box (.t 1), none⟩, ⟨some 4, .mov (.k (.c (.bool false))), none⟩])
  (.seq (.seq (.reg [⟨some 7, .fadd 0 (.t 2), none⟩, ⟨some 8, .load1 (.t 7), none⟩, ⟨some 9, .fadd 0 (.t 3), none⟩, ⟨some 10, .load1 (.t 9), none⟩, ⟨some 11, .bin .neq (.t 8) (.t 10), none⟩, ⟨some 12, .mov (.t 11), none⟩, ⟨some 13, .fadd 1 (.t 2), some (12, false)⟩, ⟨some 14, .load1 (.t 13), some (12, false)⟩, ⟨some 15, .fadd 1 (.t 3), some (12, false)⟩, ⟨some 16, .load1 (.t 15), some (12, false)⟩, ⟨some 17, .bin .neq (.t 14) (.t 16), some (12, false)⟩, ⟨some 18, .pick (.t 12) (.k (.c (.bool true))) (.t 17), none⟩, ⟨some 19, .mov (.t 18), none⟩, ⟨some 20, .fadd 2 (.t 2), some (19, false)⟩, ⟨some 21, .load1 (.t 20), some (19, false)⟩, ⟨some 22, .fadd 2 (.t 3), some (19, false)⟩, ⟨some 23, .load1 (.t 22), some (19, false)⟩, ⟨some 24, .bin .neq (.t 21) (.t 23), some (19, false)⟩, ⟨some 25, .pick (.t 19) (.k (.c (.bool true))) (.t 24), none⟩, ⟨some 26, .mov (.t 25), none⟩, ⟨some 27, .fadd 3 (.t 2), some (26, false)⟩, ⟨some 28, .load1 (.t 27), some (26, false)⟩, ⟨some 29, .lenr (.t 28), some (26, false)⟩, ⟨some 30, .fadd 3 (.t 3), some (26, false)⟩, ⟨some 31, .load1 (.t 30), some (26, false)⟩, ⟨some 32, .lenr (.t 31), some (26, false)⟩, ⟨some 33, .bin .neq (.t 29) (.t 32), some (26, false)⟩, ⟨some 34, .pick (.t 26) (.k (.c (.bool true))) (.t 33), none⟩])
  (.cond (.t 34)
  (.seq (.reg [⟨some 4, .mov (.k (.c (.bool false))), none⟩])
  (.ret))
  (.skip)))
  (.seq (.seq (.reg [⟨some 5, .mov (.k (.c (.int .i64 0))), none⟩])
  (.block 0 (.loop (.seq (.seq (.reg [⟨some 35, .mov (.t 5), none⟩, ⟨some 36, .fadd 3 (.t 2), none⟩, ⟨some 37, .load1 (.t 36), none⟩, ⟨some 38, .lenr (.t 37), none⟩, ⟨some 39, .bin .lss (.t 35) (.t 38), none⟩])
  (.cond (.t 39)
  (.skip)
  (.exit 0)))
  (.seq (.block 1 (.seq (.dreg [⟨some 42, .fadd 3 (.t 2), none⟩, ⟨some 43, .load1 (.t 42), none⟩, ⟨some 44, .mov (.t 5), none⟩, ⟨some 45, .iadd 5 (.t 43) (.t 44), none⟩, ⟨some 46, .loadn 5 (.t 45), none⟩, ⟨some 47, .fadd 3 (.t 3), none⟩, ⟨some 48, .load1 (.t 47), none⟩, ⟨some 49, .mov (.t 5), none⟩, ⟨some 50, .iadd 5 (.t 48) (.t 49), none⟩, ⟨some 51, .loadn 5 (.t 50), none⟩, ⟨some 52, .call (.k (.fn 104 [])) [(.t 46), (.t 51)], none⟩, ⟨some 6, .mov (.t 52), none⟩]
    [⟨⟨some 42, .fadd 3 (.t 2), none⟩, false, 0⟩, ⟨⟨some 43, .load1 (.t 42), none⟩, false, 0⟩, ⟨⟨some 44, .mov (.t 5), none⟩, false, 0⟩, ⟨⟨some 45, .iadd 5 (.t 43) (.t 44), none⟩, false, 0⟩, ⟨⟨some 46, .loadn 5 (.t 45), none⟩, false, 0⟩, ⟨⟨some 47, .fadd 3 (.t 3), none⟩, false, 0⟩, ⟨⟨some 48, .load1 (.t 47), none⟩, false, 0⟩, ⟨⟨some 49, .mov (.t 5), none⟩, false, 0⟩, ⟨⟨some 50, .iadd 5 (.t 48) (.t 49), none⟩, false, 0⟩, ⟨⟨some 51, .loadn 5 (.t 50), none⟩, false, 0⟩, ⟨⟨some 52, .call (.k (.fn 104 [])) [(.t 46), (.t 51)], none⟩, true, 0⟩, ⟨⟨some 6, .mov (.t 52), none⟩, false, 1⟩])
  (.seq (.reg [⟨some 53, .mov (.t 6), none⟩, ⟨some 54, .un .not (.t 53), none⟩])
  (.cond (.t 54)
  (.seq (.reg [⟨some 4, .mov (.k (.c (.bool false))), none⟩])
  (.ret))
  (.skip)))))
  (.reg [⟨some 40, .mov (.t 5), none⟩, ⟨some 41, .bin .add (.t 40) (.k (.c (.int .i64 1))), none⟩, ⟨some 5, .mov (.t 41), none⟩]))))))
  (.seq (.reg [⟨some 4, .mov (.k (.c (.bool true))), none⟩])
  (.ret))))
def r104 : List ResV := [.tmp 4]
theorem tr104 : tr Tryz.prog Tryz.f104.ntmps (Tryz.f104.body.getD .skip) = some c104 := by kernel_rfl
theorem tre104 : trRes Tryz.prog Tryz.f104.results.toList = some r104 := by kernel_rfl
theorem en104 : Enters Tryz.prog 104 := enters_fn Tryz.func104 (by kernel_rfl) rfl
theorem go104 {w0 : World} {args : List V} {σ : H} {R : V → H → Prop} (ha : args.length = 2) (h : H.ok σ → (∀ x ∈ args, V.Sz x) → W Tryz.prog w0 σ.length (Fin r104 σ.length R) [.code c104] ⟨argEnv args, σ⟩) : DC Tryz.prog w0 104 args σ R :=
  DC.of_code (by kernel_rfl) Tryz.func104 rfl tr104 tre104 (by rw [ha]; exact by decide) en104 h
end Go.Proofs.YtlogjjnimlnpkaaGreatDoor
namespace Go.Proofs.YtlogjjnimlnpkaaGreatDoor
open Go.RowKit Go.Lamb
/-- lambentref05.Same -/
def c26 : AC :=
  .seq (.reg [⟨some 2, .box (.t 0), none⟩, ⟨some 3, .box (.t 1), none⟩, ⟨some 4, .mov (.k (.c (.bool false))), none⟩])
  (.seq (.seq (.reg [⟨some 7, .fadd 0 (.t 2), none⟩, ⟨some 8, .load1 (.t 7), none⟩, ⟨some 9, .fadd 0 (.t 3), none⟩, ⟨some 10, .load1 (.t 9), none⟩, ⟨some 11, .bin .neq (.t 8) (.t 10), none⟩, ⟨some 12, .mov (.t 11), none⟩, ⟨some 13, .fadd 1 (.t 2), some (12, false)⟩, ⟨some 14, .load1 (.t 13), some (12, false)⟩, ⟨some 15, .fadd 1 (.t 3), some (12, false)⟩, ⟨some 16, .load1 (.t 15), some (12, false)⟩, ⟨some 17, .bin .neq (.t 14) (.t 16), some (12, false)⟩, ⟨some 18, .pick (.t 12) (.k (.c (.bool true))) (.t 17), none⟩, ⟨some 19, .mov (.t 18), none⟩, ⟨some 20, .fadd 2 (.t 2), some (19, false)⟩, ⟨some 21, .load1 (.t 20), some (19, false)⟩, ⟨some 22, .fadd 2 (.t 3), some (19, false)⟩, ⟨some 23, .load1 (.t 22), some (19, false)⟩, ⟨some 24, .bin .neq (.t 21) (.t 23), some (19, false)⟩, ⟨some 25, .pick (.t 19) (.k (.c (.bool true))) (.t 24), none⟩, ⟨some 26, .mov (.t 25), none⟩, ⟨some 27, .fadd 3 (.t 2), some (26, false)⟩, ⟨some 28, .load1 (.t 27), some (26, false)⟩, ⟨some 29, .lenr (.t 28), some (26, false)⟩, ⟨some 30, .fadd 3 (.t 3), some (26, false)⟩, ⟨some 31, .load1 (.t 30), some (26, false)⟩, ⟨some 32, .lenr (.t 31), some (26, false)⟩, ⟨some 33, .bin .neq (.t 29) (.t 32), some (26, false)⟩, ⟨some 34, .pick (.t 26) (.k (.c (.bool true))) (.t 33), none⟩])
  (.cond (.t 34)
  (.seq (.reg [⟨some 4, .mov (.k (.c (.bool false))), none⟩])
  (.ret))
  (.skip)))
  (.seq (.seq (.reg [⟨some 5, .mov (.k (.c (.int .i64 0))), none⟩])
  (.block 0 (.loop (.seq (.seq (.reg [⟨some 35, .mov (.t 5), none⟩, ⟨some 36, .fadd 3 (.t 2), none⟩, ⟨some 37, .load1 (.t 36), none⟩, ⟨some 38, .lenr (.t 37), none⟩, ⟨some 39, .bin .lss (.t 35) (.t 38), none⟩])
  (.cond (.t 39)
  (.skip)
  (.exit 0)))
  (.seq (.block 1 (.seq (.dreg [⟨some 42, .fadd 3 (.t 2), none⟩, ⟨some 43, .load1 (.t 42), none⟩, ⟨some 44, .mov (.t 5), none⟩, ⟨some 45, .iadd 4 (.t 43) (.t 44), none⟩, ⟨some 46, .loadn 4 (.t 45), none⟩, ⟨some 47, .fadd 3 (.t 3), none⟩, ⟨some 48, .load1 (.t 47), none⟩, ⟨some 49, .mov (.t 5), none⟩, ⟨some 50, .iadd 4 (.t 48) (.t 49), none⟩, ⟨some 51, .loadn 4 (.t 50), none⟩, ⟨some 52, .call (.k (.fn 26 [])) [(.t 46), (.t 51)], none⟩, ⟨some 6, .mov (.t 52), none⟩]
    [⟨⟨some 42, .fadd 3 (.t 2), none⟩, false, 0⟩, ⟨⟨some 43, .load1 (.t 42), none⟩, false, 0⟩, ⟨⟨some 44, .mov (.t 5), none⟩, false, 0⟩, ⟨⟨some 45, .iadd 4 (.t 43) (.t 44), none⟩, false, 0⟩, ⟨⟨some 46, .loadn 4 (.t 45), none⟩, false, 0⟩, ⟨⟨some 47, .fadd 3 (.t 3), none⟩, false, 0⟩, ⟨⟨some 48, .load1 (.t 47), none⟩, false, 0⟩, ⟨⟨some 49, .mov (.t 5), none⟩, false, 0⟩, ⟨⟨some 50, .iadd 4 (.t 48) (.t 49), none⟩, false, 0⟩, ⟨⟨some 51, .loadn 4 (.t 50), none⟩, false, 0⟩, ⟨⟨some 52, .call (.k (.fn 26 [])) [(.t 46), (.t 51)], none⟩, true, 0⟩, ⟨⟨some 6, .mov (.t 52), none⟩, false, 1⟩])
  (.seq (.reg [⟨some 53, .mov (.t 6), none⟩, ⟨some 54, .un .not (.t 53), none⟩])
  (.cond (.t 54)
  (.seq (.reg [⟨some 4, .mov (.k (.c (.bool false))), none⟩])
  (.ret))
  (.skip)))))
  (.reg [⟨some 40, .mov (.t 5), none⟩, ⟨some 41, .bin .add (.t 40) (.k (.c (.int .i64 1))), none⟩, ⟨some 5, .mov (.t 41), none⟩]))))))
  (.seq (.reg [⟨some 4, .mov (.k (.c (.bool true))), none⟩])
  (.ret))))
def r26 : List ResV := [.tmp 4]
theorem tr26 : tr Tryz.prog Tryz.f26.ntmps (Tryz.f26.body.getD .skip) = some c26 := by kernel_rfl
theorem tre26 : trRes Tryz.prog Tryz.f26.results.toList = some r26 := by kernel_rfl
theorem en26 : Enters Tryz.prog 26 := enters_fn Tryz.func26 (by kernel_rfl) rfl
theorem go26 {w0 : World} {args : List V} {σ : H} {R : V → H → Prop} (ha : args.length = 2) (h : H.ok σ → (∀ x ∈ args, V.Sz x) → W Tryz.prog w0 σ.length (Fin r26 σ.length R) [.code c26] ⟨argEnv args, σ⟩) : DC Tryz.prog w0 26 args σ R :=
  DC.of_code (by kernel_rfl) Tryz.func26 rfl tr26 tre26 (by rw [ha]; exact by decide) en26 h
end Go.Proofs.YtlogjjnimlnpkaaGreatDoor
namespace Go.Proofs.YtlogjjnimlnpkaaGreatDoor
open Go.RowKit Go.Lamb
/-- lambentref03.Read -/
def c213 : AC :=
  .seq (.reg [⟨some 6, .box (.k (.agg [.c (.int .i64 0), .c (.str []), .c (.int .i64 0), .csl [], .c (.int .i64 0)])), none⟩, ⟨some 7, .mov (.k (.c (.int .i64 0))), none⟩, ⟨some 8, .mov (.k (.c (.int .i64 0))), none⟩, ⟨some 9, .mov (.k (.c (.int .i64 0))), none⟩])
  (.seq (.reg [⟨some 12, .mov (.t 0), none⟩, ⟨some 13, .mov (.t 1), none⟩, ⟨some 14, .mov (.t 2), none⟩, ⟨some 15, .build [.csl [], .csl [], .c (.int .i64 0), .c (.int .i64 0), .c (.int .i64 0)] [(0, 1, (.t 12)), (1, 1, (.t 13)), (2, 1, (.t 14))], none⟩, ⟨some 16, .box (.t 15), none⟩, ⟨some 10, .mov (.t 16), none⟩])
  (.seq (.reg [⟨some 17, .mov (.t 10), none⟩, ⟨some 18, .call (.k (.fn 250 [])) [(.t 17), (.k (.c (.int .i64 0))), (.k (.c (.int .i64 0)))], none⟩, ⟨some 11, .box (.k (.agg [.c (.int .i64 0), .c (.str []), .c (.int .i64 0), .csl [], .c (.int .i64 0), .c (.bool false), .c (.str []), .c (.int .i64 0), .c (.int .i64 0), .c (.int .i64 0)])), none⟩, ⟨none, .store 10 (.t 11) (.t 18), none⟩])
  (.seq (.seq (.reg [⟨some 19, .mov (.t 10), none⟩, ⟨some 20, .nilck (.t 19), none⟩, ⟨some 21, .fadd 3 (.t 20), none⟩, ⟨some 22, .load1 (.t 21), none⟩, ⟨some 23, .bin .neq (.t 22) (.k (.c (.int .i64 0))), none⟩])
  (.cond (.t 23)
  (.seq (.dreg [⟨some 24, .build [.c (.int .i64 0), .c (.str []), .c (.int .i64 0), .csl [], .c (.int .i64 0)] [], none⟩, ⟨some 25, .mov (.t 2), none⟩, ⟨some 26, .mov (.t 10), none⟩, ⟨some 27, .nilck (.t 26), none⟩, ⟨some 28, .fadd 3 (.t 27), none⟩, ⟨some 29, .load1 (.t 28), none⟩, ⟨some 30, .mov (.t 10), none⟩, ⟨some 31, .nilck (.t 30), none⟩, ⟨some 32, .fadd 4 (.t 31), none⟩, ⟨some 33, .load1 (.t 32), none⟩, ⟨none, .store 5 (.t 6) (.t 24), none⟩, ⟨some 7, .mov (.t 25), none⟩, ⟨some 8, .mov (.t 29), none⟩, ⟨some 9, .mov (.t 33), none⟩]
    [⟨⟨some 24, .build [.c (.int .i64 0), .c (.str []), .c (.int .i64 0), .csl [], .c (.int .i64 0)] [], none⟩, false, 0⟩, ⟨⟨none, .store 5 (.t 6) (.t 24), none⟩, true, 0⟩, ⟨⟨some 25, .mov (.t 2), none⟩, false, 0⟩, ⟨⟨some 26, .mov (.t 10), none⟩, false, 0⟩, ⟨⟨some 27, .nilck (.t 26), none⟩, false, 0⟩, ⟨⟨some 28, .fadd 3 (.t 27), none⟩, false, 0⟩, ⟨⟨some 29, .load1 (.t 28), none⟩, false, 0⟩, ⟨⟨some 30, .mov (.t 10), none⟩, false, 0⟩, ⟨⟨some 31, .nilck (.t 30), none⟩, false, 0⟩, ⟨⟨some 32, .fadd 4 (.t 31), none⟩, false, 0⟩, ⟨⟨some 33, .load1 (.t 32), none⟩, false, 0⟩, ⟨⟨some 7, .mov (.t 25), none⟩, false, 1⟩, ⟨⟨some 8, .mov (.t 29), none⟩, false, 1⟩, ⟨⟨some 9, .mov (.t 33), none⟩, false, 1⟩])
  (.ret))
  (.skip)))
  (.seq (.dreg [⟨some 34, .fadd 0 (.t 11), none⟩, ⟨some 35, .loadn 5 (.t 34), none⟩, ⟨some 36, .mov (.t 10), none⟩, ⟨some 37, .nilck (.t 36), none⟩, ⟨some 38, .fadd 2 (.t 37), none⟩, ⟨some 39, .load1 (.t 38), none⟩, ⟨none, .store 5 (.t 6) (.t 35), none⟩, ⟨some 7, .mov (.t 39), none⟩, ⟨some 8, .mov (.k (.c (.int .i64 0))), none⟩, ⟨some 9, .mov (.k (.c (.int .i64 0))), none⟩]
    [⟨⟨some 34, .fadd 0 (.t 11), none⟩, false, 0⟩, ⟨⟨some 35, .loadn 5 (.t 34), none⟩, false, 0⟩, ⟨⟨none, .store 5 (.t 6) (.t 35), none⟩, true, 0⟩, ⟨⟨some 36, .mov (.t 10), none⟩, false, 0⟩, ⟨⟨some 37, .nilck (.t 36), none⟩, false, 0⟩, ⟨⟨some 38, .fadd 2 (.t 37), none⟩, false, 0⟩, ⟨⟨some 39, .load1 (.t 38), none⟩, false, 0⟩, ⟨⟨some 7, .mov (.t 39), none⟩, false, 1⟩, ⟨⟨some 8, .mov (.k (.c (.int .i64 0))), none⟩, false, 1⟩, ⟨⟨some 9, .mov (.k (.c (.int .i64 0))), none⟩, false, 1⟩])
  (.ret)))))
end Go.Proofs.YtlogjjnimlnpkaaGreatDoor
namespace Go.Proofs.YtlogjjnimlnpkaaGreatDoor
open Go.RowKit Go.Lamb
attribute [local go_sem] advO_skip advO_reg advO_seq advO_block advO_exit advO_endb advO_opsNil advO_ops advG_yes advG_no advG_none advS_some advS_none advO_cond advO_loop advO_dreg advO_ret advO_bad advO_inv advO_nil advO_zero wantedV Lamb.step ev_t ev_k put_some put_none argEnv popTo cellsAt V.cellsV V.rows V.toC toCs fillV bytesC byteRows appV rowsV boundV boundL binV binInt binStr eqC eqL V.isNil leaves V.leaf Ins.quiet Ins.pure List.getD_cons_zero List.getD_cons_succ List.getD_nil List.all_cons List.all_nil List.length_cons List.length_nil List.take_succ_cons List.take_zero List.drop_succ_cons List.drop_zero List.cons_append List.nil_append List.append_nil List.append_assoc List.map_cons List.map_nil List.getElem?_cons_zero List.getElem?_cons_succ List.length_append List.length_set hget0 hget hset0 hset hsets hgs0 hgs hss0 hss List.set_cons_zero List.set_cons_succ List.forall_mem_cons List.not_mem_nil false_implies implies_true Option.map_some Bool.and_true Bool.true_and Bool.not_not Bool.not_true Bool.not_false Bool.and_self Bool.or_true Bool.true_or Bool.or_false Bool.false_or Bool.and_false Bool.false_and Bool.false_eq_true beq_self_eq_true and_self and_true true_and if_true if_false Nat.zero_add Nat.add_zero Nat.le_refl Int.toNat_natCast decide_true decide_false beq_t beq_f List.length_map List.getElem?_map I S B opsC toksC OpT.v OpT.cs OpT.zero Tok.v Tok.cs Pre.v Pre.cs_eq k_mk name_mk n_mk l_mk pos_mk Pre.app applyL natCast0 natCast1 natCast2
section

end
section

/-- The document's type reader's blocks. -/
def tqX (t : List Tok) (i : Int) (v : Nat) (vs : List Str) (e p : Int) : Blk := .cells [.c (toksC t), I i, I e, I p, .osl v (strsR vs)]
abbrev tqs (σ : H) (b v : Nat) (t : List Tok) (i : Int) (vs : List Str) (e p : Int) : H := rs σ b v (tqX t i v vs e p) (tyY vs)
attribute [local go_sem] tqX tyY rs_len rs_g0 rs_g rs_s0 rs_s rs_sv Typ.v Typ.cs_eq tk_mk tname_mk tn_mk tl_mk tysC
end
section

abbrev tqo (σ : H) (b v : Nat) (t : List Tok) (o : TyO) : H := tqs σ b v t o.j o.ws o.e o.p
attribute [local go_sem] tqX tyY rs_len rs_g0 rs_g rs_s0 rs_s rs_sv Typ.v Typ.cs_eq tk_mk tname_mk tn_mk tl_mk tysC
end
section
attribute [local go_sem] tqX tyY rs_len rs_g0 rs_g rs_s0 rs_s rs_sv Typ.v Typ.cs_eq tk_mk tname_mk tn_mk tl_mk tysC

end
section
attribute [local go_sem] tqX tyY rs_len rs_g0 rs_g rs_s0 rs_s rs_sv Typ.v Typ.cs_eq tk_mk tname_mk tn_mk tl_mk tysC

theorem typ_len {p : Typ} {args : List V} (h : ∀ y ∈ args, V.Sz y) (hx : p.v ∈ args) : p.l.length ≤ 9223372036854775807 := by
  have := h _ hx
  rw [Typ.v, sz_agg] at this
  exact sz_rows (this (.c (.sl (p.l.map Typ.cs))) (by simp))
theorem ref05_Same (w0 : World) (p : Typ) : ∀ (q : Typ) (σ : H), DC Tryz.prog w0 26 [p.v, q.v] σ (Same (B (sameTy p q)) σ) := by
  refine Typ.ind (P := fun p => ∀ (q : Typ) (σ : H), DC Tryz.prog w0 26 [p.v, q.v] σ (Same (B (sameTy p q)) σ)) (fun p ih q σ => ?_) p
  refine go26 rfl (fun hok hsz => ?_)
  have hlen := typ_len hsz (List.mem_cons_self ..)
  have hlq : ((p.l.length : Int) == (q.l.length : Int)) = (p.l.length == q.l.length) := by rw [Bool.eq_iff_iff]; simp; omega
  have hnl : p.l.length ≠ q.l.length → zipAll sameTy p.l q.l = false := zipAll_len
  (((first | refine W.advO 5000 _ _ ?_ | skip); (try simp only [bne, go_sem, seval, ↓reduceIte, reduceCtorEq, c26, hlq, *])); (repeat' (first | (refine W.yes rfl ?_; (refine W.advO 5000 _ _ ?_; simp only [bne, go_sem, seval, ↓reduceIte, reduceCtorEq, c26, hlq, *])) | (refine W.no rfl ?_; (refine W.advO 5000 _ _ ?_; simp only [bne, go_sem, seval, ↓reduceIte, reduceCtorEq, c26, hlq, *])) | (refine W.testn rfl (fun hT => ?_) (fun hT => ?_) <;> (refine W.advO 5000 _ _ ?_; simp only [bne, go_sem, seval, ↓reduceIte, reduceCtorEq, c26, hlq, *])) | (refine W.test rfl (fun hT => ?_) (fun hT => ?_) <;> (refine W.advO 5000 _ _ ?_; simp only [bne, go_sem, seval, ↓reduceIte, reduceCtorEq, c26, hlq, *])) | (refine advG_ifn _ _ _ _ (fun hT => ?_) (fun hT => ?_) <;> simp only [bne, go_sem, seval, ↓reduceIte, reduceCtorEq, c26, hlq, *]) | (refine advG_if _ _ _ _ (fun hT => ?_) (fun hT => ?_) <;> simp only [bne, go_sem, seval, ↓reduceIte, reduceCtorEq, c26, hlq, *]))))
  all_goals (try (refine W.ret (Fin.sameW (hok) (by (first | rfl | exact List.length_set .. | simp)) (by simp only [resEval, r26, go_sem, seval, ↓reduceIte, reduceCtorEq]; rfl) ?_ (by (first | exact .c _ | (simp only [I, S, B, opsC, toksC, Pre.v, Tok.v, OpT.v, low_c, low_void, low_any, low_csl, low_nilf, low_ptr, low_osl, low_agg, low_tup, low_fn, List.forall_mem_cons, List.not_mem_nil, false_implies, implies_true, and_self, and_true, true_and]; done))) (by (first | rfl | exact (List.append_nil _).symm))); simp only [resV]; (first | exact V.wk.rfl _ | (refine wk_bool ?_; clear hsz hok; rw [sameTy_eq] <;> ((try simp only [beq_iff_eq, beq_eq_false_iff_ne, ne_eq, decide_eq_true_eq, decide_eq_false_iff_not] at *); first | (exfalso; omega) | (simp [hnl, *]; done) | (simp [hnl, *]; omega) | (simp [hnl, *]))))))
  simp only [beq_iff_eq, beq_eq_false_iff_ne, Bool.not_eq_true', Bool.not_eq_false'] at *
  have hl : p.l.length = q.l.length := by assumption
  have hs0 : sameTy p q = zipAll sameTy p.l q.l := by rw [sameTy_eq]; simp [*]
  refine W.loopP (fun i => i ≤ p.l.length ∧ ∀ j (hj : j < p.l.length) (hj' : j < q.l.length), j < i → sameTy p.l[j] q.l[j] = true) (fun i => ⟨((((base.put (some 2) (.ptr σ.length 0)).put (some 3) (.ptr (σ.length + 1) 0)).put (some 4) (B false)).put (some 5) (I (i : Nat))), σ ++ [.cells p.v.cellsV, .cells q.v.cellsV]⟩) (fun i => p.l.length - i) 0 ⟨Nat.zero_le _, fun _ _ _ h => absurd h (by omega)⟩ ?_ (fun i hi => ?_)
  · (refine Lew.env ?_; (repeat' (first | exact LeE.base _ | (refine LeE.put ?_ (by first | exact V.wk.rfl _ | exact V.wk.osl _ _ | exact V.wk.csl _)))))
  · obtain ⟨hi, hinv⟩ := hi
    by_cases hlt : i < p.l.length
    · have h1 : ((i : Int) < (p.l.length : Int)) := by omega
      have h2 : ((i : Int) < (q.l.length : Int)) := by omega
      have hltr : i < q.l.length := by omega
      have hx : p.l[i]? = some p.l[i] := List.getElem?_eq_getElem hlt
      have hy : q.l[i]? = some q.l[i] := List.getElem?_eq_getElem hltr
      have hw : IntKind.i64.wrap ((i : Int) + 1) = ((i + 1 : Nat) : Int) := wrap_next hlt hlen
      ((first | refine W.advO 5000 _ _ ?_ | skip); simp only [go_sem, seval, ↓reduceIte, reduceCtorEq, h1])
      refine W.yes rfl ?_
      ((first | refine W.advO 5000 _ _ ?_ | skip); simp only [go_sem, seval, ↓reduceIte, reduceCtorEq])
      apply W.dregE (List.cons_ne_nil _ _)
      case hc =>
        (apply CanonE.advPO; simp only [advPO_nil, advPO_loud, advPO_quiet, pL_yes, pL_no, pLS_some, pLS_none, pQ_yes, pQ_no, pQS_some, pQS_loud, eq_self, Nat.sub_zero, go_sem, seval, ↓reduceIte, reduceCtorEq, h1, h2, nat0, hx, hy])
        (apply CanonE.call (ih p.l[i] (List.getElem_mem hlt) q.l[i] _); (case hg => rfl); (case hf => rfl); (case ha => first | rfl | simp))
        (apply CanonE.advPO; simp only [advPO_nil, advPO_loud, advPO_quiet, pL_yes, pL_no, pLS_some, pLS_none, pQ_yes, pQ_no, pQS_some, pQS_loud, eq_self, Nat.sub_zero, go_sem, seval, ↓reduceIte, reduceCtorEq])
        exact CanonE.nil
      ((first | refine W.advO 5000 _ _ ?_ | skip); simp only [go_sem, seval, ↓reduceIte, reduceCtorEq])
      refine W.testn rfl (fun h => ?_) (fun h => ?_)
      · ((first | refine W.advO 5000 _ _ ?_ | skip); simp only [go_sem, seval, ↓reduceIte, reduceCtorEq, hw])
        refine .inv ⟨i + 1, ⟨hlt, fun j hj hj' hji => ?_⟩, by omega, ?_⟩
        · rcases Nat.lt_succ_iff_lt_or_eq.1 hji with h' | h'
          · exact hinv j hj hj' h'
          · subst h'; exact h
        · (refine Lew.env ?_; (repeat' (first | exact LeE.base _ | (refine LeE.put ?_ (by first | exact V.wk.rfl _ | exact V.wk.osl _ _ | exact V.wk.csl _)))))
      · ((first | refine W.advO 5000 _ _ ?_ | skip); simp only [go_sem, seval, ↓reduceIte, reduceCtorEq])
        (refine W.ret (Fin.sameW (hok) (by (first | rfl | exact List.length_set .. | simp)) (by simp only [resEval, r26, go_sem, seval, ↓reduceIte, reduceCtorEq]; rfl) ?_ (by (first | exact .c _ | (simp only [I, S, B, opsC, toksC, Pre.v, Tok.v, OpT.v, low_c, low_void, low_any, low_csl, low_nilf, low_ptr, low_osl, low_agg, low_tup, low_fn, List.forall_mem_cons, List.not_mem_nil, false_implies, implies_true, and_self, and_true, true_and]; done))) (by (first | rfl | exact (List.append_nil _).symm))); simp only [resV]; try exact V.wk.rfl _)
        rw [hs0, zipAll_no hlt hltr h]
        exact .rfl _
    · have h1 : ¬ ((i : Int) < (p.l.length : Int)) := by omega
      ((first | refine W.advO 5000 _ _ ?_ | skip); simp only [go_sem, seval, ↓reduceIte, reduceCtorEq, h1])
      refine W.no rfl ?_
      ((first | refine W.advO 5000 _ _ ?_ | skip); simp only [go_sem, seval, ↓reduceIte, reduceCtorEq])
      (refine W.ret (Fin.sameW (hok) (by (first | rfl | exact List.length_set .. | simp)) (by simp only [resEval, r26, go_sem, seval, ↓reduceIte, reduceCtorEq]; rfl) ?_ (by (first | exact .c _ | (simp only [I, S, B, opsC, toksC, Pre.v, Tok.v, OpT.v, low_c, low_void, low_any, low_csl, low_nilf, low_ptr, low_osl, low_agg, low_tup, low_fn, List.forall_mem_cons, List.not_mem_nil, false_implies, implies_true, and_self, and_true, true_and]; done))) (by (first | rfl | exact (List.append_nil _).symm))); simp only [resV]; try exact V.wk.rfl _)
      rw [hs0, zipAll_yes hl (fun j hj hj' => hinv j hj hj' (by omega))]
      exact .rfl _
end
section

theorem pre_len {p : Pre} {args : List V} (h : ∀ y ∈ args, V.Sz y) (hx : p.v ∈ args) : p.l.length ≤ 9223372036854775807 := by
  have := h _ hx
  rw [Pre.v, sz_agg] at this
  exact sz_rows (this (.c (.sl (p.l.map Pre.cs))) (by simp))
theorem ref03_Same (w0 : World) (p : Pre) : ∀ (q : Pre) (σ : H), DC Tryz.prog w0 104 [p.v, q.v] σ (Same (B (samePre p q)) σ) := by
  refine Pre.ind (P := fun p => ∀ (q : Pre) (σ : H), DC Tryz.prog w0 104 [p.v, q.v] σ (Same (B (samePre p q)) σ)) (fun p ih q σ => ?_) p
  refine go104 rfl (fun hok hsz => ?_)
  have hlen := pre_len hsz (List.mem_cons_self ..)
  have hlq : ((p.l.length : Int) == (q.l.length : Int)) = (p.l.length == q.l.length) := by rw [Bool.eq_iff_iff]; simp; omega
  have hnl : p.l.length ≠ q.l.length → zipAll samePre p.l q.l = false := zipAll_len
  (((first | refine W.advO 5000 _ _ ?_ | skip); (try simp only [bne, go_sem, seval, ↓reduceIte, reduceCtorEq, c104, hlq, *])); (repeat' (first | (refine W.yes rfl ?_; (refine W.advO 5000 _ _ ?_; simp only [bne, go_sem, seval, ↓reduceIte, reduceCtorEq, c104, hlq, *])) | (refine W.no rfl ?_; (refine W.advO 5000 _ _ ?_; simp only [bne, go_sem, seval, ↓reduceIte, reduceCtorEq, c104, hlq, *])) | (refine W.testn rfl (fun hT => ?_) (fun hT => ?_) <;> (refine W.advO 5000 _ _ ?_; simp only [bne, go_sem, seval, ↓reduceIte, reduceCtorEq, c104, hlq, *])) | (refine W.test rfl (fun hT => ?_) (fun hT => ?_) <;> (refine W.advO 5000 _ _ ?_; simp only [bne, go_sem, seval, ↓reduceIte, reduceCtorEq, c104, hlq, *])) | (refine advG_ifn _ _ _ _ (fun hT => ?_) (fun hT => ?_) <;> simp only [bne, go_sem, seval, ↓reduceIte, reduceCtorEq, c104, hlq, *]) | (refine advG_if _ _ _ _ (fun hT => ?_) (fun hT => ?_) <;> simp only [bne, go_sem, seval, ↓reduceIte, reduceCtorEq, c104, hlq, *]))))
  all_goals (try (refine W.ret (Fin.sameW (hok) (by (first | rfl | exact List.length_set .. | simp)) (by simp only [resEval, r104, go_sem, seval, ↓reduceIte, reduceCtorEq]; rfl) ?_ (by (first | exact .c _ | (simp only [I, S, B, opsC, toksC, Pre.v, Tok.v, OpT.v, low_c, low_void, low_any, low_csl, low_nilf, low_ptr, low_osl, low_agg, low_tup, low_fn, List.forall_mem_cons, List.not_mem_nil, false_implies, implies_true, and_self, and_true, true_and]; done))) (by (first | rfl | exact (List.append_nil _).symm))); simp only [resV]; (first | exact V.wk.rfl _ | (refine wk_bool ?_; clear hsz hok; rw [samePre_eq] <;> ((try simp only [beq_iff_eq, beq_eq_false_iff_ne, ne_eq, decide_eq_true_eq, decide_eq_false_iff_not] at *); first | (exfalso; omega) | (simp [hnl, *]; done) | (simp [hnl, *]; omega) | (simp [hnl, *]))))))
  simp only [beq_iff_eq, beq_eq_false_iff_ne, Bool.not_eq_true', Bool.not_eq_false'] at *
  have hl : p.l.length = q.l.length := by assumption
  have hs0 : samePre p q = zipAll samePre p.l q.l := by rw [samePre_eq]; simp [*]
  refine W.loopP (fun i => i ≤ p.l.length ∧ ∀ j (hj : j < p.l.length) (hj' : j < q.l.length), j < i → samePre p.l[j] q.l[j] = true) (fun i => ⟨((((base.put (some 2) (.ptr σ.length 0)).put (some 3) (.ptr (σ.length + 1) 0)).put (some 4) (B false)).put (some 5) (I (i : Nat))), σ ++ [.cells p.v.cellsV, .cells q.v.cellsV]⟩) (fun i => p.l.length - i) 0 ⟨Nat.zero_le _, fun _ _ _ h => absurd h (by omega)⟩ ?_ (fun i hi => ?_)
  · (refine Lew.env ?_; (repeat' (first | exact LeE.base _ | (refine LeE.put ?_ (by first | exact V.wk.rfl _ | exact V.wk.osl _ _ | exact V.wk.csl _)))))
  · obtain ⟨hi, hinv⟩ := hi
    by_cases hlt : i < p.l.length
    · have h1 : ((i : Int) < (p.l.length : Int)) := by omega
      have h2 : ((i : Int) < (q.l.length : Int)) := by omega
      have hltr : i < q.l.length := by omega
      have hx : p.l[i]? = some p.l[i] := List.getElem?_eq_getElem hlt
      have hy : q.l[i]? = some q.l[i] := List.getElem?_eq_getElem hltr
      have hw : IntKind.i64.wrap ((i : Int) + 1) = ((i + 1 : Nat) : Int) := wrap_next hlt hlen
      ((first | refine W.advO 5000 _ _ ?_ | skip); simp only [go_sem, seval, ↓reduceIte, reduceCtorEq, h1])
      refine W.yes rfl ?_
      ((first | refine W.advO 5000 _ _ ?_ | skip); simp only [go_sem, seval, ↓reduceIte, reduceCtorEq])
      apply W.dregE (List.cons_ne_nil _ _)
      case hc =>
        (apply CanonE.advPO; simp only [advPO_nil, advPO_loud, advPO_quiet, pL_yes, pL_no, pLS_some, pLS_none, pQ_yes, pQ_no, pQS_some, pQS_loud, eq_self, Nat.sub_zero, go_sem, seval, ↓reduceIte, reduceCtorEq, h1, h2, nat0, hx, hy])
        (apply CanonE.call (ih p.l[i] (List.getElem_mem hlt) q.l[i] _); (case hg => rfl); (case hf => rfl); (case ha => first | rfl | simp))
        (apply CanonE.advPO; simp only [advPO_nil, advPO_loud, advPO_quiet, pL_yes, pL_no, pLS_some, pLS_none, pQ_yes, pQ_no, pQS_some, pQS_loud, eq_self, Nat.sub_zero, go_sem, seval, ↓reduceIte, reduceCtorEq])
        exact CanonE.nil
      ((first | refine W.advO 5000 _ _ ?_ | skip); simp only [go_sem, seval, ↓reduceIte, reduceCtorEq])
      refine W.testn rfl (fun h => ?_) (fun h => ?_)
      · ((first | refine W.advO 5000 _ _ ?_ | skip); simp only [go_sem, seval, ↓reduceIte, reduceCtorEq, hw])
        refine .inv ⟨i + 1, ⟨hlt, fun j hj hj' hji => ?_⟩, by omega, ?_⟩
        · rcases Nat.lt_succ_iff_lt_or_eq.1 hji with h' | h'
          · exact hinv j hj hj' h'
          · subst h'; exact h
        · (refine Lew.env ?_; (repeat' (first | exact LeE.base _ | (refine LeE.put ?_ (by first | exact V.wk.rfl _ | exact V.wk.osl _ _ | exact V.wk.csl _)))))
      · ((first | refine W.advO 5000 _ _ ?_ | skip); simp only [go_sem, seval, ↓reduceIte, reduceCtorEq])
        (refine W.ret (Fin.sameW (hok) (by (first | rfl | exact List.length_set .. | simp)) (by simp only [resEval, r104, go_sem, seval, ↓reduceIte, reduceCtorEq]; rfl) ?_ (by (first | exact .c _ | (simp only [I, S, B, opsC, toksC, Pre.v, Tok.v, OpT.v, low_c, low_void, low_any, low_csl, low_nilf, low_ptr, low_osl, low_agg, low_tup, low_fn, List.forall_mem_cons, List.not_mem_nil, false_implies, implies_true, and_self, and_true, true_and]; done))) (by (first | rfl | exact (List.append_nil _).symm))); simp only [resV]; try exact V.wk.rfl _)
        rw [hs0, zipAll_no hlt hltr h]
        exact .rfl _
    · have h1 : ¬ ((i : Int) < (p.l.length : Int)) := by omega
      ((first | refine W.advO 5000 _ _ ?_ | skip); simp only [go_sem, seval, ↓reduceIte, reduceCtorEq, h1])
      refine W.no rfl ?_
      ((first | refine W.advO 5000 _ _ ?_ | skip); simp only [go_sem, seval, ↓reduceIte, reduceCtorEq])
      (refine W.ret (Fin.sameW (hok) (by (first | rfl | exact List.length_set .. | simp)) (by simp only [resEval, r104, go_sem, seval, ↓reduceIte, reduceCtorEq]; rfl) ?_ (by (first | exact .c _ | (simp only [I, S, B, opsC, toksC, Pre.v, Tok.v, OpT.v, low_c, low_void, low_any, low_csl, low_nilf, low_ptr, low_osl, low_agg, low_tup, low_fn, List.forall_mem_cons, List.not_mem_nil, false_implies, implies_true, and_self, and_true, true_and]; done))) (by (first | rfl | exact (List.append_nil _).symm))); simp only [resV]; try exact V.wk.rfl _)
      rw [hs0, zipAll_yes hl (fun j hj hj' => hinv j hj hj' (by omega))]
      exact .rfl _
theorem samePre_moved {K : Nat} {k : Int} {p : Pre} : samePre p (if k = 3 then p.shift K else p) = true := by
  split
  · exact samePre_shift K p
  · exact samePre_refl p
theorem names_len {x : Sent} {l : List V} (h : ∀ y ∈ x.v :: l, V.Sz y) : x.names.length ≤ 9223372036854775807 := by
  have h := h _ (List.mem_cons_self ..)
  rw [Sent.v, sz_agg] at h
  have h1 := h (.c (strsC x.names)) (by simp)
  rw [strsC] at h1
  exact sz_rows h1
theorem ref10_Same (w0 : World) (x : Sent) (σ : H) : DC Tryz.prog w0 51 [x.v, x.v] σ (Same (B true) σ) := by
  refine go51 rfl (fun hok hsz => ?_)
  have hlen : x.names.length ≤ 9223372036854775807 := names_len hsz
  ((first | refine W.advO 5000 _ _ ?_ | skip); simp only [go_sem, seval, ↓reduceIte, reduceCtorEq, c51, Sent.v, strsC, bne_self_eq_false'])
  refine W.no rfl ?_
  ((first | refine W.advO 5000 _ _ ?_ | skip); simp only [go_sem, seval, ↓reduceIte, reduceCtorEq])
  refine W.loopP (fun i => i ≤ x.names.length) (fun i => ⟨((((base.put (some 2) (.ptr σ.length 0)).put (some 3) (.ptr (σ.length + 1) 0)).put (some 4) (B false)).put (some 5) (I (i : Nat))), σ ++ [.cells x.v.cellsV, .cells x.v.cellsV]⟩) (fun i => x.names.length - i) 0 (Nat.zero_le _) ?_ (fun i hi => ?_)
  · (refine Lew.env ?_; (repeat' (first | exact LeE.base _ | (refine LeE.put ?_ (by first | exact V.wk.rfl _ | exact V.wk.osl _ _ | exact V.wk.csl _)))))
  · by_cases hlt : i < x.names.length
    · have h1 : ((i : Int) < (x.names.length : Int)) := by omega
      have hx : x.names[i]? = some x.names[i] := List.getElem?_eq_getElem hlt
      have hw : IntKind.i64.wrap ((i : Int) + 1) = ((i + 1 : Nat) : Int) := wrap_next hlt hlen
      ((first | refine W.advO 5000 _ _ ?_ | skip); simp only [go_sem, seval, ↓reduceIte, reduceCtorEq, Sent.v, strsC, h1])
      refine W.yes rfl ?_
      ((first | refine W.advO 5000 _ _ ?_ | skip); simp only [go_sem, seval, ↓reduceIte, reduceCtorEq])
      (apply W.dregE (List.cons_ne_nil _ _); case hc => ((apply CanonE.advPO; simp only [advPO_nil, advPO_loud, advPO_quiet, pL_yes, pL_no, pLS_some, pLS_none, pQ_yes, pQ_no, pQS_some, pQS_loud, eq_self, Nat.sub_zero, go_sem, seval, ↓reduceIte, reduceCtorEq, h1, nat0, hx, Sent.v, strsC]); exact CanonE.nil))
      ((first | refine W.advO 5000 _ _ ?_ | skip); simp only [go_sem, seval, ↓reduceIte, reduceCtorEq, bne_self_eq_false'])
      refine W.no rfl ?_
      ((first | refine W.advO 5000 _ _ ?_ | skip); simp only [go_sem, seval, ↓reduceIte, reduceCtorEq, hw])
      refine .inv ⟨i + 1, hlt, by omega, ?_⟩
      (refine Lew.env ?_; (repeat' (first | exact LeE.base _ | (refine LeE.put ?_ (by first | exact V.wk.rfl _ | exact V.wk.osl _ _ | exact V.wk.csl _)))))
    · have h1 : ¬ ((i : Int) < (x.names.length : Int)) := by omega
      ((first | refine W.advO 5000 _ _ ?_ | skip); simp only [go_sem, seval, ↓reduceIte, reduceCtorEq, Sent.v, strsC, h1])
      refine W.no rfl ?_
      ((first | refine W.advO 5000 _ _ ?_ | skip); simp only [go_sem, seval, ↓reduceIte, reduceCtorEq])
      (refine W.call1 (ref05_Same w0 x.ty x.ty _) rfl rfl (by first | rfl | simp) ?_; refine W.advO 5000 _ _ ?_; simp only [go_sem, seval, ↓reduceIte, reduceCtorEq, sameTy_refl])
      (refine W.call1 (ref03_Exact w0 x.body _) rfl rfl (by first | rfl | simp) ?_; refine W.advO 5000 _ _ ?_; simp only [go_sem, seval, ↓reduceIte, reduceCtorEq])
      (refine W.ret (Fin.sameW (hok) (by (first | rfl | exact List.length_set .. | simp)) (by simp only [resEval, r51, go_sem, seval, ↓reduceIte, reduceCtorEq]; rfl) ?_ (by (first | exact .c _ | (simp only [I, S, B, opsC, toksC, Pre.v, Tok.v, OpT.v, low_c, low_void, low_any, low_csl, low_nilf, low_ptr, low_osl, low_agg, low_tup, low_fn, List.forall_mem_cons, List.not_mem_nil, false_implies, implies_true, and_self, and_true, true_and]; done))) (by (first | rfl | exact (List.append_nil _).symm))); simp only [resV]; try exact V.wk.rfl _)
theorem law10_alike (w0 : World) (x : Sent) (K : Nat) (σ : H) : DC Tryz.prog w0 52 [x.v, (x.shift K).v] σ (Same (B true) σ) := by
  refine go52 rfl (fun hok hsz => ?_)
  have hlen : x.names.length ≤ 9223372036854775807 := names_len hsz
  ((first | refine W.advO 5000 _ _ ?_ | skip); simp only [go_sem, seval, ↓reduceIte, reduceCtorEq, c52, Sent.v, strsC, bne_self_eq_false', Sent.shift])
  refine W.no rfl ?_
  ((first | refine W.advO 5000 _ _ ?_ | skip); simp only [go_sem, seval, ↓reduceIte, reduceCtorEq])
  refine W.loopP (fun i => i ≤ x.names.length) (fun i => ⟨((((base.put (some 2) (.ptr σ.length 0)).put (some 3) (.ptr (σ.length + 1) 0)).put (some 4) (B false)).put (some 5) (I (i : Nat))), σ ++ [.cells x.v.cellsV, .cells (x.shift K).v.cellsV]⟩) (fun i => x.names.length - i) 0 (Nat.zero_le _) ?_ (fun i hi => ?_)
  · (refine Lew.env ?_; (repeat' (first | exact LeE.base _ | (refine LeE.put ?_ (by first | exact V.wk.rfl _ | exact V.wk.osl _ _ | exact V.wk.csl _)))))
  · by_cases hlt : i < x.names.length
    · have h1 : ((i : Int) < (x.names.length : Int)) := by omega
      have hx : x.names[i]? = some x.names[i] := List.getElem?_eq_getElem hlt
      have hw : IntKind.i64.wrap ((i : Int) + 1) = ((i + 1 : Nat) : Int) := wrap_next hlt hlen
      ((first | refine W.advO 5000 _ _ ?_ | skip); simp only [go_sem, seval, ↓reduceIte, reduceCtorEq, Sent.v, strsC, h1, Sent.shift])
      refine W.yes rfl ?_
      ((first | refine W.advO 5000 _ _ ?_ | skip); simp only [go_sem, seval, ↓reduceIte, reduceCtorEq])
      (apply W.dregE (List.cons_ne_nil _ _); case hc => ((apply CanonE.advPO; simp only [advPO_nil, advPO_loud, advPO_quiet, pL_yes, pL_no, pLS_some, pLS_none, pQ_yes, pQ_no, pQS_some, pQS_loud, eq_self, Nat.sub_zero, go_sem, seval, ↓reduceIte, reduceCtorEq, h1, nat0, hx, Sent.v, strsC, Sent.shift]); exact CanonE.nil))
      ((first | refine W.advO 5000 _ _ ?_ | skip); simp only [go_sem, seval, ↓reduceIte, reduceCtorEq, bne_self_eq_false'])
      refine W.no rfl ?_
      ((first | refine W.advO 5000 _ _ ?_ | skip); simp only [go_sem, seval, ↓reduceIte, reduceCtorEq, hw])
      refine .inv ⟨i + 1, hlt, by omega, ?_⟩
      (refine Lew.env ?_; (repeat' (first | exact LeE.base _ | (refine LeE.put ?_ (by first | exact V.wk.rfl _ | exact V.wk.osl _ _ | exact V.wk.csl _)))))
    · have h1 : ¬ ((i : Int) < (x.names.length : Int)) := by omega
      ((first | refine W.advO 5000 _ _ ?_ | skip); simp only [go_sem, seval, ↓reduceIte, reduceCtorEq, Sent.v, strsC, h1, Sent.shift])
      refine W.no rfl ?_
      ((first | refine W.advO 5000 _ _ ?_ | skip); simp only [go_sem, seval, ↓reduceIte, reduceCtorEq])
      (refine W.call1 (ref05_Same w0 x.ty x.ty _) rfl rfl (by first | rfl | simp) ?_; refine W.advO 5000 _ _ ?_; simp only [go_sem, seval, ↓reduceIte, reduceCtorEq, sameTy_refl])
      (refine W.call1 (ref03_Same w0 x.body (if x.k = 3 then x.body.shift K else x.body) _) rfl rfl (by first | rfl | simp) ?_; refine W.advO 5000 _ _ ?_; simp only [go_sem, seval, ↓reduceIte, reduceCtorEq, samePre_moved])
      (refine W.ret (Fin.sameW (hok) (by (first | rfl | exact List.length_set .. | simp)) (by simp only [resEval, r52, go_sem, seval, ↓reduceIte, reduceCtorEq]; rfl) ?_ (by (first | exact .c _ | (simp only [I, S, B, opsC, toksC, Pre.v, Tok.v, OpT.v, low_c, low_void, low_any, low_csl, low_nilf, low_ptr, low_osl, low_agg, low_tup, low_fn, List.forall_mem_cons, List.not_mem_nil, false_implies, implies_true, and_self, and_true, true_and]; done))) (by (first | rfl | exact (List.append_nil _).symm))); simp only [resV]; try exact V.wk.rfl _)
end
end Go.Proofs.YtlogjjnimlnpkaaGreatDoor
namespace Go.Proofs.YtlogjjnimlnpkaaGreatDoor
open Go.RowKit Go.Lamb

theorem namesS_e {t : List Tok} {s : Bool} : ∀ (n i : Nat) (acc : List Tok) (x : Bad), t.length - i ≤ n → namesS t s i acc = .error x → x.e ≠ 0
  | n, i, acc, x, hn, h => by
    rw [namesS_eq] at h
    split at h
    · rename_i hh
      split at h
      · cases n with
        | zero => rw [nameHere_far s (by omega)] at hh; cases hh
        | succ n => exact namesS_e n (i + 2) _ x (by omega) h
      · cases h
    · injection h with h; subst h; simp
theorem kindS_e {t : List Tok} : ∀ (n i m : Nat) (x : Bad), t.length - i ≤ n → kindS t i m = .error x → x.e ≠ 0
  | n, i, m, x, hn, h => by
    rw [kindS_eq] at h
    split at h
    · rename_i hh
      split at h
      · cases n with
        | zero => rw [typeHere_far (by omega)] at hh; cases hh
        | succ n => exact kindS_e n (i + 2) _ x (by omega) h
      · cases h
    · injection h with h; subst h; simp
theorem declL_e {prec fix : Int} : ∀ (ns : List Tok) (l : List OpT) (x : Bad), declL prec fix l ns = .error x → x.e ≠ 0
  | [], _, _, h => by cases h
  | y :: ns, l, x, h => by
    rw [declL] at h
    split at h
    · exact declL_e ns _ x h
    · rename_i hh
      injection h with h; subst h; exact hh
theorem endS_e {t : List Tok} {s : Sent} {i : Nat} {l : List OpT} {x : Bad} (h : endS t s i l = .error x) : x.e ≠ 0 := by
  unfold endS at h
  split at h
  · cases h
  · injection h with h; subst h; simp
theorem sentS_e {t : List Tok} {l : List OpT} {i : Nat} {x : Bad} (ht : t.length ≤ 1000000) (h : sentS t l i = .error x) : x.e ≠ 0 := by
  have hop : ∀ fix, opSent t (i + 1) (tokL t i).pos fix l = .error x → x.e ≠ 0 := fun fix h => by
    unfold opSent at h
    split at h
    · rename_i hn
      injection h with h; subst h
      exact namesS_e _ _ _ _ (Nat.le_refl _) hn
    · split at h
      · split at h
        · split at h
          · rename_i hd
            injection h with h; subst h
            exact declL_e _ _ _ hd
          · cases h
        · injection h with h; subst h; simp
      · injection h with h; subst h; simp
  unfold sentS at h
  simp only at h
  split at h
  · unfold kindSent at h
    split at h
    · rename_i hn
      injection h with h; subst h
      exact namesS_e _ _ _ _ (Nat.le_refl _) hn
    · split at h
      · rename_i hk
        injection h with h; subst h
        exact kindS_e _ _ _ _ (Nat.le_refl _) hk
      · exact endS_e h
  · split at h
    · unfold typeSent at h
      split at h
      · rename_i hn
        injection h with h; subst h
        exact namesS_e _ _ _ _ (Nat.le_refl _) hn
      · split at h
        · rename_i hk
          injection h with h; subst h
          have := tyT_err ht hk
          simpa using this
        · exact endS_e h
    · split at h
      · exact hop _ h
      · split at h
        · exact hop _ h
        · split at h
          · exact hop _ h
          · unfold clauseSent at h
            split at h
            · rename_i hk
              injection h with h; subst h
              have hE := exprT_is l t i
              rw [hk] at hE
              have := Lamb.Expr.err hE
              simpa using this
            · exact endS_e h
theorem sentS_pos {t : List Tok} {l l' : List OpT} {i j : Nat} {s : Sent} (h : sentS t l i = .ok (s, j, l')) : s.pos = (tokL t i).pos := by
  rw [sentS_dot] at h
  unfold dotP at h
  split at h
  · cases h
  · split at h
    · injection h with h; injection h with h _; subst h; rfl
    · unfold endS at h
      split at h
      · injection h with h; injection h with h _; subst h; rfl
      · cases h
theorem allS_e {t : List Tok} (ht : t.length ≤ 1000000) : ∀ (n : Nat) (l : List OpT) (i : Nat) (acc : List Sent) (x : Bad), t.length - i ≤ n → allS t l i acc = .error x → x.e ≠ 0
  | n, l, i, acc, x, hn, h => by
    rw [allS_eq] at h
    split at h
    · cases h
    · rename_i h0
      have := tokL_lt h0
      split at h
      · rename_i hs
        injection h with h; subst h
        exact sentS_e ht hs
      · rename_i s j l' hs
        have hf := sentS_far hs
        cases n with
        | zero => omega
        | succ n => exact allS_e ht n l' j _ x (by omega) h
theorem allS_ok {t : List Tok} {P : Int → Prop} (hP : ∀ i, P (tokL t i).pos) : ∀ (n : Nat) (l : List OpT) (i : Nat) (acc : List Sent) (xs : List Sent) (l' : List OpT), t.length - i ≤ n → i ≤ t.length → (∀ x ∈ acc, P x.pos) → allS t l i acc = .ok (xs, l') → xs.length + i ≤ acc.length + t.length ∧ ∀ x ∈ xs, P x.pos
  | n, l, i, acc, xs, l', hn, hi, ha, h => by
    rw [allS_eq] at h
    split at h
    · injection h with h; injection h with h _; subst h
      exact ⟨by omega, ha⟩
    · rename_i h0
      have := tokL_lt h0
      split at h
      · cases h
      · rename_i s j l2 hs
        have hf := sentS_far hs
        cases n with
        | zero => omega
        | succ n =>
          have := allS_ok hP n l2 j (acc ++ [s]) xs l' (by omega) hf.2 (fun x hx => by
            rcases List.mem_append.1 hx with h' | h'
            · exact ha x h'
            · rw [List.mem_singleton.1 h', sentS_pos hs]; exact hP i) h
          rw [List.length_append] at this
          simp only [List.length_cons, List.length_nil] at this
          exact ⟨by omega, this.2⟩
theorem tok_place {s : List UInt8} (hs : s.length ≤ 65536) (he : (lexL s).err = 0) (i : Nat) : 0 ≤ (tokL (lexL s).toks i).pos ∧ (tokL (lexL s).toks i).pos ≤ s.length := by
  obtain ⟨hg, hne, _⟩ := good_lexL hs he
  have hp : 0 < (lexL s).toks.length := List.length_pos_iff.2 hne
  have hk : ∀ k (h : k < (lexL s).toks.length), 0 ≤ ((lexL s).toks[k]).pos ∧ ((lexL s).toks[k]).pos ≤ s.length := fun k h => by
    have := toAt_ok h hg
    have h1 := this.pos
    have h2 := this.le
    omega
  rcases Nat.lt_or_ge i (lexL s).toks.length with h | h
  · rw [tokL_in h]; exact hk i h
  · rw [tokL_out h]
    obtain ⟨x, h1, h2⟩ := lastPos_at hp
    have h3 := hk ((lexL s).toks.length - 1) (by omega)
    rw [List.getElem?_eq_getElem (by omega)] at h1
    injection h1 with h1
    show 0 ≤ lastPos (lexL s).toks ∧ lastPos (lexL s).toks ≤ s.length
    rw [h2, ← h1]; exact h3
theorem readS_e {s : List UInt8} {x : Bad} (hs : s.length ≤ 2048) (h : readS s = .error x) : (x.e != 0) = true := by
  have : x.e ≠ 0 := by
    unfold readS at h
    by_cases he : (lexL s).err = 0
    · rw [if_pos he] at h
      exact allS_e (by have := lexL_count s; omega) _ _ _ _ _ (Nat.le_refl _) h
    · rw [if_neg he] at h
      injection h with h; subst h; exact he
  simpa using this
theorem readS_k {s : List UInt8} {xs : List Sent} {l : List OpT} (hs : s.length ≤ 2048) (h : readS s = .ok (xs, l)) : (lexL s).err = 0 ∧ allS (lexL s).toks ops0 0 [] = .ok (xs, l) ∧ xs.length ≤ s.length + 1 ∧ ∀ x ∈ xs, 0 ≤ x.pos ∧ x.pos ≤ s.length := by
  unfold readS at h
  by_cases he : (lexL s).err = 0
  · rw [if_pos he] at h
    have := allS_ok (t := (lexL s).toks) (P := fun p => 0 ≤ p ∧ p ≤ s.length) (fun i => tok_place (by omega) he i) _ ops0 0 [] xs l (Nat.le_refl _) (Nat.zero_le _) (fun _ h => by cases h) h
    have hc := lexL_count s
    simp only [List.length_nil] at this
    exact ⟨he, h, by omega, this.2⟩
  · rw [if_neg he] at h; cases h
theorem readS_m {s : List UInt8} {xs : List Sent} {l : List OpT} (he : (lexL s).err = 0) (h : allS (lexL s).toks ops0 0 [] = .ok (xs, l)) : readS s = .ok (xs, l) := by
  unfold readS
  rw [if_pos he]; exact h
end Go.Proofs.YtlogjjnimlnpkaaGreatDoor
namespace Go.Proofs.YtlogjjnimlnpkaaGreatDoor
open Go.RowKit Go.Lamb
attribute [local go_sem] advO_skip advO_reg advO_seq advO_block advO_exit advO_endb advO_opsNil advO_ops advG_yes advG_no advG_none advS_some advS_none advO_cond advO_loop advO_dreg advO_ret advO_bad advO_inv advO_nil advO_zero wantedV Lamb.step ev_t ev_k put_some put_none argEnv popTo cellsAt V.cellsV V.rows V.toC toCs fillV bytesC byteRows appV rowsV boundV boundL binV binInt binStr eqC eqL V.isNil leaves V.leaf Ins.quiet Ins.pure List.getD_cons_zero List.getD_cons_succ List.getD_nil List.all_cons List.all_nil List.length_cons List.length_nil List.take_succ_cons List.take_zero List.drop_succ_cons List.drop_zero List.cons_append List.nil_append List.append_nil List.append_assoc List.map_cons List.map_nil List.getElem?_cons_zero List.getElem?_cons_succ List.length_append List.length_set hget0 hget hset0 hset hsets hgs0 hgs hss0 hss List.set_cons_zero List.set_cons_succ List.forall_mem_cons List.not_mem_nil false_implies implies_true Option.map_some Bool.and_true Bool.true_and Bool.not_not Bool.not_true Bool.not_false Bool.and_self Bool.or_true Bool.true_or Bool.or_false Bool.false_or Bool.and_false Bool.false_and Bool.false_eq_true beq_self_eq_true and_self and_true true_and if_true if_false Nat.zero_add Nat.add_zero Nat.le_refl Int.toNat_natCast decide_true decide_false beq_t beq_f List.length_map List.getElem?_map I S B opsC toksC OpT.v OpT.cs OpT.zero Tok.v Tok.cs Pre.v Pre.cs_eq k_mk name_mk n_mk l_mk pos_mk Pre.app applyL natCast0 natCast1 natCast2

def NoOp (xs : List Sent) (k : Nat) : Prop := ∀ q (h : q < xs.length), q < k → xs[q].k ≠ 2
theorem NoOp.next {xs : List Sent} {k : Nat} (h : NoOp xs k) (hk : k < xs.length) (h2 : xs[k].k ≠ 2) : NoOp xs (k + 1) := fun q hq hqk => by
  rcases Nat.lt_succ_iff_lt_or_eq.1 hqk with h' | h'
  · exact h q hq h'
  · subst h'; exact h2
theorem NoOp.all {xs : List Sent} {k : Nat} (h : NoOp xs k) (hk : xs.length ≤ k) : ∀ x ∈ xs, x.k ≠ 2 := fun x hx => by
  obtain ⟨q, hq, rfl⟩ := List.getElem_of_mem hx
  exact h q hq (by omega)
theorem law10_SourceGlue {w0 : World} (hG : Glob w0) (a b : List UInt8) (σ : H) : DC Tryz.prog w0 11 [S a, S b] σ (Same (B true) σ) := by
  refine go11 rfl (fun hok hsz => ?_)
  ((first | refine W.advO 5000 _ _ ?_ | skip); simp only [go_sem, seval, ↓reduceIte, reduceCtorEq, c11])
  (refine W.call1 (law10_works hG _) rfl rfl (by first | rfl | simp) ?_; refine W.advO 5000 _ _ ?_; simp only [go_sem, seval, ↓reduceIte, reduceCtorEq])
  refine W.no rfl ?_
  by_cases ha : a.length > 600
  · have h1 : (a.length : Int) > 600 := by omega
    ((first | refine W.advO 5000 _ _ ?_ | skip); simp only [go_sem, seval, ↓reduceIte, reduceCtorEq, h1])
    refine W.yes rfl ?_
    ((first | refine W.advO 5000 _ _ ?_ | skip); simp only [go_sem, seval, ↓reduceIte, reduceCtorEq])
    (refine W.ret (Fin.sameW (hok) (by (first | rfl | exact List.length_set .. | simp)) (by simp only [resEval, r11, go_sem, seval, ↓reduceIte, reduceCtorEq]; rfl) ?_ (by (first | exact .c _ | (simp only [I, S, B, opsC, toksC, Pre.v, Tok.v, OpT.v, low_c, low_void, low_any, low_csl, low_nilf, low_ptr, low_osl, low_agg, low_tup, low_fn, List.forall_mem_cons, List.not_mem_nil, false_implies, implies_true, and_self, and_true, true_and]; done))) (by (first | rfl | exact (List.append_nil _).symm))); simp only [resV]; try exact V.wk.rfl _)
  have h1 : ¬ (a.length : Int) > 600 := by omega
  by_cases hb : b.length > 600
  · have h2 : (b.length : Int) > 600 := by omega
    ((first | refine W.advO 5000 _ _ ?_ | skip); simp only [go_sem, seval, ↓reduceIte, reduceCtorEq, h1, h2])
    refine W.yes rfl ?_
    ((first | refine W.advO 5000 _ _ ?_ | skip); simp only [go_sem, seval, ↓reduceIte, reduceCtorEq])
    (refine W.ret (Fin.sameW (hok) (by (first | rfl | exact List.length_set .. | simp)) (by simp only [resEval, r11, go_sem, seval, ↓reduceIte, reduceCtorEq]; rfl) ?_ (by (first | exact .c _ | (simp only [I, S, B, opsC, toksC, Pre.v, Tok.v, OpT.v, low_c, low_void, low_any, low_csl, low_nilf, low_ptr, low_osl, low_agg, low_tup, low_fn, List.forall_mem_cons, List.not_mem_nil, false_implies, implies_true, and_self, and_true, true_and]; done))) (by (first | rfl | exact (List.append_nil _).symm))); simp only [resV]; try exact V.wk.rfl _)
  have h2 : ¬ (b.length : Int) > 600 := by omega
  ((first | refine W.advO 5000 _ _ ?_ | skip); simp only [go_sem, seval, ↓reduceIte, reduceCtorEq, h1, h2])
  refine W.no rfl ?_
  ((first | refine W.advO 5000 _ _ ?_ | skip); simp only [go_sem, seval, ↓reduceIte, reduceCtorEq])
  have hra := source_Read hG a (by omega)
  cases hae : readS a with
  | error x =>
    have hxe := readS_e (by omega) hae
    rw [hae] at hra
    (refine W.call1 (hra _) rfl rfl (by first | rfl | simp) ?_; refine W.advO 5000 _ _ ?_; simp only [go_sem, seval, ↓reduceIte, reduceCtorEq, srcV, hxe])
    refine W.yes rfl ?_
    ((first | refine W.advO 5000 _ _ ?_ | skip); simp only [go_sem, seval, ↓reduceIte, reduceCtorEq])
    (refine W.ret (Fin.sameW (hok) (by (first | rfl | exact List.length_set .. | simp)) (by simp only [resEval, r11, go_sem, seval, ↓reduceIte, reduceCtorEq]; rfl) ?_ (by (first | exact .c _ | (simp only [I, S, B, opsC, toksC, Pre.v, Tok.v, OpT.v, low_c, low_void, low_any, low_csl, low_nilf, low_ptr, low_osl, low_agg, low_tup, low_fn, List.forall_mem_cons, List.not_mem_nil, false_implies, implies_true, and_self, and_true, true_and]; done))) (by (first | rfl | exact (List.append_nil _).symm))); simp only [resV]; try exact V.wk.rfl _)
  | ok ra =>
  obtain ⟨xs, la⟩ := ra
  rw [hae] at hra
  obtain ⟨a1, a2, a3, a4⟩ := readS_k (by omega) hae
  (refine W.call1 (hra _) rfl rfl (by first | rfl | simp) ?_; refine W.advO 5000 _ _ ?_; simp only [go_sem, seval, ↓reduceIte, reduceCtorEq, srcV, sentsC])
  refine W.no rfl ?_
  have l1 : a.length + 1 ≤ 9223372036854775807 := by omega
  have l2 : a.length + (b.length + 1) ≤ 9223372036854775807 := by omega
  have l3 : a.length + 1 + b.length ≤ 9223372036854775807 := by omega
  have hrz := source_Read hG (a ++ 10 :: b) (by simp; omega)
  ((first | refine W.advO 5000 _ _ ?_ | skip); simp only [go_sem, seval, ↓reduceIte, reduceCtorEq, l1, l2, l3])
  --STOP
  cases hze : readS (a ++ 10 :: b) with
  | error x =>
    have hxe := readS_e (by simp; omega) hze
    rw [hze] at hrz
    (refine W.call1 (hrz _) rfl rfl (by first | rfl | simp) ?_; refine W.advO 5000 _ _ ?_; simp only [go_sem, seval, ↓reduceIte, reduceCtorEq, srcV, hxe])
    refine W.yes rfl ?_
    ((first | refine W.advO 5000 _ _ ?_ | skip); simp only [go_sem, seval, ↓reduceIte, reduceCtorEq])
    (refine W.ret (Fin.sameW (hok) (by (first | rfl | exact List.length_set .. | simp)) (by simp only [resEval, r11, go_sem, seval, ↓reduceIte, reduceCtorEq]; rfl) ?_ (by (first | exact .c _ | (simp only [I, S, B, opsC, toksC, Pre.v, Tok.v, OpT.v, low_c, low_void, low_any, low_csl, low_nilf, low_ptr, low_osl, low_agg, low_tup, low_fn, List.forall_mem_cons, List.not_mem_nil, false_implies, implies_true, and_self, and_true, true_and]; done))) (by (first | rfl | exact (List.append_nil _).symm))); simp only [resV]; try exact V.wk.rfl _)
  | ok rz =>
  obtain ⟨zs, lz⟩ := rz
  rw [hze] at hrz
  obtain ⟨z1, z2, z3, z4⟩ := readS_k (by simp; omega) hze
  obtain ⟨⟨ys0, hz0⟩, hg⟩ := glue_law (by omega) (by omega) a1 z1 a2 z2
  have hzl : ¬ (zs.length : Int) < (xs.length : Int) := by rw [hz0, List.length_append]; omega
  (refine W.call1 (hrz _) rfl rfl (by first | rfl | simp) ?_; refine W.advO 5000 _ _ ?_; simp only [go_sem, seval, ↓reduceIte, reduceCtorEq, srcV, sentsC, hzl])
  refine W.no rfl ?_
  ((first | refine W.advO 5000 _ _ ?_ | skip); simp only [go_sem, seval, ↓reduceIte, reduceCtorEq, hzl])
  refine W.no rfl ?_
  ((first | refine W.advO 5000 _ _ ?_ | skip); simp only [go_sem, seval, ↓reduceIte, reduceCtorEq])
  refine W.loopP (fun k => k ≤ xs.length ∧ NoOp xs k) (fun k => ⟨(((((((base.put (some 0) (S a)).put (some 1) (S b)).put (some 4) (B false)).put (some 5) (B true)).put (some 6) (.c (sentsC xs))).put (some 10) (.c (sentsC zs))).put (some 14) (I (k : Nat))), σ⟩) (fun k => xs.length - k) 0 ⟨Nat.zero_le _, fun _ _ h => absurd h (Nat.not_lt_zero _)⟩ ?_ (fun k hk => ?_)
  · (refine Lew.env ?_; (repeat' (first | exact LeE.base _ | (refine LeE.put ?_ (by first | exact V.wk.rfl _ | exact V.wk.osl _ _ | exact V.wk.csl _)))))
  · obtain ⟨hk, hinv⟩ := hk
    by_cases hlt : k < xs.length
    · have h1 : ((k : Int) < (xs.length : Int)) := by omega
      have h2 : ((k : Int) < (zs.length : Int)) := by omega
      have hx : xs[k]? = some xs[k] := List.getElem?_eq_getElem hlt
      have hz : zs[k]? = some xs[k] := by rw [hz0, List.getElem?_append_left hlt, hx]
      have hw : IntKind.i64.wrap ((k : Int) + 1) = ((k + 1 : Nat) : Int) := by rw [wrap_in] <;> omega
      ((first | refine W.advO 5000 _ _ ?_ | skip); simp only [go_sem, seval, ↓reduceIte, reduceCtorEq, sentsC, h1])
      refine W.yes rfl ?_
      ((first | refine W.advO 5000 _ _ ?_ | skip); simp only [go_sem, seval, ↓reduceIte, reduceCtorEq])
      apply W.dregE (List.cons_ne_nil _ _)
      case hc =>
        (apply CanonE.advPO; simp only [advPO_nil, advPO_loud, advPO_quiet, pL_yes, pL_no, pLS_some, pLS_none, pQ_yes, pQ_no, pQS_some, pQS_loud, eq_self, Nat.sub_zero, go_sem, seval, ↓reduceIte, reduceCtorEq, sentsC, h1, h2, nat0, hx, hz, sent_cs])
        (apply CanonE.call (ref10_Same w0 xs[k] _); (case hg => rfl); (case hf => rfl); (case ha => first | rfl | simp))
        (apply CanonE.advPO; simp only [advPO_nil, advPO_loud, advPO_quiet, pL_yes, pL_no, pLS_some, pLS_none, pQ_yes, pQ_no, pQS_some, pQS_loud, eq_self, Nat.sub_zero, go_sem, seval, ↓reduceIte, reduceCtorEq])
        exact CanonE.nil
      ((first | refine W.advO 5000 _ _ ?_ | skip); simp only [go_sem, seval, ↓reduceIte, reduceCtorEq])
      refine W.no rfl ?_
      by_cases hk2 : xs[k].k = 2
      · have n2 : (xs[k].k == 2) = true := by simpa using hk2
        ((first | refine W.advO 5000 _ _ ?_ | skip); simp only [go_sem, seval, ↓reduceIte, reduceCtorEq, sentsC, h1, nat0, hx, sent_cs, n2])
        refine W.yes rfl ?_
        ((first | refine W.advO 5000 _ _ ?_ | skip); simp only [go_sem, seval, ↓reduceIte, reduceCtorEq])
        (refine W.ret (Fin.sameW (hok) (by (first | rfl | exact List.length_set .. | simp)) (by simp only [resEval, r11, go_sem, seval, ↓reduceIte, reduceCtorEq]; rfl) ?_ (by (first | exact .c _ | (simp only [I, S, B, opsC, toksC, Pre.v, Tok.v, OpT.v, low_c, low_void, low_any, low_csl, low_nilf, low_ptr, low_osl, low_agg, low_tup, low_fn, List.forall_mem_cons, List.not_mem_nil, false_implies, implies_true, and_self, and_true, true_and]; done))) (by (first | rfl | exact (List.append_nil _).symm))); simp only [resV]; try exact V.wk.rfl _)
      · have n2 : (xs[k].k == 2) = false := by simpa using hk2
        ((first | refine W.advO 5000 _ _ ?_ | skip); simp only [go_sem, seval, ↓reduceIte, reduceCtorEq, sentsC, h1, nat0, hx, sent_cs, n2])
        refine W.no rfl ?_
        ((first | refine W.advO 5000 _ _ ?_ | skip); simp only [go_sem, seval, ↓reduceIte, reduceCtorEq, hw])
        refine .inv ⟨k + 1, ⟨hlt, hinv.next hlt hk2⟩, by omega, ?_⟩
        (refine Lew.env ?_; (repeat' (first | exact LeE.base _ | (refine LeE.put ?_ (by first | exact V.wk.rfl _ | exact V.wk.osl _ _ | exact V.wk.csl _)))))
    · have h1 : ¬ ((k : Int) < (xs.length : Int)) := by omega
      obtain ⟨b1, ys, lb, b2, b3⟩ := hg (hinv.all (by omega))
      have hrb := source_Read hG b (by omega)
      have hbe := readS_m b1 b2
      rw [hbe] at hrb
      obtain ⟨_, _, y3, y4⟩ := readS_k (by omega) hbe
      have hzn : (zs.length : Int) = ((xs.length + ys.length : Nat) : Int) := by rw [b3, List.length_append, List.length_map]
      have hwl : IntKind.i64.wrap ((xs.length : Int) + (ys.length : Int)) = ((xs.length + ys.length : Nat) : Int) := by rw [wrap_in] <;> omega
      ((first | refine W.advO 5000 _ _ ?_ | skip); simp only [go_sem, seval, ↓reduceIte, reduceCtorEq, sentsC, h1])
      refine W.no rfl ?_
      ((first | refine W.advO 5000 _ _ ?_ | skip); simp only [go_sem, seval, ↓reduceIte, reduceCtorEq])
      (refine W.call1 (hrb _) rfl rfl (by first | rfl | simp) ?_; refine W.advO 5000 _ _ ?_; simp only [go_sem, seval, ↓reduceIte, reduceCtorEq, srcV, sentsC, hwl, hzn, bne_self_eq_false'])
      refine W.no rfl ?_
      ((first | refine W.advO 5000 _ _ ?_ | skip); simp only [go_sem, seval, ↓reduceIte, reduceCtorEq])
      refine W.loopP (fun k => k ≤ ys.length) (fun k => ⟨((((((((base.put (some 0) (S a)).put (some 1) (S b)).put (some 4) (B false)).put (some 5) (B true)).put (some 6) (.c (sentsC xs))).put (some 10) (.c (sentsC zs))).put (some 16) (.c (sentsC ys))).put (some 20) (I (k : Nat))), σ⟩) (fun k => ys.length - k) 0 (Nat.zero_le _) ?_ (fun k hk => ?_)
      · (refine Lew.env ?_; (repeat' (first | exact LeE.base _ | (refine LeE.put ?_ (by first | exact V.wk.rfl _ | exact V.wk.osl _ _ | exact V.wk.csl _)))))
      · by_cases hlt : k < ys.length
        · have h1 : ((k : Int) < (ys.length : Int)) := by omega
          have h2 : (((xs.length + k : Nat) : Int) < (zs.length : Int)) := by omega
          have hx : ys[k]? = some ys[k] := List.getElem?_eq_getElem hlt
          have hz : zs[xs.length + k]? = some (ys[k].shift (a.length + 1)) := by
            rw [b3, List.getElem?_append_right (by omega), List.getElem?_map, show xs.length + k - xs.length = k from by omega, hx]; rfl
          have hw : IntKind.i64.wrap ((k : Int) + 1) = ((k + 1 : Nat) : Int) := by rw [wrap_in] <;> omega
          have hwk : IntKind.i64.wrap ((xs.length : Int) + (k : Int)) = ((xs.length + k : Nat) : Int) := by rw [wrap_in] <;> omega
          have hp := y4 _ (List.getElem_mem hlt)
          have hp1 : IntKind.i64.wrap (ys[k].pos + (a.length : Int)) = ys[k].pos + (a.length : Int) := by rw [wrap_in] <;> omega
          have hp2 : IntKind.i64.wrap (ys[k].pos + (a.length : Int) + 1) = ys[k].pos + (a.length : Int) + 1 := by rw [wrap_in] <;> omega
          have hp3 : (ys[k].shift (a.length + 1)).pos = ys[k].pos + (a.length : Int) + 1 := by
            show ys[k].pos + ((a.length + 1 : Nat) : Int) = _
            omega
          ((first | refine W.advO 5000 _ _ ?_ | skip); simp only [go_sem, seval, ↓reduceIte, reduceCtorEq, sentsC, h1])
          refine W.yes rfl ?_
          ((first | refine W.advO 5000 _ _ ?_ | skip); simp only [go_sem, seval, ↓reduceIte, reduceCtorEq])
          apply W.dregE (List.cons_ne_nil _ _)
          case hc =>
            (apply CanonE.advPO; simp only [advPO_nil, advPO_loud, advPO_quiet, pL_yes, pL_no, pLS_some, pLS_none, pQ_yes, pQ_no, pQS_some, pQS_loud, eq_self, Nat.sub_zero, go_sem, seval, ↓reduceIte, reduceCtorEq, sentsC, h1, h2, nat0, hx, hz, hwk, sent_cs])
            (apply CanonE.call (law10_alike w0 ys[k] (a.length + 1) _); (case hg => rfl); (case hf => rfl); (case ha => first | rfl | simp))
            (apply CanonE.advPO; simp only [advPO_nil, advPO_loud, advPO_quiet, pL_yes, pL_no, pLS_some, pLS_none, pQ_yes, pQ_no, pQS_some, pQS_loud, eq_self, Nat.sub_zero, go_sem, seval, ↓reduceIte, reduceCtorEq])
            exact CanonE.nil
          ((first | refine W.advO 5000 _ _ ?_ | skip); simp only [go_sem, seval, ↓reduceIte, reduceCtorEq])
          (apply W.dregE (List.cons_ne_nil _ _); case hc => ((apply CanonE.advPO; simp only [advPO_nil, advPO_loud, advPO_quiet, pL_yes, pL_no, pLS_some, pLS_none, pQ_yes, pQ_no, pQS_some, pQS_loud, eq_self, Nat.sub_zero, go_sem, seval, ↓reduceIte, reduceCtorEq, sentsC, h1, h2, nat0, hx, hz, hwk, sent_cs, hp1, hp2, hp3, bne_self_eq_false']); exact CanonE.nil))
          ((first | refine W.advO 5000 _ _ ?_ | skip); simp only [go_sem, seval, ↓reduceIte, reduceCtorEq])
          refine W.no rfl ?_
          ((first | refine W.advO 5000 _ _ ?_ | skip); simp only [go_sem, seval, ↓reduceIte, reduceCtorEq, hw])
          refine .inv ⟨k + 1, hlt, by omega, ?_⟩
          (refine Lew.env ?_; (repeat' (first | exact LeE.base _ | (refine LeE.put ?_ (by first | exact V.wk.rfl _ | exact V.wk.osl _ _ | exact V.wk.csl _)))))
        · have h1 : ¬ ((k : Int) < (ys.length : Int)) := by omega
          ((first | refine W.advO 5000 _ _ ?_ | skip); simp only [go_sem, seval, ↓reduceIte, reduceCtorEq, sentsC, h1])
          refine W.no rfl ?_
          ((first | refine W.advO 5000 _ _ ?_ | skip); simp only [go_sem, seval, ↓reduceIte, reduceCtorEq])
          (refine W.ret (Fin.sameW (hok) (by (first | rfl | exact List.length_set .. | simp)) (by simp only [resEval, r11, go_sem, seval, ↓reduceIte, reduceCtorEq]; rfl) ?_ (by (first | exact .c _ | (simp only [I, S, B, opsC, toksC, Pre.v, Tok.v, OpT.v, low_c, low_void, low_any, low_csl, low_nilf, low_ptr, low_osl, low_agg, low_tup, low_fn, List.forall_mem_cons, List.not_mem_nil, false_implies, implies_true, and_self, and_true, true_and]; done))) (by (first | rfl | exact (List.append_nil _).symm))); simp only [resV]; try exact V.wk.rfl _)
end Go.Proofs.YtlogjjnimlnpkaaGreatDoor
