/- . -/
import Derived.Test.YtpcmcfajfnpjeaaGreatDoorQLexD
import Derived.Test.YtpcmcfajfnpjeaaGreatDoorCards
import Derived.Test.YtpcmcfajfnpjeaaGreatDoorTie
import Derived.ProofKit
import Derived.OpenShut
import Derived.Deep.DeepHandedRow
import Derived.Deep.DeepWitnessRowRef
import Derived.Lib.LaidTab
import Derived.Lib.LaidU8
import Derived.Stop.LaidErr
import Derived.Shelf.Vars
import Derived.Lay
set_option linter.unusedSimpArgs false
set_option linter.unusedVariables false
set_option maxHeartbeats 8000000
set_option maxRecDepth 20000
namespace Go.Proofs.YtpcmcfajfnpjeaaGreatDoor
open Go.ChangeShapes Go.WideShapes Go.ChangeAt Go.RowKit Go.Lamb

theorem tab_of_reads {P:Program} {W:World} {name:String} {k:IntKind} {zs:List Int} {g:Nat} {t e:TypeId} {n:Nat}
  (hg:P.globalNamed name = some g) (hty:(P.globals[g]?).map (·.type) = some t) (ht:P.underlying t = some (.array n e)) (he:P.underlying e = some (.int k)) (hce:P.cellsOf e = 1) (hct:P.cellsOf t = n)
  (h:Lib.VarReads P W name (Lib.tabData k zs)):Lib.TabIs P W name k zs:=by
 obtain ⟨g',t',cs,fuel,p,hg',ht',hvar,hd⟩:=h
 obtain rfl:=Option.some.inj (hg.symm.trans hg')
 obtain rfl:=Option.some.inj (hty.symm.trans ht')
 unfold Lib.TabIs
 rw [hvar,← Lib.cells_of_tab ht he hce hct hd]
theorem iface_of_reads {P:Program} {W:World} {name nm:String} {d:DataW Unit} {g:Nat} {t:TypeId} {ms:Array (String × TypeId)}
  (hg:P.globalNamed name = some g) (hty:(P.globals[g]?).map (·.type) = some t) (ht:P.underlying t = some (.interface ms))
  (h:Lib.VarReads P W name (.iface nm d)):∃ tp p,W.var? P name = some #[.iface tp p]:=by
 obtain ⟨g',t',cs,fuel,p,hg',ht',hvar,hd⟩:=h
 obtain rfl:=Option.some.inj (hg.symm.trans hg')
 obtain rfl:=Option.some.inj (hty.symm.trans ht')
 cases fuel with
 | zero=>simp [DataW.trod] at hd
 | succ f=>
   simp only [DataW.trod,ht] at hd;split at hd
   all_goals first
    | (simp at hd;done)
    | skip
   all_goals rename_i heq1 heq2
   all_goals first
    | (injection heq1 with e;cases e;done)
    | (simp only [hvar];obtain ⟨l⟩:=cs;simp only at heq2;subst heq2;exact ⟨_,_,rfl⟩)
theorem type_pow10:(Tryz.prog.globals[0]?).map (·.type) = some 356:=by kernel_rfl
theorem type_errRange:(Tryz.prog.globals[5]?).map (·.type) = some 126:=by kernel_rfl
theorem type_errSyntax:(Tryz.prog.globals[4]?).map (·.type) = some 126:=by kernel_rfl
theorem glob_of {W:World} {l:List (String × DataW Unit)} (hL:laidMet Tryz.prog l W) (hS:W.ShapedOpen Tryz.prog)
  (hp:("internal/strconv.uint64pow10",Rows.laid_internal_strconv_uint64pow10) ∈ l) (hr:("strconv.ErrRange",Rows.laid_strconv_ErrRange) ∈ l) (hs:("strconv.ErrSyntax",Rows.laid_strconv_ErrSyntax) ∈ l):Glob W:=
 ⟨cell_of_shapedOpen_int (t:=3) (zero:=#[.int .i64 0]) hS (of_decide_eq_true (by kernel_rfl)) (by kernel_rfl) rfl (by kernel_rfl) (by kernel_rfl) Tryz.underlying3,
   tab_of_reads (k:=.u64) (zs:=Lib.pow10Tab) named_pow10 type_pow10 Tryz.underlying356 Tryz.underlying315 (by kernel_rfl) (by kernel_rfl) (Lib.laidMet.reads hL hp),
   iface_of_reads named_errSyntax type_errSyntax Tryz.underlying126 (Lib.laidMet.reads hL hs),
   iface_of_reads named_errRange type_errRange Tryz.underlying126 (Lib.laidMet.reads hL hr)⟩
theorem own:ownKnob Tryz.prog.godebug = none:=by kernel_rfl
theorem laidOut:laidOutB Tryz.prog = true:=by kernel_rfl
end Go.Proofs.YtpcmcfajfnpjeaaGreatDoor
