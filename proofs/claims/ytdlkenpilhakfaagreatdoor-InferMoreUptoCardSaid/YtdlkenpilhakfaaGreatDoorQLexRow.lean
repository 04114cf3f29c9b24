/- . -/
import Derived.Test.YtdlkenpilhakfaaGreatDoorQLexD
import Derived.Test.YtdlkenpilhakfaaGreatDoorCards
import Derived.Test.YtdlkenpilhakfaaGreatDoorTie
import Derived.ProofKit
import Derived.OpenShut
import Derived.Deep.DeepHandedRow
import Derived.Deep.DeepWitnessRowRef
import Derived.Lib.LaidTab
import Derived.Lib.LaidU8
import Derived.Stop.LaidErr
import Derived.Shelf.Vars
import Derived.Lay
set_option linter.unusedSimpArgs false
set_option linter.unusedVariables false
set_option maxHeartbeats 8000000
set_option maxRecDepth 20000
open Go.DataW renaming trod->nR
open Go.Lib.laidMet renaming reads->Om
open Option.some renaming inj->vZ
open Go.Proofs.Tryz
namespace Go.Proofs.YtdlkenpilhakfaaGreatDoor
open Go.ChangeShapes Go.WideShapes Go.ChangeAt Go.RowKit Go.Lamb
theorem Y6{P:Program}{W:World}{name:String}{k:IntKind}{zs:List Int}{g:Nat}{t e:TypeId}{n:Nat}
  (hg:P.globalNamed name=some g) (hty:(P.globals[g]?).map (·.type)=some t) (ht:P.underlying t=some (.array n e)) (he:P.underlying e=some (.int k)) (hce:P.cellsOf e=1) (hct:P.cellsOf t=n)
  (h:Lib.VarReads P W name (Lib.tabData k zs)):Lib.TabIs P W name k zs:=by
 obtain⟨g',t',cs,fuel,p,hg',ht',hvar,hd⟩:=h;obtain rfl:=vZ (hg.symm.trans hg');obtain rfl:=vZ (hty.symm.trans ht');unfold Lib.TabIs;rw[hvar,<-Lib.cells_of_tab ht he hce hct hd]
theorem NL{P:Program}{W:World}{name nm:String}{d:DataW Unit}{g:Nat}{t:TypeId}{ms:Array (String×TypeId)}
  (hg:P.globalNamed name=some g) (hty:(P.globals[g]?).map (·.type)=some t) (ht:P.underlying t=some (.interface ms))
  (h:Lib.VarReads P W name (.iface nm d)):∃tp p,W.var? P name=some #[.iface tp p]:=by
 obtain⟨g',t',cs,fuel,p,hg',ht',hvar,hd⟩:=h;obtain rfl:=vZ (hg.symm.trans hg');obtain rfl:=vZ (hty.symm.trans ht');cases fuel with
 |zero=>simp[nR]at hd
 |succ f=>
  simp only[nR,ht]at hd;split at hd
  all_goals first
   |(simp at hd;done)
   |skip
  all_goals rename_i heq1 heq2
  all_goals first
   |(injection heq1 with e;cases e;done)
   |(simp only[hvar];obtain⟨l⟩:=cs;simp only at heq2;subst heq2;exact⟨_,_,rfl⟩)
theorem Y7:(prog.globals[5]?).map (·.type)=some 334:=by kernel_rfl
theorem Y8:(prog.globals[2]?).map (·.type)=some 215:=by kernel_rfl
theorem Y9:(prog.globals[1]?).map (·.type)=some 215:=by kernel_rfl
theorem OA{W:World}{l:List (String×DataW Unit)}(hL:laidMet prog l W)(hS:W.ShapedOpen prog)
  (hp:("internal/strconv.uint64pow10",Rows.laid_internal_strconv_uint64pow10)∈l) (hr:("strconv.ErrRange",Rows.laid_strconv_ErrRange)∈l) (hs:("strconv.ErrSyntax",Rows.laid_strconv_ErrSyntax)∈l):dm W:=
 ⟨cell_of_shapedOpen_int (t:=3) (zero:=#[.int .i64 0]) hS (of_decide_eq_true (by kernel_rfl)) (by kernel_rfl) rfl (by kernel_rfl) (by kernel_rfl) underlying3,
   Y6 (k:=.u64) (zs:=Lib.pow10Tab) EK Y7 underlying334 underlying304 (by kernel_rfl) (by kernel_rfl) (Om hL hp),
   NL EL Y9 underlying215 (Om hL hs),
   NL EM Y8 underlying215 (Om hL hr)⟩
theorem own:ownKnob prog.godebug=none:=by kernel_rfl
theorem laidOut:laidOutB prog=true:=by kernel_rfl
end Go.Proofs.YtdlkenpilhakfaaGreatDoor
