/- . -/
import Derived.Test.YtdlkenpilhakfaaGreatDoorQLexC
import Derived.Test.YtdlkenpilhakfaaGreatDoorQLexSkip
import Derived.WalkSmall
set_option linter.unusedSimpArgs false
set_option linter.unusedVariables false
set_option maxHeartbeats 8000000
set_option maxRecDepth 20000
open Go.Lib renaming hasPrefix->qE,hid->b9,trimLeftS->jo
open Nat renaming le_refl->aA,le_trans->bB
open Go.Proofs.Tryz
namespace Go.Proofs.YtdlkenpilhakfaaGreatDoor
open Go.RowKit Go.Lamb
structure dm (w:World):Prop where
 YD:∃m,w.cell? ⟨0,0,none⟩=some (.int .i64 m)
 aao:Lib.TabIs prog w "internal/strconv.uint64pow10" .u64 Lib.pow10Tab
 aap:∃tp p,w.var? prog "strconv.ErrSyntax" =some #[.iface tp p]
 YE:∃tp p,w.var? prog "strconv.ErrRange" =some #[.iface tp p]
theorem EK:prog.globalNamed "internal/strconv.uint64pow10" =some 5:=by kernel_rfl
theorem EL:prog.globalNamed "strconv.ErrSyntax" =some 1:=by kernel_rfl
theorem EM:prog.globalNamed "strconv.ErrRange" =some 2:=by kernel_rfl
theorem EN{P:Program}{w:World}{n:String}{g:Nat}{cs:Array Value}(hg:P.globalNamed n=some g)(h:w.var? P n=some cs):g<w.heap.size:=by
 unfold World.var? at h;rw[hg]at h;simp only[Option.bind_some]at h;rcases Nat.lt_or_ge g w.heap.size with hlt|hge
 ·exact hlt
 ·rw[Array.getElem?_eq_none hge]at h;cases h
theorem dm.ext{w w':World}(h:dm w)(hb:Below w.heap.size w w'):dm w':=by
 obtain⟨⟨m,h2⟩,h3,⟨t4,p4,h4⟩,⟨t5,p5,h5⟩⟩:=h;exact⟨⟨m,(hb.cell (p:=⟨_,0,none⟩) (World.block_lt_of_cell? w _ h2)).trans h2⟩,
  var?_below hb EK (EN EK h3) h3,⟨t4,p4,var?_below hb EL (EN EL h4) h4⟩,⟨t5,p5,var?_below hb EM (EN EM h5) h5⟩⟩
theorem trimLeft(s:ByteArray)(w:World):Calls prog 162 #[.string s,.string ⟨#[32,9,10,13]⟩] w (lE (.string (bs (jo s.data.toList jh))) w):=
 (Any.strings_TrimLeft_laid Tryz.YF (by kernel_rfl) s ⟨#[32,9,10,13]⟩ w (by decide) (ascii_of_all (by decide))).mono fun _ _ h=>h
theorem YH(s:ByteArray)(w:World)(hs:s.size<4294967281)(hG:dm w):Calls prog 164 #[.string s,.string ⟨#[10]⟩] w fun e w'=>
  ∃b,e= .returned (.tuple #[.string (bs (Lib.cut s.data.toList [10]).1),.string (bs (Lib.cut s.data.toList [10]).2.1),.bool b])/\Below w.heap.size w w':=by
 obtain⟨m,hm⟩:=hG.YD;exact(Tryz.strings_Cut s ⟨#[10]⟩ m w hs hm).mono fun e w' ⟨he,n,hw⟩=>⟨_,he,by rw[hw];exact⟨rfl,rfl,rfl,aA _,fun _ _=>rfl⟩⟩
theorem Nt(l:List UInt8)(w:World):Calls prog 163 #[.string (bs l),.string ⟨#[37]⟩] w (eL (.bool (qE l [37])) w):=
 (Tryz.strings_HasPrefix (bs l) ⟨#[37]⟩ w).mono fun _ _ ⟨he,hw⟩=>⟨he,hw.symm⟩
def YI(s:ByteArray)(w:World)(v:Value)(wr:World):Prop:=
 ∃x:ByteArray,v= .string x/\x.size<=s.size/\cp false s.data.toList=cp false x.data.toList/\Below w.heap.size w wr
set_option maxRecDepth 100000 in
theorem YJ(s:ByteArray)(w:World)(hs:s.size<4294967281)(hG:dm w):
  Calls prog 109 #[.string s] w (lE (.int .i64 ((s.size:Int)-((cp false s.data.toList).length:Int))) w):=by
 have HG:=b9 hG;clear hG
 go_enter func109,ntmps109
 go_wp2_with fail
 go_loopw [0] (fun v wr=>YI s w v wr) (fun v _=>match v with| .string x=>x.size|_=>0)
 case atStart=>exact⟨s,rfl,aA _,rfl,Below.refl _ _⟩
 case round=>
  obtain⟨x,rfl,hx,HS,HB⟩:=hrel;have HG':=b9 (HG.out.ext HB);have HSk:=b9 HS;have HB':=b9 HB;clear HS HB;have hle:=bB (Nu x.data.toList) (show x.data.toList.length<=x.size by simp);cases hp:qE (jo x.data.toList jh) [37]
  ·have HD:=b9 (YK hp)
   go_wp2_with (first
    |(go_at_call 162;refine(trimLeft _ _).mono ?_;rintro e w1 ⟨rfl,hb1⟩;have HB1:=b9 hb1;clear hb1)
    |(go_at_call 163;refine(Nt _ _).mono ?_;rintro e w' ⟨rfl,rfl⟩))
   go_ret
   refine⟨?_,HB'.out.trans (HB1.out.mono HB'.out.size)⟩;rw[HSk.out,HD.out];rfl
  ·obtain⟨r,hr⟩:=YL hp;obtain⟨h1,h2⟩:=YM hr;have HR:=b9 hr;have H1:=b9 h1;have hsz:r.length+1<=x.size:=by rw[hr]at hle;simpa using hle
   clear hr h1
   go_wp2_with (first
    |(go_at_call 162;refine(trimLeft _ _).mono ?_;rintro e w1 ⟨rfl,hb1⟩;have HB1:=b9 hb1;clear hb1)
    |(go_at_call 163;refine(Nt _ _).mono ?_;rintro e w' ⟨rfl,rfl⟩)
    |(go_at_call 164;refine(YH _ _ (by rw[iX];omega) (HG'.out.ext HB1.out)).mono ?_;rintro e w2 ⟨b,rfl,hb2⟩;have HB2:=b9 hb2;clear hb2))
   go_roundw
   case rel=>exact⟨_,rfl,by rw[iX,HR.out];simp at h2;omega,by rw[HSk.out,H1.out,zy,HR.out],(HB'.out.trans (HB1.out.mono HB'.out.size)).trans (HB2.out.mono (bB HB'.out.size HB1.out.size))⟩
   case measure=>simp only[HR.out];rw[iX];simpa using h2
end Go.Proofs.YtdlkenpilhakfaaGreatDoor
