/- . -/
import Derived.Test.YtpcmcfajfnpjeaaGreatDoorQLexC
import Derived.Test.YtpcmcfajfnpjeaaGreatDoorQLexSkip
import Derived.WalkSmall
set_option linter.unusedSimpArgs false
set_option linter.unusedVariables false
set_option maxHeartbeats 8000000
set_option maxRecDepth 20000
namespace Go.Proofs.YtpcmcfajfnpjeaaGreatDoor
open Go.RowKit Go.Lamb

structure Glob (w:World):Prop where
 maxlen:∃ m,w.cell? ⟨1,0,none⟩ = some (.int .i64 m)
 pow10:Lib.TabIs Tryz.prog w "internal/strconv.uint64pow10" .u64 Lib.pow10Tab
 errSyntax:∃ tp p,w.var? Tryz.prog "strconv.ErrSyntax" = some #[.iface tp p]
 errRange:∃ tp p,w.var? Tryz.prog "strconv.ErrRange" = some #[.iface tp p]
theorem named_pow10:Tryz.prog.globalNamed "internal/strconv.uint64pow10" = some 0:=by kernel_rfl
theorem named_errSyntax:Tryz.prog.globalNamed "strconv.ErrSyntax" = some 4:=by kernel_rfl
theorem named_errRange:Tryz.prog.globalNamed "strconv.ErrRange" = some 5:=by kernel_rfl
theorem var_lt {P:Program} {w:World} {n:String} {g:Nat} {cs:Array Value} (hg:P.globalNamed n = some g) (h:w.var? P n = some cs):g < w.heap.size:=by
 unfold World.var? at h
 rw [hg] at h
 simp only [Option.bind_some] at h
 rcases Nat.lt_or_ge g w.heap.size with hlt | hge
 ·exact hlt
 ·rw [Array.getElem?_eq_none hge] at h
  cases h
theorem Glob.ext {w w':World} (h:Glob w) (hb:Below w.heap.size w w'):Glob w':=by
 obtain ⟨⟨m,h2⟩,h3,⟨t4,p4,h4⟩,⟨t5,p5,h5⟩⟩:=h
 exact ⟨⟨m,(hb.cell (p:=⟨_,0,none⟩) (World.block_lt_of_cell? w _ h2)).trans h2⟩,
  var?_below hb named_pow10 (var_lt named_pow10 h3) h3,⟨t4,p4,var?_below hb named_errSyntax (var_lt named_errSyntax h4) h4⟩,⟨t5,p5,var?_below hb named_errRange (var_lt named_errRange h5) h5⟩⟩

theorem trimLeft (s:ByteArray) (w:World):Calls Tryz.prog 304 #[.string s,.string ⟨#[32,9,10,13]⟩] w (RetB (.string (bs (Lib.trimLeftS s.data.toList blanks))) w):=
 (Any.strings_TrimLeft_laid Tryz.lays161 (by kernel_rfl) s ⟨#[32,9,10,13]⟩ w (by decide) (ascii_of_all (by decide))).mono fun _ _ h=>h
theorem cutNl (s:ByteArray) (w:World) (hs:s.size < 4294967281) (hG:Glob w):Calls Tryz.prog 306 #[.string s,.string ⟨#[10]⟩] w fun e w'=>
  ∃ b,e = .returned (.tuple #[.string (bs (Lib.cut s.data.toList [10]).1),.string (bs (Lib.cut s.data.toList [10]).2.1),.bool b]) ∧ Below w.heap.size w w':=by
 obtain ⟨m,hm⟩:=hG.maxlen
 exact (Tryz.strings_Cut s ⟨#[10]⟩ m w hs hm).mono fun e w' ⟨he,n,hw⟩=>⟨_,he,by rw [hw];exact ⟨rfl,rfl,rfl,Nat.le_refl _,fun _ _=>rfl⟩⟩
theorem hasPct (l:List UInt8) (w:World):Calls Tryz.prog 305 #[.string (bs l),.string ⟨#[37]⟩] w (Ret (.bool (Lib.hasPrefix l [37])) w):=
 (Tryz.strings_HasPrefix (bs l) ⟨#[37]⟩ w).mono fun _ _ ⟨he,hw⟩=>⟨he,hw.symm⟩

def SkipAt (s:ByteArray) (w:World) (v:Value) (wr:World):Prop:=
 ∃ x:ByteArray,v = .string x ∧ x.size ≤ s.size ∧ skipL false s.data.toList = skipL false x.data.toList ∧ Below w.heap.size w wr

set_option maxRecDepth 100000 in
theorem lex_skip (s:ByteArray) (w:World) (hs:s.size < 4294967281) (hG:Glob w) :
  Calls Tryz.prog 250 #[.string s] w (RetB (.int .i64 ((s.size:Int) - ((skipL false s.data.toList).length:Int))) w):=by
 have HG:=Lib.hid hG;clear hG
 go_enter Tryz.func250,Tryz.ntmps250
 go_wp2_with fail
 go_loopw [0] (fun v wr=>SkipAt s w v wr) (fun v _=>match v with | .string x=>x.size | _=>0)
 case atStart=>exact ⟨s,rfl,Nat.le_refl _,rfl,Below.refl _ _⟩
 case round=>
  obtain ⟨x,rfl,hx,HS,HB⟩:=hrel
  have HG':=Lib.hid (HG.out.ext HB)
  have HSk:=Lib.hid HS
  have HB':=Lib.hid HB
  clear HS HB
  have hle:=Nat.le_trans (trim_le x.data.toList) (show x.data.toList.length ≤ x.size by simp)
  cases hp:Lib.hasPrefix (Lib.trimLeftS x.data.toList blanks) [37]
  ·have HD:=Lib.hid (skip_done hp)
   go_wp2_with (first
    | (go_at_call 304;refine (trimLeft _ _).mono ?_;rintro e w1 ⟨rfl,hb1⟩;have HB1:=Lib.hid hb1;clear hb1)
    | (go_at_call 305;refine (hasPct _ _).mono ?_;rintro e w' ⟨rfl,rfl⟩))
   go_ret
   refine ⟨?_,HB'.out.trans (HB1.out.mono HB'.out.size)⟩;rw [HSk.out,HD.out]
   rfl
  ·obtain ⟨r,hr⟩:=remark_of hp
   obtain ⟨h1,h2⟩:=skip_remark hr
   have HR:=Lib.hid hr
   have H1:=Lib.hid h1
   have hsz:r.length + 1 ≤ x.size:=by rw [hr] at hle;simpa using hle
   clear hr h1
   go_wp2_with (first
    | (go_at_call 304;refine (trimLeft _ _).mono ?_;rintro e w1 ⟨rfl,hb1⟩;have HB1:=Lib.hid hb1;clear hb1)
    | (go_at_call 305;refine (hasPct _ _).mono ?_;rintro e w' ⟨rfl,rfl⟩)
    | (go_at_call 306;refine (cutNl _ _ (by rw [bs_size];omega) (HG'.out.ext HB1.out)).mono ?_;rintro e w2 ⟨b,rfl,hb2⟩;have HB2:=Lib.hid hb2;clear hb2))
   go_roundw
   case rel=>exact ⟨_,rfl,by rw [bs_size,HR.out];simp at h2;omega,by rw [HSk.out,H1.out,bs_list,HR.out],(HB'.out.trans (HB1.out.mono HB'.out.size)).trans (HB2.out.mono (Nat.le_trans HB'.out.size HB1.out.size))⟩
   case measure=>simp only [HR.out];rw [bs_size];simpa using h2
end Go.Proofs.YtpcmcfajfnpjeaaGreatDoor
