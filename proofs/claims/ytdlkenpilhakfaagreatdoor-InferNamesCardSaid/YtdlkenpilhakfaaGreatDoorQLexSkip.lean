/- . -/
import Derived.Test.YtdlkenpilhakfaaGreatDoorQLexSpec
import Derived.Lib.IndexBytes
import Derived.Lib.IndexMore
import Derived.Lib.SlTrimSet
set_option linter.unusedSimpArgs false
set_option linter.unusedVariables false
set_option maxHeartbeats 8000000
set_option maxRecDepth 20000
open Go.Lib renaming cut->kG,hasPrefix->qu,indexByte->kH,trimLeftS->jm
namespace Go.Lamb
open Go Go.RowKit
def je:List UInt8:=[32,9,10,13]
def cn:Bool->List UInt8->List UInt8
 |_,[]=>[]
 |false,c::l=>if je.contains c then cn false l else if c==37 then cn true l else c::l
 |true,c::l=>if c==10 then cn false l else cn true l
theorem Nu(l:List UInt8):cn false (jm l je)=cn false l:=by
 unfold jm;induction l with
 |nil=>rfl
 |cons c l ih=>
  rw[List.dropWhile_cons];split
  ·rename_i h;rw[ih];simp only[cn];rw[if_pos (by simpa using h)]
  ·rfl
theorem YV(l:List UInt8):∀c r,jm l je=c::r->je.contains c=false:=by
 unfold jm;induction l with
 |nil=>intro c r h;simp at h
 |cons d l ih=>
  intro c r h;rw[List.dropWhile_cons]at h;split at h
  ·exact ih c r h
  ·rename_i hd;injection h with h1 h2;subst h1;simpa using hd
theorem Na(l:List UInt8):(jm l je).length<=l.length:=by
 unfold jm;exact(List.dropWhile_sublist _).length_le
theorem Nv(c:UInt8)(r:List UInt8):(kG (c::r) [10]).2.1=if c==10 then r else(kG r [10]).2.1:=by
 unfold kG;rw[Lib.index_one,Lib.index_one];have hge:=Lib.indexByte_ge r 10;by_cases h:(c==10)=true
 ·simp[kH,h]
 ·simp only[kH,h];by_cases h1:kH r 10=-1
  ·simp[h1]
  ·have e1:(kH r 10==-1)=false:=by simpa using h1
   have h0:0<=kH r 10:=by omega
   have h2:0<=kH r 10+1:=by omega
   simp only[e1,Bool.false_eq_true,if_false,h0,h2,if_true];rw[show(kH r 10+1).toNat+[(10:UInt8)].length=((kH r 10).toNat+[(10:UInt8)].length)+1 from by simp;omega];simp
theorem YW(l:List UInt8):cn true l=cn false (kG l [10]).2.1:=by
 induction l with
 |nil=>rfl
 |cons c l ih=>
  rw[Nv];simp only[cn];split
  ·rfl
  ·exact ih
theorem YX(l:List UInt8)(h:l≠[]):(kG l [10]).2.1.length<l.length:=by
 unfold kG;have:0<l.length:=List.length_pos_iff.2 h;split
 ·simp;omega
 ·simpa using this
theorem Yw{l r:List UInt8}(h:jm l je=37::r):cn false l=cn false (kG (37::r) [10]).2.1/\(kG (37::r) [10]).2.1.length<l.length:=by
 constructor
 ·rw[<-Nu,h];have:cn false (37::r)=cn true r:=rfl;rw[this,Nv,YW];rfl
 ·have h1:=YX (37::r) (by simp);have h2:=Na l;rw[h]at h2;omega
theorem Yu{l:List UInt8}(h:qu (jm l je) [37]=false):cn false l=jm l je:=by
 rw[<-Nu];cases ht:jm l je with
 |nil=>rfl
 |cons c r=>
  have hb:=YV l c r ht;rw[ht]at h;simp only[cn];rw[if_neg (by simp only[hb];decide),if_neg];intro hc;have:c=37:=by simpa using hc
  subst this;simp[qu]at h
theorem Yv{l:List UInt8}(h:qu (jm l je) [37]=true):∃r,jm l je=37::r:=by
 cases ht:jm l je with
 |nil=>rw[ht]at h;simp[qu]at h
 |cons c r=>
  rw[ht]at h;simp[qu]at h;subst h;exact⟨r,rfl⟩
theorem kC:∀(b:Bool) (l:List UInt8),(cn b l).length<=l.length
 |_,[]=>by simp[cn]
 |false,c::l=>by
  simp only[cn];have h1:=kC false l;have h2:=kC true l;split
  ·simp;omega
  ·split
   ·simp;omega
   ·simp
 |true,c::l=>by
  simp only[cn];have h1:=kC false l;have h2:=kC true l;split<;>simp<;>omega
end Go.Lamb
