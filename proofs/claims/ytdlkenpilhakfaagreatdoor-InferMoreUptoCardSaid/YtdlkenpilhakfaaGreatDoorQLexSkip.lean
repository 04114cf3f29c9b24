/- . -/
import Derived.Test.YtdlkenpilhakfaaGreatDoorQLexSpec
import Derived.Lib.IndexBytes
import Derived.Lib.IndexMore
import Derived.Lib.SlTrimSet
set_option linter.unusedSimpArgs false
set_option linter.unusedVariables false
set_option maxHeartbeats 8000000
set_option maxRecDepth 20000
open Go.Lib renaming cut->kQ,hasPrefix->qE,indexByte->kR,trimLeftS->jo
namespace Go.Lamb
open Go Go.RowKit
def jh:List UInt8:=[32,9,10,13]
def cp:Bool->List UInt8->List UInt8
 |_,[]=>[]
 |false,c::l=>if jh.contains c then cp false l else if c==37 then cp true l else c::l
 |true,c::l=>if c==10 then cp false l else cp true l
theorem NM(l:List UInt8):cp false (jo l jh)=cp false l:=by
 unfold jo;induction l with
 |nil=>rfl
 |cons c l ih=>
  rw[List.dropWhile_cons];split
  ·rename_i h;rw[ih];simp only[cp];rw[if_pos (by simpa using h)]
  ·rfl
theorem Za(l:List UInt8):∀c r,jo l jh=c::r->jh.contains c=false:=by
 unfold jo;induction l with
 |nil=>intro c r h;simp at h
 |cons d l ih=>
  intro c r h;rw[List.dropWhile_cons]at h;split at h
  ·exact ih c r h
  ·rename_i hd;injection h with h1 h2;subst h1;simpa using hd
theorem Nu(l:List UInt8):(jo l jh).length<=l.length:=by
 unfold jo;exact(List.dropWhile_sublist _).length_le
theorem NN(c:UInt8)(r:List UInt8):(kQ (c::r) [10]).2.1=if c==10 then r else(kQ r [10]).2.1:=by
 unfold kQ;rw[Lib.index_one,Lib.index_one];have hge:=Lib.indexByte_ge r 10;by_cases h:(c==10)=true
 ·simp[kR,h]
 ·simp only[kR,h];by_cases h1:kR r 10=-1
  ·simp[h1]
  ·have e1:(kR r 10==-1)=false:=by simpa using h1
   have h0:0<=kR r 10:=by omega
   have h2:0<=kR r 10+1:=by omega
   simp only[e1,Bool.false_eq_true,if_false,h0,h2,if_true];rw[show(kR r 10+1).toNat+[(10:UInt8)].length=((kR r 10).toNat+[(10:UInt8)].length)+1 from by simp;omega];simp
theorem Zb(l:List UInt8):cp true l=cp false (kQ l [10]).2.1:=by
 induction l with
 |nil=>rfl
 |cons c l ih=>
  rw[NN];simp only[cp];split
  ·rfl
  ·exact ih
theorem Zc(l:List UInt8)(h:l≠[]):(kQ l [10]).2.1.length<l.length:=by
 unfold kQ;have:0<l.length:=List.length_pos_iff.2 h;split
 ·simp;omega
 ·simpa using this
theorem YM{l r:List UInt8}(h:jo l jh=37::r):cp false l=cp false (kQ (37::r) [10]).2.1/\(kQ (37::r) [10]).2.1.length<l.length:=by
 constructor
 ·rw[<-NM,h];have:cp false (37::r)=cp true r:=rfl;rw[this,NN,Zb];rfl
 ·have h1:=Zc (37::r) (by simp);have h2:=Nu l;rw[h]at h2;omega
theorem YK{l:List UInt8}(h:qE (jo l jh) [37]=false):cp false l=jo l jh:=by
 rw[<-NM];cases ht:jo l jh with
 |nil=>rfl
 |cons c r=>
  have hb:=Za l c r ht;rw[ht]at h;simp only[cp];rw[if_neg (by simp only[hb];decide),if_neg];intro hc;have:c=37:=by simpa using hc
  subst this;simp[qE]at h
theorem YL{l:List UInt8}(h:qE (jo l jh) [37]=true):∃r,jo l jh=37::r:=by
 cases ht:jo l jh with
 |nil=>rw[ht]at h;simp[qE]at h
 |cons c r=>
  rw[ht]at h;simp[qE]at h;subst h;exact⟨r,rfl⟩
theorem kL:∀(b:Bool) (l:List UInt8),(cp b l).length<=l.length
 |_,[]=>by simp[cp]
 |false,c::l=>by
  simp only[cp];have h1:=kL false l;have h2:=kL true l;split
  ·simp;omega
  ·split
   ·simp;omega
   ·simp
 |true,c::l=>by
  simp only[cp];have h1:=kL false l;have h2:=kL true l;split<;>simp<;>omega
end Go.Lamb
