/- . -/
import Derived.Test.YtdlkenpilhakfaaGreatDoorQLexNum
import Derived.Test.YtdlkenpilhakfaaGreatDoorQMem
import Derived.Lib.ItoaNum
set_option linter.unusedSimpArgs false
set_option linter.unusedVariables false
set_option maxHeartbeats 8000000
set_option maxRecDepth 20000
open Bool renaming false_eq_true->e9
open Classical renaming not_not->aag
open List renaming drop_succ_cons->zU,length_cons->bo,length_drop->kO
namespace Go.Lamb
open Go Go.RowKit
structure Tok where
 kind:Int
 text:List UInt8
 n:Int
 pos:Int
 deriving DecidableEq
def Tok.cells(t:Tok):List Value:=[.int .i64 t.kind,.string (bs t.text),.int .i64 t.n,.int .i64 t.pos]
def mM(l:List Tok):List Value:=l.flatMap Tok.cells
structure eo where
 oN:List Tok
 err:Int
 pos:Nat
 deriving DecidableEq
def eo.cons(t:Tok)(r:eo):eo:=if r.err=0 then⟨t::r.oN,0,0⟩else⟨[],r.err,r.pos⟩
def oR(N:Nat)(l:List UInt8):Tok:=⟨(a8 l).kind,(a8 l).text,(a8 l).n,((N-l.length:Nat):Int)⟩
def oS(N:Nat):Nat->List UInt8->eo
 |0,_=>⟨[],0,0⟩
 |f+1,l=>
  if(a8 l).err≠0 then⟨[],(a8 l).err,N-l.length⟩
  else if(a8 l).kind=0 then⟨[oR N l],0,0⟩
  else(oS N f (cp false (l.drop (a8 l).len))).cons (oR N l)
def ji(N:Nat)(l:List UInt8):eo:=oS N (l.length+1) l
def jd(l:List UInt8):eo:=if 65536<l.length then⟨[],13,0⟩else ji l.length (cp false l)
theorem ze{l:List UInt8}:(a8 l).len<=l.length:=by
 cases l with
 |nil=>simp[a8]
 |cons c l=>
  have h1:=qp cT (c::l);have h2:=qp e7 (c::l);have h3:=qp gL (c::l);simp only[a8,qo,gM]
  repeat' split
  all_goals simp only[bo]at*
  all_goals omega
theorem one_pos{l:List UInt8}(he:(a8 l).err=0)(hk:(a8 l).kind≠0):0<(a8 l).len:=by
 cases l with
 |nil=>simp[a8]at hk
 |cons c l=>
  simp only[a8,qo,gM]at he hk⊢;have hin:jg c=true->e7 c=true:=fun h=>by simp[e7,h]
  have hin2:mK c=true->e7 c=true:=fun h=>by simp[e7,h]
  by_cases hm:ek c≠0
  ·simp[hm]
  ·simp only[hm,if_false]at he hk⊢;cases hd:cT c
   ·simp only[hd,e9,if_false]at he hk⊢;cases hs:jg c
    ·simp only[hs,e9,if_false]at he hk⊢;cases hg:mK c
     ·simp only[hg,e9,if_false]at he hk⊢;cases hi:gL c
      ·simp only[hi,e9,if_false]at he hk⊢;cases hn:kJ.contains c
       ·simp only[hn,e9,if_false]at hk;simp at hk
       ·simp
      ·simp only[hi,if_true]at he hk⊢;split
       ·rename_i h;rw[if_pos h]at he;simp at he
       ·exact vL hi
     ·simp only[hg,if_true]at he hk⊢;split
      ·rename_i h;rw[if_pos h]at he;simp at he
      ·exact vL (hin2 hg)
    ·simp only[hs,if_true]at he hk⊢;split
     ·rename_i h;rw[if_pos h]at he;simp at he
     ·exact vL (hin hs)
   ·simp only[hd,if_true]at he hk⊢;split
    ·exact vL hd
    ·rename_i h;rw[if_neg h]at he;simp at he
theorem NA{l:List UInt8}(he:(a8 l).err=0)(hk:(a8 l).kind≠0):(cp false (l.drop (a8 l).len)).length<l.length:=by
 have h1:=kL false (l.drop (a8 l).len);have h2:=one_pos he hk;have h3:=@ze l;rw[kO]at h1;omega
theorem YY(N:Nat):∀(f:Nat) (l:List UInt8),l.length<f->oS N f l=ji N l:=by
 intro f;induction f using Nat.strongRecOn with
 |_ f ih=>
  intro l hl;obtain⟨g,rfl⟩:∃g,f=g+1:=⟨f-1,by omega⟩;unfold ji;simp only[oS];split
  ·rfl
  ·rename_i he;have he:(a8 l).err=0:=aag.1 he;split
   ·rfl
   ·rename_i hk;have hlt:=NA he hk;by_cases hg:g=l.length
    ·rw[hg]
    ·rw[ih g (by omega) _ (by omega),ih l.length (by omega) _ (by omega)]
theorem zB(N:Nat)(l:List UInt8):ji N l=
  if(a8 l).err≠0 then⟨[],(a8 l).err,N-l.length⟩
  else if(a8 l).kind=0 then⟨[oR N l],0,0⟩
  else(ji N (cp false (l.drop (a8 l).len))).cons (oR N l):=by
 conv=>lhs;unfold ji
 simp only[oS];split
 ·rfl
 ·rename_i he;have he:(a8 l).err=0:=aag.1 he;split
  ·rfl
  ·rename_i hk;rw[YY N _ _ (NA he hk)]
def eo.after(d:List Tok)(r:eo):eo:=if r.err=0 then⟨d++r.oN,0,0⟩else⟨[],r.err,r.pos⟩
theorem eo.YZ(d:List Tok)(t:Tok)(r:eo):(r.cons t).after d=r.after (d++[t]):=by
 unfold eo.cons eo.after;by_cases h:r.err=0<;>simp[h]
theorem eo.Y0(t:Tok)(r:eo):(r.cons t).after []=r.cons t:=by
 unfold eo.cons eo.after;by_cases h:r.err=0<;>simp[h]
theorem Y1(N:Nat)(l:List UInt8):(ji N l).after []=ji N l:=by
 rw[zB];split
 ·rename_i h;simp[eo.after,h]
 ·split
  ·simp[eo.after]
  ·exact eo.Y0 _ _
theorem vM:∀(b:Bool) (l:List UInt8),l.drop (l.length-(cp b l).length)=cp b l
 |_,[]=>by simp[cp]
 |false,c::l=>by
  have h1:=kL false l;have h2:=kL true l;simp only[cp];split
  ·rw[bo,show l.length+1-(cp false l).length=(l.length-(cp false l).length)+1 from by omega,zU];exact vM false l
  ·split
   ·rw[bo,show l.length+1-(cp true l).length=(l.length-(cp true l).length)+1 from by omega,zU];exact vM true l
   ·simp
 |true,c::l=>by
  have h1:=kL false l;have h2:=kL true l;simp only[cp];split
  ·rw[bo,show l.length+1-(cp false l).length=(l.length-(cp false l).length)+1 from by omega,zU];exact vM false l
  ·rw[bo,show l.length+1-(cp true l).length=(l.length-(cp true l).length)+1 from by omega,zU];exact vM true l
def qq(l:List UInt8):Nat:=l.length-(cp false l).length
theorem NB(l:List UInt8):qq l<=l.length:=Nat.sub_le _ _
theorem NC(l:List UInt8):l.drop (qq l)=cp false l:=vM false l
theorem ND{s:List UInt8}{k:Nat}(hk:k<=s.length):oR s.length (s.drop k)=⟨(a8 (s.drop k)).kind,(a8 (s.drop k)).text,(a8 (s.drop k)).n,k⟩:=by
 unfold oR;rw[kO,show s.length-(s.length-k)=k from by omega]
theorem NF(d:List Tok)(t:Tok):mM (d++[t])=mM d++t.cells:=by simp[mM]
theorem Y2{s:List UInt8}{k:Nat}(hk:k<=s.length)(he:¬(a8 (s.drop k)).err=0):ji s.length (s.drop k)=⟨[],(a8 (s.drop k)).err,k⟩:=by
 rw[zB,if_pos he,kO,show s.length-(s.length-k)=k from by omega]
theorem Y3{s:List UInt8}{k:Nat}(he:(a8 (s.drop k)).err=0)(h0:(a8 (s.drop k)).kind=0):ji s.length (s.drop k)=⟨[oR s.length (s.drop k)],0,0⟩:=by
 rw[zB,if_neg (by simp[he]),if_pos h0]
theorem Y4{s:List UInt8}{k:Nat}(he:(a8 (s.drop k)).err=0)(h0:¬(a8 (s.drop k)).kind=0):
  ji s.length (s.drop k)=(ji s.length (s.drop (k+(a8 (s.drop k)).len+qq (s.drop (k+(a8 (s.drop k)).len))))).cons (oR s.length (s.drop k)):=by
 rw[zB,if_neg (by simp[he]),if_neg h0,List.drop_drop,<-NC,List.drop_drop]
end Go.Lamb
