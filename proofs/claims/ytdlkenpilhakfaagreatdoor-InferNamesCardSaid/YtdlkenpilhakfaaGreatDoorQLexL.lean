/- . -/
import Derived.Test.YtdlkenpilhakfaaGreatDoorQLexNum
import Derived.Test.YtdlkenpilhakfaaGreatDoorQMem
import Derived.Lib.ItoaNum
set_option linter.unusedSimpArgs false
set_option linter.unusedVariables false
set_option maxHeartbeats 8000000
set_option maxRecDepth 20000
open Bool renaming false_eq_true->fe
open Classical renaming not_not->ZZ
open List renaming drop_succ_cons->zH,length_cons->bk,length_drop->lC
namespace Go.Lamb
open Go Go.RowKit
structure Tok where
 kind:Int
 text:List UInt8
 n:Int
 pos:Int
 deriving DecidableEq
def Tok.cells(t:Tok):List Value:=[.int .i64 t.kind,.string (bs t.text),.int .i64 t.n,.int .i64 t.pos]
def mA(l:List Tok):List Value:=l.flatMap Tok.cells
structure eo where
 oK:List Tok
 err:Int
 pos:Nat
 deriving DecidableEq
def eo.cons(t:Tok)(r:eo):eo:=if r.err=0 then⟨t::r.oK,0,0⟩else⟨[],r.err,r.pos⟩
def oN(N:Nat)(l:List UInt8):Tok:=⟨(ba l).kind,(ba l).text,(ba l).n,((N-l.length:Nat):Int)⟩
def oO(N:Nat):Nat->List UInt8->eo
 |0,_=>⟨[],0,0⟩
 |f+1,l=>
  if(ba l).err≠0 then⟨[],(ba l).err,N-l.length⟩
  else if(ba l).kind=0 then⟨[oN N l],0,0⟩
  else(oO N f (cn false (l.drop (ba l).len))).cons (oN N l)
def jf(N:Nat)(l:List UInt8):eo:=oO N (l.length+1) l
def iY(l:List UInt8):eo:=if 65536<l.length then⟨[],13,0⟩else jf l.length (cn false l)
theorem yR{l:List UInt8}:(ba l).len<=l.length:=by
 cases l with
 |nil=>simp[ba]
 |cons c l=>
  have h1:=qk cT (c::l);have h2:=qk fb (c::l);have h3:=qk gK (c::l);simp only[ba,qj,gL]
  repeat' split
  all_goals simp only[bk]at*
  all_goals omega
theorem one_pos{l:List UInt8}(he:(ba l).err=0)(hk:(ba l).kind≠0):0<(ba l).len:=by
 cases l with
 |nil=>simp[ba]at hk
 |cons c l=>
  simp only[ba,qj,gL]at he hk⊢;have hin:jd c=true->fb c=true:=fun h=>by simp[fb,h]
  have hin2:my c=true->fb c=true:=fun h=>by simp[fb,h]
  by_cases hm:ek c≠0
  ·simp[hm]
  ·simp only[hm,if_false]at he hk⊢;cases hd:cT c
   ·simp only[hd,fe,if_false]at he hk⊢;cases hs:jd c
    ·simp only[hs,fe,if_false]at he hk⊢;cases hg:my c
     ·simp only[hg,fe,if_false]at he hk⊢;cases hi:gK c
      ·simp only[hi,fe,if_false]at he hk⊢;cases hn:kA.contains c
       ·simp only[hn,fe,if_false]at hk;simp at hk
       ·simp
      ·simp only[hi,if_true]at he hk⊢;split
       ·rename_i h;rw[if_pos h]at he;simp at he
       ·exact vH hi
     ·simp only[hg,if_true]at he hk⊢;split
      ·rename_i h;rw[if_pos h]at he;simp at he
      ·exact vH (hin2 hg)
    ·simp only[hs,if_true]at he hk⊢;split
     ·rename_i h;rw[if_pos h]at he;simp at he
     ·exact vH (hin hs)
   ·simp only[hd,if_true]at he hk⊢;split
    ·exact vH hd
    ·rename_i h;rw[if_neg h]at he;simp at he
theorem Nh{l:List UInt8}(he:(ba l).err=0)(hk:(ba l).kind≠0):(cn false (l.drop (ba l).len)).length<l.length:=by
 have h1:=kC false (l.drop (ba l).len);have h2:=one_pos he hk;have h3:=@yR l;rw[lC]at h1;omega
theorem YJ(N:Nat):∀(f:Nat) (l:List UInt8),l.length<f->oO N f l=jf N l:=by
 intro f;induction f using Nat.strongRecOn with
 |_ f ih=>
  intro l hl;obtain⟨g,rfl⟩:∃g,f=g+1:=⟨f-1,by omega⟩;unfold jf;simp only[oO];split
  ·rfl
  ·rename_i he;have he:(ba l).err=0:=ZZ.1 he;split
   ·rfl
   ·rename_i hk;have hlt:=Nh he hk;by_cases hg:g=l.length
    ·rw[hg]
    ·rw[ih g (by omega) _ (by omega),ih l.length (by omega) _ (by omega)]
theorem zm(N:Nat)(l:List UInt8):jf N l=
  if(ba l).err≠0 then⟨[],(ba l).err,N-l.length⟩
  else if(ba l).kind=0 then⟨[oN N l],0,0⟩
  else(jf N (cn false (l.drop (ba l).len))).cons (oN N l):=by
 conv=>lhs;unfold jf
 simp only[oO];split
 ·rfl
 ·rename_i he;have he:(ba l).err=0:=ZZ.1 he;split
  ·rfl
  ·rename_i hk;rw[YJ N _ _ (Nh he hk)]
def eo.after(d:List Tok)(r:eo):eo:=if r.err=0 then⟨d++r.oK,0,0⟩else⟨[],r.err,r.pos⟩
theorem eo.YK(d:List Tok)(t:Tok)(r:eo):(r.cons t).after d=r.after (d++[t]):=by
 unfold eo.cons eo.after;by_cases h:r.err=0<;>simp[h]
theorem eo.YL(t:Tok)(r:eo):(r.cons t).after []=r.cons t:=by
 unfold eo.cons eo.after;by_cases h:r.err=0<;>simp[h]
theorem YM(N:Nat)(l:List UInt8):(jf N l).after []=jf N l:=by
 rw[zm];split
 ·rename_i h;simp[eo.after,h]
 ·split
  ·simp[eo.after]
  ·exact eo.YL _ _
theorem vI:∀(b:Bool) (l:List UInt8),l.drop (l.length-(cn b l).length)=cn b l
 |_,[]=>by simp[cn]
 |false,c::l=>by
  have h1:=kC false l;have h2:=kC true l;simp only[cn];split
  ·rw[bk,show l.length+1-(cn false l).length=(l.length-(cn false l).length)+1 from by omega,zH];exact vI false l
  ·split
   ·rw[bk,show l.length+1-(cn true l).length=(l.length-(cn true l).length)+1 from by omega,zH];exact vI true l
   ·simp
 |true,c::l=>by
  have h1:=kC false l;have h2:=kC true l;simp only[cn];split
  ·rw[bk,show l.length+1-(cn false l).length=(l.length-(cn false l).length)+1 from by omega,zH];exact vI false l
  ·rw[bk,show l.length+1-(cn true l).length=(l.length-(cn true l).length)+1 from by omega,zH];exact vI true l
def qm(l:List UInt8):Nat:=l.length-(cn false l).length
theorem Ni(l:List UInt8):qm l<=l.length:=Nat.sub_le _ _
theorem Nj(l:List UInt8):l.drop (qm l)=cn false l:=vI false l
theorem Nk{s:List UInt8}{k:Nat}(hk:k<=s.length):oN s.length (s.drop k)=⟨(ba (s.drop k)).kind,(ba (s.drop k)).text,(ba (s.drop k)).n,k⟩:=by
 unfold oN;rw[lC,show s.length-(s.length-k)=k from by omega]
theorem Nl(d:List Tok)(t:Tok):mA (d++[t])=mA d++t.cells:=by simp[mA]
theorem YN{s:List UInt8}{k:Nat}(hk:k<=s.length)(he:¬(ba (s.drop k)).err=0):jf s.length (s.drop k)=⟨[],(ba (s.drop k)).err,k⟩:=by
 rw[zm,if_pos he,lC,show s.length-(s.length-k)=k from by omega]
theorem YO{s:List UInt8}{k:Nat}(he:(ba (s.drop k)).err=0)(h0:(ba (s.drop k)).kind=0):jf s.length (s.drop k)=⟨[oN s.length (s.drop k)],0,0⟩:=by
 rw[zm,if_neg (by simp[he]),if_pos h0]
theorem YP{s:List UInt8}{k:Nat}(he:(ba (s.drop k)).err=0)(h0:¬(ba (s.drop k)).kind=0):
  jf s.length (s.drop k)=(jf s.length (s.drop (k+(ba (s.drop k)).len+qm (s.drop (k+(ba (s.drop k)).len))))).cons (oN s.length (s.drop k)):=by
 rw[zm,if_neg (by simp[he]),if_neg h0,List.drop_drop,<-Nj,List.drop_drop]
end Go.Lamb
