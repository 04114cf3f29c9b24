/- . -/
import Derived.Test.YtdlkenpilhakfaaGreatDoorQLexSkip
import Derived.Lib.AtoiAll
set_option linter.unusedSimpArgs false
set_option linter.unusedVariables false
set_option maxHeartbeats 8000000
set_option maxRecDepth 20000
open Bool renaming and_eq_true->bG
open Go.Lib renaming atoiAll->qw,parseUint10->qv
open List renaming all_cons->jQ
namespace Go.Lamb
open Go Go.RowKit
def decFrom(acc:Nat)(l:List UInt8):Nat:=l.foldl (fun n c=>n*10+(c.toNat-48)) acc
def kB(l:List UInt8):Nat:=decFrom 0 l
theorem Nn(acc:Nat):decFrom acc []=acc:=by unfold decFrom;rw[List.foldl_nil]
theorem Eu(acc:Nat)(c:UInt8)(l:List UInt8):decFrom acc (c::l)=decFrom (acc*10+(c.toNat-48)) l:=by unfold decFrom;rw[List.foldl_cons]
theorem No:∀(l:List UInt8) (acc:Nat),acc<=decFrom acc l
 |[],acc=>by rw[Nn];exact Nat.le_refl acc
 |c::l,acc=>by
  rw[Eu];have h:=No l (acc*10+(c.toNat-48));generalize decFrom (acc*10+(c.toNat-48)) l=d at h⊢;omega
theorem zo{c:UInt8}:cT c=true↔48<=c.toNat/\c.toNat<=57:=by simp[cT]
theorem Np(acc:Nat)(c:UInt8)(l:List UInt8)(hc:48<=c.toNat/\c.toNat<=57):qv acc (c::l)=
  if 1844674407370955162<=acc then .range else if 18446744073709551616<=acc*10+(c.toNat-48)then .range else qv (acc*10+(c.toNat-48)) l:=by
 rw[qv,if_pos hc]
theorem Ev:∀(l:List UInt8) (acc:Nat),l.all cT=true->decFrom acc l<18446744073709551616->qv acc l= .ok (decFrom acc l)
 |[],acc,_,_=>by rw[qv,Nn]
 |c::l,acc,hd,ha=>by
  rw[jQ,bG]at hd;have hc:=zo.1 hd.1;have hge:=No l (acc*10+(c.toNat-48));rw[Eu]at ha⊢;rw[Np _ _ _ hc,if_neg (by omega),if_neg (by omega)];exact Ev l _ hd.2 ha
theorem Nq:∀(l:List UInt8) (acc:Nat),l.all cT=true->acc<18446744073709551616->¬decFrom acc l<18446744073709551616->qv acc l= .range
 |[],acc,_,h0,ha=>absurd h0 ha
 |c::l,acc,hd,h0,ha=>by
  rw[jQ,bG]at hd;have hc:=zo.1 hd.1;rw[Eu]at ha;rw[Np _ _ _ hc];by_cases h1:1844674407370955162<=acc
  ·rw[if_pos h1]
  ·rw[if_neg h1];by_cases h2:18446744073709551616<=acc*10+(c.toNat-48)
   ·rw[if_pos h2]
   ·rw[if_neg h2];exact Nq l _ hd.2 (by omega) ha
theorem Ns{c:UInt8}{r:List UInt8}{u:Nat}(hc:cT c=true)(h:qv 0 (c::r)= .ok u):
  qw (c::r)=if 9223372036854775808<=u then .range else .ok (u:Int):=by
 have hc:=zo.1 hc;have h2:¬c.toNat=45:=by omega
 have h3:¬c.toNat=43:=by omega
 unfold qw Lib.parseMag;simp[h2,h3,h]
theorem YQ{c:UInt8}{r:List UInt8}(hc:cT c=true)(h:qv 0 (c::r)= .range):qw (c::r)= .range:=by
 have hc:=zo.1 hc;have h2:¬c.toNat=45:=by omega
 have h3:¬c.toNat=43:=by omega
 unfold qw Lib.parseMag;simp[h2,h3,h]
theorem Yy{l:List UInt8}(hne:l≠[])(hd:l.all cT=true)(hv:kB l<9223372036854775808):qw l= .ok ((kB l:Nat):Int):=by
 cases l with
 |nil=>exact absurd rfl hne
 |cons c r=>
  have hc:cT c=true:=by
   rw[jQ,bG]at hd;exact hd.1
  unfold kB at hv⊢;rw[Ns hc (Ev (c::r) 0 hd (by omega)),if_neg (by omega)]
theorem YA{l:List UInt8}(hne:l≠[])(hd:l.all cT=true)(hv:¬kB l<9223372036854775808):qw l= .range:=by
 cases l with
 |nil=>exact absurd rfl hne
 |cons c r=>
  have hc:cT c=true:=by
   rw[jQ,bG]at hd;exact hd.1
  unfold kB at hv;by_cases h:decFrom 0 (c::r)<18446744073709551616
  ·rw[Ns hc (Ev (c::r) 0 hd h),if_pos (by omega)]
  ·exact YQ hc (Nq (c::r) 0 hd (by omega) h)
structure zk where
 kind:Int
 text:List UInt8
 n:Int
 len:Nat
 err:Int
def gL(kind:Int)(n:Nat)(l:List UInt8):zk:=if 32<n then⟨0,[],0,0,12⟩else⟨kind,l.take n,0,n,0⟩
def qj(l:List UInt8):zk:=
 if kB (l.take (cm cT l))<9223372036854775808 then⟨3,[],((kB (l.take (cm cT l)):Nat):Int),cm cT l,0⟩else⟨0,[],0,0,11⟩
def ba:List UInt8->zk
 |[]=>⟨0,[],0,0,0⟩
 |c::l=>
  if ek c≠0 then⟨ek c,[],0,1,0⟩
  else if cT c then qj (c::l)
  else if jd c then gL 1 (cm fb (c::l)) (c::l)
  else if my c then gL 2 (cm fb (c::l)) (c::l)
  else if gK c then gL 4 (cm gK (c::l)) (c::l)
  else if kA.contains c then gL 4 1 (c::l)
  else⟨0,[],0,0,10⟩
theorem Nf(p:UInt8->Bool):∀l:List UInt8,(l.take (cm p l)).all p=true
 |[]=>by simp
 |c::l=>by
  simp only[cm];by_cases h:p c=true
  ·simp only[h,if_true,List.take_succ_cons,jQ,Bool.true_and];exact Nf p l
  ·simp[h]
theorem vH{p:UInt8->Bool}{c:UInt8}{l:List UInt8}(h:p c=true):0<cm p (c::l):=by simp[cm,h]
end Go.Lamb
