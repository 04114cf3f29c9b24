/- . -/
import Derived.Test.YtdlkenpilhakfaaGreatDoorQLexSkip
import Derived.Lib.AtoiAll
set_option linter.unusedSimpArgs false
set_option linter.unusedVariables false
set_option maxHeartbeats 8000000
set_option maxRecDepth 20000
open Bool renaming and_eq_true->bz
open Go.Lib renaming atoiAll->qG,parseUint10->qF
open List renaming all_cons->jl
namespace Go.Lamb
open Go Go.RowKit
def decFrom(acc:Nat)(l:List UInt8):Nat:=l.foldl (fun n c=>n*10+(c.toNat-48)) acc
def kK(l:List UInt8):Nat:=decFrom 0 l
theorem NG(acc:Nat):decFrom acc []=acc:=by unfold decFrom;rw[List.foldl_nil]
theorem EP(acc:Nat)(c:UInt8)(l:List UInt8):decFrom acc (c::l)=decFrom (acc*10+(c.toNat-48)) l:=by unfold decFrom;rw[List.foldl_cons]
theorem NH:∀(l:List UInt8) (acc:Nat),acc<=decFrom acc l
 |[],acc=>by rw[NG];exact Nat.le_refl acc
 |c::l,acc=>by
  rw[EP];have h:=NH l (acc*10+(c.toNat-48));generalize decFrom (acc*10+(c.toNat-48)) l=d at h⊢;omega
theorem zC{c:UInt8}:cT c=true↔48<=c.toNat/\c.toNat<=57:=by simp[cT]
theorem NI(acc:Nat)(c:UInt8)(l:List UInt8)(hc:48<=c.toNat/\c.toNat<=57):qF acc (c::l)=
  if 1844674407370955162<=acc then .range else if 18446744073709551616<=acc*10+(c.toNat-48)then .range else qF (acc*10+(c.toNat-48)) l:=by
 rw[qF,if_pos hc]
theorem ER:∀(l:List UInt8) (acc:Nat),l.all cT=true->decFrom acc l<18446744073709551616->qF acc l= .ok (decFrom acc l)
 |[],acc,_,_=>by rw[qF,NG]
 |c::l,acc,hd,ha=>by
  rw[jl,bz]at hd;have hc:=zC.1 hd.1;have hge:=NH l (acc*10+(c.toNat-48));rw[EP]at ha⊢;rw[NI _ _ _ hc,if_neg (by omega),if_neg (by omega)];exact ER l _ hd.2 ha
theorem NJ:∀(l:List UInt8) (acc:Nat),l.all cT=true->acc<18446744073709551616->¬decFrom acc l<18446744073709551616->qF acc l= .range
 |[],acc,_,h0,ha=>absurd h0 ha
 |c::l,acc,hd,h0,ha=>by
  rw[jl,bz]at hd;have hc:=zC.1 hd.1;rw[EP]at ha;rw[NI _ _ _ hc];by_cases h1:1844674407370955162<=acc
  ·rw[if_pos h1]
  ·rw[if_neg h1];by_cases h2:18446744073709551616<=acc*10+(c.toNat-48)
   ·rw[if_pos h2]
   ·rw[if_neg h2];exact NJ l _ hd.2 (by omega) ha
theorem NK{c:UInt8}{r:List UInt8}{u:Nat}(hc:cT c=true)(h:qF 0 (c::r)= .ok u):
  qG (c::r)=if 9223372036854775808<=u then .range else .ok (u:Int):=by
 have hc:=zC.1 hc;have h2:¬c.toNat=45:=by omega
 have h3:¬c.toNat=43:=by omega
 unfold qG Lib.parseMag;simp[h2,h3,h]
theorem Y5{c:UInt8}{r:List UInt8}(hc:cT c=true)(h:qF 0 (c::r)= .range):qG (c::r)= .range:=by
 have hc:=zC.1 hc;have h2:¬c.toNat=45:=by omega
 have h3:¬c.toNat=43:=by omega
 unfold qG Lib.parseMag;simp[h2,h3,h]
theorem YO{l:List UInt8}(hne:l≠[])(hd:l.all cT=true)(hv:kK l<9223372036854775808):qG l= .ok ((kK l:Nat):Int):=by
 cases l with
 |nil=>exact absurd rfl hne
 |cons c r=>
  have hc:cT c=true:=by
   rw[jl,bz]at hd;exact hd.1
  unfold kK at hv⊢;rw[NK hc (ER (c::r) 0 hd (by omega)),if_neg (by omega)]
theorem YQ{l:List UInt8}(hne:l≠[])(hd:l.all cT=true)(hv:¬kK l<9223372036854775808):qG l= .range:=by
 cases l with
 |nil=>exact absurd rfl hne
 |cons c r=>
  have hc:cT c=true:=by
   rw[jl,bz]at hd;exact hd.1
  unfold kK at hv;by_cases h:decFrom 0 (c::r)<18446744073709551616
  ·rw[NK hc (ER (c::r) 0 hd h),if_pos (by omega)]
  ·exact Y5 hc (NJ (c::r) 0 hd (by omega) h)
structure zz where
 kind:Int
 text:List UInt8
 n:Int
 len:Nat
 err:Int
def gM(kind:Int)(n:Nat)(l:List UInt8):zz:=if 32<n then⟨0,[],0,0,12⟩else⟨kind,l.take n,0,n,0⟩
def qo(l:List UInt8):zz:=
 if kK (l.take (cn cT l))<9223372036854775808 then⟨3,[],((kK (l.take (cn cT l)):Nat):Int),cn cT l,0⟩else⟨0,[],0,0,11⟩
def a8:List UInt8->zz
 |[]=>⟨0,[],0,0,0⟩
 |c::l=>
  if ek c≠0 then⟨ek c,[],0,1,0⟩
  else if cT c then qo (c::l)
  else if jg c then gM 1 (cn e7 (c::l)) (c::l)
  else if mK c then gM 2 (cn e7 (c::l)) (c::l)
  else if gL c then gM 4 (cn gL (c::l)) (c::l)
  else if kJ.contains c then gM 4 1 (c::l)
  else⟨0,[],0,0,10⟩
theorem Ny(p:UInt8->Bool):∀l:List UInt8,(l.take (cn p l)).all p=true
 |[]=>by simp
 |c::l=>by
  simp only[cn];by_cases h:p c=true
  ·simp only[h,if_true,List.take_succ_cons,jl,Bool.true_and];exact Ny p l
  ·simp[h]
theorem vL{p:UInt8->Bool}{c:UInt8}{l:List UInt8}(h:p c=true):0<cn p (c::l):=by simp[cn,h]
end Go.Lamb
