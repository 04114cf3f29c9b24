/- . -/
import Derived.RangeFuncNested
import Derived.RangeFuncBound
import Derived.RangeFuncCalls
import Derived.RangeFuncLeaves
import Derived.RangeFuncBox
import Derived.Shelf.Abstract
import Derived.Shelf.RegionOpen
import Derived.WalkKit
import Derived.OwnWalkIn
import Derived.TacticsInMore
import Derived.LoopNIn
import Derived.LoopIn
import Derived.Test.YtdlkenpilhakfaaGreatDoorChecked
import Derived.Test.YtdlkenpilhakfaaGreatDoorQJ16
set_option linter.unusedSimpArgs false
set_option linter.unusedVariables false
set_option maxHeartbeats 8000000
set_option maxRecDepth 20000
open Array renaming replicate_succ->wj,replicate_zero->wm
open Fin renaming val->iS
open List renaming append_toArray->wq,cons_append->iR,length_cons->bo,length_nil->cM,nil_append->er,push_toArray->wo,size_toArray->oV
open Nat renaming reduceAdd->dL,reduceSub->sK
open Go.Proofs.Tryz
namespace Go.Proofs.YtdlkenpilhakfaaGreatDoor
open Go.RowKit Go.Shelf Go.Lamb
attribute [local go_sem] Oper.semAt_some
def gm(len k:Nat):List Nat:=(List.range k).map fun j=>len-1-j
theorem yZ(len k:Nat):gm len (k+1)=gm len k++[len-1-k]:=by simp[gm,List.range_succ]
theorem LX(len k:Nat):(gm len k).length=k:=by simp[gm]
def vS(xs:Nat->Value)(i:Nat):Value:=.agg #[xs (i*4),xs (i*4+1),xs (i*4+2),xs (i*4+3)]
def ff(n₀ Bs:Nat)(A B:World):Prop:=Below n₀ A B/\∀v,A.cell? ⟨Bs,0,none⟩=some v->B.cell? ⟨Bs,0,none⟩=some v
theorem ff.refl(n₀ Bs:Nat)(A:World):ff n₀ Bs A A:=⟨Below.refl _ _,fun _ h=>h⟩
theorem ff.trans{n₀ Bs:Nat}{A B C:World}(h:ff n₀ Bs A B)(k:ff n₀ Bs B C):ff n₀ Bs A C:=⟨h.1.trans k.1,fun v e=>k.2 v (h.2 v e)⟩
theorem ff.xu{n₀ Bs:Nat}{w:World}(hn:n₀<=w.heap.size)(W:World)(l:Nat)(o o':Obj)(hl:w.heap.size<=l)(h:W.heap[l]?=some o)(hc:o.isCells=false)(hk:o.isWalk=false):ff n₀ Bs W (W.putObj l o'):=
 ⟨belowK_b hn W l o o' hl h hc hk,fun v e=>cell_kept e (grownBy_putObj' W l o') (fun r e=>by cases e;exact⟨o,h,hc⟩)⟩
set_option maxRecDepth 100000 in
set_option maxHeartbeats 2000000 in
theorem Z1(F:Fence)(n:Nat)(hf:F.fn 177)(hro:F.round=none)(hn:1<=n)(l Bs n₀ b off len cap:Nat)(A:Option Addr)(hA:0<len->A=some ⟨b,off,none⟩)(xs:Nat->Value)(hreach:len<=1000000)(hb:0<len->b<n₀)(J Jx:List (Fin len)->World->Prop)
  (hY:∀pre (x:Fin len) W,J pre W->pre.length<len->YieldAt F (n-1) prog l #[.int .i64 (x.1:Nat),vS xs x.1] W fun e W'=>
    (e= .returned (.bool true)/\J (pre++[x]) W'/\ff n₀ Bs W W')\/(e= .returned (.bool false)/\Jx (pre++[x]) W'))
  (W:World) (hBs:W.cell? ⟨Bs,0,none⟩=some (.slice A len cap)) (hc:∀j,j<len*4->W.cell? ⟨b,off+j,none⟩=some (xs j)) (h0:J [] W):
  CallsIn F n prog 177 #[.func (.yield l) #[] #[],.pointer (some ⟨Bs,0,none⟩)] W fun e W'=>(∃v,e= .returned v)/\
   ((∃ys,ys.map iS=gm len len/\J ys W')\/(∃pre,True/\Jx pre W')):=by
 have hw0:IntKind.i64.wrap ((len:Int)-1)=(len:Int)-1:=bD (by omega) (by omega);refine callsIn_of_wp func177 rfl hf ?_ hro;simp only[ntmps177,oV,bo,cM,dL,sK,wj,wm,wo,wq,er,iR]
 gi_wp2
 gi_loopw [3] (fun i wr=>∃(k:Nat) (pre:List (Fin len)),k<=len/\i= .int .i64 ((len:Int)-1-k)/\pre.map iS=gm len k/\J pre wr/\ff n₀ Bs W wr)
  (fun i _=>(intOf i+1).toNat)
 case atStart=>exact⟨0,[],Nat.zero_le _,by simp[hw0],rfl,h0,ff.refl _ _ _⟩
 case round=>
  obtain⟨k,pre,hk,rfl,hpre,hJs,hnx⟩:=hrel;have hBx:=hnx.2 _ hBs;by_cases hlt:k<len
  ·have hcx:∀j,j<len*4->wr.cell? ⟨b,off+j,none⟩=some (xs j):=fun j h=>(hnx.1.cell (p:=⟨b,off+j,none⟩) (hb (by omega))).trans (hc j h);obtain⟨m,hm,hmm⟩:∃m,m<len/\len-1-k=m:=⟨_,by omega,rfl⟩;obtain⟨fn,tmps,assign,body,hy,hR⟩:=hY _ ⟨m,hm⟩ wr hJs (by rw[<-List.length_map (f:=iS),hpre,LX];exact hlt);have e:(len:Int)-1-k=(m:Int):=by omega
   have hpre':(pre++[(⟨m,hm⟩:Fin len)]).map iS=gm len (k+1):=by rw[List.map_append,hpre,yZ,hmm];rfl
   obtain rfl:=hA (by omega);rw[e];have c0:=hcx (m*4) (by omega);have c1:=hcx (m*4+1) (by omega);have c2:=hcx (m*4+2) (by omega);have c3:=hcx (m*4+3) (by omega);rw[<-Nat.add_assoc]at c1 c2 c3;unfold vS at hy;dsimp only at hy
   gi_wp2
   refine hR.mono ?_;rintro e W3 (⟨rfl,hJ3,hk3⟩|⟨rfl,hJx3⟩)
   ·gi_wp2
    go_roundw
    case rel=>exact⟨k+1,_,by omega,by simp only[Value.int.injEq,true_and];omega,hpre',hJ3,hnx.trans hk3⟩
    case measure=>simp[intOf]
   ·gi_wp2
    refine bodyPost_ret (results_none rfl _ _ _) rfl ?_;exact⟨⟨_,rfl⟩,.inr ⟨_,trivial,hJx3⟩⟩
  ·obtain rfl:k=len:=by omega
   have e:(k:Int)-1-k=-1:=by omega
   rw[e]
   gi_wp2
   go_end0
   exact⟨⟨_,rfl⟩,.inl ⟨_,hpre,hJs⟩⟩
set_option maxHeartbeats 1000000 in
theorem Z2(F:Fence)(n:Nat)(hf:F.fn 119)(hro:F.round=none)(a:Option Addr)(len cap:Nat)(w:World):
  CallsIn F n prog 119 #[.slice a len cap] w fun e w'=>e= .returned (.func (.func 177) #[] #[.pointer (some ⟨w.heap.size,0,none⟩)])/\w'=w.alloc (.cells #[.slice a len cap] 32):=by
 refine callsIn_of_wp func119 rfl hf ?_ hro;simp only[ntmps119,oV,bo,cM,dL,sK,wj,wm,wo,wq,er,iR]
 gi_wp2
 go_ret
 exact⟨rfl,rfl⟩
theorem Z3(F:Fence)(n:Nat)(hf:F.fn 177)(hro:F.round=none)(hn:1<=n)(Bs n₀ b off len cap:Nat)(A:Option Addr)(hA:0<len->A=some ⟨b,off,none⟩)(xs:Nat->Value)(hreach:len<=1000000)(hb:0<len->b<n₀)(w:World)(hBw:Bs<w.heap.size)(hn₀:n₀<=w.heap.size)
  (hBs:w.cell? ⟨Bs,0,none⟩=some (.slice A len cap)) (hc:∀j,j<len*4->w.cell? ⟨b,off+j,none⟩=some (xs j)):
  SeqStopsK F n prog 177 #[.pointer (some ⟨Bs,0,none⟩)] (fun x:Fin len=>#[.int .i64 (x.1:Nat),vS xs x.1]) (ff n₀ Bs) (fun ys=>ys.map iS=gm len len) (fun _=>True) len w:=fun l J Jx W hW _ _ hY h0=>by
 refine Z1 F n hf hro hn l Bs n₀ b off len cap A hA xs hreach hb J Jx hY W ((hW.cell (p:=⟨Bs,0,none⟩) hBw).trans hBs) (fun j hj=>?_) h0;have hb':=hb (by omega);exact(hW.cell (p:=⟨b,off+j,none⟩) (by show b<_;omega)).trans (hc j hj)
end Go.Proofs.YtdlkenpilhakfaaGreatDoor
