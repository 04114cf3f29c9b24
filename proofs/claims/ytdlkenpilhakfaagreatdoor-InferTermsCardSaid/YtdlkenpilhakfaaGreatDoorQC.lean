/- . -/
import Derived.Test.YtdlkenpilhakfaaGreatDoorQB
import Derived.RangeFuncBound
import Derived.Shelf.RegionOpen
import Derived.OwnWalkIn
import Derived.LoopNIn
import Derived.LoopIn
import Derived.Shelf.Small.Utf8
import Derived.Shelf.Strconv.Itoa3
import Derived.Shelf.Strconv.ErrVar
import Derived.Shelf.Strconv.ErrVarAll
import Derived.Shelf.Strconv.ParseInt10All
import Derived.Shelf.Strings.Shaped
import Derived.Shelf.Strings.Prefix
import Derived.Shelf.Unicode.Decode
import Derived.Shelf.Unicode.DecodeAny
import Derived.Shelf.Strings.SlTrimAscii
import Derived.Lib.SmallJoins
import Derived.Handy
import Derived.Lib.AppendZerosOnto
set_option linter.unusedSimpArgs false
set_option linter.unusedVariables false
set_option maxHeartbeats 8000000
set_option maxRecDepth 20000
set_option linter.defProp false
set_option linter.unnecessarySimpa false
set_option linter.constructorNameAsVariable false
open And renaming intro->mq
open Array renaming replicate_succ->xn,replicate_zero->xp
open Bool renaming eq_iff_iff->kN,and_eq_true->bM,and_false->rU,and_true->rR,false_and->nF,true_and->jz
open Fin renaming val->jB
open Go renaming cell_kept->gY,frozen_kept->uc,grownBy_putObj'->ud,heap_alloc_new->ma,run_store->rW
open Go.Builtin renaming zeroCells->rP
open Go.ByteArray renaming toList_eq->QH
open Go.IntKind renaming i64->aE
open Go.KeepsOthers renaming alloc->ael,setCell->xv
open Go.Lib renaming hid->jY,run_append_grow_zeros->xa,wpList_append_run->xb
open Go.RowKit.Below renaming refl->fJ
open Go.Shelf renaming Ren->QJ
open Go.World renaming cell?_alloc_at->xt,cell?_setCell_other->aek,cell?_setCell_same'->xu,grownBy_alloc->QK
open Int renaming eq_ofNat_of_zero_le->oY,toNat_natCast->jX
open List renaming append_toArray->xr,cons_append->iB,length_cons->bG,length_nil->dU,nil_append->dK,push_toArray->xq,size_toArray->pZ,getElem_cons_zero->di,all_cons->mg,append_assoc->dq,append_nil->cd,cons_ne_nil->aF,getElem?_cons_succ->tW,getElem?_cons_zero->tV,getElem?_eq_getElem->aN,getElem_cons_succ->ml,getElem_mem->bg,length_take->dE,map_append->dF,mem_cons->cD,mem_cons_self->aZ,mem_singleton->mv,not_mem_nil->iZ,take_of_length_le->dT,take_succ_cons->jW,take_succ_eq_append_getElem->eW,take_zero->ey,all_eq_true->cW,all_nil->GM,drop_eq_getElem_cons->gg,drop_eq_nil_of_le->xg,drop_zero->iY,length_append->bC,length_pos_iff->iX,map_cons->ck,map_nil->cP,mem_map->eU,take_length->jA,drop->gh,flatten_cons->dS,getD_eq_getElem?_getD->cx,getElem?_append_left->cr,getElem?_eq_some_iff->aI,length_map->bY,length_set->bz,map->gV,mem_append->cJ,mem_append_left->kM,mem_append_right->Bh,mem_cons_of_mem->bH,replicate->tS,take->dj
open Nat renaming reduceAdd->iA,reduceSub->tZ,le_refl->aA,zero_add->eJ,le_add_right->p9,le_trans->bf,succ_lt_succ->Bb,zero_le->be,add_assoc->jV,add_sub_cancel_left->fu,lt_irrefl->p8,mul_add->iC,mul_one->eK,not_lt_zero->fe
open Option renaming getD_some->mi
open Go.Proofs.Tryz
namespace Go.Proofs.YtdlkenpilhakfaaGreatDoor
open Go.RowKit Go.Shelf Go.Lamb
section
attribute [local go_sem] Oper.semAt_some
def gN(len k:Nat):List Nat:=(List.range k).map fun j=>len-1-j
theorem Ao(len k:Nat):gN len (k+1)=gN len k++[len-1-k]:=by simp[gN,List.range_succ]
theorem NB(len k:Nat):(gN len k).length=k:=by simp[gN]
def w7(xs:Nat->Value)(i:Nat):Value:=.agg #[xs (i*4),xs (i*4+1),xs (i*4+2),xs (i*4+3)]
def fE(b c:Nat)(A B:World):Prop:=Below b A B/\∀v,A.cell? ⟨c,0,none⟩=some v->B.cell? ⟨c,0,none⟩=some v
theorem fE.refl(b c:Nat)(A:World):fE b c A A:=⟨Below.refl _ _,fun _ h=>h⟩
theorem fE.trans{b c:Nat}{A B C:World}(h:fE b c A B)(k:fE b c B C):fE b c A C:=⟨h.1.trans k.1,fun v e=>k.2 v (h.2 v e)⟩
theorem fE.yy{b c:Nat}{w:World}(hn:b<=w.heap.size)(W:World)(l:Nat)(o o':Obj)(hl:w.heap.size<=l)(h:W.heap[l]?=some o)(hc:o.isCells=false)(g:o.isWalk=false):fE b c W (W.putObj l o'):=
 ⟨belowK_b hn W l o o' hl h hc g,fun v e=>cell_kept e (grownBy_putObj' W l o') (fun r e=>by cases e;exact⟨o,h,hc⟩)⟩
set_option maxRecDepth 100000 in
set_option maxHeartbeats 2000000 in
theorem ad2(F:Fence)(n:Nat)(hf:F.fn 177)(M:F.round=none)(hn:1<=n)(l G c b off len cap:Nat)(A:Option Addr)(Z:0<len->A=some ⟨b,off,none⟩)(xs:Nat->Value)(L:len<=1000000)(hb:0<len->b<c)(J U:List (Fin len)->World->Prop)
  (hY:∀pre (x:Fin len) W,J pre W->pre.length<len->YieldAt F (n-1) prog l #[.int .i64 (x.1:Nat),w7 xs x.1] W fun e w=>
    (e= .returned (.bool true)/\J (pre++[x]) w/\fE c G W w)\/(e= .returned (.bool false)/\U (pre++[x]) w))
  (W:World) (N:W.cell? ⟨G,0,none⟩=some (.slice A len cap)) (hc:∀j,j<len*4->W.cell? ⟨b,off+j,none⟩=some (xs j)) (h0:J [] W):
  CallsIn F n prog 177 #[.func (.yield l) #[] #[],.pointer (some ⟨G,0,none⟩)] W fun e w=>(∃v,e= .returned v)/\
   ((∃ys,ys.map jB=gN len len/\J ys w)\/(∃pre,True/\U pre w)):=by
 have O:IntKind.i64.wrap ((len:Int)-1)=(len:Int)-1:=a7 (by omega) (by omega);refine callsIn_of_wp func177 rfl hf ?_ M;simp only[ntmps177,pZ,bG,dU,iA,tZ,xn,xp,xq,xr,dK,iB]
 gi_wp2
 gi_loopw [3] (fun i wr=>∃(k:Nat) (pre:List (Fin len)),k<=len/\i= .int .i64 ((len:Int)-1-k)/\pre.map jB=gN len k/\J pre wr/\fE c G W wr)
  (fun i _=>(intOf i+1).toNat)
 case atStart=>exact⟨0,[],Nat.zero_le _,by simp[O],rfl,h0,fE.refl _ _ _⟩
 case round=>
  obtain⟨k,pre,hk,rfl,g,D,t⟩:=hrel;have hBx:=t.2 _ N;by_cases P:k<len
  ·have r:∀j,j<len*4->wr.cell? ⟨b,off+j,none⟩=some (xs j):=fun j h=>(t.1.cell (p:=⟨b,off+j,none⟩) (hb (by omega))).trans (hc j h);obtain⟨m,X,Q⟩:∃m,m<len/\len-1-k=m:=⟨_,by omega,rfl⟩;obtain⟨fn,tmps,assign,body,Y,hR⟩:=hY _ ⟨m,X⟩ wr D (by rw[<-List.length_map (f:=jB),g,NB];exact P);have e:(len:Int)-1-k=(m:Int):=by omega
   have u:(pre++[(⟨m,X⟩:Fin len)]).map jB=gN len (k+1):=by rw[List.map_append,g,Ao,Q];rfl
   obtain rfl:=Z (by omega);rw[e];have c0:=r (m*4) (by omega);have c1:=r (m*4+1) (by omega);have c2:=r (m*4+2) (by omega);have c3:=r (m*4+3) (by omega);rw[<-Nat.add_assoc]at c1 c2 c3;unfold w7 at Y;dsimp only at Y
   gi_wp2
   refine hR.mono ?_;rintro e W3 (⟨rfl,R,T⟩|⟨rfl,E⟩)
   ·gi_wp2
    go_roundw
    case rel=>exact⟨k+1,_,by omega,by simp only[Value.int.injEq,true_and];omega,u,R,t.trans T⟩
    case measure=>simp[intOf]
   ·gi_wp2
    refine bodyPost_ret (results_none rfl _ _ _) rfl ?_;exact⟨⟨_,rfl⟩,.inr ⟨_,trivial,E⟩⟩
  ·obtain rfl:k=len:=by omega
   have e:(k:Int)-1-k=-1:=by omega
   rw[e]
   gi_wp2
   go_end0
   exact⟨⟨_,rfl⟩,.inl ⟨_,g,D⟩⟩
set_option maxHeartbeats 1000000 in
theorem ad3(F:Fence)(n:Nat)(hf:F.fn 119)(b:F.round=none)(a:Option Addr)(len cap:Nat)(w:World):
  CallsIn F n prog 119 #[.slice a len cap] w fun e w'=>e= .returned (.func (.func 177) #[] #[.pointer (some ⟨w.heap.size,0,none⟩)])/\w'=w.alloc (.cells #[.slice a len cap] 32):=by
 refine callsIn_of_wp func119 rfl hf ?_ b;simp only[ntmps119,pZ,bG,dU,iA,tZ,xn,xp,xq,xr,dK,iB]
 gi_wp2
 go_ret
 exact⟨rfl,rfl⟩
theorem ad4(F:Fence)(n:Nat)(hf:F.fn 177)(h:F.round=none)(hn:1<=n)(g c b off len cap:Nat)(A:Option Addr)(E:0<len->A=some ⟨b,off,none⟩)(xs:Nat->Value)(e:len<=1000000)(u:0<len->b<c)(w:World)(i:g<w.heap.size)(r:c<=w.heap.size)
  (t:w.cell? ⟨g,0,none⟩=some (.slice A len cap)) (hc:∀j,j<len*4->w.cell? ⟨b,off+j,none⟩=some (xs j)):
  SeqStopsK F n prog 177 #[.pointer (some ⟨g,0,none⟩)] (fun x:Fin len=>#[.int .i64 (x.1:Nat),w7 xs x.1]) (fE c g) (fun ys=>ys.map jB=gN len len) (fun _=>True) len w:=fun l J G W D _ _ L h0=>by
 refine ad2 F n hf h hn l g c b off len cap A E xs e u J G L W ((D.cell (p:=⟨g,0,none⟩) i).trans t) (fun j M=>?_) h0;have N:=u (by omega);exact(D.cell (p:=⟨b,off+j,none⟩) (by show b<_;omega)).trans (hc j M)

theorem kE{W:World}{a:Addr}{v:Value}(o:Obj)(h:W.cell? a=some v):(W.alloc o).cell? a=some v:=gY h (QK W o none) (fun r e=>by cases e)
theorem w8{W:World}{a:Addr}{v:Value}(o:Obj)(h:W.cell? a=some v)(hf:W.frozen? a=false):(W.alloc o).frozen? a=false:=(uc h (QK W o none) (fun r e=>by cases e)).trans hf
def nw(m:Mem)(u:aa)(b c1 c c3:Value):Prop:=RC m (.int .i64 u.k) b/\RC m (.str u.name) c1/\RC m (.int .i64 u.n) c/\RC m (aM u.l) c3
theorem nw.mono{m e:Mem}(h:m.le e){u:aa}{a b c d:Value}(r:nw m u a b c d):nw e u a b c d:=⟨r.1.mono h,r.2.1.mono h,r.2.2.1.mono h,r.2.2.2.mono h⟩
def rO(fs:List aa)(u:aa)(pre:List (Fin fs.length)):aa:=pre.foldl (fun u i=>aa.arr fs[i] u) u
theorem Qn(fs:List aa)(u:aa)(pre:List (Fin fs.length))(i:Fin fs.length):rO fs u (pre++[i])=aa.arr fs[i] (rO fs u pre):=by simp[rO]
theorem ad5(fs:List aa)(u:aa)(pre:List (Fin fs.length))(h:pre.map Fin.val=gN fs.length fs.length):rO fs u pre=du fs u:=by
 have key:∀k,k<=fs.length->∀pre:List (Fin fs.length),pre.map Fin.val=gN fs.length k->rO fs u pre=du (fs.drop (fs.length-k)) u:=by
  intro k;induction k with
  |zero=>
   intro _ pre hp;have:pre=[]:=by simpa[gN]using hp
   subst this;simp[rO,du]
  |succ k g=>
   intro t pre hp;rw[Ao]at hp;obtain⟨i,c,rfl,j,b⟩:=List.map_eq_append_iff.1 hp;obtain⟨x,rfl⟩:∃x,c=[x]:=by
    cases c with
    |nil=>simp at b
    |cons x r=>cases r with
     |nil=>exact⟨x,rfl⟩
     |cons y r=>simp at b
   simp only[List.map_cons,List.map_nil,List.cons.injEq,and_true]at b;rw[Qn,g (by omega) i j];have hd:fs.drop (fs.length-(k+1))=fs[x]::fs.drop (fs.length-k):=by
    have e:fs.length-(k+1)=x.1:=by omega
    rw[e,List.drop_eq_getElem_cons x.2];have p:x.1+1=fs.length-k:=by omega
    rw[p];rfl
   rw[hd];rfl
 have:=key fs.length (aA _) pre h;simpa using this
theorem ad6{m:Mem}{a u:aa}{a0 t w a3 A D E F:Value}{g:Nat}(ha:nw m a a0 t w a3)(M:nw m u A D E F)(hg:∀o,m g o=none):
  m.le (fun b o=>if b=g then[a0,t,w,a3,A,D,E,F][o]? else m b o)/\
  nw (fun b o=>if b=g then[a0,t,w,a3,A,D,E,F][o]? else m b o) (.arr a u) (.int .i64 2) (.string ⟨#[]⟩) (.int .i64 0) (.slice (some ⟨g,0,none⟩) 2 2):=by
 have p:m.le (fun b o=>if b=g then[a0,t,w,a3,A,D,E,F][o]? else m b o):=fun b o v J=>by
  show(if b=g then _ else _)=_;rw[if_neg (fun e=>by rw[e,hg]at J;cases J)];exact J
 have c:=ha.mono p;have h:=M.mono p;refine⟨p,.int _ _,.str [] (by decide),.int _ _,?_⟩;refine RC.sl [a.cs,u.cs] 4 _ 2 [a0,t,w,a3,A,D,E,F] (fun r L=>?_) (by simp) (by decide) rfl (fun _=>⟨g,0,rfl,fun k O=>?_⟩) (fun i N j G=>?_)
 ·simp only[List.mem_cons,List.not_mem_nil,or_false]at L;rcases L with rfl|rfl<;>rw[aa.aG]<;>rfl
 ·show(if g=g then _ else _)=_;rw[if_pos rfl,eJ]
 ·rcases i with _|_|i
  ·simp only[di,aa.aG]at G⊢;rcases j with _|_|_|_|j
   ·exact c.1
   ·exact c.2.1
   ·exact c.2.2.1
   ·exact c.2.2.2
   ·exfalso;simp at G;omega
  ·simp only[List.getElem_cons_succ,di,aa.aG]at G⊢;rcases j with _|_|_|_|j
   ·exact h.1
   ·exact h.2.1
   ·exact h.2.2.1
   ·exact h.2.2.2
   ·exfalso;simp at G;omega
  ·exfalso;simp only[bG,dU]at N;omega
theorem ad7{m:Mem}{fs:List aa}{A:Option Addr}{len cap:Nat}(h:RC m (aM fs) (.slice A len cap)):len=fs.length/\∃xs:Nat->Value,(0<len->∃b o,A=some ⟨b,o,none⟩/\∀k,k<len*4->m b (o+k)=some (xs k))/\
  ∀i (p:i<fs.length),nw m fs[i] (xs (i*4)) (xs (i*4+1)) (xs (i*4+2)) (xs (i*4+3)):=by
 unfold aM at h;generalize w:fs.map aa.cs=rows at h;cases h with
 |sl rows s A cap xs h0 L M D E F=>
  subst w;refine⟨by simp,fun k=>xs.getD k undef,fun hl=>?_,fun i p=>?_⟩
  ·have j:fs.map aa.cs≠[]:=fun e=>by rw[e]at hl;simp at hl
   obtain⟨b,o,rfl,G⟩:=E j;have t:s=4:=by
    cases fs with
    |nil=>simp at j
    |cons a r=>
     have:=h0 a.cs (by simp);rw[aa.aG]at this;exact this.symm
   subst t;refine⟨b,o,rfl,fun k J=>?_⟩;have g:k<xs.length:=by rw[D];exact J
   rw[G k g,List.getElem?_eq_getElem g];simp[List.getD,g]
  ·have t:s=4:=by
    have:=h0 fs[i].cs (List.mem_map_of_mem (List.getElem_mem p));rw[aa.aG]at this;exact this.symm
   subst t;have u:i<(fs.map aa.cs).length:=by simpa using p
   have c:=F i u;simp only[List.getElem_map,aa.aG]at c;exact⟨c 0 (by simp),c 1 (by simp),c 2 (by simp),c 3 (by simp)⟩
theorem ad8:(prog.info? 34).map (fun i=>(i.zero,i.size,i.bytes))=some (some (.agg #[.int .i64 0,.string ⟨#[]⟩,.int .i64 0,.slice none 0 0]),4,56):=by kernel_rfl
def Qo(κ:K)(w:World)(fs:List aa)(g:aa)(pre:List (_root_.Fin fs.length))(W:World):Prop:=
 (∃m c c1 e c3,κ.m.le m/\(∀b o v,m b o=some v->W.cell? ⟨b,o,none⟩=some v/\((b<w.heap.size/\κ.m b o=some v)\/w.heap.size+3<=b))/\(W.cell? ⟨w.heap.size,0,none⟩=some c/\W.cell? ⟨w.heap.size,1,none⟩=some c1/\W.cell? ⟨w.heap.size,2,none⟩=some e/\W.cell? ⟨w.heap.size,3,none⟩=some c3)/\nw m (rO fs g pre) c c1 e c3)/\
   (∀j,j<4->W.frozen? ⟨w.heap.size,j,none⟩=false)/\(∀j,j<4->(∃v,W.cell? ⟨w.heap.size+1,j,none⟩=some v)/\W.frozen? ⟨w.heap.size+1,j,none⟩=false)/\Below w.heap.size w W/\w.heap.size+3<=W.heap.size
theorem Qp{κ:K}{w:World}{fs:List aa}{L:aa}{B:Nat}(R:w.heap.size<=B):OwnFrom B (Qo κ w fs L):=by
 rintro pre W T t ⟨⟨m,M,c1,N,c3,u,i,⟨D,E,F,G⟩,O⟩,g,P,A,Q⟩ hg J;have c:∀r,t=some r->∃o:Obj,W.heap[r]?=some o/\o.isCells=false:=fun r e=>(J r e).2;refine⟨⟨m,M,c1,N,c3,u,fun b o v p=>⟨gY (i b o v p).1 hg c,(i b o v p).2⟩,⟨gY D hg c,gY E hg c,gY F hg c,gY G hg c⟩,O⟩,fun j h=>?_,fun j h=>?_,?_,?_⟩
 ·rcases(by omega:j=0\/j=1\/j=2\/j=3)with rfl|rfl|rfl|rfl
  ·exact(uc D hg c).trans (g _ h)
  ·exact(uc E hg c).trans (g _ h)
  ·exact(uc F hg c).trans (g _ h)
  ·exact(uc G hg c).trans (g _ h)
 ·obtain⟨⟨v,p⟩,hf⟩:=P j h;exact⟨⟨v,gY p hg c⟩,(uc p hg c).trans hf⟩
 ·exact A.grown hg (by omega) (fun k e=>by have:=(J k e).1;omega)
 ·have:=hg.size;omega
theorem A3{W:World}{p a:Addr}{v:Value}(h:p.block≠a.block):(W.setCell p v).cell? a=W.cell? a:=by
 apply aek;intro e;exact h (by rw[e])
theorem lu{W:World}{b o o':Nat}{v:Value}(h:o≠o'):(W.setCell ⟨b,o,none⟩ v).cell? ⟨b,o',none⟩=W.cell? ⟨b,o',none⟩:=by
 apply aek;intro e;injection e with _ e;exact h e
def fZ(W:World)(B:Nat)(a b c d:Value):World:=(((W.setCell ⟨B,0,none⟩ a).setCell ⟨B,1,none⟩ b).setCell ⟨B,2,none⟩ c).setCell ⟨B,3,none⟩ d
section
variable {W:World} {B:Nat} {a b c d:Value}
theorem w9{x:Addr}(h:B≠x.block):(fZ W B a b c d).cell? x=W.cell? x:=by
 unfold fZ;rw[A3 h,A3 h,A3 h,A3 h]
theorem Qq{p q r s:Value}(h0:W.cell? ⟨B,0,none⟩=some p)(e:W.cell? ⟨B,1,none⟩=some q)(g:W.cell? ⟨B,2,none⟩=some r)(h:W.cell? ⟨B,3,none⟩=some s):
  (fZ W B a b c d).cell? ⟨B,0,none⟩=some a/\(fZ W B a b c d).cell? ⟨B,1,none⟩=some b/\(fZ W B a b c d).cell? ⟨B,2,none⟩=some c/\(fZ W B a b c d).cell? ⟨B,3,none⟩=some d:=by
 unfold fZ;refine⟨?_,?_,?_,?_⟩
 ·rw[lu (by decide),lu (by decide),lu (by decide)];exact xu _ _ _ (by rw[h0];rfl)
 ·rw[lu (by decide),lu (by decide)];exact xu _ _ _ (by rw[lu (by decide),e];rfl)
 ·rw[lu (by decide)];exact xu _ _ _ (by rw[lu (by decide),lu (by decide),g];rfl)
 ·exact xu _ _ _ (by rw[lu (by decide),lu (by decide),lu (by decide),h];rfl)
theorem Qr{x:Addr}:(fZ W B a b c d).frozen? x=W.frozen? x:=by
 unfold fZ;simp only[World.frozen?_setCell]
theorem Qs:KeepsOthers W (fZ W B a b c d):=(((xv _ _ _).trans (xv _ _ _)).trans (xv _ _ _)).trans (xv _ _ _)
theorem Gx{n:Nat}{V:World}(h:Below n V W)(hn:n<=B):Below n V (fZ W B a b c d):=(((h.setCell (p:=⟨B,0,none⟩) hn _).setCell (p:=⟨B,1,none⟩) hn _).setCell (p:=⟨B,2,none⟩) hn _).setCell (p:=⟨B,3,none⟩) hn _
theorem Qt:(fZ W B a b c d).heap.size=W.heap.size:=by unfold fZ;simp
end
theorem NF{W:World}{b o:Nat}{v:Value}(h:W.cell? ⟨b,o,none⟩=some v):b<W.heap.size:=by
 rcases Nat.lt_or_ge b W.heap.size with c|c
 ·exact c
 ·simp[World.cell?,Array.getElem?_eq_none c]at h
theorem heap_oldJ(w:World)(o:Obj)(i:Nat)(h:i<w.heap.size):(w.alloc o).heap[i]?=w.heap[i]?:=by first|exact heap_alloc_old w o i h|exact heap_alloc_old w o h
set_option maxRecDepth 100000 in
set_option maxHeartbeats 4000000 in
theorem ad9{w0 w:World}{κ:K}{σ:H}(t:aB w0 κ σ w)(to:aa)(fs:List aa)(hl:fs.length<=1000000)(A:Option Addr)(len cap:Nat)(t0 t1 t2 t3:Value)(ht:nw κ.m to t0 t1 t2 t3)(hfv:RC κ.m (aM fs) (.slice A len cap)):
  Calls prog 68 #[.agg #[t0,t1,t2,t3],.slice A len cap] w (fun e w'=>∃v,e= .returned v/\Below w.heap.size w w'/\RV (κ.new w w') (du fs to).v v):=by
 obtain⟨rfl,xs,hx,hxs⟩:=ad7 hfv;obtain⟨b,off,hA,hm⟩:∃b off,(0<fs.length->A=some ⟨b,off,none⟩)/\(0<fs.length->∀k,k<fs.length*4->κ.m b (off+k)=some (xs k)):=by
  by_cases h:0<fs.length
  ·obtain⟨b,o,e,h'⟩:=hx h;exact⟨b,o,fun _=>e,fun _=>h'⟩
  ·exact⟨0,0,fun h'=>absurd h' h,fun h'=>absurd h' h⟩
 have hm':∀k,k<fs.length*4->w.cell? ⟨b,off+k,none⟩=some (xs k):=fun k hk=>t.mem _ _ _ (hm (by omega) k hk);have hb:0<fs.length->b<w.heap.size:=fun h=>t.nK (hm h 0 (by omega));refine(callsIn_wide (n:=3)).1 ?_;refine callsIn_of_wp_marks func68 rfl trivial ?_ rfl;simp only[ntmps68,List.size_toArray,bG,dU,Nat.reduceAdd,Nat.reduceSub,Array.replicate_succ,Array.replicate_zero,List.push_toArray,List.append_toArray,List.nil_append,List.cons_append]
 gi_wp2_with (refine⟨trivial,?_⟩;gi_at_call 119;refine(ad3 Fence.wide 2 trivial rfl _ _ _ _).mono ?_;rintro e w' ⟨rfl,rfl⟩)
 obtain⟨G,F⟩:∃G,(((w.alloc (.cells #[t0,t1,t2,t3] 34)).alloc (.cells #[.int .i64 0,.string ⟨#[]⟩,.int .i64 0,.slice none 0 0] 34)).alloc (.cells #[.slice A fs.length cap] 32))=G:=⟨_,rfl⟩;rw[F];have hsz:G.heap.size=w.heap.size+3:=by rw[<-F];simp
 have J:Below w.heap.size w G:=by
  rw[<-F];exact(((fJ _ w).alloc (aA _) _).alloc (by simp) _).alloc (by simp;omega) _
 have L:∀j (E:j<4),G.cell? ⟨w.heap.size,j,none⟩=some (#[t0,t1,t2,t3][j])/\G.frozen? ⟨w.heap.size,j,none⟩=false:=fun j E=>by
  have h:G.heap[w.heap.size]?=some (.cells #[t0,t1,t2,t3] 34 (0,0)):=by
   rw[<-F,heap_oldJ _ _ _ (by simp;omega),heap_oldJ _ _ _ (by simp)];exact ma w _
  refine⟨by rw[cell_of_row _ _ _ _ _ _ h];rcases(by omega:j=0\/j=1\/j=2\/j=3)with rfl|rfl|rfl|rfl<;>rfl,by simp[World.frozen?,h]⟩
 have hcC:∀j (E:j<4),(∃v,G.cell? ⟨w.heap.size+1,j,none⟩=some v)/\G.frozen? ⟨w.heap.size+1,j,none⟩=false:=fun j E=>by
  have h:G.heap[w.heap.size+1]?=some (.cells #[.int .i64 0,.string ⟨#[]⟩,.int .i64 0,.slice none 0 0] 34 (0,0)):=by
   rw[<-F,heap_oldJ _ _ _ (by simp)];have:=ma (w.alloc (.cells #[t0,t1,t2,t3] 34)) (.cells #[.int .i64 0,.string ⟨#[]⟩,.int .i64 0,.slice none 0 0] 34);simpa using this
  refine⟨?_,by simp[World.frozen?,h]⟩;rw[cell_of_row _ _ _ _ _ _ h];rcases(by omega:j=0\/j=1\/j=2\/j=3)with rfl|rfl|rfl|rfl<;>exact⟨_,rfl⟩
 have hcD:G.cell? ⟨w.heap.size+1+1,0,none⟩=some (.slice A fs.length cap):=by
  rw[<-F];exact xt _ _ _ _ (by simp)
 refine wpIn_rangeFunc_ownH rfl (by omega) (gf:=177) (lb:=#[.pointer (some ⟨w.heap.size+1+1,0,none⟩)]) rfl trivial (enters_of func177 (by kernel_rfl) rfl)
  (ad4 Fence.wide 2 trivial rfl (by omega) (w.heap.size+1+1) w.heap.size b off fs.length cap A hA xs hl hb G (by omega) (by omega) hcD (fun j E=>(J.cell (p:=⟨b,off+j,none⟩) (hb (by omega))).trans (hm' j E)))
  fE.trans (fE.yy (by omega)) (fJ _ _) (fun _=>rfl)
  (Qo κ w fs to)
  (fun _ _ _=>False) (Qp (by omega)) (fun _ _ _ _ _ h=>h.elim) ?h0
  (fun x a' W=>∃N,w.heap.size+3<=N/\W.cell? ⟨N,0,none⟩=some (xs (x.1*4))/\W.cell? ⟨N,1,none⟩=some (xs (x.1*4+1))/\W.cell? ⟨N,2,none⟩=some (xs (x.1*4+2))/\W.cell? ⟨N,3,none⟩=some (xs (x.1*4+3))/\a'={tmps:=#[.agg #[t0,t1,t2,t3],.slice A fs.length cap,.pointer (some ⟨w.heap.size,0,none⟩),undef,.pointer (some ⟨w.heap.size+1,0,none⟩),undef,.pointer (some ⟨N,0,none⟩),.slice A fs.length cap,.func (.func 177) #[] #[.pointer (some ⟨w.heap.size+1+1,0,none⟩)],.int .i64 (x.1:Nat),w7 xs x.1,undef,undef,undef,undef,undef],defers:=[]}) ?hAx ?assign ?body ?done ?stop
 case stop=>
  rintro D c pre W _ _ h _;exact h.elim
 case h0=>
  refine⟨⟨κ.m,t0,t1,t2,t3,Mem.le_refl _,fun b o v u=>⟨(J.cell (p:=⟨b,o,none⟩) (t.nK u)).trans (t.mem _ _ _ u),.inl ⟨t.nK u,u⟩⟩,⟨(L 0 (by omega)).1,(L 1 (by omega)).1,(L 2 (by omega)).1,(L 3 (by omega)).1⟩,ht⟩,fun j E=>(L j E).2,fun j E=>hcC j E,J,by omega⟩
 case hAx=>
  rintro x a' _ W W' row ⟨N,h1,h2,h3,h4,h5,h6⟩ hg hr;have O:∀r,row=some r->∃o:Obj,W.heap[r]?=some o/\o.isCells=false:=fun r e=>(hr r e).2;exact⟨N,h1,gY h2 hg O,gY h3 hg O,gY h4 hg O,gY h5 hg O,h6⟩
 case assign=>
  intro l pre x W K hi hK;obtain⟨k0,k1,k2,k3⟩:=hxs x.1 x.2;have o0:=k0.one;have o1:=k1.one;have o2:=k2.one;have o3:=k3.one;have r0:=fun(W:World) (a:Addr)=>rW prog W a _ .plain o0;have r1:=fun(W:World) (a:Addr)=>rW prog W a _ .plain o1;have r2:=fun(W:World) (a:Addr)=>rW prog W a _ .plain o2;have r3:=fun(W:World) (a:Addr)=>rW prog W a _ .plain o3;unfold w7
  gi_wp2
  refine hK _ _ ((ael _ _).from _) ⟨(fJ _ W).alloc (by have:=hi.2.2.2.2;omega) _,fun v e=>kE _ e⟩ (Qp (aA _) _ _ _ none hi (QK W _ none) (fun r e=>by cases e)) ⟨W.heap.size,hi.2.2.2.2,?_,?_,?_,?_,rfl⟩
  all_goals exact xt _ _ _ _ rfl
 case body=>
  rintro l pre x a' W hl ⟨r,hr⟩ ⟨⟨m,g,c1,i,c3,U,Q,⟨q0,q1,q2,q3⟩,T⟩,M,hC,hB,hsW⟩ ⟨N,hBx,p0,p1,p2,p3,rfl⟩ hlt;have f0:=M 0 (by omega);have f1:=M 1 (by omega);have f2:=M 2 (by omega);have f3:=M 3 (by omega);have y0:=kE (.cells #[xs (x.1*4),xs (x.1*4+1),xs (x.1*4+2),xs (x.1*4+3),g,c1,i,c3] 34) q0;have y1:=kE (.cells #[xs (x.1*4),xs (x.1*4+1),xs (x.1*4+2),xs (x.1*4+3),g,c1,i,c3] 34) q1;have y2:=kE (.cells #[xs (x.1*4),xs (x.1*4+1),xs (x.1*4+2),xs (x.1*4+3),g,c1,i,c3] 34) q2;have y3:=kE (.cells #[xs (x.1*4),xs (x.1*4+1),xs (x.1*4+2),xs (x.1*4+3),g,c1,i,c3] 34) q3
  have e0:=w8 (.cells #[xs (x.1*4),xs (x.1*4+1),xs (x.1*4+2),xs (x.1*4+3),g,c1,i,c3] 34) q0 f0;have e1:=w8 (.cells #[xs (x.1*4),xs (x.1*4+1),xs (x.1*4+2),xs (x.1*4+3),g,c1,i,c3] 34) q1 f1;have e2:=w8 (.cells #[xs (x.1*4),xs (x.1*4+1),xs (x.1*4+2),xs (x.1*4+3),g,c1,i,c3] 34) q2 f2;have e3:=w8 (.cells #[xs (x.1*4),xs (x.1*4+1),xs (x.1*4+2),xs (x.1*4+3),g,c1,i,c3] 34) q3 f3
  gi_wp2
  generalize R:(#[xs (x.1*4),xs (x.1*4+1),xs (x.1*4+2),xs (x.1*4+3),g,c1,i,c3]:Array Value)=cells at*
  have X:∀o,m W.heap.size o=none:=fun o=>by
   cases h:m W.heap.size o with
   |none=>rfl
   |some v=>exact absurd (NF (Q _ _ _ h).1) (Nat.lt_irrefl _)
  obtain⟨Y,hT'⟩:=ad6 (nw.mono U (hxs x.1 x.2)) T X;change ownPostG _ _ _ _ _ _ _ _ (fZ (W.alloc (.cells cells 34)) w.heap.size (.int .i64 2) (.string ⟨#[]⟩) (.int .i64 0) (.slice (some ⟨W.heap.size,0,none⟩) 2 2));obtain⟨g0,g1,g2,g3⟩:=Qq (a:=.int .i64 2) (b:=.string ⟨#[]⟩) (c:=.int .i64 0) (d:=.slice (some ⟨W.heap.size,0,none⟩) 2 2) y0 y1 y2 y3;have Z:=hB.size;refine⟨((ael W _).trans Qs).from _,⟨Gx ((fJ w.heap.size W).alloc Z _) (aA _),fun v u=>?_⟩,?_⟩
  ·rw[w9 (by show w.heap.size≠w.heap.size+1+1;omega)];exact kE _ u
  ·refine⟨⟨_,_,_,_,_,Mem.le_trans U Y,fun b o v u=>?_,⟨g0,g1,g2,g3⟩,by rw[Qn];exact hT'⟩,fun j E=>?_,fun j E=>?_,Gx (hB.alloc Z _) (aA _),?_⟩
   ·by_cases hbg:b=W.heap.size
    ·subst hbg;rw[if_pos rfl]at u;refine⟨?_,.inr hsW⟩;rw[w9 (by simp;omega),xt _ _ _ _ rfl,<-R];simpa using u
    ·rw[if_neg hbg]at u;obtain⟨z1,z2⟩:=Q _ _ _ u;refine⟨?_,z2⟩;rw[w9 (by show w.heap.size≠b;omega)];exact kE _ z1
   ·rw[Qr];rcases(by omega:j=0\/j=1\/j=2\/j=3)with rfl|rfl|rfl|rfl<;>assumption
   ·obtain⟨⟨v,u⟩,hf⟩:=hC j E;rw[Qr,w9 (by simp)];exact⟨⟨v,kE _ u⟩,w8 _ u hf⟩
   ·rw[Qt];simp;omega
 case done=>
  rintro D ys W hD hS ⟨⟨m,g,c1,i,c3,U,Q,⟨q0,q1,q2,q3⟩,T⟩,M,hC,hB,hsW⟩ hK;obtain⟨⟨v0,g0⟩,e0⟩:=hC 0 (by omega);obtain⟨⟨v1,g1⟩,e1⟩:=hC 1 (by omega);obtain⟨⟨v2,g2⟩,e2⟩:=hC 2 (by omega);obtain⟨⟨v3,g3⟩,e3⟩:=hC 3 (by omega);have o0:=T.1.one;have o1:=T.2.1.one;have o2:=T.2.2.1.one;have o3:=T.2.2.2.one;have r0:=fun(W:World) (a:Addr)=>rW prog W a _ .plain o0;have r1:=fun(W:World) (a:Addr)=>rW prog W a _ .plain o1;have r2:=fun(W:World) (a:Addr)=>rW prog W a _ .plain o2;have r3:=fun(W:World) (a:Addr)=>rW prog W a _ .plain o3
  gi_wp2
  have hK':(fZ W (w.heap.size+1) g c1 i c3).heap[D]?=some (.deferred (some [])):=(Qs (W:=W) (B:=w.heap.size+1) (a:=g) (b:=c1) (c:=i) (d:=c3)).same D _ hK rfl;obtain⟨z0,z1,z2,z3⟩:=Qq (a:=g) (b:=c1) (c:=i) (d:=c3) g0 g1 g2 g3;have Z:=hB.size;refine⟨by simp,.inl ⟨_,_,rfl,run_takeDeferred hK',?_⟩⟩;have hp:∀{a:Addr} {v:Value},(fZ W (w.heap.size+1) g c1 i c3).cell? a=some v->((fZ W (w.heap.size+1) g c1 i c3).putObj D (.deferred none)).cell? a=some v:=fun h=>gY h (ud _ D (.deferred none)) (fun r e=>by cases e;exact⟨_,hK',rfl⟩)
  have hBf:Below w.heap.size w ((fZ W (w.heap.size+1) g c1 i c3).putObj D (.deferred none)):=(Gx hB (by omega)).grown (ud _ D (.deferred none)) (by rw[Qt];omega) (fun k e=>by cases e;omega);change LeavesInM _ _ _ _ _ _ _ _ ((fZ W (w.heap.size+1) g c1 i c3).putObj D (.deferred none));generalize hWf:(fZ W (w.heap.size+1) g c1 i c3).putObj D (.deferred none)=Wf at*
  have u0:=hp z0;have u1:=hp z1;have u2:=hp z2;have u3:=hp z3;have dI:(loadVar 34 ⟨w.heap.size+1,0,none⟩).run prog Wf= .ok (.agg #[g,c1,i,c3]) Wf:=by
   obtain⟨i0,hi,hz0,hz1,hz2⟩:=info_parts ad8;have:=run_loadCells (P:=prog) Wf ⟨w.heap.size+1,0,none⟩ 4 (fun j=>[g,c1,i,c3].getD j undef) (fun j E=>by
    rw[add_lit,eJ];rcases(by omega:j=0\/j=1\/j=2\/j=3)with rfl|rfl|rfl|rfl
    ·exact u0
    ·exact u1
    ·exact u2
    ·exact u3)
   simp only[loadVar,Sem.run_bind,Sem.run_pure,Result.andThen_ok,Go.Lamb.pa underlying34,kb,if_true,Go.Lamb.run_sizeOf hi,hz1,this];rfl
  refine⟨.agg #[g,c1,i,c3],by simp[results,Tryz.f68,asAddr,dI],_,rfl,hBf,?_⟩;rw[ad5 fs to ys hS]at T;have Y:m.le (κ.new w Wf).m:=fun b o v u=>by
   obtain⟨y1,y2⟩:=Q b o v u;show(if b<w.heap.size then κ.m b o else Wf.cell? ⟨b,o,none⟩)=some v;rcases y2 with⟨y2,y3⟩|y2
   ·rw[if_pos y2];exact y3
   ·rw[if_neg (by omega)];have:=hp (a:=⟨b,o,none⟩) (v:=v) (by rw[w9 (by show w.heap.size+1≠b;omega)];exact y1);exact this
  obtain⟨t0',t1',t2',t3'⟩:=T.mono Y;refine RV.agg (xs:=[g,c1,i,c3]) rfl fun j E=>?_;rcases(by simp at E;omega:j=0\/j=1\/j=2\/j=3)with rfl|rfl|rfl|rfl
  ·exact .c t0'
  ·exact .c t1'
  ·exact .c t2'
  ·exact .c t3'
theorem zB(w0:World)(j:aa)(fs:List aa)(hl:fs.length<=1000000)(σ:H):DC prog w0 68 [j.v,.c (aM fs)] σ (Same (du fs j).v σ):=by
 refine DC.Cy (jC func68 (by kernel_rfl) rfl) fun κ w vs e b=>?_;obtain⟨v,ys,rfl,F,b⟩:=b.cons_inv;obtain⟨u,zs,rfl,g,b⟩:=b.cons_inv;have:=b.jZ;subst this;unfold aa.v at F;cases F with
 |agg h i=>
  rename_i xs
  match xs,h with
  |[G,J,L,M],_=>
   have p:=i 0 (by simp);have r:=i 1 (by simp);have t:=i 2 (by simp);have D:=i 3 (by simp);cases g with
   |c g=>
    have E:=g;unfold aM at g;cases g with
    |sl rows s A cap xs h0 i N O P Q=>
     cases p with
     |c p=>
      cases r with
      |c r=>
       cases t with
       |c t=>
        cases D with
        |c D=>exact ad9 e j fs hl A _ cap _ _ _ _ ⟨p,r,t,D⟩ E

end
end Go.Proofs.YtdlkenpilhakfaaGreatDoor
namespace Go.Proofs
open Go.Shelf
def Tryz.adX:QJ:=⟨fun|161=>162|231=>212|227=>213|233=>214|235=>215|228=>249|197=>250|151=>251|260=>273|152=>274|137=>169|119=>284|224=>266|225=>265|217=>220|266=>257|n=>n,fun|9=>9|4=>4|3=>3|5=>5|117=>263|116=>262|0=>0|124=>266|105=>286|21=>21|119=>317|46=>300|139=>320|138=>319|n=>n,fun|3=>3|4=>4|n=>n⟩
theorem Tryz.adk:Go.Proofs.Lays.n161 prog Tryz.adX:={
 mixed:=by kernel_rfl
 f119:=func284.trans (congrArg some (by kernel_rfl))
 f137:=func169.trans (congrArg some (by kernel_rfl))
 f151:=func251.trans (congrArg some (by kernel_rfl))
 f152:=func274.trans (congrArg some (by kernel_rfl))
 f161:=func162.trans (congrArg some (by kernel_rfl))
 f197:=func250.trans (congrArg some (by kernel_rfl))
 f217:=func220.trans (congrArg some (by kernel_rfl))
 f224:=func266.trans (congrArg some (by kernel_rfl))
 f225:=func265.trans (congrArg some (by kernel_rfl))
 f227:=func213.trans (congrArg some (by kernel_rfl))
 f228:=func249.trans (congrArg some (by kernel_rfl))
 f231:=func212.trans (congrArg some (by kernel_rfl))
 f233:=func214.trans (congrArg some (by kernel_rfl))
 f235:=func215.trans (congrArg some (by kernel_rfl))
 f260:=func273.trans (congrArg some (by kernel_rfl))
 f266:=func257.trans (congrArg some (by kernel_rfl))
 t0:=underlying0
 a0:=isAgg0
 z0:=sizeOf0
 v0:=zeroValue0
 t3:=underlying3
 a3:=isAgg3
 z3:=sizeOf3
 v3:=zeroValue3
 t4:=underlying4
 a4:=isAgg4
 z4:=sizeOf4
 v4:=zeroValue4
 t5:=underlying5
 a5:=isAgg5
 z5:=sizeOf5
 v5:=zeroValue5
 t9:=underlying9
 a9:=isAgg9
 z9:=sizeOf9
 v9:=zeroValue9
 t21:=underlying21
 a21:=isAgg21
 z21:=sizeOf21
 v21:=zeroValue21
 t46:=underlying300
 a46:=isAgg300
 z46:=sizeOf300
 v46:=zeroValue300
 t105:=underlying286
 a105:=isAgg286
 z105:=sizeOf286
 v105:=zeroValue286
 t116:=underlying262
 a116:=isAgg262
 z116:=sizeOf262
 t117:=underlying263
 a117:=isAgg263
 z117:=sizeOf263
 v117:=zeroValue263
 t119:=underlying317
 a119:=isAgg317
 z119:=sizeOf317
 t124:=underlying266
 a124:=isAgg266
 z124:=sizeOf266
 v124:=zeroValue266
 t138:=underlying319
 a138:=isAgg319
 z138:=sizeOf319
 v138:=zeroValue319
 t139:=underlying320
 a139:=isAgg320
 z139:=sizeOf320
 v139:=zeroValue320
 g3:=by kernel_rfl
 g4:=by kernel_rfl}
def Tryz.adY:QJ:=⟨fun|137=>169|217=>220|266=>257|n=>n,fun|9=>9|5=>5|3=>3|n=>n,fun|n=>n⟩
theorem Tryz.adZ:Go.Proofs.Lays.n137 prog Tryz.adY:={
 mixed:=by kernel_rfl
 f137:=func169.trans (congrArg some (by kernel_rfl))
 f217:=func220.trans (congrArg some (by kernel_rfl))
 f266:=func257.trans (congrArg some (by kernel_rfl))
 t3:=underlying3
 a3:=isAgg3
 z3:=sizeOf3
 v3:=zeroValue3
 t5:=underlying5
 a5:=isAgg5
 z5:=sizeOf5
 v5:=zeroValue5
 t9:=underlying9
 a9:=isAgg9
 z9:=sizeOf9
 v9:=zeroValue9}
open Go.RowKit in
theorem Tryz.strings_IndexByte(s:ByteArray)(c:Int)(w:World):
 Calls prog 169 #[.string s,.int .u8 c] w fun e w'=>e= .returned (.int .i64 (Lib.indexByte s.data.toList c.toNat.toUInt8))/\w'=w:=Any.strings_IndexByte Tryz.adZ s c w
def Tryz.ad0:QJ:=⟨fun|144=>148|143=>200|219=>244|217=>220|225=>265|224=>266|267=>267|266=>257|314=>281|n=>n,fun|9=>9|4=>4|3=>3|5=>5|46=>300|146=>315|51=>314|n=>n,fun|1=>0|n=>n⟩
theorem Tryz.ad1:Go.Proofs.Lays.n144 prog Tryz.ad0:={
 mixed:=by kernel_rfl
 f143:=func200.trans (congrArg some (by kernel_rfl))
 f144:=func148.trans (congrArg some (by kernel_rfl))
 f217:=func220.trans (congrArg some (by kernel_rfl))
 f219:=func244.trans (congrArg some (by kernel_rfl))
 f224:=func266.trans (congrArg some (by kernel_rfl))
 f225:=func265.trans (congrArg some (by kernel_rfl))
 f266:=func257.trans (congrArg some (by kernel_rfl))
 f267:=func267.trans (congrArg some (by kernel_rfl))
 f314:=func281.trans (congrArg some (by kernel_rfl))
 t3:=underlying3
 a3:=isAgg3
 z3:=sizeOf3
 v3:=zeroValue3
 t4:=underlying4
 a4:=isAgg4
 z4:=sizeOf4
 v4:=zeroValue4
 t5:=underlying5
 a5:=isAgg5
 z5:=sizeOf5
 v5:=zeroValue5
 t9:=underlying9
 a9:=isAgg9
 z9:=sizeOf9
 v9:=zeroValue9
 t46:=underlying300
 a46:=isAgg300
 z46:=sizeOf300
 v46:=zeroValue300
 t51:=underlying314
 a51:=isAgg314
 z51:=sizeOf314
 v51:=zeroValue314
 t146:=underlying315
 a146:=isAgg315
 z146:=sizeOf315
 v146:=zeroValue315
 g1:=by kernel_rfl}
open Go.RowKit Go.Lib in
theorem Tryz.strings_Contains_one(s:ByteArray)(c:UInt8)(w:World):
 Calls prog 148 #[.string s,.string ⟨#[c]⟩] w fun e w'=>e= .returned (.bool (decide (0<=Lib.indexByte s.data.toList c)))/\w'=w:=Any.strings_Contains_one Tryz.ad1 s c w

end Go.Proofs
namespace Go.Proofs.YtdlkenpilhakfaaGreatDoor
open Go.RowKit Go.Lamb
set_option maxRecDepth 100000 in
theorem PZ(s:ByteArray)(p:UInt8->Bool)(w:World)(t:s.size<=maxLen)(K:Nat)(u:∀(args:Array Value) (w:World),(callFunc K args).run prog w= .ok (.enter K args) w)
  (hp:∀(c:UInt8) w,Calls prog K #[.int .u8 c.toNat] w (eZ (.bool (p c)) w)):
  Calls prog 115 #[.string s,.func (.func K) #[] #[]] w (eZ (.int .i64 (fq p s.data.toList)) w):=by
 unfold maxLen at t;have r:=jY hp;clear hp
 go_enter func115,ntmps115
 go_wp2_with fail
 go_loop [5,8] (fun _ j=>∃k:Nat,k<=s.size/\j= .int .i64 k/\Hid (fq p s.data.toList=k+fq p (s.data.toList.drop k))) (fun _ i=>s.size-(intOf i).toNat)
 case atStart=>exact⟨0,Nat.zero_le _,rfl,by show _=_;simp⟩
 case round=>
  obtain⟨k,A,rfl,g⟩:=hrel;by_cases h:k<s.size
  ·have b:=jY (P0 s k h);cases hc:p s[k]
   ·go_wp2_with (refine(r.out _ _).mono ?_;rintro e w' ⟨rfl,rfl⟩)
    go_ret
    refine P4 ?_;rw[g.out,b.out];simp[fq,hc]
   ·go_wp2_with (refine(r.out _ _).mono ?_;rintro e w' ⟨rfl,rfl⟩)
    go_round
    case rel=>exact⟨k+1,by omega,by go_num,by show _=_;rw[g.out,b.out];simp[fq,hc];omega⟩
    case measure=>simp[intOf];omega
  ·have b:=jY (ada s k (by omega))
   go_wp2_with fail
   go_ret
   refine P4 ?_;rw[g.out,b.out];simp[fq];omega
theorem wP(s:ByteArray)(w:World)(b:s.size<=maxLen):Calls prog 113 #[.string s] w (eZ (.bool (iq s.data.toList)) w):=by
 unfold maxLen at b
 go_enter func113,ntmps113
 go_wp2
 all_goals go_ret
 all_goals (refine eT ?_;rw[Bool.eq_iff_iff])
 all_goals simp[iq,QH]
 ·rename_i h;rw[QH]at h;simp at h;simp[h]
 ·omega
theorem adb(c:UInt8)(w:World):Calls prog 147 #[.int .u8 c.toNat] w (eZ (.bool (kB c)) w):=by
 go_enter func147,ntmps147
 go_wp2_with (go_at_call 169;refine(Tryz.strings_IndexByte _ _ _).mono ?_;rintro e w' ⟨rfl,rfl⟩)
 all_goals go_ret
 all_goals (refine eT ?_)
 exact(Lib.contains_iff_indexByte lq c).symm
theorem ade:∀(args:Array Value) (w:World),(callFunc 116 args).run prog w= .ok (.enter 116 args) w:=enters_of func116 (by kernel_rfl) rfl
theorem adf:∀(args:Array Value) (w:World),(callFunc 147 args).run prog w= .ok (.enter 147 args) w:=enters_of func147 (by kernel_rfl) rfl
theorem adg(s:ByteArray)(w:World)(b:s.size<=maxLen):Calls prog 115 #[.string s,.func (.func 116) #[] #[]] w (eZ (.int .i64 (fq kJ s.data.toList)) w):=PZ s kJ w b _ ade ac9
theorem adh(s:ByteArray)(w:World)(b:s.size<=maxLen):Calls prog 115 #[.string s,.func (.func 147) #[] #[]] w (eZ (.int .i64 (fq kB s.data.toList)) w):=PZ s kB w b _ adf adb

set_option maxHeartbeats 400000 in
theorem VO(s:ByteArray)(w:World)(c:s.size<=maxLen):Calls prog 62 #[.string s] w (eZ (.bool (ie s.data.toList)) w):=by
 have b:=jY c;cases hf:iq s.data.toList
 ·clear c
  go_enter func62,ntmps62
  go_wp2_with (first
   |(go_at_call 113;refine(wP _ _ b.out).mono ?_;rintro e w' ⟨rfl,rfl⟩))
  go_ret
  exact eT (by simp[ie,hf])
 ·have h0:=P5 hf;have i:=P6 hf;have g:=jY (P7 (p:=nn) h0);clear c;cases h:nn s[0]
  ·go_enter func62,ntmps62
   go_wp2_with (first
    |(go_at_call 113;refine(wP _ _ b.out).mono ?_;rintro e w' ⟨rfl,rfl⟩)
    |(go_at_call 114;refine(Gj _ _).mono ?_;rintro e w' ⟨rfl,rfl⟩))
   go_ret
   exact eT (by simp[ie,g.out,h])
  ·go_enter func62,ntmps62
   go_wp2_with (first
    |(go_at_call 113;refine(wP _ _ b.out).mono ?_;rintro e w' ⟨rfl,rfl⟩)
    |(go_at_call 114;refine(Gj _ _).mono ?_;rintro e w' ⟨rfl,rfl⟩)
    |(go_at_call 115;refine(adg _ _ b.out).mono ?_;rintro e w' ⟨rfl,rfl⟩))
   go_ret
   refine eT ?_;rw[P8 kJ s];simp[ie,g.out,h,hf]
set_option maxHeartbeats 400000 in
theorem contains_one(s:ByteArray)(w:World)(h:s.size=1):Calls prog 148 #[.string ⟨#[44,59,33]⟩,.string s] w (eZ (.bool (pW rN.contains s.data.toList)) w):=by
 rw[P7 (p:=rN.contains) (show 0<s.size by omega)];have b:=adi h;have:=Tryz.strings_Contains_one ⟨#[44,59,33]⟩ s[0] w;rw[<-b]at this;exact this.mono fun e w' ⟨c,hw⟩=>⟨by rw[c];congr 2;exact(Lib.contains_iff_indexByte rN s[0]).symm,hw.symm⟩
set_option maxHeartbeats 400000 in
theorem VP(s:ByteArray)(w:World)(b:s.size<=maxLen):Calls prog 103 #[.string s] w (eZ (.bool (ld s.data.toList)) w):=by
 have c:=jY b;cases hf:iq s.data.toList
 ·clear b
  go_enter func103,ntmps103
  go_wp2_with (first
   |(go_at_call 113;refine(wP _ _ c.out).mono ?_;rintro e w' ⟨rfl,rfl⟩))
  go_ret
  exact eT (by simp[ld,hf])
 ·have h0:=P5 hf;have g:=P6 hf;have h:=jY (P8 kB s);clear b
  go_enter func103,ntmps103
  go_wp2_with (first
   |(go_at_call 113;refine(wP _ _ c.out).mono ?_;rintro e w' ⟨rfl,rfl⟩)
   |(go_at_call 115;refine(adh _ _ c.out).mono ?_;rintro e w' ⟨rfl,rfl⟩)
   |(go_at_call 148;refine(contains_one _ _ (by omega)).mono ?_;rintro e w' ⟨rfl,rfl⟩))
  all_goals go_ret
  all_goals (refine eT ?_)
  all_goals (simp only[ld,<-h.out,hf])
  all_goals (rw[Bool.eq_iff_iff];simp[*])
  all_goals omega

structure fw (w:World):Prop where
 aep:∃m,w.cell? ⟨0,0,none⟩=some (.int .i64 m)
 aeq:Lib.TabIs prog w "internal/strconv.uint64pow10" .u64 Lib.pow10Tab
 aer:∃tp p,w.var? prog "strconv.ErrSyntax" =some #[.iface tp p]
 aes:∃tp p,w.var? prog "strconv.ErrRange" =some #[.iface tp p]
theorem Gk:prog.globalNamed "internal/strconv.uint64pow10" =some 5:=by kernel_rfl
theorem Gl:prog.globalNamed "strconv.ErrSyntax" =some 1:=by kernel_rfl
theorem Gm:prog.globalNamed "strconv.ErrRange" =some 2:=by kernel_rfl
theorem Gn{P:Program}{w:World}{n:String}{g:Nat}{cs:Array Value}(hg:P.globalNamed n=some g)(h:w.var? P n=some cs):g<w.heap.size:=by
 unfold World.var? at h;rw[hg]at h;simp only[Option.bind_some]at h;rcases Nat.lt_or_ge g w.heap.size with b|c
 ·exact b
 ·rw[Array.getElem?_eq_none c]at h;cases h
theorem fw.ext{w w':World}(h:fw w)(b:Below w.heap.size w w'):fw w':=by
 obtain⟨⟨m,c⟩,e,⟨t4,j,g⟩,⟨t5,r,i⟩⟩:=h;exact⟨⟨m,(b.cell (p:=⟨_,0,none⟩) (World.block_lt_of_cell? w _ c)).trans c⟩,
  var?_below b Gk (Gn Gk e) e,⟨t4,j,var?_below b Gl (Gn Gl g) g⟩,⟨t5,r,var?_below b Gm (Gn Gm i) i⟩⟩
theorem trimLeft(s:ByteArray)(w:World):Calls prog 162 #[.string s,.string ⟨#[32,9,10,13]⟩] w (adj (.string (bs (Lib.trimLeftS s.data.toList tP))) w):=
 (Any.strings_TrimLeft_laid Tryz.adk (by kernel_rfl) s ⟨#[32,9,10,13]⟩ w (by decide) (ascii_of_all (by decide))).mono fun _ _ h=>h

def Ge:List V->H->Option (V×H)
 |[.c (.str s),.c (.int .u8 c)],σ=>some (.c (.int .i64 (Lib.indexByte s c.toNat.toUInt8)),σ)
 |_,_=>none
theorem acG(w0:World)(j:List V)(σ:H)(v:V)(p:H)(h:Ge j σ=some (v,p)):DC prog w0 169 j σ (Same v p):=by
 unfold Ge at h;split at h
 ·rename_i s c;injection h with h;injection h with t u;subst t u;refine DC.uL (jC func169 (by kernel_rfl) rfl) fun κ w vs r b=>?_;obtain⟨A,ys,rfl,g,b⟩:=b.cons_inv;obtain⟨D,ys,rfl,i,b⟩:=b.cons_inv;have:=b.jZ;subst this;cases g with|c g=>
  cases g with|str _ hl=>
  cases i with|c i=>
  cases i with|int _ _=>
  refine⟨_,.c (.int _ _),(Tryz.strings_IndexByte _ c w).mono ?_⟩;rintro e w' ⟨rfl,rfl⟩;exact⟨by rw[Qe],Below.refl _ _⟩
 ·cases h
def Gf(r:List UInt8)(f:List UInt8->C):List V->H->Option (V×H)
 |[.c (.str s),.c (.str b)],σ=>cond (eqStr b r) (some (.c (f s),σ)) none
 |_,_=>none
theorem acH{w0:World}{r:List UInt8}{f:List UInt8->C}{F:FuncId}(i:∀s σ,DC prog w0 F [S s,S r] σ (Same (.c (f s)) σ))(e:List V)(σ:H)(v:V)(g:H)(h:Gf r f e σ=some (v,g)):DC prog w0 F e σ (Same v g):=by
 unfold Gf at h;split at h
 ·rename_i s b;cases hc:eqStr b r with
  |false=>rw[hc]at h;cases h
  |true=>
   rw[hc]at h;injection h with h;injection h with j p;subst j p;rw[CK hc];exact i s σ
 ·cases h
theorem acI(w0:World)(s:List UInt8)(σ:H):DC prog w0 162 [S s,S tP] σ (Same (S (Lib.trimLeftS s tP)) σ):=by
 refine DC.uL (jC func162 (by kernel_rfl) rfl) fun κ w vs i b=>?_;obtain⟨p,ys,rfl,g,b⟩:=b.cons_inv;obtain⟨r,ys,rfl,h,b⟩:=b.cons_inv;have:=b.jZ;subst this;cases g with|c g=>
 cases g with|str _ hl=>
 cases h with|c h=>
 cases h with|str _ _=>
 have t:=adp s;refine⟨_,.c (.str _ (by unfold maxLen at hl⊢;omega)),(trimLeft (bs s) w).mono ?_⟩;rintro e w' ⟨rfl,j⟩;exact⟨by rw[Qe],j⟩

section
def zx:AC:=rsq [oB 1 0,oF 2] (rsq [.f 3 0 1,.l 4 3,oI 5 .eql 4 (zK 2),.m 6 5,yF 7 3 1 6,yL 8 7 6,yM 9 8 6,yI 10 .eql 9 (zK 2) 6,oP 11 6 10 zF,.m 2 11] .ret)
abbrev Dn:List ak:=[.tmp 2]
def Jo:aq prog 63 1 Tryz.f63 zx Dn:=.auto func63
def c80:AC:=rsq [oB 1 0,oN 2,oA 3 zS4] (rsq [oN 4] (.seq (.block 0 (.loop (.seq (rif [.d 5 4 1,.k 6 63 [5]] 6 .skip (.exit 0)) (.block 1 (drg [.m 7 4,.f 8 3 1,.l 9 8,oJ 10 4 9 (zK 0),.d 11 4 10,oS 12 4 [11],oQ 13 34 4 56 7 12,.f 14 3 1,.l 15 14,oJ 16 4 15 (zK 1),.d 17 4 16,.m 4 13,.s 4 1 17] [0,1,2,3,4,5,106,7,8,9,10,211,312]))))) (.seq (drg [.m 18 4,.d 19 4 1,.m 2 18,.s 4 3 19] [0,1,2,103]) .ret)))
abbrev Jp:List ak:=[.tmp 2,.aW 4 3]
def Jq:aq prog 80 1 Tryz.f80 c80 Jp:=.auto func80
def c24:AC:=rsq [oB 1 0,oF 2] (rsq [oF 3] (.seq (rsq [.f 4 0 1,.l 5 4] (.block 0 (rif [oI 7 .eql 5 (zK 0),.m 6 7] 6 (.ax [.f 8 1 1,.l 9 8,.k 10 62 [9],.m 11 10,yF 12 2 1 11,yL 13 12 11,yI 14 .eql 13 (zK 0) 11,oP 15 11 14 zF,.m 3 15]) (rif [oI 17 .eql 5 (zK 1),.m 16 17] 16 (.ax [.f 18 1 1,.l 19 18,oI 20 .eql 19 (.k (zC)),.m 21 20,yF 22 2 1 21,yL 23 22 21,yI 24 .geq 23 (zK 0) 21,oP 25 21 24 zF,.m 26 25,yF 27 2 1 26,yL 28 27 26,yI 29 .leq 28 (zK 4611686018427387904) 26,oP 30 26 29 zF,.m 31 30,yF 32 3 1 31,yL 33 32 31,yM 34 33 31,yI 35 .eql 34 (zK 0) 31,oP 36 31 35 zF,.m 3 36]) (rif [oI 38 .eql 5 (zK 2),.m 37 38] 37 (.ax [.f 39 1 1,.l 40 39,oI 41 .eql 40 (.k (zC)),.m 42 41,yF 43 2 1 42,yL 44 43 42,yI 45 .eql 44 (zK 0) 42,oP 46 42 45 zF,.m 47 46,.y 48 (.ez 4 1) 47,.y 49 (.call (.k (.fn 63 [])) [48]) 47,oP 50 47 49 zF,.m 3 50]) .skip))))) (rsq [.m 51 3,.m 52 51,yF 53 3 1 52,yL 54 53 52,.y 55 (.call (.k (.fn 64 [])) [54,(.k (.fn 65 []))]) 52,.y 56 (.un .not 55) 52,oP 57 52 56 zF,.m 2 57] .ret)))
abbrev Jr:List ak:=[.tmp 2]
def U3:aq prog 24 1 Tryz.f24 c24 Jr:=.auto func24
def Js:AC:=rsq [oB 1 0,oF 2] (rsq [.d 3 4 1,.k 4 24 [3],oU 5 .not 4,.m 2 5] .ret)
abbrev U4:List ak:=[.tmp 2]
def U5:aq prog 65 1 Tryz.f65 Js U4:=.auto func65
def Jt:AC:=rsq [oB 1 0,oK 2 0] (rsq [.o 3 (.box (zK 0)),⟨none,.store 1 3 (zK 0),none⟩] (rsq [.d 4 4 1,.o 5 (.gZ 128 [3]),.k 6 124 [4,5]] (rsq [.l 7 3,.m 2 7] .ret)))
abbrev U6:List ak:=[.tmp 2]
def U7:aq prog 74 1 Tryz.f74 Jt U6:=.auto func74
def Ju:AC:=rsq [oA 3 zS4] (rsq [.l 4 1,.m 5 0,.o 6 (.mx 5 (zK (-1))),oI 7 .add 6 (zK 1),.o 8 (.mx 4 7),.s 1 1 8] (rsq [oD 9 zS4 [],.s 4 3 9] .ret))
abbrev Jv:List ak:=[.aW 4 3]
def U8:aq prog 128 2 Tryz.f128 Ju Jv:=.auto func128
def c124:AC:=rsq [oB 2 0,oA 4 zS4] (.seq (rif [.f 8 0 2,.l 9 8,oI 10 .eql 9 (zK 1)] 10 (rsq [.m 11 1,.f 12 2 2,.l 13 12,.o 14 (.call 11 [13]),.s 4 4 14] .ret) .skip) (rsq [.f 15 1 2,.l 16 15,oD 17 zS4 [(0,1,(zK 0)),(1,1,16)],oA 5 zS4,.s 4 5 17] (.seq (rif [.d 18 4 2,.k 19 63 [18]] 19 (.ax [oD 20 zS4 [(0,1,(zK 2))],.s 4 5 20]) .skip) (.seq (rsq [.f 21 3 2,.l 22 21,oL 23 22,oK 24 0] (.block 0 (.loop (rsq [oI 25 .lss 24 23] (.seq (.cond 25 .skip (.exit 0)) (.seq (.block 1 (rsq [oJ 26 4 22 24,.d 27 4 26,oA 7 zS4,.s 4 7 27] (drg [.f 28 3 5,.l 29 28,.d 30 4 7,.m 31 1,.k 32 124 [30,31],oS 33 4 [32],oQ 34 34 4 56 29 33,.f 35 3 5,.s 1 35 34] [2,3,104,0,1,205,306,407,508]))) (.ax [oI 36 .add 24 (zK 1),.m 24 36]))))))) (rsq [.d 37 4 5,.s 4 4 37] .ret)))))
abbrev pA:List ak:=[.aW 4 4]
def Dp:aq prog 124 2 Tryz.f124 c124 pA:=.auto func124
def sS:AC:=rsq [oF 4] (rsq [.m 5 0,.m 6 1,.k 7 117 [5,6],oI 8 .geq 7 (zK 0),.m 4 8] .ret)
abbrev vt:List ak:=[.tmp 4]
def zy:aq prog 64 2 Tryz.f64 sS vt:=.auto func64
def c117:AC:=rsq [oK 4 0] (.seq (rsq [.m 6 0,oL 7 6,oK 8 0] (.block 0 (.loop (rsq [oI 9 .lss 8 7] (.seq (.cond 9 .skip (.exit 0)) (.seq (.block 1 (rsq [.m 10 8,.m 5 10] (rif [.m 11 1,.m 12 0,.m 13 5,oJ 14 4 12 13,.d 15 4 14,.o 16 (.call 11 [15])] 16 (rsq [.m 17 5,.m 4 17] .ret) .skip))) (.ax [oI 18 .add 8 (zK 1),.m 8 18]))))))) (rsq [oK 4 (-1)] .ret))
abbrev sT:List ak:=[.tmp 4]
def zz:aq prog 117 2 Tryz.f117 c117 sT:=.auto func117
def Jw:AC:=rsq [oA 2 [zI,zC,zI,zI]] (.seq (.seq (drg [.m 3 0,.n 4 3,.f 5 1 4,.l 6 5,oI 7 .leq (zK 0) 6,.m 8 7,yV 9 0 8,.y 10 (.iD 9) 8,yF 11 1 10 8,yL 12 11 8,yV 13 0 8,.y 14 (.iD 13) 8,yF 15 0 14 8,yL 16 15 8,yM 17 16 8,yI 18 .lss 12 17 8,oP 19 8 18 zF] [0,1,2,3,4,5,6,7,8,9,10,11,12,13,14,15,16]) (.cond 19 (.seq (drg [.m 20 0,.n 21 20,.f 22 0 21,.l 23 22,.m 24 0,.n 25 24,.f 26 1 25,.l 27 26,oJ 28 4 23 27,.d 29 4 28,.s 4 2 29] [0,1,2,3,4,5,6,7,8,9,110]) .ret) .skip)) (.seq (rif [.m 30 0,.n 31 30,.f 32 0 31,.l 33 32,oL 34 33,oI 35 .gtr 34 (zK 0)] 35 (.seq (drg [.m 36 0,.n 37 36,.f 38 0 37,.l 39 38,.m 40 0,.n 41 40,.f 42 0 41,.l 43 42,oL 44 43,oI 45 .sub 44 (zK 1),oJ 46 4 39 45,.f 47 3 46,.l 48 47,oD 49 [zI,zC,zI,zI] [(3,1,48)],.s 4 2 49] [0,1,2,3,4,5,6,7,8,9,10,11,12,13,114]) .ret) .skip) (rsq [oD 50 [zI,zC,zI,zI] [],.s 4 2 50] .ret)))
abbrev Jy:List ak:=[.aW 4 2]
def U9:aq prog 268 1 Tryz.f268 Jw Jy:=.auto func268
def Jz:AC:=rsq [oF 2] (.seq (rsq [.m 3 0,.k 4 268 [3],.o 5 (.j0 0 4)] (.block 0 (.seq (rif [oI 7 .eql 5 (zK 1),.m 6 7] 6 .skip (rif [oI 8 .eql 5 (zK 2),.m 6 8] 6 .skip (.ax [oI 9 .eql 5 (zK 5),.m 6 9]))) (.cond 6 (rsq [oV 2] .ret) .skip)))) (rsq [oF 2] .ret))
abbrev JA:List ak:=[.tmp 2]
def Va:aq prog 270 1 Tryz.f270 Jz JA:=.auto func270
def JB:AC:=rsq [oK 4 0] (.seq (rsq [.m 6 0,oL 7 6,oK 8 0] (.block 0 (.loop (rsq [oI 9 .lss 8 7] (.seq (.cond 9 .skip (.exit 0)) (.seq (.block 1 (rsq [.m 10 8,.m 5 10] (rif [.m 11 1,.m 12 0,.m 13 5,oJ 14 1 12 13,.l 15 14,oI 16 .eql 11 15] 16 (rsq [.m 17 5,.m 4 17] .ret) .skip))) (.ax [oI 18 .add 8 (zK 1),.m 8 18]))))))) (rsq [oK 4 (-1)] .ret))
abbrev JC:List ak:=[.tmp 4]
def Vb:aq prog 204 2 Tryz.f204 JB JC:=.auto func204
def Dq:AC:=rsq [oA 2 zS4] (rsq [.m 3 0,oD 4 zS4 [(0,1,(zK 1)),(2,1,3)],.s 4 2 4] .ret)
abbrev Dr:List ak:=[.aW 4 2]
def JD:aq prog 126 1 Tryz.f126 Dq Dr:=.auto func126
def JE:AC:=rsq [oB 5 2,oA 6 zS4] (.seq (rif [.m 7 1,oI 8 .geq 7 (zK 200)] 8 (rsq [.m 9 0,.f 10 3 5,.l 11 10,.k 12 282 [9,(zK 31),11]] (rsq [oD 13 zS4 [],.s 4 6 13] .ret)) .skip) (rsq [.m 14 0,.m 15 1,oI 16 .add 15 (zK 1),.k 17 247 [14,16],.s 4 6 17] .ret))
abbrev JF:List ak:=[.aW 4 6]
def Vc:aq prog 271 3 Tryz.f271 JE JF:=.auto func271
def JG:AC:=rsq [oA 4 zS4] (rsq [.m 8 0,.k 9 268 [8],oA 5 [zI,zC,zI,zI],.s 4 5 9] (.seq (rif [.m 10 0,.k 11 270 [10],oU 12 .not 11] 12 (rsq [.m 13 0,.f 14 3 5,.l 15 14,.k 16 282 [13,(zK 50),15]] (rsq [oD 17 zS4 [],.s 4 4 17] .ret)) .skip) (rsq [.m 18 0,.n 19 18,.f 20 1 19,.l 21 20,oI 22 .add 21 (zK 1),.n 23 18,.f 24 1 23,.s 1 24 22] (.seq (rsq [.f 25 0 5,.l 26 25] (.block 0 (rif [oI 28 .eql 26 (zK 1),.m 27 28] 27 (rsq [.f 29 1 5,.l 30 29,oD 31 zS4 [(0,1,(zK 0)),(1,1,30)],.s 4 4 31] .ret) (rif [oI 33 .eql 26 (zK 2),.m 32 33] 32 (rsq [.m 34 0,.f 35 1 5,.l 36 35,.k 37 283 [34,36],.s 4 4 37] .ret) .skip)))) (rsq [.m 38 0,.m 39 1,.d 40 4 5,.k 41 271 [38,39,40],oA 6 zS4,.s 4 6 41] (.seq (rsq [.m 42 0,.k 43 268 [42],oA 7 [zI,zC,zI,zI],.s 4 7 43] (rif [.f 44 0 7,.l 45 44,oI 46 .neq 45 (zK 6)] 46 (.ax [.m 47 0,.f 48 3 7,.l 49 48,.k 50 282 [47,(zK 50),49]]) .skip)) (rsq [.m 51 0,.n 52 51,.f 53 1 52,.l 54 53,oI 55 .add 54 (zK 1),.n 56 51,.f 57 1 56,.s 1 57 55] (rsq [.d 58 4 6,.s 4 4 58] .ret))))))))
abbrev JH:List ak:=[.aW 4 4]
def Vd:aq prog 269 2 Tryz.f269 JG JH:=.auto func269
def JI:AC:=rsq [oA 4 zS4] (rsq [.m 8 0,.k 9 268 [8],.o 10 (.j0 0 9),oI 11 .eql 10 (zK 1),.m 5 11] (rsq [.m 12 0,.m 13 1,.k 14 269 [12,13],oA 6 zS4,.s 4 6 14] (.seq (.block 0 (.loop (.seq (rif [.m 15 5,.m 16 15,yV 17 0 16,.y 18 (.iD 17) 16,yF 19 3 18 16,yL 20 19 16,yI 21 .eql 20 (zK 0) 16,oP 22 16 21 zF,.m 23 22,yV 24 0 23,.y 25 (.call (.k (.fn 270 [])) [24]) 23,oP 26 23 25 zF] 26 .skip (.exit 0)) (.block 1 (drg [.f 27 3 6,.l 28 27,.m 29 0,.m 30 1,.k 31 269 [29,30],oS 32 4 [31],oQ 33 34 4 56 28 32,.f 34 3 6,.s 1 34 33] [2,3,104,0,1,205,306,407,508]))))) (rsq [.m 35 0,.k 36 268 [35],oA 7 [zI,zC,zI,zI],.s 4 7 36] (.seq (rif [.m 37 0,.n 38 37,.f 39 3 38,.l 40 39,oI 41 .neq 40 (zK 0),.m 42 41,yX 43 0 7 42,yT 44 43 42,yB 45 .neq 44 (zK 4) 42,oP 46 42 zT 45,.m 47 46,yX 48 1 7 47,yT 49 48 47,yB 50 .neq 49 (.k (.c (.str [45,62]))) 47,oP 51 47 zT 50] 51 (rsq [.d 52 4 6,.s 4 4 52] .ret) .skip) (rsq [.m 53 0,.n 54 53,.f 55 1 54,.l 56 55,oI 57 .add 56 (zK 1),.n 58 53,.f 59 1 58,.s 1 59 57] (.seq (drg [.m 60 0,.m 61 1,.d 62 4 7,.k 63 271 [60,61,62],.d 64 4 6,oS 65 4 [64],.k 66 68 [63,65],.s 4 4 66] [0,1,2,103,4,5,306,507]) .ret)))))))
abbrev JJ:List ak:=[.aW 4 4]
def Ve:aq prog 247 2 Tryz.f247 JI JJ:=.auto func247
def JK:AC:=rsq [oA 4 zS4,oK 5 0,oK 6 0,oK 7 0] (rsq [.m 10 0,.m 11 1,oD 12 [.ae [],zI,.ae [],zI,zI] [(0,1,10),(1,1,11)],oB 13 12,.m 8 13] (rsq [.m 14 8,.k 15 247 [14,(zK 0)],oA 9 zS4,.s 4 9 15] (.seq (rif [.m 16 8,.n 17 16,.f 18 3 17,.l 19 18,oI 20 .neq 19 (zK 0)] 20 (.seq (drg [oD 21 zS4 [],.m 22 1,.m 23 8,.n 24 23,.f 25 3 24,.l 26 25,.m 27 8,.n 28 27,.f 29 4 28,.l 30 29,.s 4 4 21,.m 5 22,.m 6 26,.m 7 30] [0,110,1,2,3,4,5,6,7,8,9,211,212,213]) .ret) .skip) (.seq (drg [.d 31 4 9,.m 32 8,.n 33 32,.f 34 1 33,.l 35 34,.s 4 4 31,.m 5 35,oK 6 0,oK 7 0] [0,105,1,2,3,4,206,207,208]) .ret))))
abbrev JL:List ak:=[.aW 4 4,.tmp 5,.tmp 6,.tmp 7]
def Vf:aq prog 209 2 Tryz.f209 JK JL:=.auto func209
def JM:AC:=rsq [oB 2 0,oF 3] (rsq [.f 4 0 2,.l 5 4,.l 6 1,oI 7 .eql 5 6,.m 3 7] .ret)
abbrev JN:List ak:=[.tmp 3]
def Vg:aq prog 246 2 Tryz.f246 JM JN:=.auto func246
def JO:AC:=rsq [oK 4 0] (.seq (rsq [.m 6 0,oL 7 6,oK 8 0] (.block 0 (.loop (rsq [oI 9 .lss 8 7] (.seq (.cond 9 .skip (.exit 0)) (.seq (.block 1 (rsq [.m 10 8,.m 5 10] (rif [.m 11 1,.m 12 0,.m 13 5,oJ 14 3 12 13,.d 15 3 14,.o 16 (.call 11 [15])] 16 (rsq [.m 17 5,.m 4 17] .ret) .skip))) (.ax [oI 18 .add 8 (zK 1),.m 8 18]))))))) (rsq [oK 4 (-1)] .ret))
abbrev JP:List ak:=[.tmp 4]
def Vh:aq prog 245 2 Tryz.f245 JO JP:=.auto func245
def c201:AC:=rsq [oB 3 1,oA 4 [zC,zI,zI],oF 5] (rsq [.m 7 0,.o 8 (.gZ 246 [3]),.k 9 245 [7,8],.m 6 9] (.seq (rif [.m 10 6,oI 11 .lss 10 (zK 0)] 11 (rsq [oD 12 [zC,zI,zI] [],.s 3 4 12,oF 5] .ret) .skip) (rsq [.m 13 0,.m 14 6,oJ 15 3 13 14,.d 16 3 15,.s 3 4 16,oV 5] .ret)))
abbrev JQ:List ak:=[.aW 3 4,.tmp 5]
def Vi:aq prog 201 2 Tryz.f201 c201 JQ:=.auto func201
def JR:AC:=rsq [oB 3 1,oA 4 [zC,zI,zI],oF 5] (.seq (rsq [.f 6 0 3,.l 7 6] (.block 0 (.seq (rif [oI 9 .eql 7 (zK 1),.m 8 9] 8 .skip (.ax [oI 10 .eql 7 (zK 4),.m 8 10])) (.cond 8 (rsq [.m 11 0,.f 12 1 3,.l 13 12,.k 14 201 [11,13],.x 15 14 0,.x 16 14 1,.s 3 4 15,.m 5 16] .ret) .skip)))) (rsq [oD 17 [zC,zI,zI] [],.s 3 4 17,oF 5] .ret))
abbrev JS:List ak:=[.aW 3 4,.tmp 5]
def Vj:aq prog 224 2 Tryz.f224 JR JS:=.auto func224
def JT:AC:=rsq [oB 3 0,oB 4 1,oF 6] (rsq [.f 7 1 4,.l 8 7,.f 9 1 3,.l 10 9,oI 11 .gtr 8 10,.m 12 11,yX 13 1 4 12,yT 14 13 12,yX 15 1 3 12,yT 16 15 12,yB 17 .eql 14 16 12,yW 18 17 12,yF 19 2 3 18,yL 20 19 18,yV 21 2 18,yI 22 .eql 20 21 18,.z 23 (.pick 18 22 zF) 12,yW 24 23 12,yF 25 2 4 24,yL 26 25 24,yV 27 2 24,yI 28 .eql 26 27 24,.z 29 (.pick 24 28 zF) 12,oP 30 12 zT 29,.m 6 30] .ret)
abbrev JU:List ak:=[.tmp 6]
def Vk:aq prog 225 3 Tryz.f225 JT JU:=.auto func225
def c173:AC:=rsq [oB 2 0,oB 3 1,oF 4] (rsq [.d 5 3 2,.d 6 3 3,.k 7 225 [5,6,(zK 1)],.m 4 7] .ret)
abbrev JV:List ak:=[.tmp 4]
def Vl:aq prog 173 2 Tryz.f173 c173 JV:=.auto func173
def c171:AC:=rsq [oA 4 [zI,zC,zI,zI]] (.seq (rsq [.m 6 0,.n 7 6,.f 8 2 7,.l 9 8,.m 10 1,oI 11 .add 9 10,.m 5 11] (rif [.m 12 5,oI 13 .leq (zK 0) 12,.m 14 13,yV 15 5 14,yV 16 0 14,.y 17 (.iD 16) 14,yF 18 1 17 14,yL 19 18 14,yM 20 19 14,yI 21 .lss 15 20 14,oP 22 14 21 zF] 22 (rsq [.m 23 0,.n 24 23,.f 25 1 24,.l 26 25,.m 27 5,oJ 28 4 26 27,.d 29 4 28,.s 4 4 29] .ret) .skip)) (.seq (rif [.m 30 0,.n 31 30,.f 32 1 31,.l 33 32,oL 34 33,oI 35 .gtr 34 (zK 0)] 35 (.seq (drg [.m 36 0,.n 37 36,.f 38 1 37,.l 39 38,.m 40 0,.n 41 40,.f 42 1 41,.l 43 42,oL 44 43,oI 45 .sub 44 (zK 1),oJ 46 4 39 45,.f 47 3 46,.l 48 47,oD 49 [zI,zC,zI,zI] [(3,1,48)],.s 4 4 49] [0,1,2,3,4,5,6,7,8,9,10,11,12,13,114]) .ret) .skip) (rsq [oD 50 [zI,zC,zI,zI] [],.s 4 4 50] .ret)))
abbrev JW:List ak:=[.aW 4 4]
def Vm:aq prog 171 2 Tryz.f171 c171 JW:=.auto func171
def JX:AC:=rsq [oB 3 1,oA 4 [zC,zI,zI],oF 5] (.seq (drg [.m 6 0,.n 7 6,.f 8 0 7,.l 9 8,.d 10 4 3,.k 11 224 [9,10],.x 12 11 0,.x 13 11 1,.s 3 4 12,.m 5 13] [0,1,2,3,4,105,206,207,308,409]) .ret)
abbrev JY:List ak:=[.aW 3 4,.tmp 5]
def Vn:aq prog 172 2 Tryz.f172 JX JY:=.auto func172
def JZ:AC:=rsq [oF 2] (.seq (rsq [.m 6 0,.k 7 171 [6,(zK 0)],oA 3 [zI,zC,zI,zI],.s 4 3 7] (rsq [.f 8 0 3,.l 9 8] (.block 0 (.seq (rif [oI 11 .eql 9 (zK 1),.m 10 11] 10 .skip (.ax [oI 12 .eql 9 (zK 4),.m 10 12])) (.cond 10 (rsq [.m 14 0,.d 15 4 3,.k 16 172 [14,15],.m 13 16,.x 17 13 0,.x 18 13 1,oA 4 [zC,zI,zI],.s 3 4 17,.m 5 18] (rsq [.m 19 5,oU 20 .not 19,.m 2 20] .ret)) (.seq (rif [oI 22 .eql 9 (zK 2),.m 21 22] 21 .skip (rif [oI 23 .eql 9 (zK 3),.m 21 23] 21 .skip (.ax [oI 24 .eql 9 (zK 5),.m 21 24]))) (.cond 21 (rsq [oV 2] .ret) .skip))))))) (rsq [oF 2] .ret))
abbrev J0:List ak:=[.tmp 2]
def Vo:aq prog 223 1 Tryz.f223 JZ J0:=.auto func223
def J1:AC:=rsq [oF 2] (rsq [.m 4 0,.k 5 171 [4,(zK 0)],.o 6 (.j0 0 5),.m 3 6] (rsq [.m 7 3,oI 8 .eql 7 (zK 1),.m 9 8,yW 10 3 9,yB 11 .eql 10 (zK 2) 9,oP 12 9 zT 11,.m 13 12,yV 14 0 13,.y 15 (.call (.k (.fn 171 [])) [14,(zK 1)]) 13,.y 16 (.j0 0 15) 13,yI 17 .eql 16 (zK 8) 13,oP 18 13 17 zF,.m 2 18] .ret))
abbrev J2:List ak:=[.tmp 2]
def Vp:aq prog 221 1 Tryz.f221 J1 J2:=.auto func221
def J4:AC:=rsq [oB 1 0,oF 2] (rsq [.f 3 0 1,.l 4 3,oI 5 .eql 4 (zK 0),.m 2 5] .ret)
abbrev J5:List ak:=[.tmp 2]
def Vq:aq prog 112 1 Tryz.f112 J4 J5:=.auto func112
def J6:AC:=rsq [oB 4 0,oB 6 2,oB 7 3,oA 8 [zI,zC,zI,.ae [],zI]] (rsq [.f 12 0 4,.l 13 12,.m 14 1,oD 15 [zI,zC,zI,.ae [],zI] [(0,1,(zK 0)),(1,1,13),(4,1,14)],oA 9 [zI,zC,zI,.ae [],zI],.s 5 9 15] (.seq (rsq [.d 16 5 6,.d 17 5 7,oS 18 5 [16,17],oL 19 18,oK 20 0] (.block 0 (.loop (rsq [oI 21 .lss 20 19] (.seq (.cond 21 .skip (.exit 0)) (.seq (.block 1 (rsq [oJ 22 5 18 20,.d 23 5 22,oA 11 [zI,zC,zI,.ae [],zI],.s 5 11 23] (.ax [.d 24 5 9,.d 25 5 11,oS 26 5 [24,25],.m 27 1,oD 28 [zI,zC,zI,.ae [],zI] [(0,1,(zK 3)),(3,1,26),(4,1,27)],.s 5 9 28]))) (.ax [oI 29 .add 20 (zK 1),.m 20 29]))))))) (rsq [.d 30 5 9,.s 5 8 30] .ret)))
abbrev J7:List ak:=[.aW 5 8]
def Vr:aq prog 176 4 Tryz.f176 J6 J7:=.auto func176
def J8:AC:=rsq [oB 7 3,oA 8 [zI,zC,zI,.ae [],zI,.c (.eL),zI,zC,zI,zI],oA 9 [zI,zI]] (.seq (rif [.m 10 2,oI 11 .geq 10 (zK 200)] 11 (.seq (drg [oD 12 [zI,zC,zI,.ae [],zI,.c (.eL),zI,zC,zI,zI] [],.f 13 3 7,.l 14 13,oD 15 [zI,zI] [(0,1,(zK 31)),(1,1,14)],.s 10 8 12,.s 2 9 15] [0,104,1,2,3,305]) .ret) .skip) (rsq [.m 16 0,.m 17 1,.m 18 2,oI 19 .add 18 (zK 1),.k 20 111 [16,17,19],.x 21 20 0,.x 22 20 1,.s 10 8 21,.s 2 9 22] .ret))
abbrev J9:List ak:=[.aW 10 8,.aW 2 9]
def Vs:aq prog 174 4 Tryz.f174 J8 J9:=.auto func174
def c222:AC:=rsq [oA 4 [zI,zC,zI,.ae [],zI],oA 5 [zI,zI]] (rsq [.m 10 0,.k 11 171 [10,(zK 0)],oA 6 [zI,zC,zI,zI],.s 4 6 11] (rsq [.f 12 1 6,.l 13 12,.f 14 3 6,.l 15 14,oD 16 [zI,zC,zI,.ae [],zI] [(0,1,(zK 0)),(1,1,13),(4,1,15)],oA 7 [zI,zC,zI,.ae [],zI],.s 5 7 16] (.seq (.block 0 (rif [.m 18 0,.k 19 223 [18],oU 20 .not 19,.m 17 20] 17 (.seq (drg [oD 21 [zI,zC,zI,.ae [],zI] [],.f 22 3 6,.l 23 22,oD 24 [zI,zI] [(0,1,(zK 30)),(1,1,23)],.s 5 4 21,.s 2 5 24] [0,104,1,2,3,305]) .ret) (rif [.f 26 0 6,.l 27 26,oI 28 .eql 27 (zK 5),.m 25 28] 25 (rsq [.m 29 0,.m 30 1,.k 31 258 [29,30],.x 32 31 0,.x 33 31 1,.s 5 4 32,.s 2 5 33] .ret) (rif [.f 35 0 6,.l 36 35,oI 37 .eql 36 (zK 3),.m 34 37] 34 (.ax [.f 38 2 6,.l 39 38,.f 40 3 6,.l 41 40,oD 42 [zI,zC,zI,.ae [],zI] [(0,1,(zK 2)),(2,1,39),(4,1,41)],.s 5 7 42]) (rif [.f 44 0 6,.l 45 44,oI 46 .neq 45 (zK 4),.m 47 46,yV 48 0 47,.y 49 (.call (.k (.fn 171 [])) [48,(zK 1)]) 47,.y 50 (.j0 0 49) 47,yI 51 .eql 50 (zK 8) 47,oP 52 47 51 zF,.m 43 52] 43 (rsq [.m 53 0,.n 54 53,.f 55 2 54,.l 56 55,oI 57 .add 56 (zK 2),.n 58 53,.f 59 2 58,.s 1 59 57] (rsq [.m 61 0,.m 62 1,.d 63 4 6,.k 64 174 [61,(zK 0),62,63],.m 60 64,.x 65 60 0,.x 66 60 1,oA 8 [zI,zC,zI,.ae [],zI,.c (.eL),zI,zC,zI,zI],oA 9 [zI,zI],.s 10 8 65,.s 2 9 66] (.seq (drg [.f 67 1 6,.l 68 67,.f 69 0 8,.d 70 5 69,oS 71 5 [70],.f 72 3 6,.l 73 72,oD 74 [zI,zC,zI,.ae [],zI] [(0,1,(zK 4)),(1,1,68),(3,1,71),(4,1,73)],.d 75 2 9,.s 5 4 74,.s 2 5 75] [0,1,2,3,4,5,6,7,109,8,310]) .ret))) (rif [.f 77 0 6,.l 78 77,oI 79 .eql 78 (zK 2),.m 76 79] 76 (.ax [.f 80 0 7,⟨none,.store 1 80 (zK 1),none⟩]) .skip)))))) (rsq [.m 81 0,.n 82 81,.f 83 2 82,.l 84 83,oI 85 .add 84 (zK 1),.n 86 81,.f 87 2 86,.s 1 87 85] (rsq [.d 88 5 7,oD 89 [zI,zI] [],.s 5 4 88,.s 2 5 89] .ret)))))
abbrev Ka:List ak:=[.aW 5 4,.aW 2 5]
def Vt:aq prog 222 2 Tryz.f222 c222 Ka:=.auto func222
def Kb:AC:=rsq [oA 4 [zI,zC,zI,.ae [],zI],oA 5 [zI,zI]] (rsq [.m 11 0,.k 12 221 [11],.m 6 12] (rsq [.m 14 0,.m 15 1,.k 16 222 [14,15],.m 13 16,.x 17 13 0,.x 18 13 1,oA 7 [zI,zC,zI,.ae [],zI],oA 8 [zI,zI],.s 5 7 17,.s 2 8 18] (rsq [.f 19 4 7,.l 20 19,.m 9 20] (.seq (.block 0 (.loop (.seq (rif [.d 21 2 8,.k 22 112 [21],.m 23 22,yV 24 6 23,.y 25 (.un .not 24) 23,oP 26 23 25 zF,.m 27 26,yV 28 0 27,.y 29 (.call (.k (.fn 223 [])) [28]) 27,oP 30 27 29 zF] 30 .skip (.exit 0)) (.block 1 (rsq [.m 31 0,.k 32 221 [31],.m 6 32] (rsq [oA 10 [zI,zC,zI,.ae [],zI]] (rsq [.m 34 0,.m 35 1,.k 36 222 [34,35],.m 33 36,.x 37 33 0,.x 38 33 1,.s 5 10 37,.s 2 8 38] (.ax [.d 39 5 7,.d 40 5 10,oS 41 5 [39,40],.m 42 9,oD 43 [zI,zC,zI,.ae [],zI] [(0,1,(zK 3)),(3,1,41),(4,1,42)],.s 5 7 43])))))))) (.seq (drg [.d 44 5 7,.d 45 2 8,.s 5 4 44,.s 2 5 45] [0,102,1,303]) .ret)))))
abbrev Kc:List ak:=[.aW 5 4,.aW 2 5]
def Vu:aq prog 170 2 Tryz.f170 Kb Kc:=.auto func170
def Kd:AC:=rsq [oA 6 [zI,zC,zI,.ae [],zI,.c (.eL),zI,zC,zI,zI],oA 7 [zI,zI]] (rsq [.m 17 0,.m 18 2,.k 19 170 [17,18],.m 16 19,.x 20 16 0,.x 21 16 1,oA 8 [zI,zC,zI,.ae [],zI],oA 9 [zI,zI],.s 5 8 20,.s 2 9 21] (rsq [.d 22 5 8,oD 23 [zI,zC,zI,.ae [],zI,.c (.eL),zI,zC,zI,zI] [(0,5,22)],oA 10 [zI,zC,zI,.ae [],zI,.c (.eL),zI,zC,zI,zI],.s 10 10 23] (.seq .skip (.seq (.block 0 (.loop (.seq (rif [.d 24 2 9,.k 25 112 [24]] 25 .skip (.exit 0)) (.block 1 (rsq [.m 26 0,.k 27 171 [26,(zK 0)],oA 11 [zI,zC,zI,zI],.s 4 11 27] (rsq [.m 29 0,.d 30 4 11,.k 31 172 [29,30],.m 28 31,.x 32 28 0,.x 33 28 1,oA 12 [zC,zI,zI],.s 3 12 32,.m 13 33] (.seq (.block 2 (rif [.m 35 13,oU 36 .not 35,.m 37 36,yX 38 1 12 37,yT 39 38 37,yW 40 1 37,yB 41 .lss 39 40 37,oP 42 37 zT 41,.m 34 42] 34 (.exit 0) (.seq (drg [.f 44 5 10,.l 45 44,.o 46 (.lz true 0 45),.m 47 46,.y 48 (.ez 3 12) 47,yF 49 5 10 47,yL 50 49 47,.y 51 (.iD 50) 47,.y 52 (.ez 3 51) 47,.y 53 (.call (.k (.fn 173 [])) [48,52]) 47,.y 54 (.un .not 53) 47,oP 55 47 54 zF,.m 43 55] [0,1,2,3,4,5,6,7,8,109,210,211,212]) (.cond 43 (.seq (drg [oD 56 [zI,zC,zI,.ae [],zI,.c (.eL),zI,zC,zI,zI] [],.f 57 3 11,.l 58 57,oD 59 [zI,zI] [(0,1,(zK 32)),(1,1,58)],.s 10 6 56,.s 2 7 59] [0,104,1,2,3,305]) .ret) .skip)))) (rsq [.m 60 0,.n 61 60,.f 62 2 61,.l 63 62,oI 64 .add 63 (zK 1),.n 65 60,.f 66 2 65,.s 1 66 64] (rsq [.f 67 1 12,.l 68 67,oI 69 .add 68 (zK 1),.m 14 69] (.seq (rif [.f 70 2 12,.l 71 70,oI 72 .eql 71 (zK 2)] 72 (.ax [.f 73 1 12,.l 74 73,.m 14 74]) .skip) (rsq [oA 15 [zI,zC,zI,.ae [],zI,.c (.eL),zI,zC,zI,zI]] (rsq [.m 76 0,.m 77 14,.m 78 2,.d 79 4 11,.k 80 174 [76,77,78,79],.m 75 80,.x 81 75 0,.x 82 75 1,.s 10 15 81,.s 2 9 82] (.seq (.seq (drg [.d 83 2 9,.k 84 112 [83],.m 85 84,yF 86 5 15 85,yL 87 86 85,.y 88 (.lz true 0 87) 85,oP 89 85 88 zF,.m 90 89,.y 91 (.ez 3 12) 90,yF 92 5 15 90,yL 93 92 90,.y 94 (.iD 93) 90,.y 95 (.ez 3 94) 90,.y 96 (.call (.k (.fn 175 [])) [91,95]) 90,.y 97 (.un .not 96) 90,oP 98 90 97 zF] [0,101,202,203,204,205,206,207,208,209,210,211,212,313,414,415]) (.cond 98 (.ax [.f 99 6 15,.f 100 3 99,.l 101 100,oD 102 [zI,zI] [(0,1,(zK 32)),(1,1,101)],.s 2 9 102]) .skip)) (drg [.d 103 3 12,.f 104 3 11,.l 105 104,.f 106 0 10,.d 107 5 106,.f 108 0 15,.d 109 5 108,.k 110 176 [103,105,107,109],.d 111 4 11,oD 112 [zI,zC,zI,.ae [],zI,.c (.eL),zI,zC,zI,zI] [(0,5,110),(5,1,12),(6,4,111)],.s 10 10 112] [0,1,2,3,4,5,6,107,8,209,310])))))))))))))) (.seq (drg [.d 113 10 10,.d 114 2 9,.s 10 6 113,.s 2 7 114] [0,102,1,303]) .ret)))))
abbrev Ke:List ak:=[.aW 10 6,.aW 2 7]
def Vv:aq prog 111 3 Tryz.f111 Kd Ke:=.auto func111
def c59:AC:=rsq [oA 6 [zI,zC,zI,.ae [],zI],oK 7 0,oK 8 0,oK 9 0] (rsq [.m 13 0,.m 14 1,.m 15 2,oD 16 [.ae [],.ae [],zI] [(0,1,13),(1,1,14),(2,1,15)],oB 17 16,.m 10 17] (rsq [.m 19 10,.k 20 111 [19,(zK 0),(zK 0)],.m 18 20,.x 21 18 0,.x 22 18 1,oA 11 [zI,zC,zI,.ae [],zI,.c (.eL),zI,zC,zI,zI],oA 12 [zI,zI],.s 10 11 21,.s 2 12 22] (.seq (rif [.d 23 2 12,.k 24 112 [23],oU 25 .not 24] 25 (.seq (drg [oD 26 [zI,zC,zI,.ae [],zI] [],.m 27 2,.f 28 0 12,.l 29 28,.f 30 1 12,.l 31 30,.s 5 6 26,.m 7 27,.m 8 29,.m 9 31] [0,106,1,2,3,4,5,207,208,209]) .ret) .skip) (.seq (drg [.f 32 0 11,.d 33 5 32,.m 34 10,.n 35 34,.f 36 2 35,.l 37 36,.s 5 6 33,.m 7 37,oK 8 0,oK 9 0] [0,1,106,2,3,4,5,207,208,209]) .ret))))
abbrev Kf:List ak:=[.aW 5 6,.tmp 7,.tmp 8,.tmp 9]
def Vw:aq prog 59 3 Tryz.f59 c59 Kf:=.auto func59
def Kg(l:List cb):List (List C):=l.map fun s=>[C.str s]
def Kh(t:List Tok)(i:Int)(v:Nat)(vs:List cb)(e p:Int):ad:=.cells [.c (yj t),I i,.aC v (Kg vs),I e,I p]
def zA(vs:List cb):ad:=.spare 9 1 vs.length
attribute [local go_sem] Kh zA kY sF sG sH sI qy aa.v aa.aG aO aQ aL aH aM
def Ds(w0:World)(n:Int)(σ:H):DC prog w0 126 [I n] σ (Same (aa.var n).v σ):=by
 refine JD.go rfl (fun b e=>?_);apply bl;simp only[go_sem,Dq];(refine W.fg (b) (d:=(aa.var n).v) (by simp only[Dr,go_sem,aa.v,aa.var,aO,aQ,aL,aH];rfl) (by simp only[aT,go_sem,aa.v,aa.var,aO,aQ,aL,aH];exact aR) ?_ (hl:=by(first|exact .c _|(simp only[go_sem,aa.v,aa.var,aO,aQ,aL,aH];done))));exact⟨rfl,rfl⟩
def Dt(w0:World)(b u:aa)(σ:H):DC prog w0 68 [b.v,.c (.sl [[.int .i64 u.k,.str u.name,.int .i64 u.n,.sl (u.l.map aa.cs)]])] σ (Same (aa.arr u b).v σ):=by
 have h:=zB w0 b [u] (by simp) σ;unfold aM at h;rw[List.map_cons,List.map_nil,aa.aG]at h;exact h
end
section
def Ki:AC:=rsq [oN 0] (rsq [oS 1 1 [(.k (.c (.str [107,105,110,100]))),(.k (.c (.str [116,121,112,101]))),(.k (.c (.str [105,110,102,105,120]))),(.k (.c (.str [105,110,102,105,120,108]))),(.k (.c (.str [105,110,102,105,120,114])))],.m 0 1] .ret)
abbrev Kj:List ak:=[.tmp 0]
def Vx:aq prog 153 0 Tryz.f153 Ki Kj:=.auto func153
def Kk:AC:=rsq [oA 2 [zI,zC,zI,zI]] (.seq (drg [.m 3 0,.n 4 3,.f 5 0 4,.l 6 5,.m 7 0,.n 8 7,.f 9 1 8,.l 10 9,.m 11 0,.n 12 11,.f 13 0 12,.l 14 13,oL 15 14,oI 16 .sub 15 (zK 1),.o 17 (.mn 10 16),oJ 18 4 6 17,.d 19 4 18,.s 4 2 19] [0,1,2,3,4,5,6,7,8,9,10,11,12,13,14,15,16,117]) .ret)
abbrev Kl:List ak:=[.aW 4 2]
def Vy:aq prog 60 1 Tryz.f60 Kk Kl:=.auto func60
def Km:AC:=rsq [oF 6] (rsq [.m 9 0,.k 10 60 [9],oA 7 [zI,zC,zI,zI],.s 4 7 10] (rsq [.f 11 0 7,.l 12 11,.m 13 1,oI 14 .eql 12 13,.m 15 14,yF 16 1 7 15,yL 17 16 15,yV 18 2 15,yI 19 .eql 17 18 15,oP 20 15 19 zF,.m 8 20] (.seq (rif [.m 21 8] 21 (.ax [.m 22 0,.n 23 22,.f 24 1 23,.l 25 24,oI 26 .add 25 (zK 1),.n 27 22,.f 28 1 27,.s 1 28 26]) .skip) (rsq [.m 29 8,.m 6 29] .ret))))
abbrev Kn:List ak:=[.tmp 6]
def Vz:aq prog 207 3 Tryz.f207 Km Kn:=.auto func207
def c210:AC:=rsq [oA 6 [zI,zC,zI,zI]] (rsq [.m 8 0,.k 9 60 [8],oA 7 [zI,zC,zI,zI],.s 4 7 9] (.seq (rif [.m 10 2,.f 11 0 7,.l 12 11,.k 13 248 [10,12],oU 14 .not 13] 14 (.ax [.m 15 0,.m 16 1,.f 17 3 7,.l 18 17,.k 19 208 [15,16,18]]) .skip) (rsq [.m 20 0,.n 21 20,.f 22 1 21,.l 23 22,oI 24 .add 23 (zK 1),.n 25 20,.f 26 1 25,.s 1 26 24] (rsq [.d 27 4 7,.s 4 6 27] .ret))))
abbrev Ko:List ak:=[.aW 4 6]
def VA:aq prog 210 3 Tryz.f210 c210 Ko:=.auto func210
def c206:AC:=rsq [oN 4] (rsq [.m 6 0,.m 7 1,.k 8 210 [6,(zK 100),7],oS 9 4 [8],.m 5 9] (.seq (.block 0 (.loop (.seq (rif [.m 10 0,.n 11 10,.f 12 3 11,.l 13 12,oI 14 .eql 13 (zK 0),.m 15 14,yV 16 0 15,.y 17 (.call (.k (.fn 207 [])) [16,(zK 4),(.k (.c (.str [44])))]) 15,oP 18 15 17 zF] 18 .skip (.exit 0)) (.block 1 (.ax [.m 19 5,.m 20 0,.m 21 1,.k 22 210 [20,(zK 100),21],oS 23 4 [22],oQ 24 123 4 40 19 23,.m 5 24]))))) (rsq [.m 25 5,.m 4 25] .ret)))
abbrev Kp:List ak:=[.tmp 4]
def VB:aq prog 206 2 Tryz.f206 c206 Kp:=.auto func206
def Kq:AC:=rsq [oN 2] (rsq [oN 3] (.seq (rsq [.m 6 0,oL 7 6,oK 8 0] (.block 0 (.loop (rsq [oI 9 .lss 8 7] (.seq (.cond 9 .skip (.exit 0)) (.seq (.block 1 (rsq [oJ 10 4 6 8,.d 11 4 10,oA 5 [zI,zC,zI,zI],.s 4 5 11] (.ax [.m 12 3,.f 13 1 5,.l 14 13,oS 15 1 [14],oQ 16 9 1 16 12 15,.m 3 16]))) (.ax [oI 17 .add 8 (zK 1),.m 8 17]))))))) (rsq [.m 18 3,.m 2 18] .ret)))
abbrev Kr:List ak:=[.tmp 2]
def VC:aq prog 205 1 Tryz.f205 Kq Kr:=.auto func205
def Ks:AC:=rsq [oA 2 [zI,.ae [],zI,zI,zC,zI,.ae [],zC,zI,zI,zI,zC,zI,.ae [],zI,zI]] (rsq [.m 8 0,oS 9 1 [(zK 1),(zK 4)],.k 10 206 [8,9],.k 11 205 [10],oD 12 [zI,.ae [],zI,zI,zC,zI,.ae [],zC,zI,zI,zI,zC,zI,.ae [],zI,zI] [(0,1,(zK 1)),(1,1,11)],oA 3 [zI,.ae [],zI,zI,zC,zI,.ae [],zC,zI,zI,zI,zC,zI,.ae [],zI,zI],.s 16 3 12] (.seq (rif [.m 13 0,.n 14 13,.f 15 3 14,.l 16 15,oI 17 .neq 16 (zK 0)] 17 (rsq [.d 18 16 3,.s 16 2 18] .ret) .skip) (.seq (drg [.m 20 0,.n 21 20,.f 22 0 21,.l 23 22,.m 24 0,.n 25 24,.f 26 1 25,.l 27 26,.k 28 209 [23,27],.m 19 28,.x 29 19 0,.x 30 19 1,.x 31 19 2,.x 32 19 3,oA 4 zS4,.s 4 4 29,.m 5 30,.m 6 31,.m 7 32] [114,0,1,2,3,4,5,6,7,8,9,10,315,11,12,13,416,417,418]) (.seq (rif [.m 33 6,oI 34 .neq 33 (zK 0)] 34 (.ax [.m 35 0,.m 36 6,.m 37 7,.k 38 208 [35,36,37]]) .skip) (rsq [.m 39 0,.d 40 4 4,.m 41 5,.f 42 3 3,.s 4 42 40,.n 43 39,.f 44 1 43,.s 1 44 41] (rsq [.d 45 16 3,.s 16 2 45] .ret))))))
abbrev Kt:List ak:=[.aW 16 2]
def VD:aq prog 155 1 Tryz.f155 Ks Kt:=.auto func155
def Ku:AC:=rif [.m 2 0,.n 3 2,.f 4 3 3,.l 5 4,oI 6 .eql 5 (zK 0)] 6 (.ax [.m 7 0,oS 8 1 [(zK 7)],.k 9 210 [7,(zK 101),8]]) .skip
abbrev Kv:List ak:=[]
def VE:aq prog 158 1 Tryz.f158 Ku Kv:=.auto func158
def c107:AC:=rsq [oA 2 [zI,.ae [],zI,zI,zC,zI,.ae [],zC,zI,zI,zI,zC,zI,.ae [],zI,zI]] (rsq [.m 6 0,.k 7 60 [6],oA 3 [zI,zC,zI,zI],.s 4 3 7] (rsq [.o 4 (.jc (.k (zC)))] (.seq (.seq (drg [.f 8 0 3,.l 9 8,oI 10 .eql 9 (zK 1),.m 11 10,.y 12 (.call (.k (.fn 153 [])) []) 11,yF 13 1 3 11,yL 14 13 11,.y 15 (.call (.k (.fn 152 [])) [12,14]) 11,oP 16 11 15 zF] [0,1,2,3,104,5,6,307,408]) (.cond 16 (rsq [.f 17 1 3,.l 18 17,.m 4 18] (.ax [.m 19 0,.n 20 19,.f 21 1 20,.l 22 21,oI 23 .add 22 (zK 1),.n 24 19,.f 25 1 24,.s 1 25 23])) .skip)) (rsq [oA 5 [zI,.ae [],zI,zI,zC,zI,.ae [],zC,zI,zI,zI,zC,zI,.ae [],zI,zI]] (.seq (rsq [.m 26 4] (.block 0 (rif [oI 30 .eql 26 (.k (.c (.str [107,105,110,100]))),.m 29 30] 29 (.ax [.m 31 0,.k 32 154 [31],.s 16 5 32]) (rif [oI 34 .eql 26 (.k (.c (.str [116,121,112,101]))),.m 33 34] 33 (.ax [.m 35 0,.k 36 155 [35],.s 16 5 36]) (rif [oI 38 .eql 26 (.k (.c (.str [105,110,102,105,120]))),.m 37 38] 37 (.ax [.m 39 0,.k 40 156 [39,(zK 0)],.s 16 5 40]) (rif [oI 42 .eql 26 (.k (.c (.str [105,110,102,105,120,108]))),.m 41 42] 41 (.ax [.m 43 0,.k 44 156 [43,(zK 1)],.s 16 5 44]) (rif [oI 46 .eql 26 (.k (.c (.str [105,110,102,105,120,114]))),.m 45 46] 45 (.ax [.m 47 0,.k 48 156 [47,(zK 2)],.s 16 5 48]) (.ax [.m 27 0,.k 28 157 [27],.s 16 5 28])))))))) (.seq (rif [.f 49 0 5,.l 50 49,oI 51 .neq 50 (zK 2)] 51 (.ax [.m 52 0,.k 53 158 [52]]) .skip) (rsq [.f 54 3 3,.l 55 54,.f 56 15 5,.s 1 56 55] (rsq [.d 57 16 5,.s 16 2 57] .ret))))))))
abbrev Kw:List ak:=[.aW 16 2]
def VF:aq prog 107 1 Tryz.f107 c107 Kw:=.auto func107
def Kx:AC:=rsq [oN 2,oN 3,oK 4 0,oK 5 0] (rsq [.m 12 0,.k 13 58 [12],.m 11 13,.x 14 11 0,.x 15 11 1,.x 16 11 2,.m 6 14,.m 7 15,.m 8 16] (.seq (rif [.m 17 7,oI 18 .neq 17 (zK 0)] 18 (rsq [.m 19 7,.m 20 8,oN 2,oN 3,.m 4 19,.m 5 20] .ret) .skip) (rsq [.m 21 6,.k 22 106 [],oD 23 [.ae [],zI,.ae [],zI,zI] [(0,1,21),(2,1,22)],oB 24 23,.m 9 24] (rsq [oN 10] (.seq (.block 0 (.loop (.seq (rif [.m 25 9,.n 26 25,.f 27 3 26,.l 28 27,oI 29 .eql 28 (zK 0),.m 30 29,yV 31 9 30,.y 32 (.call (.k (.fn 60 [])) [31]) 30,.y 33 (.j0 0 32) 30,yI 34 .neq 33 (zK 0) 30,oP 35 30 34 zF] 35 .skip (.exit 0)) (.block 1 (.ax [.m 36 10,.m 37 9,.k 38 107 [37],oS 39 16 [38],oQ 40 62 16 200 36 39,.m 10 40]))))) (.seq (rif [.m 41 9,.n 42 41,.f 43 3 42,.l 44 43,oI 45 .neq 44 (zK 0)] 45 (.seq (drg [.m 46 9,.n 47 46,.f 48 3 47,.l 49 48,.m 50 9,.n 51 50,.f 52 4 51,.l 53 52,oN 2,oN 3,.m 4 49,.m 5 53] [0,1,2,3,4,5,6,7,8,9,10,11]) .ret) .skip) (.seq (drg [.m 54 10,.m 55 9,.n 56 55,.f 57 2 56,.l 58 57,.m 2 54,.m 3 58,oK 4 0,oK 5 0] [0,1,2,3,4,5,6,7,8]) .ret)))))))
abbrev Ky:List ak:=[.tmp 2,.tmp 3,.tmp 4,.tmp 5]
def VG:aq prog 56 1 Tryz.f56 Kx Ky:=.auto func56
def c20:AC:=rsq [oA 4 [zI,zC,zI,.ae [],zI],oK 5 0,oK 6 0] (rsq [.m 16 1,.k 17 58 [16],.m 15 17,.x 18 15 0,.x 19 15 1,.x 20 15 2,.m 7 18,.m 8 19,.m 9 20] (.seq (rif [.m 21 8,oI 22 .neq 21 (zK 0)] 22 (rsq [oD 23 [zI,zC,zI,.ae [],zI] [],.m 24 8,.m 25 9,.s 5 4 23,.m 5 24,.m 6 25] .ret) .skip) (rsq [.m 27 0,.m 28 7,.k 29 59 [27,28,(zK 0)],.m 26 29,.x 30 26 0,.x 31 26 1,.x 32 26 2,.x 33 26 3,oA 10 [zI,zC,zI,.ae [],zI],.s 5 10 30,.m 11 31,.m 8 32,.m 12 33] (.seq (rif [.m 34 8,oI 35 .neq 34 (zK 0)] 35 (rsq [oD 36 [zI,zC,zI,.ae [],zI] [],.m 37 8,.m 38 12,.s 5 4 36,.m 5 37,.m 6 38] .ret) .skip) (rsq [.m 39 7,.m 40 11,oD 41 [.ae [],zI,.ae [],zI,zI] [(0,1,39),(1,1,40)],oB 42 41,.m 13 42] (.seq (rif [.m 43 13,.k 44 60 [43],.o 45 (.j0 0 44),oI 46 .eql 45 (zK 7)] 46 (.ax [.m 47 13,.n 48 47,.f 49 1 48,.l 50 49,oI 51 .add 50 (zK 1),.n 52 47,.f 53 1 52,.s 1 53 51]) .skip) (.seq (rsq [.m 54 13,.k 55 60 [54],oA 14 [zI,zC,zI,zI],.s 4 14 55] (rif [.f 56 0 14,.l 57 56,oI 58 .neq 57 (zK 0)] 58 (.seq (drg [oD 59 [zI,zC,zI,.ae [],zI] [],.f 60 3 14,.l 61 60,.s 5 4 59,oK 5 101,.m 6 61] [0,103,1,2,204,205]) .ret) .skip)) (rsq [.d 62 5 10,.s 5 4 62,oK 5 0,oK 6 0] .ret))))))))
abbrev Kz:List ak:=[.aW 5 4,.tmp 5,.tmp 6]
def VH:aq prog 20 2 Tryz.f20 c20 Kz:=.auto func20
def c152:AC:=rsq [oF 4] (rsq [.m 5 0,.m 6 1,.k 7 204 [5,6],oI 8 .geq 7 (zK 0),.m 4 8] .ret)
abbrev KA:List ak:=[.tmp 4]
def VI:aq prog 152 2 Tryz.f152 c152 KA:=.auto func152
def KB:AC:=rsq [oF 4] (rsq [.m 5 0,.m 6 1,.k 7 272 [5,6],oI 8 .geq 7 (zK 0),.m 4 8] .ret)
abbrev KC:List ak:=[.tmp 4]
def VJ:aq prog 248 2 Tryz.f248 KB KC:=.auto func248
def KE:AC:=rsq [oK 4 0] (.seq (rsq [.m 6 0,oL 7 6,oK 8 0] (.block 0 (.loop (rsq [oI 9 .lss 8 7] (.seq (.cond 9 .skip (.exit 0)) (.seq (.block 1 (rsq [.m 10 8,.m 5 10] (rif [.m 11 1,.m 12 0,.m 13 5,oJ 14 1 12 13,.l 15 14,oI 16 .eql 11 15] 16 (rsq [.m 17 5,.m 4 17] .ret) .skip))) (.ax [oI 18 .add 8 (zK 1),.m 8 18]))))))) (rsq [oK 4 (-1)] .ret))
abbrev KF:List ak:=[.tmp 4]
def VK:aq prog 272 2 Tryz.f272 KE KF:=.auto func272
def KG:AC:=rsq [oN 2] (.seq (rif [.m 3 0,.o 4 (.jd false 3)] 4 (rsq [oN 2] .ret) .skip) (rsq [oS 5 3 [],.m 6 0,oQ 7 60 3 32 5 6,.m 2 7] .ret))
abbrev VL:List ak:=[.tmp 2]
def VM:aq prog 98 1 Tryz.f98 KG VL:=.auto func98
def VN{s:List UInt8}{args:List V}(h:∀y∈args,V.Sz y)(b:S s∈args):s.length<=maxLen:=by
 have:=h _ b;rwa [S,HV,Sv]at this
def DC.zD{w0:World}{f:FuncId}{s:List UInt8}{b:Bool}{σ:H}(i:Enters prog f)(h:∀w,s.length<=maxLen->Calls prog f #[.string (bs s)] w (eZ (.bool b) w)):DC prog w0 f [S s] σ (Same (B b) σ):=by
 refine DC.uL i fun κ w vs p g=>?_;obtain⟨v,ys,rfl,j,g⟩:=g.cons_inv;have:=g.jZ;subst this;cases j with
 |c j=>
  cases j with
  |str _ hl=>
   refine⟨.bool b,.c (.bool b),(h w hl).mono ?_⟩;rintro e w' ⟨rfl,rfl⟩;exact⟨rfl,Below.refl _ _⟩
def Du(w0:World)(s:List UInt8)(σ:H):DC prog w0 62 [S s] σ (Same (B (ie s)) σ):=
 DC.zD (jC func62 (by kernel_rfl) rfl) fun w b=>VO (bs s) w b
def KH(w0:World)(s:List UInt8)(σ:H):DC prog w0 103 [S s] σ (Same (B (ld s)) σ):=
 DC.zD (jC func103 (by kernel_rfl) rfl) fun w b=>VP (bs s) w b
attribute [local go_sem] aa.v aa.aG aO aQ aL aH aM
def KI{α:Type}{f:α->List C}{l:List α}{x:V}{args:List V}(h:∀y∈args,V.Sz y)(b:x∈args)(e:x= .c (.sl (l.map f))):l.length<=9223372036854775807:=by
 subst e;exact sA (h _ b)
def VQ(w0:World)(l:List aa)(f:FuncId)(caps:List V)(p:aa->Bool)(σ:H)(hp:∀o∈l,DC prog w0 f (o.v::caps) σ (Same (B (p o)) σ)):DC prog w0 117 [.c (.sl (l.map aa.cs)),.fn f caps] σ (Same (I (kV p l)) σ):=by
 refine zz.go rfl (fun g u=>?_);have r:=KI u (aZ ..) rfl;apply bl;simp only[go_sem,c117];refine W.aY (fun i=>i<=l.length/\lM p l i) (fun i=>⟨((((base.put (some 0) (.c (.sl (l.map aa.cs)))).put (some 1) (.fn f caps)).put (some 7) (I l.length)).put (some 8) (I i)),σ⟩) (fun i=>l.length-i) 0 ⟨be _,uT⟩ ?_ (fun i w=>?_)
 ·exact wV
 ·obtain⟨w,e⟩:=w;by_cases b:i<l.length
  ·have t:((i:Int)<(l.length:Int)):=by omega
   have A:l[i]?=some l[i]:=aN b;apply bl;simp only[go_sem,t];refine wY ?_;simp only[go_sem,t,bu,A];(refine db (hp l[i] (bg b)) ?_;simp only[go_sem]);refine W.test rfl (fun h=>?_) (fun h=>?_)
   ·apply bl;simp only[go_sem];(refine W.ret (Fin.same g (by simp only[aX,sT,go_sem];rfl) ?_ (by first|exact .c _|(simp only[go_sem];done)) (by first|exact⟨[],(cd _).symm⟩|exact⟨_,rfl⟩));simp only[aT]);rw[HX e b h]
   ·have hw:=cF b r;apply bl;simp only[go_sem,hw];refine .inv ⟨i+1,⟨b,uS e b h⟩,by omega,?_⟩;exact wV
  ·have t:¬((i:Int)<(l.length:Int)):=by omega
   apply bl;simp only[go_sem,t];refine wN ?_;simp only[go_sem];(refine W.ret (Fin.same g (by simp only[aX,sT,go_sem];rfl) ?_ (by first|exact .c _|(simp only[go_sem];done)) (by first|exact⟨[],(cd _).symm⟩|exact⟨_,rfl⟩));simp only[aT]);rw[HY (fun j D=>e j D (by omega))]
def KJ{α:Type}(p:α->Bool)(l:List α):decide (kV p l>=0)=l.any p:=by
 rcases Te p l with⟨h,b⟩|⟨i,c,h,b⟩
 ·rw[h];rw[Tf]at h;have:l.any p=false:=by simpa using h
  rw[this];decide
 ·rw[h];have:l.any p=true:=by
   rw[List.any_eq_true];rw[List.find?_eq_some_iff_getElem]at b;exact⟨l[i],bg c,b.1⟩
  rw[this];simp
def zE(w0:World)(l:List aa)(f:FuncId)(caps:List V)(p:aa->Bool)(σ:H)(hp:∀o∈l,DC prog w0 f (o.v::caps) σ (Same (B (p o)) σ)):DC prog w0 64 [.c (.sl (l.map aa.cs)),.fn f caps] σ (Same (B (l.any p)) σ):=by
 refine zy.go rfl (fun b e=>?_);apply bl;simp only[go_sem,sS];(refine db (VQ w0 l f caps p σ hp) ?_;simp only[go_sem]);(refine W.fs (b) (by simp only[vt,go_sem];rfl) ?_;simp only[aT];(first|exact V.wk.rfl _|(refine mO ?_;clear e b;rw[KJ]<;>((try simp only[beq_iff_eq,beq_eq_false_iff_ne,ne_eq,decide_eq_true_eq,decide_eq_false_iff_not]at*);first|(exfalso;omega)|(simp[*];done)|(simp[*];omega)|(simp[*])))))
def nW{α:Type}(l:List α)(p:α->Bool):(l.any fun q=>!p q)=!l.all p:=by
 induction l with
 |nil=>rfl
 |cons x l b=>simp only[List.any_cons,mg,b];cases p x<;>simp
def nX{n:Nat}(k:Nat):((n:Int)==(k:Int))=(n==k):=by
 rw[kN];simp;omega
def qP(w0:World)(p:aa)(σ:H):DC prog w0 63 [p.v] σ (Same (B (cX p)) σ):=by
 refine Jo.go rfl (fun c e=>?_);have g:=nX (n:=p.l.length) 2;simp only[yk]at g;unfold cX;((refine bl ?_;(try simp only[bne,go_sem,zx,g, *]));(repeat' ((first|refine wY ?_|refine wN ?_|refine wS rfl (fun b=>?_) (fun b=>?_)|refine wR rfl (fun b=>?_) (fun b=>?_)|refine jl _ _ _ _ (fun b=>?_) (fun b=>?_)|refine jk _ _ _ _ (fun b=>?_) (fun b=>?_))<;>simp only[bne,go_sem,zx,g, *])))
 all_goals (refine W.fs (c) (by simp only[Dn,go_sem];rfl) ?_;simp only[aT];(first|exact V.wk.rfl _|(refine mO ?_;clear e c;((try simp only[beq_iff_eq,beq_eq_false_iff_ne,ne_eq,decide_eq_true_eq,decide_eq_false_iff_not]at*);first|(exfalso;omega)|(simp[*];done)|(simp[*];omega)|(simp[*])))))
def Dv(p:aa):iK p=if p.k=0 then ie p.name&&p.n==0 else if p.k=1 then p.name==[]&&decide (0<=p.n)&&decide (p.n<=4611686018427387904)&&p.l.length==0 else if p.k=2 then p.name==[]&&p.n==0&&cX p else false:=by
 unfold iK cX;by_cases b:p.k=2
 ·simp[b]
 ·simp[b]
def VR(w0:World)(p:aa)(b:Bool)(σ:H)(hp:∀τ,DC prog w0 24 [p.v] τ (Same (B b) τ)):DC prog w0 65 [p.v] σ (Same (B (!b)) σ):=by
 refine U5.go rfl (fun c e=>?_);apply bl;simp only[go_sem,Js];(refine db (hp _) ?_;simp only[go_sem]);exact wF c
def qQ(w0:World)(p:aa):∀(σ:H),DC prog w0 24 [p.v] σ (Same (B (bZ p)) σ):=by
 refine aa.ind (P:=fun p=>∀(σ:H),DC prog w0 24 [p.v] σ (Same (B (bZ p)) σ)) (fun p h σ=>?_) p;refine U3.go rfl (fun c e=>?_);have i:=fun σ=>zE w0 p.l 65 [] (fun q=>!bZ q) σ (fun q j=>VR w0 q _ _ (fun τ=>h q j τ));have l0:=nX (n:=p.l.length) 0;have g:=nX (n:=p.l.length) 2;simp only[pj,yk]at l0 g;((refine bl ?_;(try simp only[bne,go_sem,c24,l0,g, *]));(repeat' ((first|refine wY ?_|refine wN ?_|refine db (Du w0 p.name _) ?_|refine db (qP w0 p _) ?_|refine db (i _) ?_|refine wS rfl (fun b=>?_) (fun b=>?_)|refine wR rfl (fun b=>?_) (fun b=>?_)|refine jl _ _ _ _ (fun b=>?_) (fun b=>?_)|refine jk _ _ _ _ (fun b=>?_) (fun b=>?_))<;>simp only[bne,go_sem,c24,l0,g, *])))
 all_goals (refine W.fs (c) (by simp only[Jr,go_sem];rfl) ?_;simp only[aT];(first|exact V.wk.rfl _|(refine mO ?_;clear e c;rw[iL]<;>((try simp only[beq_iff_eq,beq_eq_false_iff_ne,ne_eq,decide_eq_true_eq,decide_eq_false_iff_not]at*);first|(exfalso;omega)|(simp[Dv,nW, *];done)|(simp[Dv,nW, *];omega)|(simp[Dv,nW, *])))))
def KK(w0:World)(p:aa)(w:cY p<=1000000)(σ:H):DC prog w0 80 [p.v] σ (Same (.au [.c (aM (eC p).1),(eC p).2.v]) σ):=by
 refine Jq.go rfl (fun h r=>?_);apply bl;simp only[go_sem,c80];refine W.own 4 34 4 rfl ?_;apply bl;simp only[go_sem];refine W.aY (α:=List aa×aa) (fun x=>(x.1++(eC x.2).1,(eC x.2).2)=eC p/\x.1.length+cY x.2<=cY p) (fun x=>⟨(((base.put (some 1) (.ptr σ.length 0)).put (some 3) (.ptr (σ.length+1) 0)).put (some 4) (.aC (σ.length+2) (x.1.map aa.cs))),σ++[.cells x.2.v.af,.cells [I 0,S [],I 0,.ae []],.spare 34 4 x.1.length]⟩) (fun x=>cY x.2) ([],p) ⟨rfl,by simp⟩ ?_ (fun x t=>?_)
 ·exact wV
 ·obtain⟨e,q⟩:=x;obtain⟨hp,hd⟩:=t;simp only at hp hd;apply bl;simp only[go_sem];cases g:cX q
  ·(refine db (qP w0 q _) ?_;simp only[go_sem,g]);refine wN ?_;simp only[go_sem];rw[yo g,cd]at hp;(apply W.aD (aF _ _);case hc=>((apply ab.aj;simp only[go_sem]);exact ab.nil));apply bl;simp only[go_sem];rw[<-hp];(refine W.fs h (by simp only[go_sem];rfl) ?_;simp only[aT];try exact V.wk.rfl _);(all_goals exact aR)
  ·obtain⟨a,b,hl⟩:=Cp g;rw[Cr g hl]at hp;have u:cY b<cY q:=yl (by rw[hl];simp);have i:(e.length+1)*56<=140737488355328:=by omega
   have j:e.length+1<=140737488355328:=by omega
   (refine db (qP w0 q _) ?_;simp only[go_sem,g]);refine wY ?_;simp only[go_sem];(apply W.aD (aF _ _);case hc=>((apply ab.aj;simp only[go_sem,hl,i,j]);exact ab.nil));apply bl;simp only[go_sem];refine .inv ⟨(e++[a],b),⟨by rw[<-hp];simp,by simp;omega⟩,by simp only;omega,?_⟩;simp only[go_sem,dF];exact wV
def c49:AC:=rsq [oB 2 0,oB 3 1,oF 4] (.seq (rif [.f 7 0 2,.l 8 7,.f 9 0 3,.l 10 9,oI 11 .neq 8 10,.m 12 11,yX 13 1 2 12,yT 14 13 12,yX 15 1 3 12,yT 16 15 12,yB 17 .neq 14 16 12,oP 18 12 zT 17,.m 19 18,yX 20 2 2 19,yT 21 20 19,yX 22 2 3 19,yT 23 22 19,yB 24 .neq 21 23 19,oP 25 19 zT 24,.m 26 25,yX 27 3 2 26,yT 28 27 26,.z 29 (.eM 28) 26,yX 30 3 3 26,yT 31 30 26,.z 32 (.eM 31) 26,yB 33 .neq 29 32 26,oP 34 26 zT 33] 34 (rsq [oF 4] .ret) .skip) (.seq (rsq [oK 5 0] (forL 0 1 [.m 35 5,.f 36 3 2,.l 37 36,oL 38 37,oI 39 .lss 35 38] 39 (.seq (drg [.f 42 3 2,.l 43 42,.m 44 5,oJ 45 4 43 44,.d 46 4 45,.f 47 3 3,.l 48 47,.m 49 5,oJ 50 4 48 49,.d 51 4 50,.k 52 49 [46,51],.m 6 52] [0,1,2,3,4,5,6,7,8,9,110,211]) (rif [.m 53 6,oU 54 .not 53] 54 (rsq [oF 4] .ret) .skip)) [.m 40 5,oI 41 .add 40 (zK 1),.m 5 41])) (rsq [oV 4] .ret)))
abbrev KL:List ak:=[.tmp 4]
def VS:aq prog 49 2 Tryz.f49 c49 KL:=.auto func49
def KM:AC:=rsq [oB 2 0,oK 4 0] (rsq [.m 7 1,oI 8 .sub 7 (zK 1),.m 5 8] (.seq (rsq [oK 6 0] (forL 0 1 [.m 9 6,.f 10 3 2,.l 11 10,oL 12 11,oI 13 .lss 9 12,.m 14 13,yV 15 5 14,yI 16 .geq 15 (zK 0) 14,oP 17 14 16 zF] 17 (.ax [.f 20 3 2,.l 21 20,.m 22 6,oJ 23 4 21 22,.d 24 4 23,.m 25 5,.k 26 22 [24,25],.m 5 26]) [.m 18 6,oI 19 .add 18 (zK 1),.m 6 19])) (rsq [.m 27 5,.m 4 27] .ret)))
abbrev VT:List ak:=[.tmp 4]
def VU:aq prog 22 2 Tryz.f22 KM VT:=.auto func22
def c8:AC:=rsq [oB 2 0,oF 4] (rsq [.d 6 4 2,.m 7 1,.k 8 22 [6,7],.m 5 8] (rsq [.m 9 5,oI 10 .lss 9 (zK 0),.m 4 10] .ret))
abbrev r8:List ak:=[.tmp 4]
def k8:aq prog 8 2 Tryz.f8 c8 r8:=.auto func8
def KN(t:List Tok)(i:Int)(v:Nat)(vs:List cb)(e p:Int):ad:=.cells [.c (yj t),I i,I e,I p,.aC v (Kg vs)]
attribute [local go_sem] KN zA kY sF sG sH sI qy
def mX{p:aa}{args:List V}(h:∀y∈args,V.Sz y)(b:p.v∈args):p.l.length<=9223372036854775807:=by
 have:=h _ b;rw[aa.v,B7]at this;exact sA (this (.c (.sl (p.l.map aa.cs))) (by simp))
def VV(w0:World)(p:aa):∀(q:aa) (σ:H),DC prog w0 49 [p.v,q.v] σ (Same (B (kW p q)) σ):=by
 refine aa.ind (P:=fun p=>∀(q:aa) (σ:H),DC prog w0 49 [p.v,q.v] σ (Same (B (kW p q)) σ)) (fun p N q σ=>?_) p;refine VS.go rfl (fun c w=>?_);have A:=mX w (aZ ..);have D:((p.l.length:Int)==(q.l.length:Int))=(p.l.length==q.l.length):=by rw[kN];simp;omega
 have t:p.l.length≠q.l.length->iJ kW p.l q.l=false:=H3;((refine bl ?_;(try simp only[bne,go_sem,c49,D, *]));(repeat' ((first|refine wY ?_|refine wN ?_|refine wS rfl (fun u=>?_) (fun u=>?_)|refine wR rfl (fun u=>?_) (fun u=>?_)|refine jl _ _ _ _ (fun u=>?_) (fun u=>?_)|refine jk _ _ _ _ (fun u=>?_) (fun u=>?_))<;>simp only[bne,go_sem,c49,D, *])))
 all_goals (try (refine W.fs (c) (by simp only[KL,go_sem];rfl) ?_;simp only[aT];(first|exact V.wk.rfl _|(refine mO ?_;clear w c;rw[Co]<;>((try simp only[beq_iff_eq,beq_eq_false_iff_ne,ne_eq,decide_eq_true_eq,decide_eq_false_iff_not]at*);first|(exfalso;omega)|(simp[t, *];done)|(simp[t, *];omega)|(simp[t, *]))))))
 simp only[beq_iff_eq,beq_eq_false_iff_ne,Bool.not_eq_true',Bool.not_eq_false']at*
 have hl:p.l.length=q.l.length:=by assumption
 have E:kW p q=iJ kW p.l q.l:=by rw[Co];simp[*]
 refine W.aY (fun i=>i<=p.l.length/\∀j (F:j<p.l.length) (e:j<q.l.length),j<i->kW p.l[j] q.l[j]=true) (fun i=>⟨((((base.put (some 2) (.ptr σ.length 0)).put (some 3) (.ptr (σ.length+1) 0)).put (some 4) (B false)).put (some 5) (I (i:Nat))),σ++[.cells p.v.af,.cells q.v.af]⟩) (fun i=>p.l.length-i) 0 ⟨be _,fun _ _ _ h=>absurd h (by omega)⟩ ?_ (fun i M=>?_)
 ·exact wV
 ·obtain⟨M,g⟩:=M;by_cases b:i<p.l.length
  ·have G:((i:Int)<(p.l.length:Int)):=by omega
   have O:((i:Int)<(q.l.length:Int)):=by omega
   have r:i<q.l.length:=by omega
   have Q:p.l[i]?=some p.l[i]:=aN b;have R:q.l[i]?=some q.l[i]:=aN r;have hw:aE.wrap ((i:Int)+1)=((i+1:Nat):Int):=cF b A;apply bl;simp only[go_sem,G];refine wY ?_;simp only[go_sem];apply W.aD (aF _ _)
   case hc=>
    (apply ab.aj;simp only[go_sem,G,O,bu,Q,R]);(apply ab.call (N p.l[i] (bg b) q.l[i] _)<;>try rfl);(apply ab.aj;simp only[go_sem]);exact ab.nil
   apply bl;simp only[go_sem];refine W.sr rfl (fun h=>?_) (fun h=>?_)
   ·apply bl;simp only[go_sem,hw];refine .inv ⟨i+1,⟨b,fun j F e J=>?_⟩,by omega,?_⟩
    ·rcases Nat.lt_succ_iff_lt_or_eq.1 J with L|L
     ·exact g j F e L
     ·subst L;exact h
    ·exact wV
   ·apply bl;simp only[go_sem];(refine W.fs c (by simp only[go_sem];rfl) ?_;simp only[aT];try exact V.wk.rfl _);rw[E,H4 b r h];exact .rfl _
  ·have G:¬((i:Int)<(p.l.length:Int)):=by omega
   apply bl;simp only[go_sem,G];refine wN ?_;simp only[go_sem];(refine W.fs c (by simp only[go_sem];rfl) ?_;simp only[aT];try exact V.wk.rfl _);rw[E,Cn hl (fun j F e=>g j F e (by omega))];exact .rfl _
def VW(w0:World)(p:aa):∀(n:Int),0<=n->n<=1000000->∀(σ:H),DC prog w0 22 [p.v,I n] σ (Same (I (dO p n)) σ):=by
 refine aa.ind (P:=fun p=>∀(n:Int),0<=n->n<=1000000->∀(σ:H),DC prog w0 22 [p.v,I n] σ (Same (I (dO p n)) σ)) (fun p A n hn D σ=>?_) p;refine VU.go rfl (fun g t=>?_);have h:=mX t (aZ ..);have u:aE.wrap (n-1)=n-1:=by rw[a7]<;>omega
 apply bl;simp only[go_sem,KM,u];refine W.aY (α:=Nat×Int) (fun x=>x.1<=p.l.length/\-1<=x.2/\x.2<=1000000/\gu (p.l.drop x.1) x.2=dO p n) (fun x=>⟨((((base.put (some 2) (.ptr σ.length 0)).put (some 4) (I 0)).put (some 5) (I x.2)).put (some 6) (I (x.1:Nat))),σ++[.cells p.v.af]⟩) (fun x=>p.l.length-x.1) (0,n-1) ⟨be _,by simp only;omega,by simp only;omega,by rw[Tl];rfl⟩ ?_ (fun x w=>?_)
 ·exact wV
 ·obtain⟨i,m⟩:=x;obtain⟨w,E,j,b⟩:=w;simp only at w E j b;by_cases c:i<p.l.length
  ·have r:((i:Int)<(p.l.length:Int)):=by omega
   have F:p.l[i]?=some p.l[i]:=aN c;have hw:aE.wrap ((i:Int)+1)=((i+1:Nat):Int):=cF c h;by_cases h0:0<=m
   ·have e:m>=0:=h0;apply bl;simp only[go_sem,r,e];refine wY ?_;simp only[go_sem,r,bu,F];(refine db (A p.l[i] (bg c) m h0 j _) ?_;simp only[go_sem,hw]);have:=Ia p.l[i] m h0;refine .inv ⟨(i+1,dO p.l[i] m),⟨c,this.1,by simp only;omega,by rw[<-b,Tm c h0]⟩,by simp only;omega,?_⟩;exact wV
   ·have e:¬m>=0:=h0;apply bl;simp only[go_sem,r,e];refine wN ?_;simp only[go_sem];(refine W.fs g (by simp only[go_sem];rfl) ?_;simp only[aT];try exact V.wk.rfl _);rw[<-b,H9 h0];exact .rfl _
  ·have r:¬((i:Int)<(p.l.length:Int)):=by omega
   apply bl;simp only[go_sem,r];refine wN ?_;simp only[go_sem];(refine W.fs g (by simp only[go_sem];rfl) ?_;simp only[aT];try exact V.wk.rfl _);rw[<-b,Tn (by omega)];exact .rfl _
def KO(w0:World)(p:aa)(n:Int)(hn:0<=n)(b:n<=1000000)(σ:H):DC prog w0 8 [p.v,I n] σ (Same (B (decide (dO p n<0))) σ):=by
 refine k8.go rfl (fun c e=>?_);apply bl;simp only[go_sem,c8];(refine db (VW w0 p n hn b _) ?_;simp only[go_sem]);exact wF c
end
section
attribute [local go_sem] aa.v aa.aG aO aQ aL aH aM kq CF uY CG CH yC
def Dw{x:aa}:∀{l:List aa},x∈l->iM x<=jI l
 |[],h=>by simp at h
 |y::l,h=>by
  rw[jI];rcases cD.1 h with rfl|h
  ·omega
  ·have:=Dw h;omega
def ik(n:Int):ad:=.cells [I n]
attribute [local go_sem] ik
def VX(w0:World)(n v:Int)(σ:H)(b:Nat)(D:b<σ.length):DC prog w0 128 [I v,.ptr b 0] (rz σ b (ik n)) (Same aa.none.v (rz σ b (ik (jJ n v)))):=by
 refine U8.go rfl (fun h j=>?_);have g:H.ok (rz σ b (ik (jJ n v))):=Iw D h (fun cs tg hc x i=>by
  unfold ik at hc;injection hc with hc _;subst hc;simp only[cD,iZ,or_false]at i;subst i;exact .c _)
 have e:aa.none.v= .agg [I 0,S [],I 0,.c (.sl [])]:=rfl;rw[e];unfold jJ at g⊢;apply bl;simp only[go_sem,Ju,eo D];(refine W.fg (g) (d:=.agg [I 0,S [],I 0,.c (.sl [])]) (by simp only[Jv,go_sem];rfl) (by simp only[aT,go_sem];exact aR) ?_);exact⟨rfl,rfl⟩
def vu{σ:H}{b:Nat}(D:b<σ.length){X:ad}(h:H.ok (rz σ b X))(n:Int):H.ok (rz σ b (ik n)):=Iw D h (fun cs tg hc x e=>by
 unfold ik at hc;injection hc with hc _;subst hc;simp only[cD,iZ,or_false]at e;subst e;exact .c _)
def VY(p:aa):1<=iM p:=by rw[Ct];split<;>omega
def KP:∀l:List aa,l.length<=jI l
 |[]=>by simp
 |x::l=>by rw[jI,bG];have:=KP l;have:=VY x;omega
def VZ(w0:World)(p:aa):iM p<=1000000->∀(n:Int) (σ:H) (b:Nat) (D:b<σ.length),DC prog w0 124 [p.v,.fn 128 [.ptr b 0]] (rz σ b (ik n)) (Same (lN p).v (rz σ b (ik (bS n p)))):=by
 refine aa.ind (P:=fun p=>iM p<=1000000->∀(n:Int) (σ:H) (b:Nat) (D:b<σ.length),DC prog w0 124 [p.v,.fn 128 [.ptr b 0]] (rz σ b (ik n)) (Same (lN p).v (rz σ b (ik (bS n p))))) (fun p N Q n σ b D=>?_) p;refine Dp.go rfl (fun g J=>?_);have t:=mX J (aZ ..);rw[Tt,yp];by_cases u:p.k=1
 ·have L:(p.k==1)=true:=by simpa using u
  rw[if_pos u,if_pos u];apply bl;simp only[go_sem,c124,L,eo D];refine wY ?_;simp only[go_sem,eo D];(refine db (DC.CI D (fun G=>VX w0 n p.n _ b G)) ?_;simp only[go_sem,eo D,aa.none]);(refine W.fg (vu D g (jJ n p.n)) (d:=aa.none.v) (by simp only[pA,go_sem,aa.none];rfl) (by simp only[aT,go_sem,aa.none];exact aR) ?_ (hl:=by(first|exact .c _|(simp only[go_sem,aa.none];done))));exact⟨rfl,rfl⟩
 ·have L:(p.k==1)=false:=by simpa using u
  rw[if_neg u,if_neg u];apply bl;simp only[go_sem,c124,L,eo D];refine wN ?_;simp only[go_sem,eo D];have R:=KP p.l;have T:jI p.l<=1000000:=by rw[Ct,if_neg u]at Q;omega
  cases O:cX p
  ·(refine db (qP w0 p _) ?_;simp only[go_sem,O,eo D]);refine wN ?_;simp only[go_sem,eo D];refine W.nR (σ.length+2) 3 34 4 (cs:=[I 0,S p.name,I 0,.ae []]) (tg:=none) ?_ rfl ?_
   ·simp only[uY,tW,tV,I,S]
   ·apply bl;simp only[go_sem,eo D];refine W.aY (fun i=>i<=p.l.length) (fun i=>⟨((((((base.put (some 1) (.fn 128 [.ptr b 0])).put (some 4) (.ptr (σ.length+1) 0)).put (some 5) (.ptr (σ.length+2) 0)).put (some 22) (.c (aM p.l))).put (some 23) (I p.l.length)).put (some 24) (I i)),rz σ b (ik (cc n (p.l.take i)))++[.cells p.v.af,.cells [I 0,S [],I 0,.ae []],.cells [I 0,S p.name,I 0,.aC (σ.length+3) (((p.l.take i).map lN).map aa.cs)],.spare 34 4 i]⟩) (fun i=>p.l.length-i) 0 (be _) ?_ (fun i U=>?_)
    ·simp only[go_sem,ey,cc];exact wV
    ·by_cases e:i<p.l.length
     ·have r:((i:Int)<(p.l.length:Int)):=by omega
      have M:p.l[i]?=some p.l[i]:=aN e;have hw:=cF e t;have h:p.l.take (i+1)=p.l.take i++[p.l[i]]:=eW e;have w:cc n (p.l.take (i+1))=bS (cc n (p.l.take i)) p.l[i]:=by rw[h,yq,cc,cc]
      have A:(i+1)*56<=140737488355328:=by omega
      have E:i+1<=140737488355328:=by omega
      have F:(p.l.take i).length=i:=by rw[dE];omega
      have j:iM p.l[i]<=1000000:=bf (Dw (bg e)) (by omega);apply bl;simp only[go_sem,r,eo D];refine wY ?_;simp only[go_sem,r,bu,M,eo D];apply W.aD (aF _ _)
      case hc=>
       (apply ab.aj;simp only[go_sem,eo D]);(apply ab.call (DC.CI D (fun G=>N p.l[i] (bg e) j (cc n (p.l.take i)) _ b G))<;>try rfl);(apply ab.aj;simp only[go_sem,eo D,A,E,F]);exact ab.nil
      apply bl;simp only[go_sem,hw,eo D];refine .inv ⟨i+1,e,by omega,?_⟩;rw[w,h];simp only[go_sem,dF];(refine aV.lJ (vu D g (bS (cc n (p.l.take i)) p.l[i])) ?_ (by simp) (by simp) ?_ ?_ ?_;exact dZ;((try simp only[okB,cT,go_sem,kq])<;>omega);(simp only[bG,dU,iA,jW,ey,cT,and_true];(repeat' (refine mq ?_ ?_))<;>(first|exact ad.wk.rfl _|exact ad.wk.gone _|(refine ad.lL ?_ rfl;(exact aR))));(repeat' (first|exact cK.base _|(refine cK.put ?_ (by first|exact .c _|((try simp only[okB,cT,go_sem,kq])<;>omega))))))
     ·have r:¬((i:Int)<(p.l.length:Int)):=by omega
      have:p.l.take i=p.l:=dT (by omega);apply bl;simp only[go_sem,r,eo D];refine W.no rfl ?_;rw[this];apply bl;simp only[go_sem,eo D];(refine W.fg (vu D g (cc n p.l)) (d:=.agg [I 0,S p.name,I 0,.c (.sl ((p.l.map lN).map aa.cs))]) (by simp only[pA,go_sem];rfl) (by simp only[aT,go_sem];exact aR) ?_);exact⟨rfl,rfl⟩
  ·(refine db (qP w0 p _) ?_;simp only[go_sem,O,eo D]);refine wY ?_;simp only[go_sem,eo D];refine W.nR (σ.length+2) 3 34 4 (cs:=[I 2,S [],I 0,.ae []]) (tg:=none) ?_ rfl ?_
   ·simp only[uY,tW,tV,I,S]
   ·apply bl;simp only[go_sem,eo D];refine W.aY (fun i=>i<=p.l.length) (fun i=>⟨((((((base.put (some 1) (.fn 128 [.ptr b 0])).put (some 4) (.ptr (σ.length+1) 0)).put (some 5) (.ptr (σ.length+2) 0)).put (some 22) (.c (aM p.l))).put (some 23) (I p.l.length)).put (some 24) (I i)),rz σ b (ik (cc n (p.l.take i)))++[.cells p.v.af,.cells [I 0,S [],I 0,.ae []],.cells [I 2,S [],I 0,.aC (σ.length+3) (((p.l.take i).map lN).map aa.cs)],.spare 34 4 i]⟩) (fun i=>p.l.length-i) 0 (be _) ?_ (fun i U=>?_)
    ·simp only[go_sem,ey,cc];exact wV
    ·by_cases e:i<p.l.length
     ·have r:((i:Int)<(p.l.length:Int)):=by omega
      have M:p.l[i]?=some p.l[i]:=aN e;have hw:=cF e t;have h:p.l.take (i+1)=p.l.take i++[p.l[i]]:=eW e;have w:cc n (p.l.take (i+1))=bS (cc n (p.l.take i)) p.l[i]:=by rw[h,yq,cc,cc]
      have A:(i+1)*56<=140737488355328:=by omega
      have E:i+1<=140737488355328:=by omega
      have F:(p.l.take i).length=i:=by rw[dE];omega
      have j:iM p.l[i]<=1000000:=bf (Dw (bg e)) (by omega);apply bl;simp only[go_sem,r,eo D];refine wY ?_;simp only[go_sem,r,bu,M,eo D];apply W.aD (aF _ _)
      case hc=>
       (apply ab.aj;simp only[go_sem,eo D]);(apply ab.call (DC.CI D (fun G=>N p.l[i] (bg e) j (cc n (p.l.take i)) _ b G))<;>try rfl);(apply ab.aj;simp only[go_sem,eo D,A,E,F]);exact ab.nil
      apply bl;simp only[go_sem,hw,eo D];refine .inv ⟨i+1,e,by omega,?_⟩;rw[w,h];simp only[go_sem,dF];(refine aV.lJ (vu D g (bS (cc n (p.l.take i)) p.l[i])) ?_ (by simp) (by simp) ?_ ?_ ?_;exact dZ;((try simp only[okB,cT,go_sem,kq])<;>omega);(simp only[bG,dU,iA,jW,ey,cT,and_true];(repeat' (refine mq ?_ ?_))<;>(first|exact ad.wk.rfl _|exact ad.wk.gone _|(refine ad.lL ?_ rfl;(exact aR))));(repeat' (first|exact cK.base _|(refine cK.put ?_ (by first|exact .c _|((try simp only[okB,cT,go_sem,kq])<;>omega))))))
     ·have r:¬((i:Int)<(p.l.length:Int)):=by omega
      have:p.l.take i=p.l:=dT (by omega);apply bl;simp only[go_sem,r,eo D];refine W.no rfl ?_;rw[this];apply bl;simp only[go_sem,eo D];(refine W.fg (vu D g (cc n p.l)) (d:=.agg [I 2,S [],I 0,.c (.sl ((p.l.map lN).map aa.cs))]) (by simp only[pA,go_sem];rfl) (by simp only[aT,go_sem];exact aR) ?_);exact⟨rfl,rfl⟩
def vv(w0:World)(p:aa)(e:iM p<=1000000)(σ:H):DC prog w0 74 [p.v] σ (Same (I (bS 0 p)) σ):=by
 refine U7.go rfl (fun b g=>?_);have c:∀m:Int,rz (σ++[.cells p.v.af,ik 0]) (σ.length+1) (ik m)=σ++[.cells p.v.af,ik m]:=fun m=>by
  unfold rz;rw[List.set_append_right _ _ (by omega)];simp[Nat.add_sub_cancel_left]
 have hc:=VZ w0 p e 0 (σ++[.cells p.v.af,ik 0]) (σ.length+1) (by simp);rw[c,c]at hc;apply bl;simp only[go_sem,Jt];(refine db (hc) ?_;simp only[go_sem]);exact wF b
end
section
structure qR {α:Type} (w0:World) (g:α->Int->aa×α) (F:V) (τ:α->H) (N:Nat):Prop where
 len:∀s,(τ s).length=N
 ok:∀s s' L,H.ok (τ s++L)->H.ok (τ s'++L)
 low:V.low N F
 call:∃f caps,F= .fn f caps/\∀L s v,DC prog w0 f (I v::caps) (τ s++L) (Same (g s v).1.v (τ (g s v).2++L))
def qR.more{α:Type}{w0:World}{g:α->Int->aa×α}{F:V}{τ:α->H}{N:Nat}(h:qR w0 g F τ N)(M:H):qR w0 g F (fun s=>τ s++M) (N+M.length):=by
 obtain⟨f,caps,c,hc⟩:=h.call;refine⟨fun s=>by simp[h.len],fun s s' L b=>?_,V.xA (p9 _ _) h.low,f,caps,c,fun L s v=>?_⟩
 ·simp only[dq]at b⊢;exact h.ok s s' _ b
 ·simp only[dq];exact hc (M++L) s v
section
variable {τ:Nat->H}
def jq{σ:H}{N:Nat}(h:σ.length=N)(x:ad)(L:H):(σ++x::L)[N]?=some x:=by subst h;exact cQ σ (x::L)
def il{σ:H}{N:Nat}(h:σ.length=N)(k:Nat)(L:H):(σ++L)[N+k]?=L[k]?:=by subst h;exact bx σ L k
def lf{σ:H}{N:Nat}(h:σ.length=N)(x:ad)(L:H):(σ++L).set N x=σ++L.set 0 x:=by subst h;exact sk σ L x
def lg{σ:H}{N:Nat}(h:σ.length=N)(k:Nat)(x:ad)(L:H):(σ++L).set (N+k) x=σ++L.set k x:=by subst h;exact cR σ L k x
end
attribute [local go_sem] aa.v aa.aG aO aQ aL aH aM
def KQ{α:Type}(w0:World)(g:α->Int->aa×α)(F:V)(p:aa):aw p<=1000000->∀(τ:α->H) (N:Nat),qR w0 g F τ N->∀s,DC prog w0 124 [p.v,F] (τ s) (Same (b8 g s p).1.v (τ (b8 g s p).2)):=by
 refine aa.ind (P:=fun p=>aw p<=1000000->∀(τ:α->H) (N:Nat),qR w0 g F τ N->∀s,DC prog w0 124 [p.v,F] (τ s) (Same (b8 g s p).1.v (τ (b8 g s p).2))) (fun p Z hb τ N Q s=>?_) p;refine Dp.go rfl (fun T U=>?_);have G:=mX U (aZ ..);have b:=Q.len;have e:∀s x L,(τ s++x::L)[N]?=some x:=fun s=>jq (b s);have tg:∀s k L,(τ s++L)[N+k]?=L[k]?:=fun s=>il (b s);have h:∀s x L,(τ s++L).set N x=τ s++L.set 0 x:=fun s=>lf (b s);have r:∀s k x L,(τ s++L).set (N+k) x=τ s++L.set k x:=fun s=>lg (b s)
 have u:∀s',H.ok (τ s'):=fun s'=>by
  have:=Q.ok s s' [] (by rw[cd];exact T);rwa [cd]at this
 have t:∀k,V.low (N+k) F:=fun k=>V.xA (p9 _ _) Q.low;rw[mT,b s];by_cases R:p.k=1
 ·have X:(p.k==1)=true:=by simpa using R
  rw[if_pos R];obtain⟨f,caps,hF,hc⟩:=Q.call;apply bl;simp only[go_sem,c124,X,b,e,tg,h,r];refine wY ?_;simp only[go_sem,b,e,tg,h,r];refine db (hc _ s p.n) ?_ (hf:=hF);simp only[go_sem,b,e,tg,h,r];(refine W.fg (u _) (d:=(g s p.n).1.v) (by simp only[pA,go_sem,e,tg];rfl) (by simp only[aT,go_sem,e,tg];exact aR) ?_ (hl:=by(first|exact .c _|(simp only[go_sem,e,tg];done))) (hn:=b _));exact⟨rfl,rfl⟩
 ·have X:(p.k==1)=false:=by simpa using R
  rw[if_neg R];apply bl;simp only[go_sem,c124,X,b,e,tg,h,r];refine wN ?_;simp only[go_sem,b,e,tg,h,r];have hls:=yt p.l;have hbs:=ct p;cases hA:cX p
  ·(refine db (qP w0 p _) ?_;simp only[go_sem,hA,b,e,tg,h,r]);refine wN ?_;simp only[go_sem,b,e,tg,h,r];refine W.nR (N+2) 3 34 4 (cs:=[I 0,S p.name,I 0,.ae []]) (tg:=none) ?_ rfl ?_
   ·simp only[tg,tW,tV,I,S]
   ·apply bl;simp only[go_sem,b,e,tg,h,r];refine W.aY (fun i=>i<=p.l.length) (fun i=>⟨((((((base.put (some 1) (F)).put (some 4) (.ptr (N+1) 0)).put (some 5) (.ptr (N+2) 0)).put (some 22) (.c (aM p.l))).put (some 23) (I p.l.length)).put (some 24) (I i)),τ (bF g s (p.l.take i)).2++[.cells p.v.af,.cells [I 0,S [],I 0,.ae []],.cells [I 0,S p.name,I 0,.aC (N+3) ((bF g s (p.l.take i)).1.map aa.cs)],.spare 34 4 i]⟩) (fun i=>p.l.length-i) 0 (be _) ?_ (fun i hi=>?_)
    ·simp only[go_sem,ey,bF];exact wV
    ·by_cases j:i<p.l.length
     ·have E:((i:Int)<(p.l.length:Int)):=by omega
      have Y:p.l[i]?=some p.l[i]:=aN j;have hw:=cF j G;have w:=yD g s j;have J:(i+1)*56<=140737488355328:=by omega
      have M:i+1<=140737488355328:=by omega
      have A:(bF g s (p.l.take i)).1.length=i:=by rw[qz,dE];omega
      have D:aw p.l[i]<=1000000:=by have:=yr (bg j);omega
      have hc:=Z p.l[i] (bg j) D;generalize bF g s (p.l.take i)=O at w A;obtain⟨ac,st⟩:=O;simp only at w A;generalize p.l[i]=x at*
      apply bl;simp only[go_sem,E,b,e,tg,h,r];refine wY ?_;simp only[go_sem,E,bu,Y,b,e,tg,h,r];apply W.aD (aF _ _)
      case hc=>
       (apply ab.aj;simp only[go_sem,b,e,tg,h,r]);(apply ab.call (hc (fun s=>τ s++_) _ (Q.more _) st)<;>try rfl);(apply ab.aj;simp only[go_sem,b,e,tg,h,r,J,M,A]);exact ab.nil
      apply bl;simp only[go_sem,hw,b,e,tg,h,r];refine .inv ⟨i+1,j,by omega,?_⟩;rw[w];simp only[go_sem,dF];(refine aV.lJ (u _) ?_ (by rw[b];simp) (by simp) ?_ ?_ ?_;exact dZ;((try simp only[okB,cT,go_sem,b,t])<;>omega);(simp only[bG,dU,iA,jW,ey,cT,and_true];(repeat' (refine mq ?_ ?_))<;>(first|exact ad.wk.rfl _|exact ad.wk.gone _|(refine ad.lL ?_ rfl;(exact aR))));(repeat' (first|exact cK.base _|(refine cK.put ?_ (by first|exact .c _|((try simp only[okB,cT,go_sem,b,t])<;>omega))))))
     ·have E:¬((i:Int)<(p.l.length:Int)):=by omega
      have:p.l.take i=p.l:=dT (by omega);apply bl;simp only[go_sem,E,b,e,tg,h,r];refine W.no rfl ?_;rw[this];apply bl;simp only[go_sem,b,e,tg,h,r];(refine W.fg (u _) (d:=.agg [I 0,S p.name,I 0,.c (.sl ((bF g s p.l).1.map aa.cs))]) (by simp only[pA,go_sem,e,tg];rfl) (by simp only[aT,go_sem,e,tg];exact aR) ?_ (hl:=by(first|exact .c _|(simp only[go_sem,e,tg];done))) (hn:=b _));exact⟨rfl,rfl⟩
  ·(refine db (qP w0 p _) ?_;simp only[go_sem,hA,b,e,tg,h,r]);refine wY ?_;simp only[go_sem,b,e,tg,h,r];refine W.nR (N+2) 3 34 4 (cs:=[I 2,S [],I 0,.ae []]) (tg:=none) ?_ rfl ?_
   ·simp only[tg,tW,tV,I,S]
   ·apply bl;simp only[go_sem,b,e,tg,h,r];refine W.aY (fun i=>i<=p.l.length) (fun i=>⟨((((((base.put (some 1) (F)).put (some 4) (.ptr (N+1) 0)).put (some 5) (.ptr (N+2) 0)).put (some 22) (.c (aM p.l))).put (some 23) (I p.l.length)).put (some 24) (I i)),τ (bF g s (p.l.take i)).2++[.cells p.v.af,.cells [I 0,S [],I 0,.ae []],.cells [I 2,S [],I 0,.aC (N+3) ((bF g s (p.l.take i)).1.map aa.cs)],.spare 34 4 i]⟩) (fun i=>p.l.length-i) 0 (be _) ?_ (fun i hi=>?_)
    ·simp only[go_sem,ey,bF];exact wV
    ·by_cases j:i<p.l.length
     ·have E:((i:Int)<(p.l.length:Int)):=by omega
      have Y:p.l[i]?=some p.l[i]:=aN j;have hw:=cF j G;have w:=yD g s j;have J:(i+1)*56<=140737488355328:=by omega
      have M:i+1<=140737488355328:=by omega
      have A:(bF g s (p.l.take i)).1.length=i:=by rw[qz,dE];omega
      have D:aw p.l[i]<=1000000:=by have:=yr (bg j);omega
      have hc:=Z p.l[i] (bg j) D;generalize bF g s (p.l.take i)=O at w A;obtain⟨ac,st⟩:=O;simp only at w A;generalize p.l[i]=x at*
      apply bl;simp only[go_sem,E,b,e,tg,h,r];refine wY ?_;simp only[go_sem,E,bu,Y,b,e,tg,h,r];apply W.aD (aF _ _)
      case hc=>
       (apply ab.aj;simp only[go_sem,b,e,tg,h,r]);(apply ab.call (hc (fun s=>τ s++_) _ (Q.more _) st)<;>try rfl);(apply ab.aj;simp only[go_sem,b,e,tg,h,r,J,M,A]);exact ab.nil
      apply bl;simp only[go_sem,hw,b,e,tg,h,r];refine .inv ⟨i+1,j,by omega,?_⟩;rw[w];simp only[go_sem,dF];(refine aV.lJ (u _) ?_ (by rw[b];simp) (by simp) ?_ ?_ ?_;exact dZ;((try simp only[okB,cT,go_sem,b,t])<;>omega);(simp only[bG,dU,iA,jW,ey,cT,and_true];(repeat' (refine mq ?_ ?_))<;>(first|exact ad.wk.rfl _|exact ad.wk.gone _|(refine ad.lL ?_ rfl;(exact aR))));(repeat' (first|exact cK.base _|(refine cK.put ?_ (by first|exact .c _|((try simp only[okB,cT,go_sem,b,t])<;>omega))))))
     ·have E:¬((i:Int)<(p.l.length:Int)):=by omega
      have:p.l.take i=p.l:=dT (by omega);apply bl;simp only[go_sem,E,b,e,tg,h,r];refine W.no rfl ?_;rw[this];apply bl;simp only[go_sem,b,e,tg,h,r];(refine W.fg (u _) (d:=.agg [I 2,S [],I 0,.c (.sl ((bF g s p.l).1.map aa.cs))]) (by simp only[pA,go_sem,e,tg];rfl) (by simp only[aT,go_sem,e,tg];exact aR) ?_ (hl:=by(first|exact .c _|(simp only[go_sem,e,tg];done))) (hn:=b _));exact⟨rfl,rfl⟩
end
def c72:AC:=rsq [oB 1 0,oA 2 zS4] (rsq [.o 4 (.lB),.o 3 (.box (.k (.cN))),.s 1 3 4] (rsq [.d 5 4 1,.o 6 (.gZ 125 [3]),.k 7 124 [5,6],.s 4 2 7] .ret))
abbrev Dx:List ak:=[.aW 4 2]
def KR:aq prog 72 1 Tryz.f72 c72 Dx:=.auto func72
def zG:AC:=rsq [oA 3 zS4] (rsq [.l 7 1,.m 8 0,.o 9 (.look true (.i .i64) (.int .i64 0) 7 8),.m 6 9,.x 10 6 0,.x 11 6 1,.m 4 10,.m 5 11] (.seq (rif [.m 12 5,oU 13 .not 12] 13 (rsq [.l 14 1,.o 15 (.qc 14),.m 4 15] (.ax [.l 16 1,.m 17 0,.m 18 4,⟨none,.kQ (.i .i64) 16 17 18,none⟩])) .skip) (rsq [.m 19 4,.k 20 126 [19],.s 4 3 20] .ret)))
abbrev zH:List ak:=[.aW 4 3]
def KS:aq prog 125 2 Tryz.f125 zG zH:=.auto func125
def Dy:AC:=rsq [oB 2 0,oB 3 1,oA 4 zS4] (rsq [.d 5 4 2,.o 6 (.gZ 127 [3]),.k 7 124 [5,6],.s 4 4 7] .ret)
abbrev Dz:List ak:=[.aW 4 4]
def KT:aq prog 73 2 Tryz.f73 Dy Dz:=.auto func73
def c127:AC:=rsq [oA 3 zS4] (rsq [.m 4 0,.l 5 1,oI 6 .add 4 5,.k 7 126 [6],.s 4 3 7] .ret)
abbrev DA:List ak:=[.aW 4 3]
def KU:aq prog 127 2 Tryz.f127 c127 DA:=.auto func127
def DB:AC:=rsq [oB 1 0,oF 2] (rsq [.f 3 0 1,.l 4 3,oI 5 .eql 4 (zK 2),.m 6 5,yF 7 3 1 6,yL 8 7 6,yM 9 8 6,yI 10 .eql 9 (zK 2) 6,oP 11 6 10 zF,.m 2 11] .ret)
abbrev V0:List ak:=[.tmp 2]
def V1:aq prog 95 1 Tryz.f95 DB V0:=.auto func95
def c138:AC:=rsq [oB 2 0,oA 4 zS4] (.seq (rif [.d 5 4 2,.k 6 95 [5]] 6 (rsq [.m 7 1,oD 8 zS4 [(0,1,(zK 2)),(3,1,7)],.s 4 4 8] .ret) .skip) (rsq [.f 9 1 2,.l 10 9,.m 11 1,oD 12 zS4 [(0,1,(zK 0)),(1,1,10),(3,1,11)],.s 4 4 12] .ret))
abbrev DD:List ak:=[.aW 4 4]
def V2:aq prog 138 2 Tryz.f138 c138 DD:=.auto func138
def DE:AC:=rsq [oB 2 0,oA 4 zS4] (.seq (rif [.f 7 0 2,.l 8 7,oI 9 .eql 8 (zK 1)] 9 (rsq [.f 10 2 2,.l 11 10,.m 12 1,oI 13 .add 11 12,oD 14 zS4 [(0,1,(zK 1)),(2,1,13)],.s 4 4 14] .ret) .skip) (rsq [oN 5] (.seq (rsq [oK 6 0] (forL 0 1 [.m 15 6,.f 16 3 2,.l 17 16,oL 18 17,oI 19 .lss 15 18] 19 (.ax [.m 22 5,.f 23 3 2,.l 24 23,.m 25 6,oJ 26 4 24 25,.d 27 4 26,.m 28 1,.k 29 89 [27,28],oS 30 4 [29],oQ 31 34 4 56 22 30,.m 5 31]) [.m 20 6,oI 21 .add 20 (zK 1),.m 6 21])) (rsq [.d 32 4 2,.m 33 5,.k 34 138 [32,33],.s 4 4 34] .ret))))
abbrev DF:List ak:=[.aW 4 4]
def V3:aq prog 89 2 Tryz.f89 DE DF:=.auto func89
def KV:AC:=rsq [oB 1 0,oA 2 zS4] (rsq [oD 4 [.ae []] [],oB 5 4,.m 3 5] (rsq [.m 6 3,.d 7 4 1,.k 8 96 [6,7],.s 4 2 8] .ret))
abbrev KW:List ak:=[.aW 4 2]
def V4:aq prog 47 1 Tryz.f47 KV KW:=.auto func47
def DG:AC:=rsq [oB 3 1,oA 4 zS4] (.seq (rif [.f 7 0 3,.l 8 7,oI 9 .eql 8 (zK 1)] 9 (rsq [.m 10 0,.f 11 2 3,.l 12 11,.k 13 143 [10,12],oD 14 zS4 [(0,1,(zK 1)),(2,1,13)],.s 4 4 14] .ret) .skip) (rsq [oN 5] (.seq (rsq [oK 6 0] (forL 0 1 [.m 15 6,.f 16 3 3,.l 17 16,oL 18 17,oI 19 .lss 15 18] 19 (.ax [.m 22 5,.m 23 0,.f 24 3 3,.l 25 24,.m 26 6,oJ 27 4 25 26,.d 28 4 27,.k 29 96 [23,28],oS 30 4 [29],oQ 31 34 4 56 22 30,.m 5 31]) [.m 20 6,oI 21 .add 20 (zK 1),.m 6 21])) (rsq [.d 32 4 3,.m 33 5,.k 34 138 [32,33],.s 4 4 34] .ret))))
abbrev DH:List ak:=[.aW 4 4]
def V5:aq prog 96 2 Tryz.f96 DG DH:=.auto func96
def c143:AC:=rsq [oK 4 0] (.seq (rsq [oK 5 0] (forL 0 1 [.m 6 5,.m 7 0,.n 8 7,.f 9 0 8,.l 10 9,oL 11 10,oI 12 .lss 6 11] 12 (rif [.m 15 0,.n 16 15,.f 17 0 16,.l 18 17,.m 19 5,oJ 20 1 18 19,.l 21 20,.m 22 1,oI 23 .eql 21 22] 23 (rsq [.m 24 5,.m 4 24] .ret) .skip) [.m 13 5,oI 14 .add 13 (zK 1),.m 5 14])) (rsq [.m 25 0,.m 26 0,.n 27 26,.f 28 0 27,.l 29 28,.m 30 1,oS 31 1 [30],oQ 32 3 1 8 29 31,.n 33 25,.f 34 0 33,.s 1 34 32] (rsq [.m 35 0,.n 36 35,.f 37 0 36,.l 38 37,oL 39 38,oI 40 .sub 39 (zK 1),.m 4 40] .ret)))
abbrev V6:List ak:=[.tmp 4]
def V7:aq prog 143 2 Tryz.f143 c143 V6:=.auto func143
def DI:AC:=rsq [oB 1 0,oF 2] (rsq [oF 3] (.seq (rsq [.f 6 0 1,.l 7 6] (.block 0 (rif [oI 9 .eql 7 (zK 0),.m 8 9] 8 (rsq [.f 10 1 1,.l 11 10,.k 12 82 [11],.m 4 12] (.ax [.m 13 4,.m 14 13,yF 15 2 1 14,yL 16 15 14,yI 17 .eql 16 (zK 0) 14,oP 18 14 17 zF,.m 3 18])) (rif [oI 20 .eql 7 (zK 1),.m 19 20] 19 (.ax [.f 21 1 1,.l 22 21,oI 23 .eql 22 (.k (zC)),.m 24 23,yF 25 2 1 24,yL 26 25 24,yI 27 .geq 26 (zK 0) 24,oP 28 24 27 zF,.m 29 28,yF 30 2 1 29,yL 31 30 29,yI 32 .leq 31 (zK 4611686018427387904) 29,oP 33 29 32 zF,.m 34 33,yF 35 3 1 34,yL 36 35 34,yM 37 36 34,yI 38 .eql 37 (zK 0) 34,oP 39 34 38 zF,.m 3 39]) (rif [oI 41 .eql 7 (zK 2),.m 40 41] 40 (.ax [.f 42 1 1,.l 43 42,oI 44 .eql 43 (.k (zC)),.m 45 44,yF 46 2 1 45,yL 47 46 45,yI 48 .eql 47 (zK 0) 45,oP 49 45 48 zF,.m 50 49,yF 51 3 1 50,yL 52 51 50,yM 53 52 50,yI 54 .eql 53 (zK 2) 50,oP 55 50 54 zF,.m 3 55]) .skip))))) (.seq (rsq [oK 5 0] (forL 1 2 [.m 56 5,.f 57 3 1,.l 58 57,oL 59 58,oI 60 .lss 56 59,.m 61 60,yV 62 3 61,oP 63 61 62 zF] 63 (.ax [.f 66 3 1,.l 67 66,.m 68 5,oJ 69 4 67 68,.d 70 4 69,.k 71 35 [70],.m 3 71]) [.m 64 5,oI 65 .add 64 (zK 1),.m 5 65])) (rsq [.m 72 3,.m 2 72] .ret))))
abbrev V8:List ak:=[.tmp 2]
def V9:aq prog 35 1 Tryz.f35 DI V8:=.auto func35
def c46:AC:=rsq [oB 1 0,oN 2,oA 3 zS4] (rsq [oN 4] (.seq (.block 0 (.loop (.seq (rif [.d 5 4 1,.k 6 95 [5]] 6 .skip (.exit 0)) (.block 1 (rsq [.m 7 4,.f 8 3 1,.l 9 8,oJ 10 4 9 (zK 0),.d 11 4 10,oS 12 4 [11],oQ 13 34 4 56 7 12,.m 4 13] (.ax [.f 14 3 1,.l 15 14,oJ 16 4 15 (zK 1),.d 17 4 16,.s 4 1 17])))))) (.seq (drg [.m 18 4,.d 19 4 1,.m 2 18,.s 4 3 19] [0,1,2,103]) .ret)))
abbrev Wa:List ak:=[.tmp 2,.aW 4 3]
def Wb:aq prog 46 1 Tryz.f46 c46 Wa:=.auto func46
end Go.Proofs.YtdlkenpilhakfaaGreatDoor
namespace Go.Lamb
open Go Go.RowKit
def e7(n:Nat):List Int->List (C×C)
 |[]=>[]
 |x::l=>(.int .i64 x,.int .i64 n)::e7 (n+1) l
def KX:∀(l:List Int) (n:Nat),(e7 n l).length=l.length
 |[],n=>rfl
 |x::l,n=>by rw[e7,bG,bG,KX l]
def KY:∀(l:List Int) (n:Nat),((e7 n l).all fun p=>(KD.i .i64).ok p.1)=true
 |[],n=>rfl
 |x::l,n=>by rw[e7,mg,KY l];rfl
def KZ{v:Int}:∀(l:List Int) (n:Nat),(∀j (b:j<l.length),(l[j]==v)=false)->ja (.int .i64 v) (e7 n l)=none/\∀y,jb (.int .i64 v) y (e7 n l)=e7 n l++[(.int .i64 v,y)]
 |[],n,_=>⟨rfl,fun y=>rfl⟩
 |x::l,n,h=>by
  have h0:=h 0 (by simp);simp only[di]at h0;have c:jE (.int .i64 v) (.int .i64 x)=false:=by
   show(v==x)=false;simp only[beq_eq_false_iff_ne]at h0⊢;exact fun e=>h0 e.symm
  obtain⟨g,i⟩:=KZ l (n+1) (fun j b=>by have:=h (j+1) (Bb b);rwa [ml]at this);exact⟨by rw[e7,ja,c];exact g,fun y=>by rw[e7,jb,c];show _::jb _ y _=_;rw[i];rfl⟩
def K0{v:Int}:∀(l:List Int) (n k:Nat) (b:k<l.length),l[k]=v->(∀j (g:j<l.length),j<k->(l[j]==v)=false)->ja (.int .i64 v) (e7 n l)=some (.int .i64 ((n+k:Nat):Int))
 |[],n,k,b,_,_=>by simp at b
 |x::l,n,0,b,h,_=>by
  simp only[di]at h;subst h;have c:jE (.int .i64 x) (.int .i64 x)=true:=by show(x==x)=true;simp
  rw[e7,ja,c];rfl
 |x::l,n,k+1,b,h,i=>by
  have h0:=i 0 (by simp) (by omega);simp only[di]at h0;have c:jE (.int .i64 v) (.int .i64 x)=false:=by
   show(v==x)=false;simp only[beq_eq_false_iff_ne]at h0⊢;exact fun e=>h0 e.symm
  have:=K0 l (n+1) k (by simpa using b) (by simpa using h) (fun j g p=>by have:=i (j+1) (Bb g) (by omega);rwa [ml]at this);rw[e7,ja,c];simp only[Bool.false_eq_true,if_false];rw[this];congr 3;omega
def K1(x:Int):∀(l:List Int) (n:Nat),e7 n (l++[x])=e7 n l++[(.int .i64 x,.int .i64 ((n+l.length:Nat):Int))]
 |[],n=>rfl
 |y::l,n=>by
  rw[iB,e7,e7,K1 x l,iB,bG];congr 5;omega
def Wc{σ:H}(h:H.ok σ)(m:Nat)(c:List (C×C)):H.ok (σ.set m (.mp c)):=by
 intro b hb cs tg hc x e;rw[List.length_set];rcases List.mem_or_eq_of_mem_set hb with hb|hb
 ·exact h b hb cs tg hc x e
 ·rw[hb]at hc;cases hc
end Go.Lamb
namespace Go.Proofs.YtdlkenpilhakfaaGreatDoor
open Go.RowKit Go.Lamb
section
attribute [local go_sem] aa.v aa.aG aO aQ aL aH aM
def We(w0:World)(v n:Int)(σ:H)(b:Nat)(g:σ[b]?=some (.cells [I n])):DC prog w0 127 [I v,.ptr b 0] σ (Same (aa.var (aE.wrap (v+n))).v σ):=by
 refine KU.go rfl (fun e h=>?_);apply bl;simp only[go_sem,c127,hG g];(refine db (Ds w0 (aE.wrap (v+n)) _) ?_;simp only[go_sem,aa.var]);(refine W.fg (e) (d:=(aa.var (aE.wrap (v+n))).v) (by simp only[DA,go_sem,aa.var];rfl) (by simp only[aT,go_sem,aa.var];exact aR) ?_ (hl:=by(first|exact .c _|(simp only[go_sem,aa.var];done))));exact⟨rfl,rfl⟩
def Wg(w0:World)(vs:List Int)(v:Int)(σ:H)(b m:Nat)(p:σ[b]?=some (.cells [.mp m]))(h:σ[m]?=some (.mp (e7 0 vs))):DC prog w0 125 [I v,.ptr b 0] σ (Same (aa.var (iP vs v)).v (σ.set m (.mp (e7 0 (dm vs v))))):=by
 refine KS.go rfl (fun j w=>?_);have e:(KD.i aE).ok (C.int aE v)=true:=rfl;have g:=KY vs 0;rcases Iy vs v with⟨A,r,t⟩|⟨D,r,t,E⟩
 ·obtain⟨f1,f2⟩:=KZ vs 0 t;have u:=f2 (.int .i64 ((vs.length:Nat):Int));have f3:=K1 v vs 0;rw[eJ]at f3;have hl:=KX vs 0;rw[r,f3,A];have F:∀X,(σ.set m X)[m]?=some X:=fun X=>HU X (List.getElem?_eq_some_iff.1 h).1;apply bl;simp only[go_sem,zG,hG p,hG h,e,g,f1,o5,Option.getD_none,Option.isSome_none];refine wY ?_;simp only[go_sem,hG p,hG h,e,g,hl,u,hS h];(refine db (Ds w0 (vs.length:Int) _) ?_;simp only[go_sem,aa.var]);(refine W.fg (Wc j m _) (d:=(aa.var (vs.length:Int)).v) (by simp only[zH,go_sem,aa.var];rfl) (by simp only[aT,go_sem,aa.var];exact aR) ?_ (hl:=by(first|exact .c _|(simp only[go_sem,aa.var];done))))
  exact⟨rfl,rfl⟩
 ·have f1:=K0 vs 0 _ D t E;rw[eJ]at f1;rw[r,qp h];generalize iP vs v=k at*
  apply bl;simp only[go_sem,zG,hG p,hG h,e,g,f1,o5,Option.getD_some,Option.isSome_some];refine wN ?_;simp only[go_sem];(refine db (Ds w0 (k:Int) _) ?_;simp only[go_sem,aa.var]);(refine W.fg (j) (d:=(aa.var (k:Int)).v) (by simp only[zH,go_sem,aa.var];rfl) (by simp only[aT,go_sem,aa.var];exact aR) ?_ (hl:=by(first|exact .c _|(simp only[go_sem,aa.var];done))));exact⟨rfl,rfl⟩
def K2(w0:World)(p:aa)(n:Int)(hp:aw p<=1000000)(σ:H):DC prog w0 73 [p.v,I n] σ (Same (b8 (gA n) () p).1.v σ):=by
 refine KT.go rfl (fun b e=>?_);have g:qR w0 (gA n) (.fn 127 [.ptr (σ.length+1) 0]) (fun _:Unit=>σ++[.cells p.v.af,.cells [I n],.cells [I 0,S [],I 0,.ae []]]) (σ.length+3):=
  ⟨fun _=>by simp,fun _ _ _ h=>h,(x9 _ _ _).2 (fun x c=>by simp only[mv]at c;subst c;exact .ptr (by omega)),_,_,rfl,fun L _ v=>We w0 v n _ _ (by rw[dq,bx];rfl)⟩
 have hc:=KQ w0 (gA n) _ p hp _ _ g ();generalize (b8 (gA n) () p).1=u at hc;apply bl;simp only[go_sem,Dy];(refine db (hc) ?_;simp only[go_sem]);(refine W.fg (b) (d:=u.v) (by simp only[Dz,go_sem];rfl) (by simp only[aT,go_sem];exact aR) ?_);exact⟨rfl,rfl⟩
def Wh{A B:H}{k c:List (C×C)}(h:H.ok (A++ad.mp k::B)):H.ok (A++ad.mp c::B):=by
 intro b hb cs tg hc x e;have hl:(A++ad.mp c::B).length=(A++ad.mp k::B).length:=by simp
 rw[hl];rcases List.mem_append.1 hb with hb|hb
 ·exact h b (List.mem_append_left _ hb) cs tg hc x e
 ·rcases cD.1 hb with hb|hb
  ·rw[hb]at hc;cases hc
  ·exact h b (List.mem_append_right _ (List.mem_cons_of_mem _ hb)) cs tg hc x e
def zJ(w0:World)(p:aa)(hp:aw p<=1000000)(σ:H):DC prog w0 72 [p.v] σ (Same (bT p).v σ):=by
 refine KR.go rfl (fun b i=>?_);have j:qR w0 b9 (.fn 125 [.ptr (σ.length+3) 0]) (fun vs:List Int=>σ++[.cells p.v.af,.cells [I 0,S [],I 0,.ae []],.mp (e7 0 vs),.cells [.mp (σ.length+2)]]) (σ.length+4):=by
  refine⟨fun _=>by simp,fun s s' L h=>?_,(x9 _ _ _).2 (fun x c=>by simp only[mv]at c;subst c;exact .ptr (by omega)),_,_,rfl,fun L vs v=>?_⟩
  ·have e:∀s,σ++[.cells p.v.af,.cells [I 0,S [],I 0,.ae []],.mp (e7 0 s),.cells [.mp (σ.length+2)]]++L=(σ++[.cells p.v.af,.cells [I 0,S [],I 0,.ae []]])++ad.mp (e7 0 s)::(.cells [.mp (σ.length+2)]::L):=fun s=>by simp
   rw[e]at h⊢;exact Wh h
  ·have g:=Wg w0 vs v (σ++[.cells p.v.af,.cells [I 0,S [],I 0,.ae []],.mp (e7 0 vs),.cells [.mp (σ.length+2)]]++L) (σ.length+3) (σ.length+2) (by rw[dq,bx];rfl) (by rw[dq,bx];rfl);rw[dq,cR]at g;rw[dq,dq];exact g
 have hc:=KQ w0 b9 _ p hp _ _ j [];unfold bT;generalize b8 b9 [] p=u at hc⊢;apply bl;simp only[go_sem,c72];(refine db (hc) ?_;simp only[go_sem]);(refine W.fg (b) (d:=u.1.v) (by simp only[Dx,go_sem];rfl) (by simp only[aT,go_sem];exact aR) ?_);exact⟨rfl,rfl⟩

end
def aet(r:AV):Value:=.tuple #[.agg #[.int .i64 r.kind,.string (bs r.text),.int .i64 r.n,.int .i64 0],.int .i64 r.len,.int .i64 r.err]

theorem QL:(prog.info? 60).map (fun i=>(i.zero,i.size,i.bytes))=some (some (.agg #[.string ⟨#[]⟩,.int .i64 0,.int .i64 0]),3,32):=by kernel_rfl
def Roomy(w0 w:World)(e size:Nat)(v:Value):Prop:=(∃A,v= .slice A 0 0)\/w.ownsRow w0.heap.size e size v 0 []
theorem rX(w:World)(o:Obj):Below w.heap.size w (w.drew.alloc o):=Below.alloc (Below.drew (fJ _ _)) (aA _) o
theorem GP(w:World)(n:Nat)(hn:n<=1000000)(b:Array Value)(c:b.size=3):
  (w.alloc (.cells (rP b n++rP b (grownCap w n 0 60-n)) 60)).drew.ownsRow w.heap.size 60 3 (.slice (some ⟨w.heap.size,0,none⟩) 0 (grownCap w n 0 60)) 0 []:=by
 have e:=grownCap_ge w n 0 60;refine⟨by simp,.inr ⟨w.heap.size,_,_,rfl,aA _,heap_alloc_new w _,Nat.zero_le _,grownCap_le_maxLen w n 0 60 (by unfold maxLen;omega),?_,by simp⟩⟩;simp only[Array.size_append,size_zeroCells,c];omega
set_option maxHeartbeats 4000000 in
set_option maxRecDepth 100000 in
theorem QM(A:Option Addr)(n:Nat)(w:World)(hn:n<=1000000):Calls prog 203 #[.slice A 0 0,.int .i64 n] w (fun e w'=>∃v,e= .returned v/\Below w.heap.size w w'/\Roomy w w' 60 3 v):=by
 by_cases h0:n=0
 ·subst h0;cases A
  ·go_enter func203,ntmps203
   go_wp2_with fail
   go_ret
   exact⟨_,rfl,fJ _ _,.inl ⟨_,rfl⟩⟩
  ·go_enter func203,ntmps203
   go_wp2_with fail
   go_ret
   exact⟨_,rfl,fJ _ _,.inl ⟨_,rfl⟩⟩
 ·obtain⟨j,c,g,h,b⟩:=info_parts QL;have p:¬((n:Int)<0):=by omega
  have r:(n:Int)>0:=by omega
  have hw:IntKind.i64.wrap (n:Int)=n:=by rw[a7]<;>omega
  cases A
  case none=>
   have i:=xa (P:=prog) w 24 3 24 60 j _ .i64 .i64 underlying24 underlying3 c g none 0 0 [] (o4 (by simp) (by simp)) n (by omega) (by rw[h];decide) (by omega) (by omega) (by rw[b];omega) (growslice_fits (by omega) (by rw[b];omega))
   go_enter func203,ntmps203
   go_wp2_with (first
    |(at_builtin;refine xb w rfl (.tmp 20) (.tmp 21) 24 3 rfl _ _ rfl rfl _ _ i ?_))
   go_ret
   exact⟨_,rfl,rX w _,.inr (GP w n hn _ rfl)⟩
  case some a=>
   have i:=xa (P:=prog) w 24 3 24 60 j _ .i64 .i64 underlying24 underlying3 c g (some a) 0 0 [] (o4 (by simp) (by simp)) n (by omega) (by rw[h];decide) (by omega) (by omega) (by rw[b];omega) (growslice_fits (by omega) (by rw[b];omega))
   go_enter func203,ntmps203
   go_wp2_with (first
    |(at_builtin;refine xb w rfl (.tmp 20) (.tmp 21) 24 3 rfl _ _ rfl rfl _ _ i ?_))
   go_ret
   exact⟨_,rfl,rX w _,.inr (GP w n hn _ rfl)⟩
theorem QN(w0:World)(n:Nat)(hn:n<=1000000)(σ:H):DC prog w0 203 [.ae [],I n] σ (Same (.aC σ.length []) (σ++[.spare 60 3 0])):=by
 refine DC.Bp (jC func203 (by kernel_rfl) rfl) fun κ w vs g b=>?_;obtain⟨v,ys,rfl,h,b⟩:=b.cons_inv;obtain⟨u,zs,rfl,e,b⟩:=b.cons_inv;have:=b.jZ;subst this;cases h with
 |ae i=>
  rename_i A;cases e with
  |c e=>
   cases e with
   |int=>exact QM A n w hn

section
def c145:AC:=rsq [oA 4 [zC,zI],oF 5] (.seq (rsq [.m 9 0,oL 10 9,oK 11 0] (.block 0 (.loop (rsq [oI 12 .lss 11 10] (.seq (.cond 12 .skip (.exit 0)) (.seq (.block 1 (rsq [oJ 13 2 9 11,.d 14 2 13,oA 7 [zC,zI],.s 2 7 14] (rif [.m 15 1,.d 16 2 7,.o 17 (.call 15 [16])] 17 (rsq [.d 18 2 7,.s 2 4 18,oV 5] .ret) .skip))) (.ax [oI 19 .add 11 (zK 1),.m 11 19]))))))) (rsq [oA 8 [zC,zI]] (rsq [.d 20 2 8,.s 2 4 20,oF 5] .ret)))
abbrev K3:List ak:=[.aW 2 4,.tmp 5]
def Wi:aq prog 145 2 Tryz.f145 c145 K3:=.auto func145
def c146:AC:=rsq [oB 2 0,oF 3] (rsq [.f 4 0 2,.l 5 4,.l 6 1,oI 7 .eql 5 6,.m 3 7] .ret)
abbrev K4:List ak:=[.tmp 3]
def Wj:aq prog 146 2 Tryz.f146 c146 K4:=.auto func146
def K5:AC:=rsq [oB 2 0,oB 3 1,oK 4 0,oF 5] (rsq [.f 9 0 2,.l 10 9,.o 11 (.gZ 146 [3]),.k 12 145 [10,11],.m 8 12,.x 13 8 0,.x 14 8 1,oA 6 [zC,zI],.s 2 6 13,.m 7 14] (rsq [.f 15 1 6,.l 16 15,.m 17 7,.m 4 16,.m 5 17] .ret))
abbrev K6:List ak:=[.tmp 4,.tmp 5]
def Wk:aq prog 100 2 Tryz.f100 K5 K6:=.auto func100
def K7:AC:=rsq [oA 4 [zC,zI,zC,zI,.ae []],oF 5] (.seq (rsq [.m 9 0,oL 10 9,oK 11 0] (.block 0 (.loop (rsq [oI 12 .lss 11 10] (.seq (.cond 12 .skip (.exit 0)) (.seq (.block 1 (rsq [oJ 13 5 9 11,.d 14 5 13,oA 7 [zC,zI,zC,zI,.ae []],.s 5 7 14] (rif [.m 15 1,.d 16 5 7,.o 17 (.call 15 [16])] 17 (rsq [.d 18 5 7,.s 5 4 18,oV 5] .ret) .skip))) (.ax [oI 19 .add 11 (zK 1),.m 11 19]))))))) (rsq [oA 8 [zC,zI,zC,zI,.ae []]] (rsq [.d 20 5 8,.s 5 4 20,oF 5] .ret)))
abbrev DJ:List ak:=[.aW 5 4,.tmp 5]
def Wl:aq prog 50 2 Tryz.f50 K7 DJ:=.auto func50
def c51:AC:=rsq [oB 2 0,oF 3] (rsq [.f 4 0 2,.l 5 4,.l 6 1,oI 7 .eql 5 6,.m 3 7] .ret)
abbrev Wm:List ak:=[.tmp 3]
def Wn:aq prog 51 2 Tryz.f51 c51 Wm:=.auto func51
def K8:AC:=rsq [oB 2 0,oB 3 1,oA 4 zS4,oF 5] (rsq [.f 9 1 2,.l 10 9,.o 11 (.gZ 51 [3]),.k 12 50 [10,11],.m 8 12,.x 13 8 0,.x 14 8 1,oA 6 [zC,zI,zC,zI,.ae []],.s 5 6 13,.m 7 14] (rsq [.f 15 1 6,.d 16 4 15,.m 17 7,.s 4 4 16,.m 5 17] .ret))
abbrev K9:List ak:=[.aW 4 4,.tmp 5]
def Wo:aq prog 15 2 Tryz.f15 K8 K9:=.auto func15
def La:AC:=rsq [oB 2 0,oB 3 1,oF 4] (.seq (rsq [.d 8 3 2,.f 9 1 3,.l 10 9,.k 11 100 [8,10],.m 7 11,.x 12 7 0,.x 13 7 1,.m 5 12,.m 6 13] (rif [.f 14 0 3,.l 15 14,oI 16 .eql 15 (zK 0),.m 17 16,yV 18 6 17,.y 19 (.un .not 18) 17,yV 20 19 17,yW 21 5 20,yX 22 3 3 20,yT 23 22 20,.z 24 (.eM 23) 20,yB 25 .neq 21 24 20,.y 26 (.pick 20 zT 25) 17,oP 27 17 26 zF] 27 (rsq [oF 4] .ret) .skip)) (rsq [.f 28 3 3,.l 29 28,.o 30 (.gZ 144 [2]),.k 31 64 [29,30],oU 32 .not 31,.m 4 32] .ret))
abbrev Lb:List ak:=[.tmp 4]
def Wp:aq prog 99 2 Tryz.f99 La Lb:=.auto func99
def Lc:AC:=rsq [oB 2 0,oF 3] (rsq [.d 4 3 1,.d 5 4 2,.k 6 99 [4,5],oU 7 .not 6,.m 3 7] .ret)
abbrev Ld:List ak:=[.tmp 3]
def Wq:aq prog 144 2 Tryz.f144 Lc Ld:=.auto func144
def c53:AC:=rsq [oB 2 0,oB 3 1,oF 4] (rsq [.d 5 4 3,.k 6 24 [5],.m 7 6,.y 8 (.ez 3 2) 7,.y 9 (.ez 4 3) 7,.y 10 (.call (.k (.fn 99 [])) [8,9]) 7,oP 11 7 10 zF,.m 4 11] .ret)
abbrev Le:List ak:=[.tmp 4]
def Wr:aq prog 53 2 Tryz.f53 c53 Le:=.auto func53
def Lf:AC:=rsq [oK 6 0] (.seq (.block 0 (rif [.m 8 0,oU 9 .not 8,.m 7 9] 7 (rsq [oK 6 113] .ret) (rif [.m 11 1,.m 10 11] 10 (rsq [oK 6 110] .ret) (rif [.m 13 2,oI 14 .geq 13 (zK 1024),.m 12 14] 12 (rsq [oK 6 112] .ret) .skip)))) (rsq [oK 6 0] .ret))
abbrev Lg:List ak:=[.tmp 6]
def Ws:aq prog 101 3 Tryz.f101 Lf Lg:=.auto func101
def Lh:AC:=rsq [oB 3 0,oB 4 1,oA 6 [.ae [],.ae [],.ae []],oK 7 0] (rsq [oK 8 0] (.seq (rsq [.f 14 0 4,.l 15 14] (.block 0 (rif [oI 17 .eql 15 (zK 0),.m 16 17] 16 (rsq [.d 19 3 3,.m 20 2,.k 21 100 [19,20],.m 18 21,.x 22 18 0,.x 23 18 1,.m 9 22,.m 10 23] (.seq (drg [.m 24 2,.k 25 62 [24],.m 26 25,yF 27 2 4 26,yL 28 27 26,yI 29 .geq 28 (zK 0) 26,oP 30 26 29 zF,.m 31 10,.f 32 0 3,.l 33 32,oL 34 33,.k 35 101 [30,31,34],.m 8 35] [0,101,202,203,204,205,206,7,8,9,10,311,412]) (drg [.f 36 0 3,.l 37 36,.k 38 102 [37],.m 39 2,.f 40 2 4,.l 41 40,oD 42 [zC,zI] [(0,1,39),(1,1,41)],oS 43 2 [42],oQ 44 106 2 24 38 43,.f 45 0 3,.s 1 45 44] [0,1,102,3,4,5,6,7,308,409,510]))) (rif [oI 47 .eql 15 (zK 1),.m 46 47] 46 (rsq [.d 49 3 3,.m 50 2,.k 51 15 [49,50],.m 48 51,.x 52 48 0,.x 53 48 1,oA 11 zS4,.s 4 11 52,.m 12 53] (.seq (drg [.m 54 2,.k 55 62 [54],.m 56 55,yW 57 2 56,.z 58 (.call (.k (.fn 103 [])) [57]) 56,oP 59 56 zT 58,.m 60 12,.f 61 1 3,.l 62 61,oL 63 62,.k 64 101 [59,60,63],.m 8 64] [0,101,202,203,304,405,6,7,8,9,510,611]) (drg [.f 65 1 3,.l 66 65,.k 67 104 [66],.m 68 2,.f 69 3 4,.d 70 4 69,oD 71 [zC,zI,zC,zI,.ae []] [(0,1,68),(1,4,70)],oS 72 5 [71],oQ 73 50 5 72 67 72,.f 74 1 3,.s 1 74 73] [0,1,102,3,4,5,6,7,308,409,510]))) (rif [oI 76 .eql 15 (zK 2),.m 75 76] 75 (rsq [.f 77 7 4,.d 78 3 77,oA 13 [zC,zI,zI],.s 3 13 78] (rsq [.m 79 2,.f 80 0 13,.s 1 80 79] (.ax [.f 82 2 3,.l 83 82,.d 84 3 13,.k 85 105 [83,84],.m 81 85,.x 86 81 0,.x 87 81 1,.f 88 2 3,.s 1 88 86,.m 8 87]))) .skip))))) (rsq [.d 89 3 3,.m 90 8,.s 3 6 89,.m 7 90] .ret)))
abbrev Li:List ak:=[.aW 3 6,.tmp 7]
def Wt:aq prog 54 3 Tryz.f54 Lh Li:=.auto func54
def Lj:AC:=rsq [oB 1 0,oA 2 [.ae [],.ae [],.ae []]] (.seq (drg [.f 3 0 1,.l 4 3,.k 5 97 [4],.f 6 1 1,.l 7 6,.k 8 81 [7],.f 9 2 1,.l 10 9,.k 11 98 [10],oD 12 [.ae [],.ae [],.ae []] [(0,1,5),(1,1,8),(2,1,11)],.s 3 2 12] [0,1,102,3,4,305,6,7,508,609,710]) .ret)
abbrev Lk:List ak:=[.aW 3 2]
def Wu:aq prog 52 1 Tryz.f52 Lj Lk:=.auto func52
def Ll:AC:=rsq [oB 2 0,oB 3 1,oA 4 [.ae [],.ae [],.ae []],oK 5 0] (.seq (.block 0 (rif [.f 12 0 3,.l 13 12,oI 14 .lss 13 (zK 0),.m 15 14,yX 16 0 3 15,yT 17 16 15,yB 18 .gtr 17 (zK 3) 15,oP 19 15 zT 18,.m 11 19] 11 (rsq [.d 20 3 2,.k 21 52 [20],.s 3 4 21,oK 5 1] .ret) (rif [.f 23 0 3,.l 24 23,oI 25 .eql 24 (zK 1),.m 26 25,.y 27 (.ez 3 2) 26,yF 28 3 3 26,.y 29 (.ez 4 28) 26,.y 30 (.call (.k (.fn 53 [])) [27,29]) 26,.y 31 (.un .not 30) 26,oP 32 26 31 zF,.m 22 32] 22 (rsq [.d 33 3 2,.k 34 52 [33],.s 3 4 34,oK 5 111] .ret) .skip))) (rsq [.d 35 3 2,.k 36 52 [35],oA 6 [.ae [],.ae [],.ae []],.s 3 6 36] (.seq (rsq [.f 37 1 3,.l 38 37,oL 39 38,oK 40 0] (.block 1 (.loop (rsq [oI 41 .lss 40 39] (.seq (.cond 41 .skip (.exit 1)) (.seq (.block 2 (rsq [oJ 42 1 38 40,.l 43 42,.m 8 43] (rsq [.d 45 3 6,.d 46 16 3,.m 47 8,.k 48 54 [45,46,47],.m 44 48,.x 49 44 0,.x 50 44 1,oA 9 [.ae [],.ae [],.ae []],.s 3 9 49,.m 10 50] (.seq (rif [.m 51 10,oI 52 .neq 51 (zK 0)] 52 (rsq [.d 53 3 2,.k 54 52 [53],.m 55 10,.s 3 4 54,.m 5 55] .ret) .skip) (.ax [.d 56 3 9,.s 3 6 56]))))) (.ax [oI 57 .add 40 (zK 1),.m 40 57]))))))) (rsq [.d 58 3 6,.s 3 4 58,oK 5 0] .ret))))
abbrev Lm:List ak:=[.aW 3 4,.tmp 5]
def Wv:aq prog 16 2 Tryz.f16 Ll Lm:=.auto func16
def c159:AC:=rsq [oA 2 zS4] (rsq [.m 3 0,oD 4 zS4 [(1,1,3)],.s 4 2 4] .ret)
abbrev Ln:List ak:=[.aW 4 2]
def Ww:aq prog 159 1 Tryz.f159 c159 Ln:=.auto func159
def Lo:AC:=rsq [oB 2 0,oN 4] (rsq [oN 5] (.seq (rsq [.m 8 1,oL 9 8,oK 10 0] (.block 0 (.loop (rsq [oI 11 .lss 10 9] (.seq (.cond 11 .skip (.exit 0)) (.seq (.block 1 (rsq [oJ 12 1 8 10,.l 13 12,.m 7 13] (.ax [.m 14 5,.m 15 7,.d 16 4 2,oD 17 [zC,zI,zC,zI,.ae []] [(0,1,15),(1,4,16)],oS 18 5 [17],oQ 19 50 5 72 14 18,.m 5 19]))) (.ax [oI 20 .add 10 (zK 1),.m 10 20]))))))) (rsq [.m 21 5,.m 4 21] .ret)))
abbrev Lp:List ak:=[.tmp 4]
def Wx:aq prog 161 2 Tryz.f161 Lo Lp:=.auto func161
def Lq:AC:=rsq [oA 0 [.ae [],.ae [],.ae []]] (rsq [.k 5 159 [(.k (.c (.str [111])))],.k 6 159 [(.k (.c (.str [105,110,116])))],oD 7 zS4 [(0,1,(zK 1))],oA 1 zS4,oA 2 zS4,oA 3 zS4,.s 4 1 5,.s 4 2 6,.s 4 3 7] (.seq (drg [.d 8 4 1,.d 9 4 1,.d 10 4 1,oS 11 4 [9,10],.k 12 68 [8,11],oS 13 1 [(.k (.c (.str [58,45]))),(.k (.c (.str [44]))),(.k (.c (.str [59]))),(.k (.c (.str [61,62])))],.k 14 161 [12,13],.d 15 4 1,.d 16 4 3,.d 17 4 3,oS 18 4 [16,17],.k 19 68 [15,18],oS 20 1 [(.k (.c (.str [61])))],.k 21 161 [19,20],.d 22 4 1,.d 23 4 2,.d 24 4 2,oS 25 4 [23,24],.k 26 68 [22,25],oS 27 1 [(.k (.c (.str [105,115]))),(.k (.c (.str [60]))),(.k (.c (.str [61,60]))),(.k (.c (.str [62]))),(.k (.c (.str [62,61])))],.k 28 161 [26,27],.d 29 4 2,.d 30 4 2,.d 31 4 2,oS 32 4 [30,31],.k 33 68 [29,32],oS 34 1 [(.k (.c (.str [43]))),(.k (.c (.str [45]))),(.k (.c (.str [42]))),(.k (.c (.str [100,105,118]))),(.k (.c (.str [109,111,100])))],.k 35 161 [33,34],.d 36 4 2,.d 37 4 2,oS 38 4 [37],.k 39 68 [36,38],oS 40 1 [(.k (.c (.str [126])))],.k 41 161 [39,40],.d 42 4 1,oS 43 1 [(.k (.c (.str [116,114,117,101]))),(.k (.c (.str [102,97,105,108]))),(.k (.c (.str [33])))],.k 44 161 [42,43],.d 45 4 1,.d 46 4 1,.d 47 4 3,oS 48 4 [47],.k 49 68 [46,48],oS 50 4 [49],.k 51 68 [45,50],oS 52 1 [(.k (.c (.str [112,105]))),(.k (.c (.str [115,105,103,109,97])))],.k 53 161 [51,52],oS 54 1 [14,21,28,35,41,44,53],.k 55 160 [54],.m 4 55] [0,1,2,3,104,5,306,7,8,9,10,511,12,713,14,15,16,17,918,19,1120,21,22,23,24,1325,26,1527,28,29,30,1731,32,1933,34,35,2136,38,39,40,2341,37,2442,2543,44,2745,2846,2947,3048]) (rsq [oD 56 [zC,zI] [(0,1,(.k (.c (.str [111]))))],oD 57 [zC,zI] [(0,1,(.k (.c (.str [105,110,116]))))],oS 58 2 [56,57],.m 59 4,.k 60 106 [],oD 61 [.ae [],.ae [],.ae []] [(0,1,58),(1,1,59),(2,1,60)],.s 3 0 61] .ret)))
abbrev Lr:List ak:=[.aW 3 0]
def Wy:aq prog 108 0 Tryz.f108 Lq Lr:=.auto func108
def Ls:AC:=rsq [oN 2] (.seq (rif [.m 3 0,.o 4 (.jd false 3)] 4 (rsq [oN 2] .ret) .skip) (rsq [oS 5 2 [],.m 6 0,oQ 7 106 2 24 5 6,.m 2 7] .ret))
abbrev Wz:List ak:=[.tmp 2]
def WA:aq prog 97 1 Tryz.f97 Ls Wz:=.auto func97
def DK:AC:=rsq [oN 2] (.seq (rif [.m 3 0,.o 4 (.jd false 3)] 4 (rsq [oN 2] .ret) .skip) (rsq [oS 5 5 [],.m 6 0,oQ 7 50 5 72 5 6,.m 2 7] .ret))
abbrev WB:List ak:=[.tmp 2]
def Lt:aq prog 81 1 Tryz.f81 DK WB:=.auto func81
def Lu:AC:=rsq [oN 2] (rsq [.m 3 0,.m 4 0,oL 5 4,.m 6 0,oL 7 6,.o 8 (.gk 5 3 none (some 5) (some 7)),.m 2 8] .ret)
abbrev Lv:List ak:=[.tmp 2]
def WC:aq prog 104 1 Tryz.f104 Lu Lv:=.auto func104
def Lw:AC:=rsq [oB 2 0,oA 4 zS4,oF 5] (.seq (rsq [oK 6 0] (forL 0 1 [.m 7 6,.f 8 1 2,.l 9 8,oL 10 9,oI 11 .lss 7 10] 11 (rif [.f 14 1 2,.l 15 14,.m 16 6,oJ 17 5 15 16,.f 18 0 17,.l 19 18,.m 20 1,oI 21 .eql 19 20] 21 (rsq [.f 22 1 2,.l 23 22,.m 24 6,oJ 25 5 23 24,.f 26 1 25,.d 27 4 26,.s 4 4 27,oV 5] .ret) .skip) [.m 12 6,oI 13 .add 12 (zK 1),.m 6 13])) (rsq [oD 28 zS4 [],.s 4 4 28,oF 5] .ret))
abbrev DL:List ak:=[.aW 4 4,.tmp 5]
def WD:aq prog 136 2 Tryz.f136 Lw DL:=.auto func136
def Lx(t:List Tok)(i:Int)(l:List eO)(e p:Int):ad:=.cells [.c (yj t),I i,.c (mP l),I e,I p]
attribute [local go_sem] Lx kq CF uY CG CH yC
attribute [local go_sem] yz
def WE:ad:=.cells [I 0,.ae [],I 0,I 0,S [],I 0,.ae [],S [],I 0,I 0,I 0,S [],I 0,.ae [],I 0,I 0]
attribute [local go_sem] WE
end
section
def Ly:AC:=rsq [oN 6] (rsq [oN 7] (.seq (rsq [.m 10 2,oL 11 10,oK 12 0] (.block 0 (.loop (rsq [oI 13 .lss 12 11] (.seq (.cond 13 .skip (.exit 0)) (.seq (.block 1 (rsq [oJ 14 1 10 12,.l 15 14,.m 9 15] (.ax [.m 16 7,.m 17 9,.m 18 0,.m 19 1,oD 20 [zC,zI,zI] [(0,1,17),(1,1,18),(2,1,19)],oS 21 3 [20],oQ 22 60 3 32 16 21,.m 7 22]))) (.ax [oI 23 .add 12 (zK 1),.m 12 23]))))))) (rsq [.m 24 7,.m 6 24] .ret)))
abbrev Lz:List ak:=[.tmp 6]
def WG:aq prog 151 3 Tryz.f151 Ly Lz:=.auto func151
def LA:AC:=rsq [oN 2] (rsq [oK 3 0] (.seq (rsq [.m 9 0,oL 10 9,oK 11 0] (.block 0 (.loop (rsq [oI 12 .lss 11 10] (.seq (.cond 12 .skip (.exit 0)) (.seq (.block 1 (rsq [oJ 13 1 9 11,.l 14 13,.m 5 14] (rsq [.m 15 3,.m 16 5,oL 17 16,oI 18 .add 15 17,.m 3 18] (rif [.m 19 3,oI 20 .lss 19 (zK 0)] 20 (.ax [.o 21 .bad,⟨none,.bad,none⟩]) .skip)))) (.ax [oI 22 .add 11 (zK 1),.m 11 22]))))))) (rsq [.m 23 3,.k 24 203 [(.k (.ae [])),23],.m 6 24] (.seq (rsq [.m 25 0,oL 26 25,oK 27 0] (.block 2 (.loop (rsq [oI 28 .lss 27 26] (.seq (.cond 28 .skip (.exit 2)) (.seq (.block 3 (rsq [oJ 29 1 25 27,.l 30 29,.m 8 30] (.ax [.m 31 6,.m 32 8,oQ 33 60 3 32 31 32,.m 6 33]))) (.ax [oI 34 .add 27 (zK 1),.m 27 34]))))))) (rsq [.m 35 6,.m 2 35] .ret)))))
abbrev LB:List ak:=[.tmp 2]
def WH:aq prog 150 1 Tryz.f150 LA LB:=.auto func150
def LC:AC:=rsq [oN 0] (rsq [oS 1 1 [(.k (.c (.str [58,45])))],.k 2 151 [(zK 10),(zK 0),1],oS 3 1 [(.k (.c (.str [59])))],.k 4 151 [(zK 20),(zK 2),3],oS 5 1 [(.k (.c (.str [44])))],.k 6 151 [(zK 30),(zK 2),5],oS 7 1 [(.k (.c (.str [61,62])))],.k 8 151 [(zK 40),(zK 2),7],oS 9 1 [(.k (.c (.str [61]))),(.k (.c (.str [105,115]))),(.k (.c (.str [60]))),(.k (.c (.str [61,60]))),(.k (.c (.str [62]))),(.k (.c (.str [62,61])))],.k 10 151 [(zK 60),(zK 0),9],oS 11 1 [(.k (.c (.str [43]))),(.k (.c (.str [45])))],.k 12 151 [(zK 80),(zK 1),11],oS 13 1 [(.k (.c (.str [42]))),(.k (.c (.str [100,105,118]))),(.k (.c (.str [109,111,100])))],.k 14 151 [(zK 90),(zK 1),13],oS 15 1 [2,4,6,8,10,12,14],.k 16 150 [15],.m 0 16] .ret)
abbrev LD:List ak:=[.tmp 0]
def WI:aq prog 106 0 Tryz.f106 LC LD:=.auto func106
def LF:AC:=rsq [oB 2 0,oK 4 0] (rsq [.m 7 1,oI 8 .sub 7 (zK 1),.m 5 8] (.seq (rsq [oK 6 0] (forL 0 1 [.m 9 6,.f 10 3 2,.l 11 10,oL 12 11,oI 13 .lss 9 12,.m 14 13,yV 15 5 14,yI 16 .geq 15 (zK 0) 14,oP 17 14 16 zF] 17 (.ax [.f 20 3 2,.l 21 20,.m 22 6,oJ 23 5 21 22,.d 24 5 23,.m 25 5,.k 26 61 [24,25],.m 5 26]) [.m 18 6,oI 19 .add 18 (zK 1),.m 6 19])) (rsq [.m 27 5,.m 4 27] .ret)))
abbrev WJ:List ak:=[.tmp 4]
def WK:aq prog 61 2 Tryz.f61 LF WJ:=.auto func61
def c21:AC:=rsq [oB 2 0,oF 4] (rsq [.d 6 5 2,.m 7 1,.k 8 61 [6,7],.m 5 8] (rsq [.m 9 5,oI 10 .lss 9 (zK 0),.m 4 10] .ret))
abbrev WL:List ak:=[.tmp 4]
def WM:aq prog 21 2 Tryz.f21 c21 WL:=.auto func21
def LG{α:Type}{ls:List (List α)}{i:Nat}(h:i<ls.length):(ls.take (i+1)).flatten=(ls.take i).flatten++ls[i]:=by
 rw[List.take_add_one,aN h,List.flatten_append];congr 1;exact cd _
def LH{α:Type}{ls:List (List α)}(i:Nat):(ls.take i).flatten.length<=ls.flatten.length:=by
 have:ls.flatten=(ls.take i).flatten++(ls.drop i).flatten:=by rw[<-List.flatten_append,List.take_append_drop]
 rw[this,bC];omega
def LI:AC:=rsq [oK 4 0] (.seq (rsq [.m 6 0,.o 7 (.lens 6),oK 8 0] (.block 0 (.loop (rsq [oI 9 .lss 8 7] (.seq (.cond 9 .skip (.exit 0)) (.seq (.block 1 (rsq [.m 10 8,.m 5 10] (rif [.m 11 1,.m 12 0,.m 13 5,.o 14 (.index 12 13),.o 15 (.call 11 [14]),oU 16 .not 15] 16 (rsq [.m 17 5,.m 4 17] .ret) .skip))) (.ax [oI 18 .add 8 (zK 1),.m 8 18]))))))) (rsq [.m 19 0,.o 20 (.lens 19),.m 4 20] .ret))
abbrev LJ:List ak:=[.tmp 4]
def WN:aq prog 115 2 Tryz.f115 LI LJ:=.auto func115
def WO{p:al}{args:List V}(h:∀y∈args,V.Sz y)(b:p.v∈args):p.l.length<=9223372036854775807:=by
 have:=h _ b;rw[al.v,B7]at this;exact sA (this (.c (.sl (p.l.map al.cs))) (by simp))
def LK:AC:=rsq [oF 2] (.seq (rif [.m 5 0,.o 6 (.lens 5),oI 7 .lss 6 (zK 1),.m 8 7,yW 9 0 8,.z 10 (.lens 9) 8,yB 11 .gtr 10 (zK 32) 8,oP 12 8 zT 11,.m 13 12,yW 14 0 13,.z 15 (.index 14 (zK 0)) 13,.z 16 (.call (.k (.fn 134 [])) [15]) 13,.z 17 (.un .not 16) 13,oP 18 13 zT 17] 18 (rsq [oF 2] .ret) .skip) (.seq (rsq [oK 3 0] (forL 0 1 [.m 19 3,.m 20 0,.o 21 (.lens 20),oI 22 .lss 19 21] 22 (rsq [.m 25 0,.m 26 3,.o 27 (.index 25 26),.k 28 135 [27],.m 4 28] (rif [.m 29 4,oU 30 .not 29] 30 (rsq [oF 2] .ret) .skip)) [.m 23 3,oI 24 .add 23 (zK 1),.m 3 24])) (rsq [oV 2] .ret)))
abbrev WQ:List ak:=[.tmp 2]
def WR:aq prog 82 1 Tryz.f82 LK WQ:=.auto func82
def LL:AC:=rsq [oF 2] (.seq (rif [.m 5 0,oI 6 .eql 5 (.k (.c (.str [44]))),.m 7 6,yW 8 0 7,yB 9 .eql 8 (.k (.c (.str [59]))) 7,oP 10 7 zT 9,.m 11 10,yW 12 0 11,yB 13 .eql 12 (.k (.c (.str [33]))) 11,oP 14 11 zT 13] 14 (rsq [oV 2] .ret) .skip) (.seq (rsq [oK 3 0] (forL 0 1 [.m 15 3,.m 16 0,.o 17 (.lens 16),oI 18 .lss 15 17] 18 (rsq [.m 21 0,.m 22 3,.o 23 (.index 21 22),.k 24 139 [23],.m 4 24] (rif [.m 25 4,oU 26 .not 25] 26 (rsq [oF 2] .ret) .skip)) [.m 19 3,oI 20 .add 19 (zK 1),.m 3 20])) (rsq [.m 27 0,.o 28 (.lens 27),oI 29 .geq 28 (zK 1),.m 30 29,yV 31 0 30,.y 32 (.lens 31) 30,yI 33 .leq 32 (zK 32) 30,oP 34 30 33 zF,.m 2 34] .ret)))
abbrev WS:List ak:=[.tmp 2]
def WT:aq prog 90 1 Tryz.f90 LL WS:=.auto func90
def DC.WU{w0:World}{f:FuncId}{c:UInt8}{b:Bool}{σ:H}(i:Enters prog f)(h:∀w,Calls prog f #[.int .u8 c.toNat] w (eZ (.bool b) w)):DC prog w0 f [.c (.int .u8 c.toNat)] σ (Same (B b) σ):=by
 refine DC.uL i fun κ w vs p g=>?_;obtain⟨v,ys,rfl,j,g⟩:=g.cons_inv;have:=g.jZ;subst this;cases j with
 |c j=>
  cases j with
  |int _=>
   refine⟨.bool b,.c (.bool b),(h w).mono ?_⟩;rintro e w' ⟨rfl,rfl⟩;exact⟨rfl,fJ _ _⟩
def WV(w0:World)(c:UInt8)(σ:H):DC prog w0 139 [.c (.int .u8 c.toNat)] σ (Same (B (kB c)) σ):=
 DC.WU (jC func139 (by kernel_rfl) rfl) fun w=>DM c w
def LM{s:List UInt8}(h:32<s.length):iq s=false:=by simp[iq];omega
def LN(w0:World)(s:List UInt8)(σ:H):DC prog w0 82 [S s] σ (Same (B (ie s)) σ):=by
 by_cases h:s.length<=1000000
 ·exact DC.zD (jC func82 (by kernel_rfl) rfl) fun w _=>WW s w (by omega)
 ·refine WR.go rfl (fun b c=>?_);have e:¬((s.length:Int)<1):=by omega
  have g:((s.length:Int)>32):=by omega
  apply bl;simp only[go_sem,LK,e,g];refine wY ?_;simp only[go_sem];(refine W.fs b (by simp only[go_sem];rfl) ?_;simp only[aT];try exact V.wk.rfl _);rw[ie,LM (by omega)];exact .rfl _
def WX(w0:World)(s:List UInt8)(σ:H):DC prog w0 90 [S s] σ (Same (B (ld s)) σ):=by
 by_cases u:s.length<=1000000
 ·exact DC.zD (jC func90 (by kernel_rfl) rfl) fun w _=>WY s w (by omega)
 ·refine WT.go rfl (fun g r=>?_);have j:s.length<=9223372036854775807:=by have:=VN r (aZ ..);unfold maxLen at this;exact this
  have t:∀c:UInt8,(s==[c])=false:=fun c=>by
   rw[beq_eq_false_iff_ne];intro e;rw[e]at u;simp at u
  have A:ld s=false:=by rw[ld,LM (by omega)];rfl
  apply bl;simp only[go_sem,LL,t];refine wN ?_;simp only[go_sem];refine W.aY (fun i=>i<=s.length) (fun i=>⟨((base.put (some 0) (S s)).put (some 3) (I (i:Nat))),σ⟩) (fun i=>s.length-i) 0 (be _) ?_ (fun i G=>?_)
  ·exact wV
  ·by_cases b:i<s.length
   ·have p:((i:Int)<(s.length:Int)):=by omega
    have D:s[i]?=some s[i]:=aN b;have hw:=cF b j;apply bl;simp only[go_sem,p];refine wY ?_;simp only[go_sem,p,bu,D];(refine db (WV w0 s[i] _) ?_;simp only[go_sem]);refine W.sr rfl (fun h=>?_) (fun h=>?_)
    ·apply bl;simp only[go_sem,hw];refine .inv ⟨i+1,b,by omega,?_⟩;exact wV
    ·apply bl;simp only[go_sem];(refine W.fs g (by simp only[go_sem];rfl) ?_;simp only[aT];try exact V.wk.rfl _);rw[A];exact .rfl _
   ·have p:¬((i:Int)<(s.length:Int)):=by omega
    have E:((s.length:Int)>=1):=by omega
    have F:¬((s.length:Int)<=32):=by omega
    apply bl;simp only[go_sem,p];refine wN ?_;simp only[go_sem,E,F];(refine W.fs g (by simp only[go_sem];rfl) ?_;simp only[aT];try exact V.wk.rfl _);rw[A];exact .rfl _
attribute [local go_sem] aa.v aa.aG aO aQ aL aH aM ep.v ep.cs av.v av.cs jL fy Sg.v
def mY(o:Option av):V:=.au [(o.getD .none).ty.v,B o.isSome]
def WZ(w0:World)(x:av)(name:cb)(σ:H)(b:Nat)(e:σ[b]?=some (.cells [S name])):DC prog w0 51 [x.v,.ptr b 0] σ (Same (B (x.name==name)) σ):=by
 refine Wn.go rfl (fun c g=>?_);apply bl;simp only[go_sem,c51,hG e];exact wF c
def W1(w0:World)(l:List av)(f:FuncId)(caps:List V)(p:av->Bool)(σ:H)(b:∀k,V.low (σ.length+k) (.fn f caps))(hp:∀x L,DC prog w0 f (av.v x::caps) (σ++L) (Same (B (p x)) (σ++L))):
  DC prog w0 50 [.c (fy l),.fn f caps] σ (Same (.au [((l.find? p).getD .none).v,B (l.find? p).isSome]) σ):=by
 generalize A:V.fn f caps=F at b;refine Wl.go rfl (fun j u=>?_);have r:l.length<=9223372036854775807:=sA (f:=av.cs) (u _ (aZ ..));apply bl;simp only[go_sem,K7];refine W.aY (fun i=>i<=l.length/\lM p l i) (fun i=>⟨((((((base.put (some 1) (F)).put (some 4) (.ptr σ.length 0)).put (some 5) (B false)).put (some 9) (.c (fy l))).put (some 10) (I l.length)).put (some 11) (I (i:Nat))),σ++[.cells [S [],I 0,S [],I 0,.ae []]]⟩) (fun i=>l.length-i) 0 ⟨be _,uT⟩ ?_ (fun i w=>?_)
 ·exact wV
 ·obtain⟨w,e⟩:=w;by_cases g:i<l.length
  ·have t:((i:Int)<(l.length:Int)):=by omega
   have D:l[i]?=some l[i]:=aN g;have hw:aE.wrap ((i:Int)+1)=((i+1:Nat):Int):=cF g r;apply bl;simp only[go_sem,t];refine wY ?_;simp only[go_sem,t,bu,D];refine db (hp l[i] _) ?_ (hf:=A.symm);simp only[go_sem];refine W.test rfl (fun h=>?_) (fun h=>?_)
   ·apply bl;simp only[go_sem];rw[HZ e g h];(refine W.fg (j) (d:=.au [l[i].v,B true]) (by simp only[DJ,go_sem];rfl) (by simp only[aT,go_sem];exact aR) ?_);exact⟨rfl,rfl⟩
   ·apply bl;simp only[go_sem,hw];refine .inv ⟨i+1,⟨g,uS e g h⟩,by omega,?_⟩;(refine aV.lJ (j) ?_ (by simp) (by simp) ?_ ?_ ?_;exact dZ;((try simp only[okB,cT,go_sem,b])<;>omega);(simp only[bG,dU,Nat.reduceAdd,List.take_succ_cons,List.take_zero,cT,and_true];(repeat' (refine And.intro ?_ ?_))<;>(first|exact ad.wk.rfl _|exact ad.wk.gone _|(refine ad.lL ?_ rfl;(exact aR))));(repeat' (first|exact cK.base _|(refine cK.put ?_ (by first|exact .c _|((try simp only[okB,cT,go_sem,b])<;>omega))))))
  ·have t:¬((i:Int)<(l.length:Int)):=by omega
   apply bl;simp only[go_sem,t];refine wN ?_;simp only[go_sem];rw[H2 e (by omega)];(refine W.fg (j) (d:=.au [av.none.v,B false]) (by simp only[DJ,go_sem,av.none,aa.none];rfl) (by simp only[aT,go_sem,av.none,aa.none];exact aR) ?_ (hl:=by(first|exact .c _|(simp only[go_sem,av.none,aa.none];done))));exact⟨rfl,rfl⟩
def W2(n b f:Nat)(h:b<n)(k:Nat):V.low (n+k) (.fn f [.ptr b 0]):=(x9 _ _ _).2 (fun x c=>by simp only[List.mem_singleton]at c;subst c;exact .ptr (by omega))
def DN(w0:World)(s:Sg)(name:cb)(σ:H):DC prog w0 15 [s.v,S name] σ (Same (mY (mU s.types name)) σ):=by
 refine Wo.go rfl (fun c e=>?_);have b:=W1 w0 s.types 51 [.ptr (σ.length+1) 0] (·.name==name) (σ++[.cells s.v.af,.cells [S name],.cells [I 0,S [],I 0,.ae []]]) (W2 _ _ _ (by simp)) (fun x L=>WZ w0 x name _ _ (by rw[List.append_assoc,bx];rfl));unfold mU mY;generalize s.types.find? (·.name==name)=r at b;apply bl;simp only[go_sem,K8];(refine db (b) ?_;simp only[go_sem]);(refine W.fg (c) (d:=.au [(r.getD .none).ty.v,B r.isSome]) (by simp only[K9,go_sem];rfl) (by simp only[aT,go_sem];exact aR) ?_)
 exact⟨rfl,rfl⟩
def W4(w0:World)(s:Sg)(name:cb)(σ:H):DC prog w0 136 [s.v,S name] σ (Same (mY (mU s.types name)) σ):=by
 refine WD.go rfl (fun g r=>?_);have j:s.types.length<=9223372036854775807:=by
  have h:=r _ (aZ ..);rw[Sg.v,B7]at h;exact sA (f:=av.cs) (h _ (List.mem_cons_of_mem _ (aZ ..)))
 unfold mU mY;apply bl;simp only[go_sem,Lw];refine W.aY (fun i=>i<=s.types.length/\lM (·.name==name) s.types i) (fun i=>⟨(((((base.put (some 1) (S name)).put (some 2) (.ptr σ.length 0)).put (some 4) (.ptr (σ.length+1) 0)).put (some 5) (B false)).put (some 6) (I (i:Nat))),σ++[.cells s.v.af,.cells [I 0,S [],I 0,.ae []]]⟩) (fun i=>s.types.length-i) 0 ⟨be _,uT⟩ ?_ (fun i t=>?_)
 ·exact wV
 ·obtain⟨t,b⟩:=t;by_cases e:i<s.types.length
  ·have p:((i:Int)<(s.types.length:Int)):=by omega
   have u:s.types[i]?=some s.types[i]:=aN e;have hw:aE.wrap ((i:Int)+1)=((i+1:Nat):Int):=cF e j;apply bl;simp only[go_sem,p];refine wY ?_;simp only[go_sem,p,bu,u];refine W.test rfl (fun h=>?_) (fun h=>?_)
   ·apply bl;simp only[go_sem,p,bu,u];rw[HZ b e h];(refine W.fg (g) (d:=.au [s.types[i].ty.v,B true]) (by simp only[DL,go_sem];rfl) (by simp only[aT,go_sem];exact aR) ?_);exact⟨rfl,rfl⟩
   ·apply bl;simp only[go_sem,hw];refine .inv ⟨i+1,⟨e,uS b e h⟩,by omega,?_⟩;exact wV
  ·have p:¬((i:Int)<(s.types.length:Int)):=by omega
   apply bl;simp only[go_sem,p];refine wN ?_;simp only[go_sem];rw[H2 b (by omega)];(refine W.fg (g) (d:=.au [aa.none.v,B false]) (by simp only[DL,go_sem,aa.none,av.none];rfl) (by simp only[aT,go_sem,aa.none,av.none];exact aR) ?_ (hl:=by(first|exact .c _|(simp only[go_sem,aa.none,av.none];done))));exact⟨rfl,rfl⟩
def DO(w0:World)(p:aa):∀(σ:H),DC prog w0 35 [p.v] σ (Same (B (bZ p)) σ):=by
 induction p using aa.ind with
 |h p E=>
 intro σ;refine V9.go rfl (fun e j=>?_);have r:=mX j (aZ ..);have l0:=nX (n:=p.l.length) 0;have w:=nX (n:=p.l.length) 2;simp only[pj,yk]at l0 w;((refine bl ?_;(try simp only[bne,go_sem,DI,l0,w, *]));(repeat' ((first|refine wY ?_|refine wN ?_|refine db (LN w0 p.name _) ?_|refine wS rfl (fun g=>?_) (fun g=>?_)|refine wR rfl (fun g=>?_) (fun g=>?_)|refine jl _ _ _ _ (fun g=>?_) (fun g=>?_)|refine jk _ _ _ _ (fun g=>?_) (fun g=>?_))<;>simp only[bne,go_sem,DI,l0,w, *])))
 all_goals
  refine W.aY (α:=Nat×Bool) (fun x=>x.1<=p.l.length/\x.2=(iK p&&(p.l.take x.1).all bZ)) (fun x=>⟨((((base.put (some 1) (.ptr σ.length 0)).put (some 2) (B false)).put (some 3) (B x.2)).put (some 5) (I (x.1:Nat))),σ++[.cells p.v.af]⟩) (fun x=>p.l.length-x.1) (0,iK p) ⟨be _,by simp⟩ ?_ (fun x t=>?_)
  ·(refine aV.env ?_;(repeat' (first|exact gG.base _|(refine gG.put ?_ (by first|exact V.wk.rfl _|(refine mO ?_;clear j e E;(try simp only[beq_iff_eq,beq_eq_false_iff_ne,ne_eq,decide_eq_true_eq,decide_eq_false_iff_not]at*);unfold iK;first|(simp[*];done)|(simp[*];omega)|(simp[*])))))))
  ·obtain⟨i,ok⟩:=x;obtain⟨F,b⟩:=t;simp only at F b;by_cases c:i<p.l.length
   ·have u:((i:Int)<(p.l.length:Int)):=by omega
    cases ok
    ·apply bl;simp only[go_sem,u];refine wN ?_;simp only[go_sem];have:bZ p=false:=by
      rw[iL];cases hn:iK p
      ·rfl
      ·rw[hn,jz]at b;rw[jz];obtain⟨x,t,A⟩:=List.all_eq_false.1 b.symm;exact List.all_eq_false.2 ⟨x,List.mem_of_mem_take t,A⟩
     rw[this];exact wF e
    ·have t:p.l[i]?=some p.l[i]:=aN c;have hw:aE.wrap ((i:Int)+1)=((i+1:Nat):Int):=cF c r;apply bl;simp only[go_sem,u];refine wY ?_;simp only[go_sem,u,bu,t];(refine db (E p.l[i] (bg c) _) ?_;simp only[go_sem,hw]);refine .inv ⟨(i+1,bZ p.l[i]),⟨c,?_⟩,by simp only;omega,?_⟩
     ·simp only
      rw[List.take_succ_eq_append_getElem c,List.all_append,<-Bool.and_assoc,<-b];simp
     ·exact wV
   ·have u:¬((i:Int)<(p.l.length:Int)):=by omega
    have D:p.l.take i=p.l:=List.take_of_length_le (by omega);apply bl;simp only[go_sem,u];refine wN ?_;simp only[go_sem];rw[D,<-iL]at b;rw[<-b];exact wF e
end
section
def zL:AC:=rsq [oN 2] (.seq (rif [.m 3 0,.o 4 (.jd false 3)] 4 (rsq [oN 2] .ret) .skip) (rsq [oS 5 4 [],.m 6 0,oQ 7 41 4 56 5 6,.m 2 7] .ret))
abbrev W5:List ak:=[.tmp 2]
def DP:aq prog 185 1 Tryz.f185 zL W5:=.auto func185
def W6(w0:World)(l:List (List C))(e:∀r∈l,r.length=3)(hn:l.length<=1000000)(σ:H):DC prog w0 98 [.c (.sl l)] σ (Same (.aC σ.length l) (σ++[.spare 60 3 l.length])):=by
 refine VM.cl rfl (fun i j=>?_);have g:l.length*32<=140737488355328:=by omega
 have h:l.length<=140737488355328:=by omega
 apply bl;simp only[go_sem,KG];refine W.lH rfl rfl rfl (fun b p=>?_);cases b
 ·apply bl;simp only[go_sem];refine wN ?_;simp only[go_sem,g,h,eq_true e,true_or];refine W.ret ⟨_,_,rfl,.rfl _,?_⟩;exact⟨rfl,rfl⟩
 ·have hl:l=[]:=by simpa using p rfl
  subst hl;apply bl;simp only[go_sem];refine wY ?_;simp only[go_sem];refine W.own 2 60 3 rfl ?_;exact W.ret ⟨_,_,rfl,.rfl _,rfl,rfl⟩
def W7(w0:World)(l:List (List C))(e:∀r∈l,r.length=2)(hn:l.length<=1000000)(σ:H):DC prog w0 97 [.c (.sl l)] σ (Same (.aC σ.length l) (σ++[.spare 106 2 l.length])):=by
 refine WA.cl rfl (fun i j=>?_);have g:l.length*24<=140737488355328:=by omega
 have h:l.length<=140737488355328:=by omega
 apply bl;simp only[go_sem,Ls];refine W.lH rfl rfl rfl (fun b p=>?_);cases b
 ·apply bl;simp only[go_sem];refine wN ?_;simp only[go_sem,g,h,eq_true e,true_or];refine W.ret ⟨_,_,rfl,.rfl _,?_⟩;exact⟨rfl,rfl⟩
 ·have hl:l=[]:=by simpa using p rfl
  subst hl;apply bl;simp only[go_sem];refine wY ?_;simp only[go_sem];refine W.own 2 106 2 rfl ?_;exact W.ret ⟨_,_,rfl,.rfl _,rfl,rfl⟩
def LO(w0:World)(l:List (List C))(e:∀r∈l,r.length=5)(hn:l.length<=1000000)(σ:H):DC prog w0 81 [.c (.sl l)] σ (Same (.aC σ.length l) (σ++[.spare 50 5 l.length])):=by
 refine Lt.cl rfl (fun i j=>?_);have g:l.length*72<=140737488355328:=by omega
 have h:l.length<=140737488355328:=by omega
 apply bl;simp only[go_sem,DK];refine W.lH rfl rfl rfl (fun b p=>?_);cases b
 ·apply bl;simp only[go_sem];refine wN ?_;simp only[go_sem,g,h,eq_true e,true_or];refine W.ret ⟨_,_,rfl,.rfl _,?_⟩;exact⟨rfl,rfl⟩
 ·have hl:l=[]:=by simpa using p rfl
  subst hl;apply bl;simp only[go_sem];refine wY ?_;simp only[go_sem];refine W.own 2 50 5 rfl ?_;exact W.ret ⟨_,_,rfl,.rfl _,rfl,rfl⟩
def LP(w0:World)(l:List (List C))(e:l=[])(σ:H):DC prog w0 185 [.c (.sl l)] σ (Same (.aC σ.length l) (σ++[.spare 41 4 l.length])):=by
 refine DP.cl rfl (fun p t=>?_);have u:l.length=0:=by rw[e];rfl
 have g:∀r∈l,r.length=4:=fun r j=>by rw[e]at j;cases j
 have h:l.length*56<=140737488355328:=by omega
 have i:l.length<=140737488355328:=by omega
 apply bl;simp only[go_sem,zL];refine W.lH rfl rfl rfl (fun b w=>?_);cases b
 ·apply bl;simp only[go_sem];refine wN ?_;simp only[go_sem,h,i,eq_true g,true_or];refine W.ret ⟨_,_,rfl,.rfl _,?_⟩;exact⟨rfl,rfl⟩
 ·subst e;apply bl;simp only[go_sem];refine wY ?_;simp only[go_sem];refine W.own 2 41 4 rfl ?_;exact W.ret ⟨_,_,rfl,.rfl _,rfl,rfl⟩
def W8:(prog.info? 41).map (fun i=>(i.zero,i.size,i.bytes))=some (some (.agg #[.int .i64 0,.string ⟨#[]⟩,.int .i64 0,.slice none 0 0]),4,56):=by kernel_rfl
def LQ(w:World)(n:Nat)(hn:n<=30000000000)(b:Array Value)(c:b.size=4):
  (w.alloc (.cells (rP b n++rP b (grownCap w n 0 41-n)) 41)).drew.ownsRow w.heap.size 41 4 (.slice (some ⟨w.heap.size,0,none⟩) 0 (grownCap w n 0 41)) 0 []:=by
 have e:=grownCap_ge w n 0 41;refine⟨by simp,.inr ⟨w.heap.size,_,_,rfl,Nat.le_refl _,heap_alloc_new w _,be _,grownCap_le_maxLen w n 0 41 (by unfold maxLen;omega),?_,by simp⟩⟩;simp only[Array.size_append,size_zeroCells,c];omega
set_option maxHeartbeats 4000000 in
set_option maxRecDepth 100000 in
def W9(A:Option Addr)(n:Nat)(w:World)(hn:n<=30000000000):Calls prog 178 #[.slice A 0 0,.int .i64 n] w (fun e w'=>∃v,e= .returned v/\Below w.heap.size w w'/\Roomy w w' 41 4 v):=by
 by_cases h0:n=0
 ·subst h0;cases A
  ·go_enter func178,ntmps178
   go_wp2_with fail
   go_ret
   exact⟨_,rfl,fJ _ _,.inl ⟨_,rfl⟩⟩
  ·go_enter func178,ntmps178
   go_wp2_with fail
   go_ret
   exact⟨_,rfl,fJ _ _,.inl ⟨_,rfl⟩⟩
 ·obtain⟨j,c,g,h,b⟩:=info_parts W8;have p:¬((n:Int)<0):=by omega
  have r:(n:Int)>0:=by omega
  have hw:aE.wrap (n:Int)=n:=by rw[a7]<;>omega
  cases A
  case none=>
   have i:=xa (P:=prog) w 39 3 39 41 j _ .i64 .i64 underlying39 underlying3 c g none 0 0 [] (o4 (by simp) (by simp)) n (by omega) (by rw[h];decide) (by omega) (by omega) (by rw[b];omega) (growslice_fits (by omega) (by rw[b];omega))
   go_enter func178,ntmps178
   go_wp2_with (first
    |(at_builtin;refine xb w rfl (.tmp 20) (.tmp 21) 39 3 rfl _ _ rfl rfl _ _ i ?_))
   go_ret
   exact⟨_,rfl,rX w _,.inr (LQ w n hn _ rfl)⟩
  case some a=>
   have i:=xa (P:=prog) w 39 3 39 41 j _ .i64 .i64 underlying39 underlying3 c g (some a) 0 0 [] (o4 (by simp) (by simp)) n (by omega) (by rw[h];decide) (by omega) (by omega) (by rw[b];omega) (growslice_fits (by omega) (by rw[b];omega))
   go_enter func178,ntmps178
   go_wp2_with (first
    |(at_builtin;refine xb w rfl (.tmp 20) (.tmp 21) 39 3 rfl _ _ rfl rfl _ _ i ?_))
   go_ret
   exact⟨_,rfl,rX w _,.inr (LQ w n hn _ rfl)⟩
def LR(w0:World)(n:Nat)(hn:n<=30000000000)(σ:H):DC prog w0 178 [.ae [],I n] σ (Same (.aC σ.length []) (σ++[.spare 41 4 0])):=by
 refine DC.Bp (jC func178 (by kernel_rfl) rfl) fun κ w vs g b=>?_;obtain⟨v,ys,rfl,h,b⟩:=b.cons_inv;obtain⟨u,zs,rfl,e,b⟩:=b.cons_inv;have:=b.jZ;subst this;cases h with
 |ae i=>
  rename_i A;cases e with
  |c e=>
   cases e with
   |int=>exact W9 A n w hn
def sU:AC:=rsq [oB 2 0,oA 4 zS4] (.seq (rif [.m 6 1,oL 7 6,oI 8 .eql 7 (zK 0)] 8 (rsq [.d 9 4 2,.s 4 4 9] .ret) .skip) (rsq [.d 10 4 2,oS 11 4 [10],.m 5 11] (.seq (rif [.f 12 0 2,.l 13 12,oI 14 .eql 13 (zK 6),.m 15 14,yF 16 3 2 15,yL 17 16 15,yM 18 17 15,yI 19 .gtr 18 (zK 0) 15,oP 20 15 19 zF] 20 (.ax [.f 21 3 2,.l 22 21,.m 5 22]) .skip) (rsq [.m 23 5,.m 24 1,oS 25 1 [23,24],.k 26 120 [25],oD 27 zS4 [(0,1,(zK 6)),(3,1,26)],.s 4 4 27] .ret))))
abbrev LS:List ak:=[.aW 4 4]
def LU:aq prog 69 2 Tryz.f69 sU LS:=.auto func69
def DQ:AC:=rsq [oB 3 1,oA 4 zS4] (.seq (rsq [.m 5 0,.o 6 (.mx 5 (zK 0)),oK 7 0] (.block 0 (.loop (rsq [oI 8 .lss 7 6] (.seq (.cond 8 .skip (.exit 0)) (.seq (.block 1 (.ax [.d 9 4 3,oS 10 4 [9],oD 11 zS4 [(0,1,(zK 5)),(3,1,10)],.s 4 3 11])) (.ax [oI 12 .add 7 (zK 1),.m 7 12]))))))) (rsq [.d 13 4 3,.s 4 4 13] .ret))
abbrev LV:List ak:=[.aW 4 4]
def LW:aq prog 118 2 Tryz.f118 DQ LV:=.auto func118
def DR:AC:=rsq [oN 2] (rsq [oK 3 0] (.seq (rsq [.m 9 0,oL 10 9,oK 11 0] (.block 0 (.loop (rsq [oI 12 .lss 11 10] (.seq (.cond 12 .skip (.exit 0)) (.seq (.block 1 (rsq [oJ 13 1 9 11,.l 14 13,.m 5 14] (rsq [.m 15 3,.m 16 5,oL 17 16,oI 18 .add 15 17,.m 3 18] (rif [.m 19 3,oI 20 .lss 19 (zK 0)] 20 (.ax [.o 21 .bad,⟨none,.bad,none⟩]) .skip)))) (.ax [oI 22 .add 11 (zK 1),.m 11 22]))))))) (rsq [.m 23 3,.k 24 178 [(.k (.ae [])),23],.m 6 24] (.seq (rsq [.m 25 0,oL 26 25,oK 27 0] (.block 2 (.loop (rsq [oI 28 .lss 27 26] (.seq (.cond 28 .skip (.exit 2)) (.seq (.block 3 (rsq [oJ 29 1 25 27,.l 30 29,.m 8 30] (.ax [.m 31 6,.m 32 8,oQ 33 41 4 56 31 32,.m 6 33]))) (.ax [oI 34 .add 27 (zK 1),.m 27 34]))))))) (rsq [.m 35 6,.m 2 35] .ret)))))
abbrev LX:List ak:=[.tmp 2]
def LY:aq prog 120 1 Tryz.f120 DR LX:=.auto func120
def LZ:AC:=rsq [oF 2] (rsq [.m 3 0,oI 4 .leq (.k (.c (.int .u8 97))) 3,.m 5 4,yV 6 0 5,yI 7 .leq 6 (.k (.c (.int .u8 122))) 5,oP 8 5 7 zF,.m 2 8] .ret)
abbrev L0:List ak:=[.tmp 2]
def Xa:aq prog 114 1 Tryz.f114 LZ L0:=.auto func114
def c116:AC:=rsq [oF 2] (rsq [.m 3 0,.k 4 114 [3],.m 5 4,yW 6 0 5,.z 7 (.call (.k (.fn 168 [])) [6]) 5,oP 8 5 zT 7,.m 9 8,yW 10 0 9,.z 11 (.call (.k (.fn 166 [])) [10]) 9,oP 12 9 zT 11,.m 13 12,yW 14 0 13,yB 15 .eql 14 (.k (.c (.int .u8 39))) 13,oP 16 13 zT 15,.m 2 16] .ret)
abbrev L1:List ak:=[.tmp 2]
def Xb:aq prog 116 1 Tryz.f116 c116 L1:=.auto func116
def pB:AC:=rsq [oB 1 0,oN 2,oK 3 0] (.seq (rsq [.f 4 0 1,.l 5 4] (.block 0 (rif [oI 7 .eql 5 (zK 5),.m 6 7] 6 (rsq [.f 8 3 1,.l 9 8,.m 2 9,oK 3 1] .ret) (rif [oI 11 .eql 5 (zK 6),.m 10 11] 10 (rsq [.f 12 3 1,.l 13 12,.m 2 13,oK 3 0] .ret) .skip)))) (rsq [oN 2,oK 3 0] .ret))
abbrev L3:List ak:=[.tmp 2,.tmp 3]
def L4:aq prog 77 1 Tryz.f77 pB L3:=.auto func77
def c183:AC:=rsq [oB 1 0,oF 2] (rsq [oF 3,oK 4 0] (.seq (rsq [.f 5 0 1,.l 6 5] (.block 0 (rif [oI 8 .eql 6 (zK 0),.m 7 8] 7 (rsq [.f 9 1 1,.l 10 9,.k 11 62 [10],.m 12 11,yX 13 1 1 12,yT 14 13 12,.z 15 (.call (.k (.fn 103 [])) [14]) 12,oP 16 12 zT 15,.m 17 16,yF 18 2 1 17,yL 19 18 17,yI 20 .eql 19 (zK 0) 17,oP 21 17 20 zF,.m 22 21,yF 23 3 1 22,yL 24 23 22,yM 25 24 22,yI 26 .eql 25 (zK 0) 22,oP 27 22 26 zF,.m 2 27] .ret) (rif [oI 29 .eql 6 (zK 1),.m 28 29] 28 (.ax [.f 30 2 1,.l 31 30,oI 32 .geq 31 (zK 1),.m 3 32]) (rif [oI 34 .eql 6 (zK 2),.m 33 34] 33 (.ax [oV 3]) (.seq (rif [oI 36 .eql 6 (zK 3),.m 35 36] 35 .skip (.ax [oI 37 .eql 6 (zK 4),.m 35 37])) (.cond 35 (.ax [.f 38 2 1,.l 39 38,oI 40 .geq 39 (zK 0),.m 41 40,yF 42 2 1 41,yL 43 42 41,yI 44 .leq 43 (zK 4611686018427387904) 41,oP 45 41 44 zF,.m 3 45]) (rif [oI 47 .eql 6 (zK 5),.m 46 47] 46 (.ax [.f 48 2 1,.l 49 48,oI 50 .eql 49 (zK 0),.m 3 50,oK 4 1]) (rif [oI 52 .eql 6 (zK 6),.m 51 52] 51 (drg [.f 53 2 1,.l 54 53,oI 55 .eql 54 (zK 0),.m 56 55,yF 57 3 1 56,yL 58 57 56,yM 59 58 56,yI 60 .geq 59 (zK 2) 56,oP 61 56 60 zF,.m 62 61,yF 63 3 1 62,yL 64 63 62,yJ 65 4 64 (zK 0) 62,yF 66 0 65 62,yL 67 66 62,yI 68 .neq 67 (zK 6) 62,oP 69 62 68 zF,.f 70 3 1,.l 71 70,oL 72 71,.m 3 69,.m 4 72] [0,1,2,3,4,5,6,7,8,9,10,11,12,13,14,15,16,17,18,19,20,21]) .skip))))))))) (rsq [.m 73 3,.m 74 73,yF 75 1 1 74,yL 76 75 74,yI 77 .eql 76 (.k (zC)) 74,oP 78 74 77 zF,.m 79 78,yF 80 3 1 79,yL 81 80 79,yM 82 81 79,yV 83 4 79,yI 84 .eql 82 83 79,oP 85 79 84 zF,.m 86 85,yF 87 3 1 86,yL 88 87 86,.y 89 (.call (.k (.fn 228 [])) [88,(.k (.fn 229 []))]) 86,.y 90 (.un .not 89) 86,oP 91 86 90 zF,.m 2 91] .ret)))
abbrev zM:List ak:=[.tmp 2]
def Xc:aq prog 183 1 Tryz.f183 c183 zM:=.auto func183
def c229:AC:=rsq [oB 1 0,oF 2] (rsq [.d 3 4 1,.k 4 183 [3],oU 5 .not 4,.m 2 5] .ret)
abbrev Xd:List ak:=[.tmp 2]
def Xe:aq prog 229 1 Tryz.f229 c229 Xd:=.auto func229
def c228:AC:=rsq [oF 4] (rsq [.m 5 0,.m 6 1,.k 7 260 [5,6],oI 8 .geq 7 (zK 0),.m 4 8] .ret)
abbrev L5:List ak:=[.tmp 4]
def Xf:aq prog 228 2 Tryz.f228 c228 L5:=.auto func228
def L6:AC:=rsq [oK 4 0] (.seq (rsq [.m 6 0,oL 7 6,oK 8 0] (.block 0 (.loop (rsq [oI 9 .lss 8 7] (.seq (.cond 9 .skip (.exit 0)) (.seq (.block 1 (rsq [.m 10 8,.m 5 10] (rif [.m 11 1,.m 12 0,.m 13 5,oJ 14 4 12 13,.d 15 4 14,.o 16 (.call 11 [15])] 16 (rsq [.m 17 5,.m 4 17] .ret) .skip))) (.ax [oI 18 .add 8 (zK 1),.m 8 18]))))))) (rsq [oK 4 (-1)] .ret))
abbrev DS:List ak:=[.tmp 4]
def Xg:aq prog 260 2 Tryz.f260 L6 DS:=.auto func260
def eQ:AC:=rsq [oB 1 0,oF 2] (rsq [oF 3] (rsq [oK 4 0] (.seq (rsq [.f 8 0 1,.l 9 8] (.block 0 (rif [oI 11 .eql 9 (zK 0),.m 10 11] 10 (rsq [.f 12 1 1,.l 13 12,.k 14 82 [13],.m 5 14] (rsq [.f 15 1 1,.l 16 15,.k 17 90 [16],.m 6 17] (rsq [.m 18 5,.m 19 18,yW 20 6 19,oP 21 19 zT 20,.m 22 21,yF 23 2 1 22,yL 24 23 22,yI 25 .eql 24 (zK 0) 22,oP 26 22 25 zF,.m 27 26,yF 28 3 1 27,yL 29 28 27,yM 30 29 27,yI 31 .eql 30 (zK 0) 27,oP 32 27 31 zF,.m 2 32] .ret))) (rif [oI 34 .eql 9 (zK 1),.m 33 34] 33 (.ax [.f 35 2 1,.l 36 35,oI 37 .geq 36 (zK 1),.m 3 37]) (rif [oI 39 .eql 9 (zK 2),.m 38 39] 38 (.ax [oV 3]) (.seq (rif [oI 41 .eql 9 (zK 3),.m 40 41] 40 .skip (.ax [oI 42 .eql 9 (zK 4),.m 40 42])) (.cond 40 (.ax [.f 43 2 1,.l 44 43,oI 45 .geq 44 (zK 0),.m 46 45,yF 47 2 1 46,yL 48 47 46,yI 49 .leq 48 (zK 4611686018427387904) 46,oP 50 46 49 zF,.m 3 50]) (rif [oI 52 .eql 9 (zK 5),.m 51 52] 51 (rsq [.f 53 2 1,.l 54 53,oI 55 .eql 54 (zK 0),.m 3 55] (.ax [oK 4 1])) (rif [oI 57 .eql 9 (zK 6),.m 56 57] 56 (rsq [.f 58 2 1,.l 59 58,oI 60 .eql 59 (zK 0),.m 61 60,yF 62 3 1 61,yL 63 62 61,yM 64 63 61,yI 65 .geq 64 (zK 2) 61,oP 66 61 65 zF,.m 67 66,yF 68 3 1 67,yL 69 68 67,yJ 70 4 69 (zK 0) 67,yF 71 0 70 67,yL 72 71 67,yI 73 .neq 72 (zK 6) 67,oP 74 67 73 zF,.m 3 74] (.ax [.f 75 3 1,.l 76 75,oL 77 76,.m 4 77])) .skip))))))))) (rsq [.m 78 3,.m 79 78,yF 80 1 1 79,yL 81 80 79,yI 82 .eql 81 (.k (zC)) 79,oP 83 79 82 zF,.m 84 83,yF 85 3 1 84,yL 86 85 84,yM 87 86 84,yV 88 4 84,yI 89 .eql 87 88 84,oP 90 84 89 zF,.m 3 90] (.seq (rsq [oK 7 0] (forL 1 2 [.m 91 7,.f 92 3 1,.l 93 92,oL 94 93,oI 95 .lss 91 94,.m 96 95,yV 97 3 96,oP 98 96 97 zF] 98 (.ax [.f 101 3 1,.l 102 101,.m 103 7,oJ 104 4 102 103,.d 105 4 104,.k 106 41 [105],.m 3 106]) [.m 99 7,oI 100 .add 99 (zK 1),.m 7 100])) (rsq [.m 107 3,.m 2 107] .ret))))))
abbrev pC:List ak:=[.tmp 2]
def Xh:aq prog 41 1 Tryz.f41 eQ pC:=.auto func41
attribute [local go_sem] aa.v aa.aG aO aQ aL aH aM
def Xi(w0:World)(l:List aa)(f:FuncId)(caps:List V)(p:aa->Bool)(σ:H)(hp:∀o∈l,DC prog w0 f (o.v::caps) σ (Same (B (p o)) σ)):DC prog w0 260 [.c (.sl (l.map aa.cs)),.fn f caps] σ (Same (I (kV p l)) σ):=by
 refine Xg.go rfl (fun g u=>?_);have r:=KI u (aZ ..) rfl;apply bl;simp only[go_sem,L6];refine W.aY (fun i=>i<=l.length/\lM p l i) (fun i=>⟨((((base.put (some 0) (.c (.sl (l.map aa.cs)))).put (some 1) (.fn f caps)).put (some 7) (I l.length)).put (some 8) (I i)),σ⟩) (fun i=>l.length-i) 0 ⟨be _,uT⟩ ?_ (fun i w=>?_)
 ·exact wV
 ·obtain⟨w,e⟩:=w;by_cases b:i<l.length
  ·have t:((i:Int)<(l.length:Int)):=by omega
   have A:l[i]?=some l[i]:=aN b;apply bl;simp only[go_sem,t];refine wY ?_;simp only[go_sem,t,bu,A];(refine db (hp l[i] (bg b)) ?_;simp only[go_sem]);refine W.test rfl (fun h=>?_) (fun h=>?_)
   ·apply bl;simp only[go_sem];(refine W.ret (Fin.same g (by simp only[aX,DS,go_sem];rfl) ?_ (by first|exact .c _|(simp only[go_sem];done)) (by first|exact⟨[],(cd _).symm⟩|exact⟨_,rfl⟩));simp only[aT]);rw[HX e b h]
   ·have hw:=cF b r;apply bl;simp only[go_sem,hw];refine .inv ⟨i+1,⟨b,uS e b h⟩,by omega,?_⟩;exact wV
  ·have t:¬((i:Int)<(l.length:Int)):=by omega
   apply bl;simp only[go_sem,t];refine wN ?_;simp only[go_sem];(refine W.ret (Fin.same g (by simp only[aX,DS,go_sem];rfl) ?_ (by first|exact .c _|(simp only[go_sem];done)) (by first|exact⟨[],(cd _).symm⟩|exact⟨_,rfl⟩));simp only[aT]);rw[HY (fun j D=>e j D (by omega))]
def Xj(w0:World)(l:List aa)(f:FuncId)(caps:List V)(p:aa->Bool)(σ:H)(hp:∀o∈l,DC prog w0 f (o.v::caps) σ (Same (B (p o)) σ)):DC prog w0 228 [.c (.sl (l.map aa.cs)),.fn f caps] σ (Same (B (l.any p)) σ):=by
 refine Xf.go rfl (fun b e=>?_);apply bl;simp only[go_sem,c228];(refine db (Xi w0 l f caps p σ hp) ?_;simp only[go_sem]);(refine W.fs (b) (by simp only[L5,go_sem];rfl) ?_;simp only[aT];(first|exact V.wk.rfl _|(refine mO ?_;clear e b;rw[KJ]<;>((try simp only[beq_iff_eq,beq_eq_false_iff_ne,ne_eq,decide_eq_true_eq,decide_eq_false_iff_not]at*);first|(exfalso;omega)|(simp[*];done)|(simp[*];omega)|(simp[*])))))
def Xk(w0:World)(p:aa)(b:Bool)(σ:H)(hp:∀e,DC prog w0 183 [p.v] e (Same (B b) e)):DC prog w0 229 [p.v] σ (Same (B (!b)) σ):=by
 refine Xe.go rfl (fun c g=>?_);apply bl;simp only[go_sem,c229];(refine db (hp _) ?_;simp only[go_sem]);exact wF c
def zN(w0:World)(p:aa):∀(σ:H),DC prog w0 183 [p.v] σ (Same (B (aP p)) σ):=by
 refine aa.ind (P:=fun p=>∀(σ:H),DC prog w0 183 [p.v] σ (Same (B (aP p)) σ)) (fun p G σ=>?_) p;refine Xc.go rfl (fun g t=>?_);have u:=fun σ=>Xj w0 p.l 229 [] (fun q=>!aP q) σ (fun q J=>Xk w0 q _ _ (fun L=>G q J L));have l0:=nX (n:=p.l.length) 0;have i:=nX (n:=p.l.length) 1;simp only[pj,Cm]at l0 i;by_cases D:p.k=6
 ·have c:(p.k==6)=true:=by simpa using D
  by_cases F:2<=p.l.length
  ·have e:((p.l.length:Int)>=2):=by omega
   have w:((0:Nat):Int)<(p.l.length:Int):=by omega
   have j:(0:Int)<(p.l.length:Int):=by omega
   have r:p.l[0]?=some p.l[0]:=aN (by omega);have E:p.l.head?.getD .none=p.l[0]:=by rw[<-Jh (by omega)];simp
   cases hn:(p.n==0)<;>cases A:(p.l[0].k !=6)
   all_goals
    ((refine bl ?_;(try simp only[bne,go_sem,c183,l0,i,c,e,w,j,r,bu,hn,A, *]));(repeat' ((first|refine wY ?_|refine wN ?_|refine db (u _) ?_|refine wS rfl (fun b=>?_) (fun b=>?_)|refine wR rfl (fun b=>?_) (fun b=>?_)|refine jl _ _ _ _ (fun b=>?_) (fun b=>?_)|refine jk _ _ _ _ (fun b=>?_) (fun b=>?_))<;>simp only[bne,go_sem,c183,l0,i,c,e,w,j,r,bu,hn,A, *])));apply W.ff
    case hc=>
     (apply Canon.gH;simp only[mI,mJ,mK,mL,mM,mN,go_sem,l0,i,c,e,w,j,r,bu,hn,A]);exact Canon.nil
    ((refine bl ?_;(try simp only[bne,go_sem,l0,i,c,e,w,j,r,bu,hn,A, *]));(repeat' ((first|refine wY ?_|refine wN ?_|refine db (u _) ?_|refine wS rfl (fun b=>?_) (fun b=>?_)|refine wR rfl (fun b=>?_) (fun b=>?_)|refine jl _ _ _ _ (fun b=>?_) (fun b=>?_)|refine jk _ _ _ _ (fun b=>?_) (fun b=>?_))<;>simp only[bne,go_sem,l0,i,c,e,w,j,r,bu,hn,A, *])))
    all_goals (try (refine W.fs (g) (by simp only[zM,go_sem];rfl) ?_;simp only[aT];(first|exact V.wk.rfl _|(refine mO ?_;clear t g;rw[kA]<;>((try simp only[beq_iff_eq,beq_eq_false_iff_ne,ne_eq,decide_eq_true_eq,decide_eq_false_iff_not]at*);first|(exfalso;omega)|(simp[cV,nW,E, *];done)|(simp[cV,nW,E, *];omega)|(simp[cV,nW,E, *]))))))
  ·have e:¬((p.l.length:Int)>=2):=by omega
   have M:decide (2<=p.l.length)=false:=by simpa using F
   have N:aP p=false:=by rw[kA,cV];simp[D,F]
   cases hn:(p.n==0)
   all_goals
    ((refine bl ?_;(try simp only[bne,go_sem,c183,l0,i,c,e,hn, *]));(repeat' ((first|refine wY ?_|refine wN ?_|refine db (u _) ?_|refine wS rfl (fun b=>?_) (fun b=>?_)|refine wR rfl (fun b=>?_) (fun b=>?_)|refine jl _ _ _ _ (fun b=>?_) (fun b=>?_)|refine jk _ _ _ _ (fun b=>?_) (fun b=>?_))<;>simp only[bne,go_sem,c183,l0,i,c,e,hn, *])));apply W.ff
    case hc=>
     (apply Canon.gH;simp only[mI,mJ,mK,mL,mM,mN,go_sem,l0,i,c,e,hn]);exact Canon.nil
    ((refine bl ?_;(try simp only[bne,go_sem,l0,i,c,e,hn, *]));(repeat' ((first|refine wY ?_|refine wN ?_|refine db (u _) ?_|refine wS rfl (fun b=>?_) (fun b=>?_)|refine wR rfl (fun b=>?_) (fun b=>?_)|refine jl _ _ _ _ (fun b=>?_) (fun b=>?_)|refine jk _ _ _ _ (fun b=>?_) (fun b=>?_))<;>simp only[bne,go_sem,l0,i,c,e,hn, *])))
    all_goals (try (refine W.fs (g) (by simp only[zM,go_sem];rfl) ?_;simp only[aT];(first|exact V.wk.rfl _|(refine mO ?_;clear t g;rw[N]<;>((try simp only[beq_iff_eq,beq_eq_false_iff_ne,ne_eq,decide_eq_true_eq,decide_eq_false_iff_not]at*);first|(exfalso;omega)|(simp[*];done)|(simp[*];omega)|(simp[*]))))))
 ·have c:(p.k==6)=false:=by simpa using D
  ((refine bl ?_;(try simp only[bne,go_sem,c183,l0,i,c, *]));(repeat' ((first|refine wY ?_|refine wN ?_|refine db (Du w0 p.name _) ?_|refine db (KH w0 p.name _) ?_|refine db (u _) ?_|refine wS rfl (fun b=>?_) (fun b=>?_)|refine wR rfl (fun b=>?_) (fun b=>?_)|refine jl _ _ _ _ (fun b=>?_) (fun b=>?_)|refine jk _ _ _ _ (fun b=>?_) (fun b=>?_))<;>simp only[bne,go_sem,c183,l0,i,c, *])))
  all_goals (try (refine W.fs (g) (by simp only[zM,go_sem];rfl) ?_;simp only[aT];(first|exact V.wk.rfl _|(refine mO ?_;clear t g;rw[kA]<;>((try simp only[beq_iff_eq,beq_eq_false_iff_ne,ne_eq,decide_eq_true_eq,decide_eq_false_iff_not]at*);first|(exfalso;omega)|(simp[cV,nW, *];done)|(simp[cV,nW, *];omega)|(simp[cV,nW, *]))))))
  all_goals
   intro h x r;rw[h]at r;simp at r
def L7(p:aa)(b:p.k=6)(c:2<=p.l.length):aP p=(p.n==0&&(p.l[0].k !=6)&&p.name==[]&&p.l.all aP):=by
 rw[kA,cV,Jh (by omega)];simp only[b,Int.reduceEq,if_false,if_true,decide_eq_true c,rR]
def L8(p:aa)(b:p.k=6)(c:¬2<=p.l.length):aP p=false:=by
 rw[kA,cV];simp[b,c]
def Xl(w0:World)(p:aa):∀(σ:H),DC prog w0 41 [p.v] σ (Same (B (aP p)) σ):=by
 refine aa.ind (P:=fun p=>∀(σ:H),DC prog w0 41 [p.v] σ (Same (B (aP p)) σ)) (fun p O σ=>?_) p;refine Xh.go rfl (fun r F=>?_);have G:=mX F (aZ ..);have l0:=nX (n:=p.l.length) 0;have t:=nX (n:=p.l.length) 1;simp only[pj,Cm]at l0 t;by_cases Q:p.k=6
 ·have c:(p.k==6)=true:=by simpa using Q
  have L:∀k:Int,k≠6->(p.k==k)=false:=fun k J=>by rw[beq_eq_false_iff_ne];omega
  have k0:=L 0 (by decide);have R:=L 1 (by decide);have T:=L 2 (by decide);have k3:=L 3 (by decide);have k4:=L 4 (by decide);have k5:=L 5 (by decide);clear Q L;by_cases N:2<=p.l.length
  ·have j:((p.l.length:Int)>=2):=by omega
   have M:((0:Nat):Int)<(p.l.length:Int):=by omega
   have E:(0:Int)<(p.l.length:Int):=by omega
   have A:p.l[0]?=some p.l[0]:=aN (by omega);cases hn:(p.n==0)<;>cases J:(p.l[0].k==6)
   all_goals
    ((refine bl ?_;(try simp only[bne,go_sem,eQ,l0,t,c,j,M,E,A,bu,hn,J, *]));(repeat' (first|(refine W.yes rfl ?_;(refine bl ?_;simp only[bne,go_sem,eQ,l0,t,c,j,M,E,A,bu,hn,J, *]))|(refine W.no rfl ?_;(refine bl ?_;simp only[bne,go_sem,eQ,l0,t,c,j,M,E,A,bu,hn,J, *]))|(refine W.sr rfl (fun u=>?_) (fun u=>?_)<;>(refine bl ?_;simp only[bne,go_sem,eQ,l0,t,c,j,M,E,A,bu,hn,J, *]))|(refine W.test rfl (fun u=>?_) (fun u=>?_)<;>(refine bl ?_;simp only[bne,go_sem,eQ,l0,t,c,j,M,E,A,bu,hn,J, *]))|(refine jl _ _ _ _ (fun u=>?_) (fun u=>?_)<;>simp only[bne,go_sem,eQ,l0,t,c,j,M,E,A,bu,hn,J, *])|(refine jk _ _ _ _ (fun u=>?_) (fun u=>?_)<;>simp only[bne,go_sem,eQ,l0,t,c,j,M,E,A,bu,hn,J, *]))))
    all_goals (try (first
     |(refine W.aY (α:=Nat×Bool) (fun x=>x.1<=p.l.length/\(x.2&&(p.l.drop x.1).all aP)=aP p) (fun x=>⟨(((base.put (some 1) (.ptr σ.length 0)).put (some 3) (B x.2)).put (some 7) (I (x.1:Nat))),σ++[.cells p.v.af]⟩) (fun x=>p.l.length-x.1) (0,true) ⟨be _,?_⟩ ?_ (fun x D=>?_)
       focus (simp only[L7 p (by simpa using c) N,bne,Bool.not_true,Bool.not_false,hn,J,iY,nF,jz,rU,rR, *])
       focus ((refine aV.env ?_;exact dZ)))
     |(refine W.aY (α:=Nat×Bool) (fun x=>x.1<=p.l.length/\(x.2&&(p.l.drop x.1).all aP)=aP p) (fun x=>⟨(((base.put (some 1) (.ptr σ.length 0)).put (some 3) (B x.2)).put (some 7) (I (x.1:Nat))),σ++[.cells p.v.af]⟩) (fun x=>p.l.length-x.1) (0,false) ⟨be _,?_⟩ ?_ (fun x D=>?_)
       focus (simp only[L7 p (by simpa using c) N,bne,Bool.not_true,Bool.not_false,hn,J,iY,nF,jz,rU,rR, *])
       focus ((refine aV.env ?_;exact dZ)))))
    all_goals (try (
     obtain⟨i,b⟩:=x;obtain⟨D,e⟩:=D;simp only at D e;by_cases g:i<p.l.length
     ·have w:((i:Int)<(p.l.length:Int)):=by omega
      have A:p.l[i]?=some p.l[i]:=aN g;have hw:aE.wrap ((i:Int)+1)=((i+1:Nat):Int):=cF g G;cases b
      ·(refine bl ?_;simp only[go_sem,w]);refine W.no rfl (bl ?_);simp only[go_sem];(refine W.fs (r) (by simp only[pC,go_sem];rfl) ?_;simp only[aT];try exact V.wk.rfl _);rw[<-e];exact .rfl _
      ·(refine bl ?_;simp only[go_sem,w]);refine W.yes rfl (bl ?_);simp only[go_sem,w,bu,A];(refine db (O p.l[i] (bg g) _) ?_;simp only[go_sem,hw]);refine .inv ⟨(i+1,aP p.l[i]),⟨g,by rw[<-e,gg g,mg,jz]⟩,by simp only;omega,?_⟩;(refine aV.env ?_;exact dZ)
     ·have w:¬((i:Int)<(p.l.length:Int)):=by omega
      (refine bl ?_;simp only[go_sem,w]);refine W.no rfl (bl ?_);simp only[go_sem];(refine W.fs (r) (by simp only[pC,go_sem];rfl) ?_;simp only[aT];try exact V.wk.rfl _);rw[<-e,xg (by omega),GM,rR];exact .rfl _))
  ·have j:¬((p.l.length:Int)>=2):=by omega
   cases hn:(p.n==0)
   all_goals
    ((refine bl ?_;(try simp only[bne,go_sem,eQ,l0,t,c,j,hn, *]));(repeat' (first|(refine W.yes rfl ?_;(refine bl ?_;simp only[bne,go_sem,eQ,l0,t,c,j,hn, *]))|(refine W.no rfl ?_;(refine bl ?_;simp only[bne,go_sem,eQ,l0,t,c,j,hn, *]))|(refine W.sr rfl (fun u=>?_) (fun u=>?_)<;>(refine bl ?_;simp only[bne,go_sem,eQ,l0,t,c,j,hn, *]))|(refine W.test rfl (fun u=>?_) (fun u=>?_)<;>(refine bl ?_;simp only[bne,go_sem,eQ,l0,t,c,j,hn, *]))|(refine jl _ _ _ _ (fun u=>?_) (fun u=>?_)<;>simp only[bne,go_sem,eQ,l0,t,c,j,hn, *])|(refine jk _ _ _ _ (fun u=>?_) (fun u=>?_)<;>simp only[bne,go_sem,eQ,l0,t,c,j,hn, *]))))
    all_goals (try (first
     |(refine W.aY (α:=Nat×Bool) (fun x=>x.1<=p.l.length/\(x.2&&(p.l.drop x.1).all aP)=aP p) (fun x=>⟨(((base.put (some 1) (.ptr σ.length 0)).put (some 3) (B x.2)).put (some 7) (I (x.1:Nat))),σ++[.cells p.v.af]⟩) (fun x=>p.l.length-x.1) (0,true) ⟨be _,?_⟩ ?_ (fun x D=>?_)
       focus (simp only[L8 p (by simpa using c) N,iY,nF])
       focus ((refine aV.env ?_;exact dZ)))
     |(refine W.aY (α:=Nat×Bool) (fun x=>x.1<=p.l.length/\(x.2&&(p.l.drop x.1).all aP)=aP p) (fun x=>⟨(((base.put (some 1) (.ptr σ.length 0)).put (some 3) (B x.2)).put (some 7) (I (x.1:Nat))),σ++[.cells p.v.af]⟩) (fun x=>p.l.length-x.1) (0,false) ⟨be _,?_⟩ ?_ (fun x D=>?_)
       focus (simp only[L8 p (by simpa using c) N,iY,nF])
       focus ((refine aV.env ?_;exact dZ)))))
    all_goals (try (
     obtain⟨i,b⟩:=x;obtain⟨D,e⟩:=D;simp only at D e;by_cases g:i<p.l.length
     ·have w:((i:Int)<(p.l.length:Int)):=by omega
      have A:p.l[i]?=some p.l[i]:=aN g;have hw:aE.wrap ((i:Int)+1)=((i+1:Nat):Int):=cF g G;cases b
      ·(refine bl ?_;simp only[go_sem,w]);refine W.no rfl (bl ?_);simp only[go_sem];(refine W.fs (r) (by simp only[pC,go_sem];rfl) ?_;simp only[aT];try exact V.wk.rfl _);rw[<-e];exact .rfl _
      ·(refine bl ?_;simp only[go_sem,w]);refine W.yes rfl (bl ?_);simp only[go_sem,w,bu,A];(refine db (O p.l[i] (bg g) _) ?_;simp only[go_sem,hw]);refine .inv ⟨(i+1,aP p.l[i]),⟨g,by rw[<-e,gg g,mg,jz]⟩,by simp only;omega,?_⟩;(refine aV.env ?_;exact dZ)
     ·have w:¬((i:Int)<(p.l.length:Int)):=by omega
      (refine bl ?_;simp only[go_sem,w]);refine W.no rfl (bl ?_);simp only[go_sem];(refine W.fs (r) (by simp only[pC,go_sem];rfl) ?_;simp only[aT];try exact V.wk.rfl _);rw[<-e,xg (by omega),GM,rR];exact .rfl _))
 ·have c:(p.k==6)=false:=by simpa using Q
  ((refine bl ?_;(try simp only[bne,go_sem,eQ,l0,t,c, *]));(repeat' (first|(refine W.yes rfl ?_;(refine bl ?_;simp only[bne,go_sem,eQ,l0,t,c, *]))|(refine W.no rfl ?_;(refine bl ?_;simp only[bne,go_sem,eQ,l0,t,c, *]))|(refine db (LN w0 p.name _) ?_;simp only[bne,go_sem,eQ,l0,t,c, *])|(refine db (WX w0 p.name _) ?_;simp only[bne,go_sem,eQ,l0,t,c, *])|(refine W.sr rfl (fun u=>?_) (fun u=>?_)<;>(refine bl ?_;simp only[bne,go_sem,eQ,l0,t,c, *]))|(refine W.test rfl (fun u=>?_) (fun u=>?_)<;>(refine bl ?_;simp only[bne,go_sem,eQ,l0,t,c, *]))|(refine jl _ _ _ _ (fun u=>?_) (fun u=>?_)<;>simp only[bne,go_sem,eQ,l0,t,c, *])|(refine jk _ _ _ _ (fun u=>?_) (fun u=>?_)<;>simp only[bne,go_sem,eQ,l0,t,c, *]))))
  all_goals (try (first
   |(refine W.aY (α:=Nat×Bool) (fun x=>x.1<=p.l.length/\(x.2&&(p.l.drop x.1).all aP)=aP p) (fun x=>⟨(((base.put (some 1) (.ptr σ.length 0)).put (some 3) (B x.2)).put (some 7) (I (x.1:Nat))),σ++[.cells p.v.af]⟩) (fun x=>p.l.length-x.1) (0,true) ⟨be _,?_⟩ ?_ (fun x D=>?_)
     focus (clear r F;simp only[beq_iff_eq,beq_eq_false_iff_ne,ne_eq,decide_eq_true_eq,decide_eq_false_iff_not]at*;simp[kA p,cV, *])
     focus ((refine aV.env ?_;exact dZ)))
   |(refine W.aY (α:=Nat×Bool) (fun x=>x.1<=p.l.length/\(x.2&&(p.l.drop x.1).all aP)=aP p) (fun x=>⟨(((base.put (some 1) (.ptr σ.length 0)).put (some 3) (B x.2)).put (some 7) (I (x.1:Nat))),σ++[.cells p.v.af]⟩) (fun x=>p.l.length-x.1) (0,false) ⟨be _,?_⟩ ?_ (fun x D=>?_)
     focus (clear r F;simp only[beq_iff_eq,beq_eq_false_iff_ne,ne_eq,decide_eq_true_eq,decide_eq_false_iff_not]at*;simp[kA p,cV, *])
     focus ((refine aV.env ?_;exact dZ)))
   |(refine W.aY (α:=Nat×Bool) (fun x=>x.1<=p.l.length/\(x.2&&(p.l.drop x.1).all aP)=aP p) (fun x=>⟨(((base.put (some 1) (.ptr σ.length 0)).put (some 3) (B x.2)).put (some 7) (I (x.1:Nat))),σ++[.cells p.v.af]⟩) (fun x=>p.l.length-x.1) (0,(p.l.length==0)) ⟨be _,?_⟩ ?_ (fun x D=>?_)
     focus (clear r F;simp only[beq_iff_eq,beq_eq_false_iff_ne,ne_eq,decide_eq_true_eq,decide_eq_false_iff_not]at*;simp[kA p,cV, *])
     focus ((refine aV.env ?_;exact dZ)))
   |(refine W.aY (α:=Nat×Bool) (fun x=>x.1<=p.l.length/\(x.2&&(p.l.drop x.1).all aP)=aP p) (fun x=>⟨(((base.put (some 1) (.ptr σ.length 0)).put (some 3) (B x.2)).put (some 7) (I (x.1:Nat))),σ++[.cells p.v.af]⟩) (fun x=>p.l.length-x.1) (0,(p.l.length==1)) ⟨be _,?_⟩ ?_ (fun x D=>?_)
     focus (clear r F;simp only[beq_iff_eq,beq_eq_false_iff_ne,ne_eq,decide_eq_true_eq,decide_eq_false_iff_not]at*;simp[kA p,cV, *])
     focus ((refine aV.env ?_;exact dZ)))))
  all_goals (try (refine W.fs (r) (by simp only[pC,go_sem];rfl) ?_;simp only[aT];(first|exact V.wk.rfl _|(refine mO ?_;clear F r;rw[kA]<;>((try simp only[beq_iff_eq,beq_eq_false_iff_ne,ne_eq,decide_eq_true_eq,decide_eq_false_iff_not]at*);first|(exfalso;omega)|(simp[cV, *];done)|(simp[cV, *];omega)|(simp[cV, *]))))))
  rotate_left 2
  all_goals (try (
   obtain⟨i,b⟩:=x;obtain⟨D,e⟩:=D;simp only at D e;by_cases g:i<p.l.length
   ·have w:((i:Int)<(p.l.length:Int)):=by omega
    have A:p.l[i]?=some p.l[i]:=aN g;have hw:aE.wrap ((i:Int)+1)=((i+1:Nat):Int):=cF g G;cases b
    ·(refine bl ?_;simp only[go_sem,w]);refine W.no rfl (bl ?_);simp only[go_sem];(refine W.fs (r) (by simp only[pC,go_sem];rfl) ?_;simp only[aT];try exact V.wk.rfl _);rw[<-e];exact .rfl _
    ·(refine bl ?_;simp only[go_sem,w]);refine W.yes rfl (bl ?_);simp only[go_sem,w,bu,A];(refine db (O p.l[i] (bg g) _) ?_;simp only[go_sem,hw]);refine .inv ⟨(i+1,aP p.l[i]),⟨g,by rw[<-e,gg g,mg,jz]⟩,by simp only;omega,?_⟩;(refine aV.env ?_;exact dZ)
   ·have w:¬((i:Int)<(p.l.length:Int)):=by omega
    (refine bl ?_;simp only[go_sem,w]);refine W.no rfl (bl ?_);simp only[go_sem];(refine W.fs (r) (by simp only[pC,go_sem];rfl) ?_;simp only[aT];try exact V.wk.rfl _);rw[<-e,xg (by omega),GM,rR];exact .rfl _))
  all_goals
   intro h x A;rw[h]at A;simp at A
end
end Go.Proofs.YtdlkenpilhakfaaGreatDoor
namespace Go.Lamb
open Go Go.RowKit
def qS(n:Nat):cb:=120::Lib.decDigits n
mutual
def ao:aa->Nat
 | .mk _ _ _ l=>1+bj l
def bj:List aa->Nat
 |[]=>0
 |p::l=>ao p+bj l
end
def ef(p:aa):ao p=1+bj p.l:=by cases p;rw[ao];rfl
def sV:∀{l:List aa} {u:aa},u∈l->ao u<=bj l
 |x::l,u,h=>by
  rw[bj];rcases cD.1 h with rfl|h
  ·omega
  ·have:=sV h;omega
def fz{t u:aa}(h:u∈t.l):ao u<ao t:=by rw[ef t];have:=sV h;omega
def Xm{t:aa}(h:cV t=true):t.k=0\/t.k=1\/t.k=2\/t.k=3\/t.k=4\/t.k=5\/t.k=6:=by
 unfold cV at h
 repeat' split at h
 all_goals first|omega|(cases h;done)
def bP(f:aa)(args:List aa):aa:=if args=[]then f else .mk 6 [] 0 ((if f.k=6/\f.l≠[]then f.l else[f])++args)
def dC(t:aa)(l:List aa):aa:=if t.k=6/\1<l.length/\(l.headD .none).k=6/\(t.l.headD .none).k≠6 then bP (l.headD .none) l.tail else .mk t.k t.name t.n l
mutual
def bq(f:aa->Int->aa)(k:Int):aa->aa
 | .mk b a n l=>if b=5 then dC (.mk b a n l) (vw f (k+1) l)else if b=6 then dC (.mk b a n l) (vw f k l)else f (.mk b a n l) k
def vw(f:aa->Int->aa)(k:Int):List aa->List aa
 |[]=>[]
 |x::l=>bq f k x::vw f k l
end
def L9(f:aa->Int->aa)(k:Int)(l:List aa):vw f k l=l.map (bq f k):=by
 induction l with
 |nil=>rfl
 |cons x l b=>rw[vw,b];rfl
def iQ(f:aa->Int->aa)(k:Int)(t:aa):bq f k t=if t.k=5 then dC t (t.l.map (bq f (k+1)))else if t.k=6 then dC t (t.l.map (bq f k))else f t k:=by
 cases t;rw[bq,L9,L9];rfl
def bU(a b:Int):aa->Int->aa:=fun u k=>if u.k=3/\u.n>=k+a then .mk u.k u.name (u.n+b) u.l else u
def iR(a b:Int)(t:aa):aa:=bq (bU a b) 0 t
def cB(i:Int)(s:aa):aa->Int->aa:=fun u k=>if u.k≠3\/u.n<k+i then u else if u.n=k+i then iR 0 k s else .mk u.k u.name (u.n-1) u.l
def kC(i:Int)(s:aa)(t:aa):aa:=bq (cB i s) 0 t
def fA{t:aa}(h:aP t=true):∀u∈t.l,aP u=true:=by
 rw[kA,bM]at h;exact cW.1 h.2
def vx{t:aa}(h:aP t=true):cV t=true:=by
 rw[kA,bM]at h;exact h.1
def vy{t:aa}(h:cV t=true)(k:∀u∈t.l,aP u=true):aP t=true:=by
 rw[kA,bM];exact⟨h,cW.2 k⟩
def fW{m:Int}{t:aa}(h:bD m t=true):∀u∈t.l,bD m u=true:=by
 rw[Dj,bM]at h;exact cW.1 h.2
def nY{m:Int}{t:aa}(h:bD m t=true)(b:t.k≠2):-m<=t.n/\t.n<=m:=by
 rw[Dj,bM]at h;have h:=h.1;simp[b]at h;omega
def ir{m:Int}{t:aa}(h:t.k=2\/(-m<=t.n/\t.n<=m))(k:∀u∈t.l,bD m u=true):bD m t=true:=by
 rw[Dj,bM];refine⟨?_,cW.2 k⟩;rcases h with h|h
 ·simp[h]
 ·simp only[Bool.or_eq_true,Bool.not_eq_true',Bool.or_eq_false_iff,decide_eq_false_iff_not];right;omega
def lh{m b:Int}(i:m<=b)(t:aa):bD m t=true->bD b t=true:=by
 refine aa.ind (P:=fun t=>bD m t=true->bD b t=true) (fun t g h=>?_) t;refine ir ?_ (fun u c=>g u c (fW h u c));by_cases e:t.k=2
 ·exact .inl e
 ·have:=nY h e;right;omega
def fD{t:aa}(h:aP t=true)(e:t.k=6):t.n=0/\t.name=[]/\∃a b l,t.l=a::b::l/\a.k≠6:=by
 have hn:=vx h;unfold cV at hn;simp[e]at hn;obtain⟨⟨⟨g,i⟩,c⟩,j⟩:=hn
 match hl:t.l,i with
 |a::b::l,_=>exact⟨g,j,a,b,l,rfl,by rw[hl]at c;exact c⟩
def nZ{t:aa}(h:aP t=true)(c:t.k=5):t.n=0/\t.name=[]/\∃b,t.l=[b]:=by
 have hn:=vx h;unfold cV at hn;simp[c]at hn;obtain⟨⟨e,g⟩,i⟩:=hn
 match hl:t.l,i with
 |[b],_=>exact⟨e,g,b,rfl⟩
def vz{a b:aa}{l:List aa}(ha:a.k≠6)(h:∀u∈a::b::l,aP u=true):aP (.mk 6 [] 0 (a::b::l))=true:=by
 refine vy ?_ h;simp[cV,aO,aL,aH,aQ,ha]
def qT{b:aa}(h:aP b=true):aP (.mk 5 [] 0 [b])=true:=by
 refine vy ?_ (fun u c=>?_)
 ·simp[cV,aO,aL,aH,aQ]
 ·simp[aH]at c;rw[c];exact h
def oa{t:aa}(h:aP t=true)(b:t.k≠5)(c:t.k≠6):t.l=[]:=by
 have hn:=vx h;rcases Xm hn with hk|hk|hk|hk|hk|hk|hk
 ·unfold cV at hn;simp[hk]at hn;exact hn.2
 ·unfold cV at hn;simp[hk]at hn;exact hn.2
 ·unfold cV at hn;simp[hk]at hn;exact hn.2
 ·unfold cV at hn;simp[hk]at hn;exact hn.2
 ·unfold cV at hn;simp[hk]at hn;exact hn.2
 ·exact absurd hk b
 ·exact absurd hk c
def qU(f b:aa)(l:List aa):bP f (b::l)= .mk 6 [] 0 ((if f.k=6/\f.l≠[]then f.l else[f])++b::l):=by
 unfold bP;rw[if_neg (by simp)]
def DT(f:aa):bP f []=f:=by unfold bP;rw[if_pos rfl]
def Ma{f b:aa}{l:List aa}(h:f.k≠6):bP f (b::l)= .mk 6 [] 0 (f::b::l):=by
 rw[qU,if_neg (fun e=>h e.1)];rfl
def sW{f:aa}{args:List aa}(hf:aP f=true)(h:∀u∈args,aP u=true):aP (bP f args)=true:=by
 cases args with
 |nil=>rw[DT];exact hf
 |cons b l=>
  by_cases e:f.k=6
  ·obtain⟨_,_,a,c,r,hl,ha⟩:=fD hf e;rw[qU,if_pos ⟨e,by rw[hl];simp⟩,hl];refine vz ha fun u hu=>?_;have g:u∈f.l\/u∈b::l:=by rw[hl];simpa[or_assoc]using hu
   rcases g with hu|hu
   ·exact fA hf u hu
   ·exact h u hu
  ·rw[Ma e];refine vz e fun u hu=>?_;rcases cD.1 hu with rfl|hu
   ·exact hf
   ·exact h u hu
def qV{m:Int}{f:aa}{args:List aa}(b:0<=m)(hf:bD m f=true)(h:∀u∈args,bD m u=true):bD m (bP f args)=true:=by
 unfold bP;split
 ·exact hf
 ·refine ir (.inr (by simp[aL];omega)) fun u hu=>?_;simp only[aH]at hu;rcases List.mem_append.1 hu with hu|hu
  ·split at hu
   ·exact fW hf u hu
   ·simp at hu;rw[hu];exact hf
  ·exact h u hu
def Mb(a b:Int)(t:aa):∀k,aP t=true->(bq (bU a b) k t).k=t.k:=by
 refine aa.ind (P:=fun t=>∀k,aP t=true->(bq (bU a b) k t).k=t.k) (fun t p k h=>?_) t;rw[iQ];by_cases i:t.k=5
 ·rw[if_pos i];unfold dC;rw[if_neg (fun e=>by have:=e.1;omega)];rfl
 ·rw[if_neg i];by_cases c:t.k=6
  ·rw[if_pos c];obtain⟨_,_,j,r,l,hl,ha⟩:=fD h c;have g:=p j (by rw[hl];simp) k (fA h j (by rw[hl];simp));unfold dC;rw[if_neg (fun e=>?_)]
   ·rfl
   ·rw[hl]at e;simp[g,ha]at e
  ·rw[if_neg c];unfold bU;split<;>rfl
def Xn{a b:Int}{t:aa}(k:Int)(h:aP t=true)(c:t.k=6):bq (bU a b) k t= .mk 6 [] 0 (t.l.map (bq (bU a b) k)):=by
 obtain⟨j,p,i,r,l,hl,ha⟩:=fD h c;have g:=Mb a b i k (fA h i (by rw[hl];simp));rw[iQ,if_neg (by omega),if_pos c];unfold dC;rw[if_neg (fun e=>by rw[hl]at e;simp[g,ha]at e),c,p,j]
def Xo{a b:Int}{t:aa}(k:Int)(h:aP t=true)(c:t.k=5):bq (bU a b) k t= .mk 5 [] 0 (t.l.map (bq (bU a b) (k+1))):=by
 obtain⟨g,i,_⟩:=nZ h c;rw[iQ,if_pos c];unfold dC;rw[if_neg (fun e=>by have:=e.1;omega),c,i,g]
def Mc{a b m:Int}(ha:0<=a)(J:0<=b)(L:0<=m)(E:m+b<=4611686018427387904)(t:aa):∀k,0<=k->aP t=true->bD m t=true->aP (bq (bU a b) k t)=true/\bD (m+b) (bq (bU a b) k t)=true:=by
 refine aa.ind (P:=fun t=>∀k,0<=k->aP t=true->bD m t=true->aP (bq (bU a b) k t)=true/\bD (m+b) (bq (bU a b) k t)=true) (fun t A k F h hn=>?_) t;by_cases i:t.k=5
 ·obtain⟨_,_,c,hl⟩:=nZ h i;have hc:c∈t.l:=by rw[hl];simp
  have:=A c hc (k+1) (by omega) (fA h c hc) (fW hn c hc);rw[Xo k h i,hl];refine⟨qT this.1,ir (.inr (by simp[aL];omega)) fun u e=>?_⟩;simp[aH]at e;rw[e];exact this.2
 ·by_cases j:t.k=6
  ·obtain⟨_,_,c,d,l,hl,p⟩:=fD h j;have e:∀u∈t.l.map (bq (bU a b) k),aP u=true/\bD (m+b) u=true:=fun u e=>by
    obtain⟨x,g,rfl⟩:=eU.1 e;exact A x g k F (fA h x g) (fW hn x g)
   rw[Xn k h j];rw[hl]at e⊢;refine⟨vz ?_ fun u g=>(e u g).1,ir (.inr (by simp[aL];omega)) fun u g=>(e u g).2⟩;rw[Mb a b c k (fA h c (by rw[hl];simp))];exact p
  ·rw[iQ,if_neg i,if_neg j];have hl:=oa h i j;unfold bU;split
   ·rename_i D;have G:=nY hn (by omega);have r:t.name=[]:=by have w:=vx h;unfold cV at w;simp[D.1]at w;exact w.1.2
    refine⟨vy ?_ (fun u e=>by simp[aH,hl]at e),ir (.inr (by simp[aL];omega)) (fun u e=>by simp[aH,hl]at e)⟩;simp[cV,aO,aL,aH,aQ,D.1,hl,r];omega
   ·exact⟨h,lh (by omega) t hn⟩
end Go.Lamb
namespace Go.Proofs.YtdlkenpilhakfaaGreatDoor
open Go.RowKit Go.Lamb
section
section
attribute [local go_sem] aM
def Xp(w0:World)(ls:List (List aa))(hn:ls.flatten.length<=30000000000)(J:ls.length<=30000000000)(σ:H):
  DC prog w0 120 [.ae (ls.map fun r=>[aM r])] σ (Same (.c (aM ls.flatten)) σ):=by
 refine LY.go rfl (fun t L=>?_);apply bl;simp only[go_sem,DR];refine W.aY (fun i=>i<=ls.length) (fun i=>⟨(((((base.put (some 0) (.ae (ls.map fun r=>[aM r]))).put (some 3) (I (ls.take i).flatten.length)).put (some 9) (.ae (ls.map fun r=>[aM r]))).put (some 10) (I ls.length)).put (some 11) (I i)),σ⟩) (fun i=>ls.length-i) 0 (be _) ?_ (fun i M=>?_)
 ·exact wV
 ·by_cases b:i<ls.length
  ·have e:((i:Int)<(ls.length:Int)):=by omega
   have u:ls[i]?=some ls[i]:=aN b;have g:=LG b;have j:(ls.take (i+1)).flatten.length=(ls.take i).flatten.length+ls[i].length:=by rw[g,bC]
   have w:=LH (ls:=ls) (i+1);have hw:aE.wrap ((i:Int)+1)=((i+1:Nat):Int):=by rw[a7]<;>omega
   have A:aE.wrap (((ls.take i).flatten.length:Int)+(ls[i].length:Int))=(((ls.take (i+1)).flatten.length:Nat):Int):=by rw[a7]<;>omega
   have p:¬((((ls.take (i+1)).flatten.length:Nat):Int)<0):=by omega
   apply bl;simp only[go_sem,e];refine wY ?_;simp only[go_sem,e,bu,u,A,p];refine wN ?_;simp only[go_sem,hw];refine .inv ⟨i+1,b,by omega,?_⟩;exact wV
  ·have e:¬((i:Int)<(ls.length:Int)):=by omega
   have h:i=ls.length:=by omega
   subst h;apply bl;simp only[go_sem,e];refine wN ?_;simp only[go_sem,jA];(refine db (LR w0 ls.flatten.length (by omega) _) ?_;simp only[go_sem]);refine W.aY (fun i=>i<=ls.length) (fun i=>⟨((((base.put (some 6) (.aC σ.length ((ls.take i).flatten.map aa.cs))).put (some 25) (.ae (ls.map fun r=>[aM r]))).put (some 26) (I ls.length)).put (some 27) (I i)),σ++[.spare 41 4 (ls.take i).flatten.length]⟩) (fun i=>ls.length-i) 0 (be _) ?_ (fun i M=>?_)
   ·exact wV
   ·by_cases b:i<ls.length
    ·have e:((i:Int)<(ls.length:Int)):=by omega
     have u:ls[i]?=some ls[i]:=aN b;have g:=LG b;have j:(ls.take (i+1)).flatten.length=(ls.take i).flatten.length+ls[i].length:=by rw[g,bC]
     have w:=LH (ls:=ls) (i+1);have D:((ls.take i).flatten.length+ls[i].length)*56<=140737488355328:=by omega
     have E:(ls.take i).flatten.length+ls[i].length<=140737488355328:=by omega
     have F:∀r∈ls[i].map aa.cs,r.length=4:=fun r N=>by obtain⟨o,_,rfl⟩:=eU.1 N;rw[aa.aG];rfl
     have G:(ls.take (i+1)).flatten.map aa.cs=(ls.take i).flatten.map aa.cs++ls[i].map aa.cs:=by rw[g,List.map_append]
     have hw:aE.wrap ((i:Int)+1)=((i+1:Nat):Int):=by rw[a7]<;>omega
     apply bl;simp only[go_sem,e];refine wY ?_;simp only[go_sem,e,bu,u,D,E,eq_self,hw,eq_true F];refine .inv ⟨i+1,b,by omega,?_⟩;simp only[go_sem,G,j];exact wV
    ·have e:¬((i:Int)<(ls.length:Int)):=by omega
     have h:i=ls.length:=by omega
     subst h;apply bl;simp only[go_sem,e];refine wN ?_;simp only[go_sem,jA];(refine W.fs t (by simp only[go_sem];rfl) ?_;simp only[aT];try exact V.wk.rfl _);(all_goals exact aR)
end
attribute [local go_sem] aa.v aa.aG aO aQ aL aH
def DU(w0:World)(t:aa)(σ:H):DC prog w0 77 [t.v] σ (Same (.au [.c (aM (if t.k=5\/t.k=6 then t.l else[])),I (if t.k=5 then 1 else 0)]) σ):=by
 refine L4.go rfl (fun g i=>?_);by_cases e:t.k=5
 ·have k5:(t.k==5)=true:=by simp[e]
  rw[if_pos (.inl e),if_pos e];clear e;((refine bl ?_;(try simp only[bne,go_sem,pB,k5, *]));(repeat' ((first|refine wY ?_|refine wN ?_|refine wS rfl (fun b=>?_) (fun b=>?_)|refine wR rfl (fun b=>?_) (fun b=>?_)|refine jl _ _ _ _ (fun b=>?_) (fun b=>?_)|refine jk _ _ _ _ (fun b=>?_) (fun b=>?_))<;>simp only[bne,go_sem,pB,k5, *])))
  all_goals (exact wF g)
 ·rw[if_neg e];have k5:(t.k==5)=false:=by simp[e]
  by_cases h:t.k=6
  ·have k6:(t.k==6)=true:=by simp[h]
   rw[if_pos (.inr h)];clear h e;((refine bl ?_;(try simp only[bne,go_sem,pB,k5,k6, *]));(repeat' ((first|refine wY ?_|refine wN ?_|refine wS rfl (fun b=>?_) (fun b=>?_)|refine wR rfl (fun b=>?_) (fun b=>?_)|refine jl _ _ _ _ (fun b=>?_) (fun b=>?_)|refine jk _ _ _ _ (fun b=>?_) (fun b=>?_))<;>simp only[bne,go_sem,pB,k5,k6, *])))
   all_goals (exact wF g)
  ·have k6:(t.k==6)=false:=by simp[h]
   rw[if_neg (by omega)];clear h e;((refine bl ?_;(try simp only[bne,go_sem,pB,k5,k6, *]));(repeat' ((first|refine wY ?_|refine wN ?_|refine wS rfl (fun b=>?_) (fun b=>?_)|refine wR rfl (fun b=>?_) (fun b=>?_)|refine jl _ _ _ _ (fun b=>?_) (fun b=>?_)|refine jk _ _ _ _ (fun b=>?_) (fun b=>?_))<;>simp only[bne,go_sem,pB,k5,k6, *])))
   all_goals (exact wF g)
def vA(w0:World)(f:aa)(xs:List aa)(hn:f.l.length+xs.length<=29999999998)(σ:H):DC prog w0 69 [f.v,.c (.sl (xs.map aa.cs))] σ (Same (bP f xs).v σ):=by
 refine LU.go rfl (fun g t=>?_);by_cases h0:xs=[]
 ·have e:bP f xs=f:=by unfold bP;rw[if_pos h0]
  rw[e];subst h0;apply bl;simp only[go_sem,sU];refine wY ?_;simp only[go_sem];exact wF g
 have hl:0<xs.length:=iX.2 h0;have p:((xs.length:Int)==0)=false:=by simp;omega
 have e:bP f xs= .mk 6 [] 0 ((if f.k=6/\f.l≠[]then f.l else[f])++xs):=by unfold bP;rw[if_neg h0]
 rw[e];clear e;have j:=fun(h:List aa) (u:h.length<=29999999999-xs.length) σ=>Xp w0 [h,xs] (by simp;omega) (by simp) σ;simp only[ck,cP,List.flatten_cons,List.flatten_nil,cd,aM]at j;by_cases i:f.k=6
 ·have k6:(f.k==6)=true:=by simp[i]
  by_cases hf:f.l=[]
  ·rw[if_neg (fun h=>h.2 hf)];have r:¬((f.l.length:Int)>0):=by rw[hf];simp
   have b:=j [f] (by simp only[bG,dU];omega);simp only[ck,cP,aa.aG]at b;clear i hf;apply bl;simp only[go_sem,sU,p];refine wN ?_;simp only[go_sem,k6,r];refine wN ?_;simp only[go_sem];(refine db (b _) ?_;simp only[go_sem]);exact wF g
  ·rw[if_pos ⟨i,hf⟩];have hp:0<f.l.length:=iX.2 hf;have r:((f.l.length:Int)>0):=by omega
   have b:=j f.l (by omega);clear i hf;apply bl;simp only[go_sem,sU,p];refine wN ?_;simp only[go_sem,k6,r];refine wY ?_;simp only[go_sem];(refine db (b _) ?_;simp only[go_sem]);exact wF g
 ·rw[if_neg (fun h=>i h.1)];have k6:(f.k==6)=false:=by simp[i]
  have b:=j [f] (by simp only[bG,dU];omega);simp only[ck,cP,aa.aG]at b;clear i;apply bl;simp only[go_sem,sU,p];refine wN ?_;simp only[go_sem,k6];refine wN ?_;simp only[go_sem];(refine db (b _) ?_;simp only[go_sem]);exact wF g
end
def vB:AC:=rsq [oB 3 0,oB 4 1,oA 6 zS4] (.seq (rif [.f 12 0 4,.l 13 12,oI 14 .neq 13 (zK 5),.m 15 14,yF 16 0 4 15,yL 17 16 15,yI 18 .neq 17 (zK 6) 15,oP 19 15 18 zF] 19 (rsq [.f 20 0 3,.l 21 20,.d 22 4 4,.m 23 2,.o 24 (.call 21 [22,23]),.s 4 6 24] .ret) .skip) (rsq [.d 26 4 4,.k 27 77 [26],.m 25 27,.x 28 25 0,.x 29 25 1,.m 7 28,.m 8 29] (rsq [oN 9] (.seq (rsq [.m 30 7,oL 31 30,oK 32 0] (.block 0 (.loop (rsq [oI 33 .lss 32 31] (.seq (.cond 33 .skip (.exit 0)) (.seq (.block 1 (rsq [oJ 34 4 30 32,.d 35 4 34,oA 11 zS4,.s 4 11 35] (.ax [.m 36 9,.d 37 1 3,.d 38 4 11,.m 39 2,.m 40 8,oI 41 .add 39 40,.k 42 235 [37,38,41],oS 43 4 [42],oQ 44 41 4 56 36 43,.m 9 44]))) (.ax [oI 45 .add 32 (zK 1),.m 32 45]))))))) (.seq (rif [.f 46 0 4,.l 47 46,oI 48 .eql 47 (zK 6),.m 49 48,yV 50 9 49,yM 51 50 49,yI 52 .gtr 51 (zK 1) 49,oP 53 49 52 zF,.m 54 53,yV 55 9 54,yJ 56 4 55 (zK 0) 54,yF 57 0 56 54,yL 58 57 54,yI 59 .eql 58 (zK 6) 54,oP 60 54 59 zF,.m 61 60,yV 62 7 61,yJ 63 4 62 (zK 0) 61,yF 64 0 63 61,yL 65 64 61,yI 66 .neq 65 (zK 6) 61,oP 67 61 66 zF] 67 (.seq (drg [.m 68 9,oJ 69 4 68 (zK 0),.d 70 4 69,.m 71 9,.o 72 (.gk 4 71 (some (zK 1)) none none),.k 73 69 [70,72],.s 4 6 73] [0,1,2,3,4,105,306]) .ret) .skip) (rsq [.f 74 0 4,.l 75 74,.f 76 1 4,.l 77 76,.f 78 2 4,.l 79 78,.m 80 9,oD 81 zS4 [(0,1,75),(1,1,77),(2,1,79),(3,1,80)],.s 4 6 81] .ret))))))
abbrev DV:List ak:=[.aW 4 6]
def Md:aq prog 235 3 Tryz.f235 vB DV:=.auto func235
def DW:AC:=rsq [oB 3 0,oB 4 1,oB 5 2,oA 6 zS4] (rsq [.o 7 (.gZ 233 [4,5]),oD 8 [.cu] [(0,1,7)],.d 9 4 3,.k 10 235 [8,9,(zK 0)],.s 4 6 10] .ret)
abbrev Me:List ak:=[.aW 4 6]
def Mf:aq prog 187 3 Tryz.f187 DW Me:=.auto func187
def c233:AC:=rsq [oB 4 0,oA 6 zS4] (.seq (rif [.f 7 0 4,.l 8 7,oI 9 .eql 8 (zK 3),.m 10 9,yF 11 2 4 10,yL 12 11 10,yV 13 1 10,yL 14 2 10,yI 15 .add 13 14 10,yI 16 .geq 12 15 10,oP 17 10 16 zF] 17 (rsq [.d 18 4 4,.l 19 3,.k 20 234 [18,19],.s 4 6 20] .ret) .skip) (rsq [.d 21 4 4,.s 4 6 21] .ret))
abbrev Mg:List ak:=[.aW 4 6]
def Mh:aq prog 233 4 Tryz.f233 c233 Mg:=.auto func233
def Mi:AC:=rsq [oB 3 0,oB 4 1,oB 5 2,oA 6 zS4] (rsq [.o 7 (.gZ 280 [4,5]),oD 8 [.cu] [(0,1,7)],.d 9 4 3,.k 10 235 [8,9,(zK 0)],.s 4 6 10] .ret)
abbrev Xq:List ak:=[.aW 4 6]
def Xr:aq prog 262 3 Tryz.f262 Mi Xq:=.auto func262
def vC:AC:=rsq [oB 4 0,oA 6 zS4] (.seq (.block 0 (rif [.f 8 0 4,.l 9 8,oI 10 .neq 9 (zK 3),.m 11 10,yX 12 2 4 11,yT 13 12 11,yW 14 1 11,yT 15 2 11,yB 16 .add 14 15 11,yB 17 .lss 13 16 11,oP 18 11 zT 17,.m 7 18] 7 (rsq [.d 19 4 4,.s 4 6 19] .ret) (rif [.f 21 2 4,.l 22 21,.m 23 1,.l 24 2,oI 25 .add 23 24,oI 26 .eql 22 25,.m 20 26] 20 (rsq [.d 27 4 3,.m 28 1,.k 29 187 [27,(zK 0),28],.s 4 6 29] .ret) .skip))) (rsq [.d 30 4 4,.k 31 234 [30,(zK (-1))],.s 4 6 31] .ret))
abbrev Xs:List ak:=[.aW 4 6]
def Xt:aq prog 280 4 Tryz.f280 vC Xs:=.auto func280
def c234:AC:=rsq [oB 2 0,oA 4 zS4] (rsq [.f 5 2 2,.l 6 5,.m 7 1,oI 8 .add 6 7,.f 9 2 2,.s 1 9 8] (rsq [.d 10 4 2,.s 4 4 10] .ret))
abbrev Xu:List ak:=[.aW 4 4]
def Xv:aq prog 234 2 Tryz.f234 c234 Xu:=.auto func234

section
attribute [local go_sem] aa.v aa.aG aO aQ aL aH aM
structure DX (w0:World) (E:H->Prop) (Pp:aa->Prop) (g:aa->Int->aa) (fid:FuncId) (caps:List V):Prop where
 more:∀σ L,E σ->E (σ++L)
 low:∀σ,E σ->∀x∈caps,V.low σ.length x
 dA:∀u,Pp u->∀v∈u.l,Pp v
 len:∀u,Pp u->u.l.length<=12000000000
 mZ:∀u,Pp u->∀j:Nat,(bq g (j:Int) u).l.length<=12000000000
 leaf:∀σ,E σ->∀u (j:Nat),Pp u->j<=30000000000->u.k≠5->u.k≠6->DC prog w0 fid ([u.v,I (j:Int)]++caps) σ (Same (g u (j:Int)).v σ)
def Mj{w0:World}{E:H->Prop}{Pp:aa->Prop}{g:aa->Int->aa}{fid:FuncId}{caps:List V}(J:DX w0 E Pp g fid caps)(t:aa):Pp t->∀(k:Nat),k+ao t<=30000000000->∀σ,E σ->DC prog w0 235 [.agg [.fn fid caps],t.v,I (k:Int)] σ (Same (bq g (k:Int) t).v σ):=by
 refine aa.ind (P:=fun t=>Pp t->∀(k:Nat),k+ao t<=30000000000->∀σ,E σ->DC prog w0 235 [.agg [.fn fid caps],t.v,I (k:Int)] σ (Same (bq g (k:Int) t).v σ)) (fun t ih hp k hk σ hσ=>?_) t;refine Md.go rfl (fun p hsz=>?_);by_cases j:t.k≠5/\t.k≠6
 ·have hc:=fun L=>J.leaf (σ++L) (J.more _ _ hσ) t k hp (by omega) j.1 j.2;rw[iQ,if_neg j.1,if_neg j.2];have k5:(t.k==5)=false:=by simp[j.1]
  have k6:(t.k==6)=false:=by simp[j.2]
  clear j;apply bl;simp only[go_sem,vB,bne,k5,k6];refine wY ?_;simp only[go_sem];(refine db (hc _) ?_;simp only[go_sem]);exact wF p
 obtain⟨B,hB,Y,hwi⟩:∃B:Nat,B<=1/\bq g (k:Int) t=dC t (t.l.map (bq g ((k+B:Nat):Int)))/\∀σ,DC prog w0 77 [t.v] σ (Same (.au [.c (aM t.l),I (B:Int)]) σ):=by
  by_cases F:t.k=5
  ·refine⟨1,aA _,?_,fun σ=>?_⟩
   ·rw[iQ,if_pos F];rfl
   ·have:=DU w0 t σ;rwa [if_pos (.inl F),if_pos F]at this
  ·have M:t.k=6:=by omega
   refine⟨0,by decide,?_,fun σ=>?_⟩
   ·rw[iQ,if_neg F,if_pos M];rfl
   ·have:=DU w0 t σ;rwa [if_pos (.inr M),if_neg F]at this
 rw[Y];clear Y;have hlen:=J.len t hp;obtain⟨o,Z⟩:∃o,o=t.l.map (bq g ((k+B:Nat):Int)):=⟨_,rfl⟩;have hol:o.length=t.l.length:=by rw[Z,bY]
 have R:∀i (hi:i<t.l.length) (hi':i<o.length) L,DC prog w0 235 [.agg [.fn fid caps],t.l[i].v,I ((k+B:Nat):Int)] (σ++L) (Same o[i].v (σ++L)):=fun i hi hi' L=>by
  have hm:=bg hi;have:=fz hm;have e:o[i]=bq g ((k+B:Nat):Int) t.l[i]:=by simp[Z]
  rw[e];exact ih _ hm (J.dA t hp _ hm) (k+B) (by omega) _ (J.more _ _ hσ)
 have hbig:∀u∈o,u.l.length<=12000000000:=fun u hu=>by
  rw[Z]at hu;obtain⟨v,hv,rfl⟩:=eU.1 hu;exact J.mZ v (J.dA t hp v hv) _
 rw[<-Z];clear Z;have hw0:aE.wrap ((k:Int)+(B:Int))=((k+B:Nat):Int):=by rw[a7]<;>omega
 have hor:(t.k==5)=true/\(t.k==6)=false\/(t.k==5)=false/\(t.k==6)=true:=by
  by_cases F:t.k=5
  ·exact .inl ⟨by simp[F],by simp[F]⟩
  ·exact .inr ⟨by simp[F],by simp;omega⟩
 have hfl:∀n,σ.length<=n->((∀x,x∈caps->V.low n x)↔True):=fun n hn=>by
  simp only[iff_true];exact fun x T=>V.xA hn (J.low σ hσ x T)
 have N:=hfl (σ.length+4) (by omega);obtain⟨z,D⟩:∃z,z=dC t o:=⟨_,rfl⟩;rw[<-D];have hst:W prog w0 σ.length (Lamb.Fin DV σ.length (Same z.v σ)) [.code vB] ⟨ji [.agg [.fn fid caps],t.v,I (k:Int)],σ⟩:=by
  rcases hor with⟨k5,k6⟩|⟨k5,k6⟩
  all_goals clear j
  all_goals (
   apply bl;simp only[go_sem,vB,bne,k5,k6];refine wN ?_;simp only[go_sem];(refine db (hwi _) ?_;simp only[go_sem]);refine W.own 9 41 4 rfl ?_;apply bl;simp only[go_sem];refine W.aY (fun i=>i<=t.l.length) (fun i=>⟨((((((((((base.put (some 2) (I (k:Int))).put (some 3) (.ptr σ.length 0)).put (some 4) (.ptr (σ.length+1) 0)).put (some 6) (.ptr (σ.length+2) 0)).put (some 7) (.c (.sl (t.l.map aa.cs)))).put (some 8) (I (B:Int))).put (some 9) (.aC (σ.length+3) ((o.take i).map aa.cs))).put (some 30) (.c (.sl (t.l.map aa.cs)))).put (some 31) (I (t.l.length:Int))).put (some 32) (I (i:Int))),σ++[.cells [.fn fid caps],.cells t.v.af,.cells [I 0,S [],I 0,.ae []],.spare 41 4 i]⟩) (fun i=>t.l.length-i) 0 (be _) ?_ (fun i hi=>?_)
   ·exact wV
   by_cases U:i<t.l.length
   ·have O:i<o.length:=by omega
    have h1:(i:Int)<(t.l.length:Int):=by omega
    have h0:(0:Int)<=(i:Int):=by omega
    have T:t.l[i]?=some t.l[i]:=aN U;have hw:aE.wrap ((i:Int)+1)=((i+1:Nat):Int):=by rw[a7]<;>omega
    have hb1:(i+1)*56<=140737488355328:=by omega
    have hb2:i<=140737488355327:=by omega
    have hti:(o.take i).length=i:=by rw[List.length_take];omega
    have hts:(o.take (i+1)).map aa.cs=(o.take i).map aa.cs++[[.int .i64 o[i].k,.str o[i].name,.int .i64 o[i].n,.sl (o[i].l.map aa.cs)]]:=by
     rw[List.take_succ_eq_append_getElem O,List.map_append,ck,cP,aa.aG]
    have hki:=fun L=>R i U O L;apply bl;simp only[go_sem,h1];refine wY ?_;simp only[go_sem,h1,h0,T,hw0];(refine db (hki _) ?_;simp only[go_sem,hb1,hb2,hti,hw]);refine .inv ⟨i+1,U,by omega,?_⟩;simp only[go_sem,hts];(refine aV.lJ (p) ?_ (by simp) (by simp) ?_ ?_ ?_;exact dZ;((try simp only[okB,cT,go_sem,N])<;>omega);(simp only[bG,List.length_nil,Nat.reduceAdd,List.take_succ_cons,ey,cT,and_true];(repeat' (refine mq ?_ ?_))<;>(first|exact ad.wk.rfl _|exact ad.wk.gone _|(refine ad.lL ?_ rfl;(exact aR))));(repeat' (first|exact cK.base _|(refine cK.put ?_ (by first|exact .c _|((try simp only[okB,cT,go_sem,N])<;>omega))))))
   obtain rfl:i=t.l.length:=by omega
   have h1:¬((t.l.length:Nat):Int)<((t.l.length:Nat):Int):=by omega
   have hta:o.take t.l.length=o:=by rw[<-hol,List.take_length]
   rw[hta];apply bl;simp only[go_sem,h1];refine W.no rfl ?_;skip)
  ·have b:z= .mk t.k t.name t.n o:=by
    rw[D,dC,if_neg (fun h=>by simp[h.1]at k6)]
   subst b;apply bl;simp only[go_sem,k6];refine wN ?_;simp only[go_sem];exact wF p
  ·have M:t.k=6:=by simpa using k6
   by_cases c1:1<o.length
   ·obtain⟨Q,r,rfl⟩:∃a l,o=a::l:=by
     cases o with
     |nil=>simp at c1
     |cons a l=>exact⟨a,l,rfl⟩
    have hl0:0<t.l.length:=by omega
    have T:t.l[0]?=some t.l[0]:=aN hl0;have w:(t.l.headD .none)=t.l[0]:=by
     rw[List.headD_eq_head?_getD,List.head?_eq_getElem?,T];rfl
    have q1:((r.length+1:Nat):Int)>1:=by simp at c1;omega
    have G:(0:Int)<((r.length+1:Nat):Int):=by omega
    have A:(0:Int)<(t.l.length:Int):=by omega
    by_cases X:Q.k=6
    ·have p2:(Q.k==6)=true:=by simp[X]
     by_cases c3:t.l[0].k=6
     ·have p3:(t.l[0].k==6)=true:=by simp[c3]
      have b:z= .mk t.k t.name t.n (Q::r):=by
       rw[D,dC,if_neg (fun h=>h.2.2.2 (by rw[w];exact c3))]
      subst b;clear c3 X M w D;apply bl;simp only[go_sem,k6,q1,p2,p3,T,bu,bne,G,A];refine wN ?_;simp only[go_sem];exact wF p
     ·have p3:(t.l[0].k==6)=false:=by simp[c3]
      have b:z=bP Q r:=by
       rw[D,dC,if_pos ⟨M,c1,X,by rw[w];exact c3⟩];rfl
      have hb:=hbig Q (aZ ..);have hA:=fun σ=>vA w0 Q r (by simp at hol;omega) σ;rw[<-b]at hA;clear c3 X M w D b;have hrw:(∀(x:List C),x∈gV aa.cs r->x.length=4)↔True:=by
       simp only[eU,iff_true];rintro x ⟨u,_,rfl⟩;rw[aa.aG];rfl
      have hge:(1:Int)<=((r.length+1:Nat):Int):=by omega
      have htk2:dj r.length (gV aa.cs r)=gV aa.cs r:=dT (by simp);apply bl;simp only[go_sem,k6,q1,p2,p3,T,bu,bne,G,A];refine wY ?_;simp only[go_sem];apply W.aD (aF _ _)
      case hc=>
       (apply ab.aj;simp only[go_sem,bu,G,hrw,hge,htk2]);(apply ab.call (hA _)<;>try rfl);(apply ab.aj;simp only[go_sem]);exact ab.nil
      apply bl;simp only[go_sem];exact wF p
    ·have p2:(Q.k==6)=false:=by simp[X]
     have b:z= .mk t.k t.name t.n (Q::r):=by
      rw[D,dC,if_neg (fun h=>X h.2.2.1)]
     subst b;clear X M w D;apply bl;simp only[go_sem,k6,q1,p2,bu,bne,G,A];refine wN ?_;simp only[go_sem];exact wF p
   ·have q1:¬((o.length:Nat):Int)>1:=by omega
    have b:z= .mk t.k t.name t.n o:=by
     rw[D,dC,if_neg (fun h=>c1 h.2.1)]
    subst b;clear M D;apply bl;simp only[go_sem,k6,q1,bne];refine wN ?_;simp only[go_sem];exact wF p
 exact hst
end
end Go.Proofs.YtdlkenpilhakfaaGreatDoor
namespace Go.Lamb
open Go Go.RowKit
def pD(t:aa):1<=ao t:=by rw[ef];omega
def sX:∀(a b:List aa),bj (a++b)=bj a+bj b
 |[],b=>by rw[bj];simp
 |x::a,b=>by rw[List.cons_append,bj,bj,sX a b];omega
def iu(k:Int)(s:cb)(n:Int)(l:List aa):ao (.mk k s n l)=1+bj l:=by rw[ao]
def DY(t:aa)(l:List aa):ao (dC t l)<=1+bj l:=by
 unfold dC;split
 ·rename_i h;obtain⟨_,hl,c,_⟩:=h
  match l,hl with
  |a::b::r,_=>
   simp only[List.headD_cons,List.tail_cons]at c⊢;unfold bP;rw[if_neg (by simp),iu,sX,show bj (a::b::r)=ao a+bj (b::r)from by rw[bj]];split
   ·rw[ef a];omega
   ·rw[bj,bj];omega
 ·rw[iu];exact aA _
def DZ{g:aa->Int->aa}{C:Nat}(w:1<=C)(hg:∀u (j:Nat),u.k≠5->u.k≠6->ao (g u (j:Int))<=C*ao u)(t:aa):∀(k:Nat),ao (bq g (k:Int) t)<=C*ao t:=by
 refine aa.ind (P:=fun t=>∀(k:Nat),ao (bq g (k:Int) t)<=C*ao t) (fun t e k=>?_) t;have key:∀(j:Nat) (l:List aa),(∀u∈l,u∈t.l)->bj (l.map (bq g (j:Int)))<=C*bj l:=by
  intro j l;induction l with
  |nil=>intro _;rw[cP,bj];exact be _
  |cons x l c=>
   intro h;have i:=e x (h x (aZ ..)) j;have p:=c (fun u r=>h u (bH _ r));rw[ck,bj,bj,iC];omega
 have b:∀(j:Nat),ao (dC t (t.l.map (bq g (j:Int))))<=C*ao t:=fun j=>by
  have i:=DY t (t.l.map (bq g (j:Int)));have p:=key j t.l (fun _ h=>h);rw[ef t,iC];omega
 rw[iQ];split
 ·exact b (k+1)
 ·split
  ·exact b k
  ·exact hg t k (by assumption) (by assumption)
def sY:∀(l:List aa),l.length<=bj l
 |[]=>be _
 |p::l=>by
  have:=sY l;rw[bj,ef,bG];omega
def eR(t:aa):t.l.length<=ao t:=by
 have:=sY t.l;rw[ef];omega
def zO(a b:Int)(t:aa)(j:Nat):ao (bq (bU a b) (j:Int) t)<=ao t:=by
 have c:=DZ (g:=bU a b) (C:=1) (aA _) (fun v i _ _=>by
  unfold bU;split
  ·rw[iu,ef v];omega
  ·omega) t j
 omega
def D0(i:Int)(s t:aa)(j:Nat):ao (bq (cB i s) (j:Int) t)<=ao s*ao t:=by
 refine DZ (pD s) (fun v k _ _=>?_) t j;have c:=pD s;have e:ao v<=ao s*ao v:=Nat.le_mul_of_pos_left _ c;have b:=pD v;have gF:ao s<=ao s*ao v:=Nat.le_mul_of_pos_right _ b;unfold cB;split
 ·exact e
 ·split
  ·exact bf (zO 0 k s 0) gF
  ·rw[iu];have:=ef v;omega
end Go.Lamb
namespace Go.Proofs.YtdlkenpilhakfaaGreatDoor
open Go.RowKit Go.Lamb
section
attribute [local go_sem] aa.v aa.aG aO aQ aL aH aM
def Mk(w0:World)(t:aa)(b:Int)(g:-9223372036854775808<=t.n+b)(h:t.n+b<=9223372036854775807)(σ:H):DC prog w0 234 [t.v,I b] σ (Same (aa.mk t.k t.name (t.n+b) t.l).v σ):=by
 refine Xv.go rfl (fun c e=>?_);have hw:aE.wrap (t.n+b)=t.n+b:=by rw[a7]<;>omega
 apply bl;simp only[go_sem,c234,hw];exact wF c
def Xw(w0:World)(a b:Int)(ha:0<=a)(A:a<=30000000000)(G:-1152921504606846976<=b)(D:b<=1152921504606846976)(p:Nat)(σ:H)(r:σ[p]?=some (.cells [I a]))(t:σ[p+1]?=some (.cells [I b]))(u:aa)(j:Nat)(J:j<=30000000000)(w:u.k=3->-2305843009213693952<=u.n/\u.n<=2305843009213693952):
  DC prog w0 233 [u.v,I (j:Int),.ptr p 0,.ptr (p+1) 0] σ (Same (bU a b u (j:Int)).v σ):=by
 refine Mh.go rfl (fun i E=>?_);have r:∀L,(σ++L)[p]?=some (.cells [I a]):=fun L=>by rw[cr (aI.1 r).1];exact r
 have t:∀L,(σ++L)[p+1]?=some (.cells [I b]):=fun L=>by rw[cr (aI.1 t).1];exact t
 have hw:aE.wrap ((j:Int)+a)=(j:Int)+a:=by rw[a7]<;>omega
 by_cases e:u.k=3
 ·have k3:(u.k==3)=true:=by simp[e]
  have w:=w e;by_cases c:u.n>=(j:Int)+a
  ·have g:bU a b u (j:Int)= .mk u.k u.name (u.n+b) u.l:=by unfold bU;rw[if_pos ⟨e,c⟩]
   have F:=fun σ=>Mk w0 u b (by omega) (by omega) σ;rw[g];clear e g;apply bl;simp only[go_sem,c233,k3,r,t,hw,c];refine wY ?_;simp only[go_sem,r,t];(refine db (F _) ?_;simp only[go_sem]);exact wF i
  ·have g:bU a b u (j:Int)=u:=by unfold bU;rw[if_neg (fun h=>c h.2)]
   rw[g];clear e g;apply bl;simp only[go_sem,c233,k3,r,t,hw,c];refine wN ?_;simp only[go_sem];exact wF i
 ·have g:bU a b u (j:Int)=u:=by unfold bU;rw[if_neg (fun h=>e h.1)]
  have k3:(u.k==3)=false:=by simp[e]
  rw[g];clear e g;apply bl;simp only[go_sem,c233,k3];refine wN ?_;simp only[go_sem];exact wF i
def Xx(w0:World)(a b:Int)(ha:0<=a)(t:a<=30000000000)(E:-1152921504606846976<=b)(w:b<=1152921504606846976)(p:Nat):
  DX w0 (fun σ=>σ[p]?=some (.cells [I a])/\σ[p+1]?=some (.cells [I b])) (fun u=>bD 2305843009213693952 u=true/\ao u<=12000000000) (bU a b) 233 [.ptr p 0,.ptr (p+1) 0] where
 more:=fun σ L ⟨c,e⟩=>⟨by rw[cr (aI.1 c).1];exact c,by rw[cr (aI.1 e).1];exact e⟩
 low:=fun σ ⟨c,e⟩ x A=>by
  have h:=(aI.1 c).1;have r:=(aI.1 e).1;simp only[cD,iZ,or_false]at A;rcases A with rfl|rfl
  ·exact .ptr h
  ·exact .ptr r
 dA:=fun u ⟨h,r⟩ v D=>⟨fW h v D,by have:=fz D;omega⟩
 len:=fun u ⟨_,r⟩=>bf (eR u) r
 mZ:=fun u ⟨_,r⟩ j=>by
  have h:=DZ (g:=bU a b) (C:=1) (aA _) (fun v i _ _=>by
   unfold bU;split
   ·rw[iu,ef v];omega
   ·omega) u j
  have:=eR (bq (bU a b) (j:Int) u);omega
 leaf:=fun σ ⟨c,e⟩ u j ⟨h,_⟩ F _ _=>Xw w0 a b ha t E w p σ c e u j F (fun G=>nY h (by omega))
def Ml(w0:World)(t:aa)(a b:Int)(ha:0<=a)(c:a<=30000000000)(i:-1152921504606846976<=b)(e:b<=1152921504606846976)(g:bD 2305843009213693952 t=true)(hn:ao t<=12000000000)(σ:H):DC prog w0 187 [t.v,I a,I b] σ (Same (iR a b t).v σ):=by
 refine Mf.go rfl (fun h j=>?_);have hw:=Mj (Xx w0 a b ha c i e (σ.length+1)) t ⟨g,hn⟩ 0 (by omega) (σ++[.cells t.v.af,.cells [I a],.cells [I b],.cells [I 0,S [],I 0,.ae []]]) ⟨by simp,by rw[jV];simp⟩;have p:iR a b t=bq (bU a b) ((0:Nat):Int) t:=rfl;rw[p];generalize bq (bU a b) ((0:Nat):Int) t=z at*
 apply bl;simp only[go_sem,DW];(refine db (hw) ?_;simp only[go_sem]);exact wF h
def Xy(w0:World)(i:Int)(s:aa)(J:0<=i)(E:i<=30000000000)(A:bD 2305843009213693952 s=true)(gF:ao s<=12000000000)(p:Nat)(σ:H)(g:σ[p]?=some (.cells [I i]))(h:σ[p+1]?=some (.cells s.v.af))(u:aa)(j:Nat)(M:j<=30000000000)(D:u.k=3->-2305843009213693952<=u.n/\u.n<=2305843009213693952):
  DC prog w0 280 [u.v,I (j:Int),.ptr p 0,.ptr (p+1) 0] σ (Same (cB i s u (j:Int)).v σ):=by
 refine Xt.go rfl (fun r F=>?_);have g:∀L,(σ++L)[p]?=some (.cells [I i]):=fun L=>by rw[cr (aI.1 g).1];exact g
 have h:∀L,(σ++L)[p+1]?=some (.cells [I s.k,S s.name,I s.n,.c (.sl (s.l.map aa.cs))]):=fun L=>by rw[cr (aI.1 h).1];exact h
 have hw:aE.wrap ((j:Int)+i)=(j:Int)+i:=by rw[a7]<;>omega
 by_cases w:u.k=3
 ·have k3:(u.k==3)=true:=by simp[w]
  have D:=D w;by_cases t:u.n<(j:Int)+i
  ·have e:cB i s u (j:Int)=u:=by unfold cB;rw[if_pos (.inr t)]
   rw[e];clear w e;apply bl;simp only[go_sem,vC,k3,bne,g,h,hw,t];refine wY ?_;simp only[go_sem];exact wF r
  ·by_cases b:u.n=(j:Int)+i
   ·have e:cB i s u (j:Int)=iR 0 (j:Int) s:=by unfold cB;rw[if_neg (by omega),if_pos b]
    have hS:=fun σ=>Ml w0 s 0 (j:Int) (by decide) (by decide) (by omega) (by omega) A gF σ;have q:(u.n==(j:Int)+i)=true:=by simp[b]
    rw[e];generalize iR 0 (j:Int) s=z at*;clear w e b;apply bl;simp only[go_sem,vC,k3,bne,g,h,hw,t];refine wN ?_;simp only[go_sem,g,h,hw,q];refine wY ?_;simp only[go_sem,g,h];(refine db (hS _) ?_;simp only[go_sem]);exact wF r
   ·have e:cB i s u (j:Int)= .mk u.k u.name (u.n+-1) u.l:=by unfold cB;rw[if_neg (by omega),if_neg b];rfl
    have G:=fun σ=>Mk w0 u (-1) (by omega) (by omega) σ;have q:(u.n==(j:Int)+i)=false:=by simp[b]
    rw[e];clear w e b;apply bl;simp only[go_sem,vC,k3,bne,g,h,hw,t];refine wN ?_;simp only[go_sem,g,h,hw,q];refine wN ?_;simp only[go_sem,g,h];(refine db (G _) ?_;simp only[go_sem]);exact wF r
 ·have e:cB i s u (j:Int)=u:=by unfold cB;rw[if_pos (.inl w)]
  have k3:(u.k==3)=false:=by simp[w]
  rw[e];clear w e;apply bl;simp only[go_sem,vC,k3,bne];refine wY ?_;simp only[go_sem];exact wF r
def Xz(w0:World)(i:Int)(s:aa)(D:0<=i)(r:i<=30000000000)(t:bD 2305843009213693952 s=true)(gF:ao s<=12000000000)(p:Nat):
  DX w0 (fun σ=>σ[p]?=some (.cells [I i])/\σ[p+1]?=some (.cells s.v.af)) (fun u=>bD 2305843009213693952 u=true/\ao u<=12000000000/\ao s*ao u<=12000000000) (cB i s) 280 [.ptr p 0,.ptr (p+1) 0] where
 more:=fun σ L ⟨b,c⟩=>⟨by rw[cr (aI.1 b).1];exact b,by rw[cr (aI.1 c).1];exact c⟩
 low:=fun σ ⟨b,c⟩ x A=>by
  have e:=(aI.1 b).1;have g:=(aI.1 c).1;simp only[cD,iZ,or_false]at A;rcases A with rfl|rfl
  ·exact .ptr e
  ·exact .ptr g
 dA:=fun u ⟨e,g,h⟩ v w=>⟨fW e v w,by have:=fz w;omega,bf (Nat.mul_le_mul_left _ (Nat.le_of_lt (fz w))) h⟩
 len:=fun u ⟨_,g,_⟩=>bf (eR u) g
 mZ:=fun u ⟨_,_,h⟩ j=>bf (eR _) (bf (D0 i s u j) h)
 leaf:=fun σ ⟨b,c⟩ u j ⟨e,_⟩ E _ _=>Xy w0 i s D r t gF p σ b c u j E (fun h=>nY e (by omega))
def XA(w0:World)(t:aa)(i:Int)(s:aa)(h:0<=i)(b:i<=30000000000)(c:bD 2305843009213693952 s=true)(gF:ao s<=12000000000)(e:bD 2305843009213693952 t=true)(hn:ao t<=12000000000)(j:ao s*ao t<=12000000000)(σ:H):DC prog w0 262 [t.v,I i,s.v] σ (Same (kC i s t).v σ):=by
 refine Xr.go rfl (fun g p=>?_);have hw:=Mj (Xz w0 i s h b c gF (σ.length+1)) t ⟨e,hn,j⟩ 0 (by omega) (σ++[.cells t.v.af,.cells [I i],.cells s.v.af,.cells [I 0,S [],I 0,.ae []]]) ⟨by simp,by rw[jV];simp⟩;have r:kC i s t=bq (cB i s) ((0:Nat):Int) t:=rfl;rw[r];generalize bq (cB i s) ((0:Nat):Int) t=z at*
 apply bl;simp only[go_sem,Mi];(refine db (hw) ?_;simp only[go_sem]);exact wF g
end
end Go.Proofs.YtdlkenpilhakfaaGreatDoor
namespace Go.Lamb
open Go Go.RowKit
def XB{rows:List (List C)}(h:∀r∈rows,r.length=4){i:Nat}(b:i<rows.length):(rows.flatten.drop (i*4)).take 4=rows[i]:=by
 have c:=uN 4 rows.length rows.flatten i (by rw[ya];exact b);rw[<-c];have e:=qo h;simp only[e]
def XC{rows:List (List C)}:(∀r∈rows,r.length=4)->rows.flatten.length=rows.length*4:=by
 induction rows with
 |nil=>intro _;rfl
 |cons r l b=>
  intro h;rw[dS,bC,b (fun q c=>h q (bH _ c)),h r (aZ ..),bG];omega
def XD{rows:List (List C)}:(∀r∈rows,r.length=4)->∀{i:Nat} (b:i<rows.length) (y:List C),y.length=4->rows.flatten.take (i*4)++y++rows.flatten.drop (i*4+4)=(rows.set i y).flatten:=by
 induction rows with
 |nil=>intro _ i b;simp at b
 |cons r l e=>
  intro h i b y g;have c:=h r (aZ ..);cases i with
  |zero=>
   rw[List.set_cons_zero,dS,dS,Nat.zero_mul,ey,dK,Nat.zero_add,<-c,List.drop_left]
  |succ i=>
   rw[List.set_cons_succ,dS,dS,<-e (fun q j=>h q (bH _ j)) (by simpa using b) y g];have p:(i+1)*4=r.length+i*4:=by rw[c];omega
   rw[p,List.take_append,dT (by omega),fu,jV,List.drop_append,List.drop_of_length_le (by omega),fu,dK];simp only[dq]
def fX(l:List aa):∀r∈l.map aa.cs,r.length=4:=fun r b=>by
 obtain⟨u,_,rfl⟩:=eU.1 b;rw[aa.aG];rfl
end Go.Lamb
namespace Go.Proofs.YtdlkenpilhakfaaGreatDoor
open Go.RowKit Go.Lamb
def zP:AC:=rsq [oB 3 0,oB 4 1,oA 6 zS4,oK 7 0,oK 8 0] (.seq (rif [.d 11 4 3,.k 12 183 [11],oU 13 .not 12] 13 (rsq [oD 14 zS4 [],.s 4 6 14,oK 7 0,oK 8 1] .ret) .skip) (rsq [.m 16 2,.d 17 4 3,.o 18 (.call 16 [17,4]),.m 15 18,.x 19 15 0,.x 20 15 1,oA 9 zS4,.s 4 9 19,.m 10 20] (.seq (rif [.m 21 10,oI 22 .neq 21 (zK 0)] 22 (rsq [oD 23 zS4 [],.m 24 10,.s 4 6 23,oK 7 0,.m 8 24] .ret) .skip) (.seq (drg [.d 25 4 9,.l 26 4,.s 4 6 25,.m 7 26,oK 8 0] [0,102,1,203,204]) .ret))))
abbrev Mm:List ak:=[.aW 4 6,.tmp 7,.tmp 8]
def D1:aq prog 129 3 Tryz.f129 zP Mm:=.auto func129
def c130:AC:=rsq [oB 2 0,oA 4 zS4,oK 5 0] (rsq [.d 13 4 2,.m 14 1,.k 15 184 [13,14],.m 12 15,.x 16 12 0,.x 17 12 1,.s 4 2 16,.m 6 17] (.seq (rif [.m 18 6,oI 19 .neq 18 (zK 0)] 19 (rsq [oD 20 zS4 [],.m 21 6,.s 4 4 20,.m 5 21] .ret) .skip) (.seq (rif [.f 22 0 2,.l 23 22,oI 24 .eql 23 (zK 5)] 24 (rsq [.f 26 3 2,.l 27 26,oJ 28 4 27 (zK 0),.d 29 4 28,.m 30 1,.k 31 130 [29,30],.m 25 31,.x 32 25 0,.x 33 25 1,oA 7 zS4,.s 4 7 32,.m 8 33] (.seq (rif [.m 34 8,oI 35 .neq 34 (zK 0)] 35 (rsq [oD 36 zS4 [],.m 37 8,.s 4 4 36,.m 5 37] .ret) .skip) (rsq [.d 38 4 7,.k 39 118 [(zK 1),38],.s 4 4 39,oK 5 0] .ret))) .skip) (rsq [.f 40 3 2,.l 41 40,.k 42 185 [41],.m 9 42] (.seq (rsq [.m 43 9,oL 44 43,oK 45 0] (.block 0 (.loop (rsq [oI 46 .lss 45 44] (.seq (.cond 46 .skip (.exit 0)) (.seq (.block 1 (rsq [.m 47 45,oJ 48 4 43 45,.d 49 4 48,oA 11 zS4,.m 10 47,.s 4 11 49] (rsq [.m 51 9,.m 52 10,.d 53 4 11,.m 54 1,.k 55 130 [53,54],.m 50 55,.x 56 50 0,.x 57 50 1,oJ 58 4 51 52,.s 4 58 56,.m 6 57] (rif [.m 59 6,oI 60 .neq 59 (zK 0)] 60 (rsq [oD 61 zS4 [],.m 62 6,.s 4 4 61,.m 5 62] .ret) .skip)))) (.ax [oI 63 .add 45 (zK 1),.m 45 63]))))))) (rsq [.m 64 9,.f 65 3 2,.s 1 65 64] (rsq [.d 66 4 2,.s 4 4 66,oK 5 0] .ret)))))))
abbrev Mn:List ak:=[.aW 4 4,.tmp 5]
def Mo:aq prog 130 2 Tryz.f130 c130 Mn:=.auto func130
def c131:AC:=rsq [oB 1 0,oA 2 zS4,oF 3] (rsq [.f 6 3 1,.l 7 6,oL 8 7,oI 9 .sub 8 (zK 1),.m 4 9] (.seq (rif [.f 10 0 1,.l 11 10,oI 12 .neq 11 (zK 6),.m 13 12,yX 14 3 1 13,yT 15 14 13,yW 16 4 13,.z 17 (.dm 4 15 16) 13,yX 18 0 17 13,yT 19 18 13,yB 20 .neq 19 (zK 3) 13,oP 21 13 zT 20,.m 22 21,yX 23 3 1 22,yT 24 23 22,yW 25 4 22,.z 26 (.dm 4 24 25) 22,yX 27 2 26 22,yT 28 27 22,yB 29 .neq 28 (zK 0) 22,oP 30 22 zT 29] 30 (rsq [oD 31 zS4 [],.s 4 2 31,oF 3] .ret) .skip) (.seq (drg [.f 32 3 1,.l 33 32,oJ 34 4 33 (zK 0),.d 35 4 34,.f 36 3 1,.l 37 36,.m 38 4,.o 39 (.gk 4 37 (some (zK 1)) (some 38) none),.k 40 69 [35,39],oA 5 zS4,.s 4 5 40] [109,0,1,2,3,4,5,6,7,8,310]) (.seq (rif [.d 41 4 5,.k 42 186 [41,(zK 0)]] 42 (rsq [oD 43 zS4 [],.s 4 2 43,oF 3] .ret) .skip) (rsq [.d 44 4 5,.k 45 187 [44,(zK 0),(zK (-1))],.s 4 2 45,oV 3] .ret)))))
abbrev Mp:List ak:=[.aW 4 2,.tmp 3]
def Mq:aq prog 131 1 Tryz.f131 c131 Mp:=.auto func131
def zR:AC:=rsq [oF 4] (.seq (rif [.m 7 0,.m 8 0,.k 9 188 [7,8],oU 10 .not 9,.m 11 10,yW 12 0 11,yW 13 1 11,.z 14 (.call (.k (.fn 188 [])) [12,13]) 11,.z 15 (.un .not 14) 11,oP 16 11 zT 15] 16 (rsq [oF 4] .ret) .skip) (rsq [.m 17 0,oL 18 17,.o 19 (.kP 3 8 (.int .i64 0) 18),.m 5 19] (.seq (rsq [.m 20 0,oL 21 20,oK 22 0] (.block 0 (.loop (rsq [oI 23 .lss 22 21] (.seq (.cond 23 .skip (.exit 0)) (.seq (.block 1 (rsq [.m 24 22,.m 6 24] (rif [.m 25 0,.m 26 6,.k 27 190 [26],.m 28 5,.k 29 189 [25,27,28],oU 30 .not 29] 30 (rsq [oF 4] .ret) .skip))) (.ax [oI 31 .add 22 (zK 1),.m 22 31]))))))) (rsq [oV 4] .ret))))
abbrev Mr:List ak:=[.tmp 4]
def D2:aq prog 132 2 Tryz.f132 zR Mr:=.auto func132
def zS:AC:=rsq [oB 3 1,oA 4 zS4] (rsq [.m 8 0,.d 9 4 3,.k 10 191 [8,9],.s 4 3 10] (.seq (rif [.f 11 0 3,.l 12 11,oI 13 .eql 12 (zK 1)] 13 (rsq [.d 14 4 3,.s 4 4 14] .ret) .skip) (rsq [.f 15 0 3,.l 16 15,.f 17 1 3,.l 18 17,oD 19 zS4 [(0,1,16),(1,1,18)],oA 5 zS4,.s 4 5 19] (.seq (rsq [.f 20 3 3,.l 21 20,oL 22 21,oK 23 0] (.block 0 (.loop (rsq [oI 24 .lss 23 22] (.seq (.cond 24 .skip (.exit 0)) (.seq (.block 1 (rsq [oJ 25 4 21 23,.d 26 4 25,oA 7 zS4,.s 4 7 26] (drg [.f 27 3 5,.l 28 27,.m 29 0,.d 30 4 7,.k 31 133 [29,30],oS 32 4 [31],oQ 33 34 4 56 28 32,.f 34 3 5,.s 1 34 33] [2,3,104,0,1,205,306,407,508]))) (.ax [oI 35 .add 23 (zK 1),.m 23 35]))))))) (rsq [.d 36 4 5,.s 4 4 36] .ret)))))
abbrev Ms:List ak:=[.aW 4 4]
def D3:aq prog 133 2 Tryz.f133 zS Ms:=.auto func133
def zU:AC:=rsq [.m 4 0,oL 5 4,oI 6 .sub 5 (zK 1),oK 2 0,.m 3 6] (forL 0 1 [.m 7 2,.m 8 3,oI 9 .lss 7 8] 9 (drg [.m 14 0,.m 15 2,.m 16 0,.m 17 3,.m 18 0,.m 19 3,oJ 20 8 18 19,.d 21 8 20,.m 22 0,.m 23 2,oJ 24 8 22 23,.d 25 8 24,oJ 26 8 14 15,.s 8 26 21,oJ 27 8 16 17,.s 8 27 25] [0,1,4,5,6,7,8,9,10,11,12,113,2,3,214,315]) [.m 10 2,oI 11 .add 10 (zK 1),.m 12 3,oI 13 .sub 12 (zK 1),.m 2 11,.m 3 13])
abbrev Mt:List ak:=[]
def D4:aq prog 180 1 Tryz.f180 zU Mt:=.auto func180
def c182:AC:=rsq [oK 4 0] (.seq (rsq [oK 5 4096] (forL 0 1 [.m 9 1,oL 10 9,oI 11 .gtr 10 (zK 0)] 11 (.seq (rif [.m 14 5,oI 15 .eql 14 (zK 0)] 15 (rsq [oK 4 62] .ret) .skip) (rsq [.m 16 1,.m 17 1,oL 18 17,oI 19 .sub 18 (zK 1),oJ 20 8 16 19,.d 21 8 20,oA 6 [zI,zC,zI,.ae [],zI,zC,zI,.ae []],.s 8 6 21] (rsq [.m 22 1,.m 23 1,oL 24 23,oI 25 .sub 24 (zK 1),.o 26 (.gk 8 22 none (some 25) none),.m 1 26] (rsq [.m 28 0,.f 29 0 6,.d 30 4 29,.f 31 4 6,.d 32 4 31,.k 33 227 [28,30,32],.m 27 33,.x 34 27 0,.x 35 27 1,.m 7 34,.m 8 35] (.seq (rif [.m 36 8,oI 37 .neq 36 (zK 0)] 37 (rsq [.m 38 8,.m 4 38] .ret) .skip) (rsq [.m 39 7,.k 40 180 [39]] (.ax [.m 41 1,.m 42 7,oQ 43 235 8 112 41 42,.m 1 43]))))))) [.m 12 5,oI 13 .sub 12 (zK 1),.m 5 13])) (rsq [oK 4 0] .ret))
abbrev pE:List ak:=[.tmp 4]
def D5:aq prog 182 2 Tryz.f182 c182 pE:=.auto func182
def D6:AC:=rsq [oB 2 0,oA 4 zS4,oK 5 0] (.seq (.block 0 (.loop (.seq (rif [.d 10 4 2,.k 11 230 [10]] 11 .skip (.exit 0)) (.block 1 (.seq (rif [.m 12 1,.n 13 12,.l 14 13,oI 15 .leq 14 (zK 0)] 15 (rsq [oD 16 zS4 [],.s 4 4 16,oK 5 80] .ret) .skip) (.seq (drg [.f 18 3 2,.l 19 18,oJ 20 4 19 (zK 0),.f 21 3 20,.l 22 21,oJ 23 4 22 (zK 0),.d 24 4 23,.f 25 3 2,.l 26 25,oJ 27 4 26 (zK 1),.d 28 4 27,.k 29 231 [24,28],.m 17 29,.x 30 17 0,.x 31 17 1,oA 6 zS4,.s 4 6 30,.m 7 31] [115,0,1,2,3,4,5,6,7,8,9,10,11,12,13,316,14,417]) (.seq (rif [.m 32 7,oI 33 .neq 32 (zK 0)] 33 (rsq [oD 34 zS4 [],.m 35 7,.s 4 4 34,.m 5 35] .ret) .skip) (rsq [.m 36 1,.n 37 36,.l 38 37,oI 39 .sub 38 (zK 1),.n 40 36,.s 1 40 39] (drg [.d 41 4 6,.f 42 3 2,.l 43 42,.o 44 (.gk 4 43 (some (zK 2)) none none),.k 45 69 [41,44],.s 4 2 45] [0,1,2,3,104,305]))))))))) (.seq (rif [.f 46 0 2,.l 47 46,oI 48 .neq 47 (zK 5)] 48 (rsq [.d 49 4 2,.s 4 4 49,oK 5 0] .ret) .skip) (rsq [.f 51 3 2,.l 52 51,oJ 53 4 52 (zK 0),.d 54 4 53,.m 55 1,.k 56 184 [54,55],.m 50 56,.x 57 50 0,.x 58 50 1,oA 8 zS4,.s 4 8 57,.m 9 58] (.seq (rif [.m 59 9,oI 60 .neq 59 (zK 0)] 60 (rsq [oD 61 zS4 [],.m 62 9,.s 4 4 61,.m 5 62] .ret) .skip) (rsq [.d 63 4 8,.k 64 118 [(zK 1),63],.s 4 4 64,oK 5 0] .ret)))))
abbrev Mu:List ak:=[.aW 4 4,.tmp 5]
def Mv:aq prog 184 2 Tryz.f184 D6 Mu:=.auto func184
def sZ:AC:=rsq [oB 2 0,oF 4] (rsq [.m 5 1,.o 6 (.gZ 236 [2]),.k 7 64 [5,6],oU 8 .not 7,.m 4 8] .ret)
abbrev Mw:List ak:=[.tmp 4]
def vD:aq prog 188 2 Tryz.f188 sZ Mw:=.auto func188
def s7:AC:=rsq [oB 3 0,oB 4 1,oB 5 2,oF 6] (.seq (rif [.f 8 0 4,.l 9 8,oI 10 .neq 9 (zK 1)] 10 (rsq [.f 11 3 4,.l 12 11,.o 13 (.gZ 237 [3,5]),.k 14 64 [12,13],oU 15 .not 14,.m 6 15] .ret) .skip) (.seq (.block 0 (rif [.l 17 5,.f 18 2 4,.l 19 18,oJ 20 1 17 19,.l 21 20,oI 22 .eql 21 (zK 1),.m 16 22] 16 (rsq [oF 6] .ret) (rif [.l 24 5,.f 25 2 4,.l 26 25,oJ 27 1 24 26,.l 28 27,oI 29 .eql 28 (zK 2),.m 30 29,yT 31 3 30,.z 32 (.ez 4 4) 30,.z 33 (.call (.k (.fn 238 [])) [31,32]) 30,.z 34 (.un .not 33) 30,oP 35 30 zT 34,.m 23 35] 23 (rsq [oV 6] .ret) .skip))) (rsq [.l 36 5,.f 37 2 4,.l 38 37,oJ 39 1 36 38,⟨none,.store 1 39 (zK 1),none⟩] (.seq (drg [.l 40 3,.l 41 3,.f 42 2 4,.l 43 42,oJ 44 4 41 43,.d 45 4 44,.l 46 5,.k 47 189 [40,45,46],.m 7 47] [0,1,2,3,4,5,6,107,208]) (rsq [.l 48 5,.f 49 2 4,.l 50 49,oJ 51 1 48 50,⟨none,.store 1 51 (zK 2),none⟩] (rsq [.m 52 7,.m 6 52] .ret))))))
abbrev s9:List ak:=[.tmp 6]
def zV:aq prog 189 3 Tryz.f189 s7 s9:=.auto func189
def D7:AC:=rsq [oA 2 zS4] (rsq [.m 3 0,oD 4 zS4 [(0,1,(zK 1)),(2,1,3)],.s 4 2 4] .ret)
abbrev Mx:List ak:=[.aW 4 2]
def My:aq prog 190 1 Tryz.f190 D7 Mx:=.auto func190
def zW:AC:=rsq [oB 3 1,oA 4 zS4] (.seq (.block 0 (.loop (.seq (rif [.m 5 0,.d 6 4 3,.k 7 238 [5,6]] 7 .skip (.exit 0)) (.block 1 (.ax [.m 8 0,.f 9 2 3,.l 10 9,oJ 11 4 8 10,.d 12 4 11,.s 4 3 12]))))) (rsq [.d 13 4 3,.s 4 4 13] .ret))
abbrev Mz:List ak:=[.aW 4 4]
def D8:aq prog 191 2 Tryz.f191 zW Mz:=.auto func191
def c227:AC:=rsq [oB 4 1,oB 5 2,oN 6,oK 7 0] (.seq (drg [.m 10 0,.d 11 4 4,.k 12 191 [10,11],.m 13 0,.d 14 4 5,.k 15 191 [13,14],.s 4 4 12,.s 4 5 15] [0,1,102,3,4,305,506,707]) (.seq (.block 0 (rif [.f 17 0 4,.l 18 17,oI 19 .eql 18 (zK 1),.m 20 19,yF 21 0 5 20,yL 22 21 20,yI 23 .eql 22 (zK 1) 20,oP 24 20 23 zF,.m 25 24,yF 26 2 4 25,yL 27 26 25,yF 28 2 5 25,yL 29 28 25,yI 30 .eql 27 29 25,oP 31 25 30 zF,.m 16 31] 16 (rsq [oN 6,oK 7 0] .ret) (rif [.f 33 0 4,.l 34 33,oI 35 .eql 34 (zK 1),.m 36 35,yF 37 0 5 36,yL 38 37 36,yI 39 .eql 38 (zK 1) 36,oP 40 36 39 zF,.m 32 40] 32 (.seq (drg [.m 41 0,.f 42 2 4,.l 43 42,.f 44 2 5,.l 45 44,.o 46 (.mx 43 45),.f 47 2 4,.l 48 47,.f 49 2 5,.l 50 49,.o 51 (.mn 48 50),.k 52 190 [51],.k 53 259 [41,46,52],oN 6,.m 7 53] [6,7,8,9,10,111,0,1,2,3,4,5,312,413,414]) .ret) (rif [.f 55 0 4,.l 56 55,oI 57 .eql 56 (zK 1),.m 54 57] 54 (rsq [.m 58 0,.f 59 2 4,.l 60 59,.d 61 4 5,.k 62 259 [58,60,61],oN 6,.m 7 62] .ret) (rif [.f 64 0 5,.l 65 64,oI 66 .eql 65 (zK 1),.m 63 66] 63 (rsq [.m 67 0,.f 68 2 5,.l 69 68,.d 70 4 4,.k 71 259 [67,69,70],oN 6,.m 7 71] .ret) (rif [.f 73 0 4,.l 74 73,.f 75 0 5,.l 76 75,oI 77 .neq 74 76,.m 78 77,yX 79 1 4 78,yT 80 79 78,yX 81 1 5 78,yT 82 81 78,yB 83 .neq 80 82 78,oP 84 78 zT 83,.m 85 84,yX 86 3 4 85,yT 87 86 85,.z 88 (.eM 87) 85,yX 89 3 5 85,yT 90 89 85,.z 91 (.eM 90) 85,yB 92 .neq 88 91 85,oP 93 85 zT 92,.m 72 93] 72 (rsq [oN 6,oK 7 60] .ret) .skip)))))) (rsq [oN 8] (.seq (rsq [.f 94 3 4,.l 95 94,oL 96 95,oK 97 0] (.block 1 (.loop (rsq [oI 98 .lss 97 96] (.seq (.cond 98 .skip (.exit 1)) (.seq (.block 2 (rsq [.m 99 97,.m 9 99] (drg [.m 100 8,.f 101 3 4,.l 102 101,.m 103 9,oJ 104 4 102 103,.d 105 4 104,.f 106 3 5,.l 107 106,.m 108 9,oJ 109 4 107 108,.d 110 4 109,oD 111 [zI,zC,zI,.ae [],zI,zC,zI,.ae []] [(0,4,105),(4,4,110)],oS 112 8 [111],oQ 113 235 8 112 100 112,.m 8 113] [0,1,2,3,4,5,6,7,8,9,10,11,12,113,214]))) (.ax [oI 114 .add 97 (zK 1),.m 97 114]))))))) (rsq [.m 115 8,.m 6 115,oK 7 0] .ret)))))
abbrev zX:List ak:=[.tmp 6,.tmp 7]
def lR:aq prog 227 3 Tryz.f227 c227 zX:=.auto func227
def zY:AC:=rsq [oB 1 0,oF 2] (rsq [.f 3 0 1,.l 4 3,oI 5 .eql 4 (zK 6),.m 6 5,yF 7 3 1 6,yL 8 7 6,yJ 9 4 8 (zK 0) 6,yF 10 0 9 6,yL 11 10 6,yI 12 .eql 11 (zK 5) 6,oP 13 6 12 zF,.m 2 13] .ret)
abbrev MA:List ak:=[.tmp 2]
def MB:aq prog 230 1 Tryz.f230 zY MA:=.auto func230
def c236:AC:=rsq [oB 2 0,oF 3] (.seq (drg [.d 4 4 2,.k 5 24 [4],oU 6 .not 5,.m 7 6,.z 8 (.ez 4 2) 7,.z 9 (.call (.k (.fn 74 [])) [8]) 7,yT 10 1 7,.z 11 (.eM 10) 7,yB 12 .gtr 9 11 7,oP 13 7 zT 12,.m 3 13] [0,101,202,203,204,305,206,207,408,409,410]) .ret)
abbrev MC:List ak:=[.tmp 3]
def D9:aq prog 236 2 Tryz.f236 c236 MC:=.auto func236
def Ea:AC:=rsq [oB 3 0,oF 4] (rsq [.l 5 1,.d 6 4 3,.l 7 2,.k 8 189 [5,6,7],oU 9 .not 8,.m 4 9] .ret)
abbrev Eb:List ak:=[.tmp 4]
def MD:aq prog 237 3 Tryz.f237 Ea Eb:=.auto func237
def qW:AC:=rsq [oB 3 1,oF 4] (.seq (drg [.f 5 0 3,.l 6 5,oI 7 .eql 6 (zK 1),.m 8 7,yV 9 0 8,yF 10 2 3 8,yL 11 10 8,yJ 12 4 9 11 8,yF 13 0 12 8,yL 14 13 8,yI 15 .neq 14 (zK 1) 8,yV 16 15 8,yW 17 0 16,yX 18 2 3 16,yT 19 18 16,.z 20 (.dm 4 17 19) 16,yX 21 2 20 16,yT 22 21 16,yX 23 2 3 16,yT 24 23 16,yB 25 .neq 22 24 16,.y 26 (.pick 16 zT 25) 8,oP 27 8 26 zF,.m 4 27] [0,1,2,3,4,5,6,7,8,9,10,11,12,13,14,15,16,17,18,19,20,21,22,23]) .ret)
abbrev ME:List ak:=[.tmp 4]
def Ec:aq prog 238 2 Tryz.f238 qW ME:=.auto func238
def zZ:AC:=rsq [oB 5 2,oK 6 0] (.seq (rif [.m 7 0,.m 8 1,.d 9 4 5,.o 10 (.lB),.k 11 279 [7,8,9,10]] 11 (rsq [oK 6 61] .ret) .skip) (rsq [.m 12 0,.m 13 1,.d 14 4 5,oJ 15 4 12 13,.s 4 15 14] (rsq [oK 6 0] .ret)))
abbrev MF:List ak:=[.tmp 6]
def Ed:aq prog 259 3 Tryz.f259 zZ MF:=.auto func259
def tc:AC:=rsq [oB 4 0,oB 5 1,oB 6 2,oB 7 3,oF 8] (.seq (rif [.l 9 4,.d 10 4 6,.k 11 238 [9,10]] 11 (.seq (rif [.l 12 7,.f 13 2 6,.l 14 13,.o 15 (.look false (.i .i64) (.bool false) 12 14)] 15 (rsq [oF 8] .ret) .skip) (rsq [.l 16 7,.f 17 2 6,.l 18 17,⟨none,.kQ (.i .i64) 16 18 zT,none⟩] (.seq (drg [.l 19 4,.l 20 5,.l 21 4,.f 22 2 6,.l 23 22,oJ 24 4 21 23,.d 25 4 24,.l 26 7,.k 27 279 [19,20,25,26],.m 8 27] [0,1,2,3,4,5,6,7,108,209]) .ret))) .skip) (.seq (rif [.f 28 0 6,.l 29 28,oI 30 .eql 29 (zK 1)] 30 (rsq [.f 31 2 6,.l 32 31,.l 33 5,oI 34 .eql 32 33,.m 8 34] .ret) .skip) (rsq [.f 35 3 6,.l 36 35,.o 37 (.gZ 288 [4,5,7]),.k 38 64 [36,37],.m 8 38] .ret)))
abbrev td:List ak:=[.tmp 8]
def vE:aq prog 279 4 Tryz.f279 tc td:=.auto func279
def Ee:AC:=rsq [oB 4 0,oF 5] (rsq [.l 6 1,.l 7 2,.d 8 4 4,.l 9 3,.k 10 279 [6,7,8,9],.m 5 10] .ret)
abbrev Ef:List ak:=[.tmp 5]
def MG:aq prog 288 4 Tryz.f288 Ee Ef:=.auto func288
end Go.Proofs.YtdlkenpilhakfaaGreatDoor
namespace Go.Proofs.YtdlkenpilhakfaaGreatDoor
open Go Go.RowKit Go.Lamb
structure vF where
 vars:Int
 head:aa
 body:aa
 deriving Inhabited
def vF.cs(c:vF):List C:=[.int .i64 c.vars,.int .i64 c.head.k,.str c.head.name,.int .i64 c.head.n,.sl (c.head.l.map aa.cs),.int .i64 c.body.k,.str c.body.name,.int .i64 c.body.n,.sl (c.body.l.map aa.cs)]
def vF.v(c:vF):V:=.agg [I c.vars,I c.head.k,S c.head.name,I c.head.n,.c (.sl (c.head.l.map aa.cs)),I c.body.k,S c.body.name,I c.body.n,.c (.sl (c.body.l.map aa.cs))]
def MH(t:aa):aa×List aa:=if t.k=6 then(t.l.headD .none,t.l.tail)else(t,[])
def hd(t:aa):aa:=(MH t).1
def ar(t:aa)(i:Nat):aa:=(MH t).2.getD i .none
def bk(t:aa):aa:=.mk 5 [] 0 [t]
end Go.Proofs.YtdlkenpilhakfaaGreatDoor
namespace Go.Proofs.YtdlkenpilhakfaaGreatDoor
open Go.RowKit Go.Lamb
section
def gM(seen:List Int):List (C×C):=seen.map fun n=>(C.int .i64 n,C.bool true)
def XE(seen:List Int):((gM seen).all fun p=>(KD.i aE).ok p.1)=true:=by
 unfold gM;rw[List.all_map,List.all_eq_true];intro x _;rfl
def MI(n:Int):∀(seen:List Int),ja (.int .i64 n) (gM seen)=if seen.contains n=true then some (.bool true)else none
 |[]=>by rw[if_neg (by simp)];rfl
 |x::l=>by
  show(if jE (C.int .i64 n) (C.int .i64 x)=true then _ else ja (.int .i64 n) (gM l))=_;rw[MI n l,List.contains_cons];have e:jE (C.int .i64 n) (C.int .i64 x)=(n==x):=rfl;rw[e];cases b:(n==x)<;>simp
def MJ(n:Int):∀(seen:List Int),seen.contains n=false->jb (.int .i64 n) (.bool true) (gM seen)=gM (seen++[n])
 |[],_=>rfl
 |x::l,h=>by
  rw[List.contains_cons,Bool.or_eq_false_iff]at h;show(if jE (C.int .i64 n) (C.int .i64 x)=true then _ else(C.int .i64 x,C.bool true)::jb (.int .i64 n) (.bool true) (gM l))=_;have e:jE (C.int .i64 n) (C.int .i64 x)=(n==x):=rfl;rw[e,h.1,MJ n l h.2];rfl
attribute [local go_sem] aa.v aa.aG aO aQ aL aH aM
end
end Go.Proofs.YtdlkenpilhakfaaGreatDoor
namespace Go.Lamb
open Go Go.RowKit
def aK(s:List aa):List C:=(s.map aa.cs).flatten
def gC(s:List aa):(aK s).length=s.length*4:=by unfold aK;rw[XC (fX s),bY]
def MK{s:List aa}{i:Nat}(b:i<s.length):dj 4 (gh (i*4) (aK s))=[.int .i64 s[i].k,.str s[i].name,.int .i64 s[i].n,.sl (s[i].l.map aa.cs)]:=by
 have h:=XB (fX s) (i:=i) (by rw[bY];exact b);rw[List.getElem_map,aa.aG]at h;exact h
def ob{s:List aa}{i:Nat}(b:i<s.length):dj 4 (gh (i*4) (gV V.c (aK s)))=[.c (.int .i64 s[i].k),.c (.str s[i].name),.c (.int .i64 s[i].n),.c (.sl (s[i].l.map aa.cs))]:=by
 rw[<-List.map_drop,<-List.map_take,MK b];rfl
def vG{s:List aa}{i:Nat}(b:i<s.length):(aK s)[i*4]?=some (.int .i64 s[i].k)/\(aK s)[i*4+2]?=some (.int .i64 s[i].n):=by
 have h:=MK b;have h0:=congrArg (fun l=>l[0]?) h;have c:=congrArg (fun l=>l[2]?) h;simpa[List.getElem?_take,List.getElem?_drop]using mq h0 c
def vH{s:List aa}{i:Nat}(b:i<s.length)(t:aa):dj (i*4) (aK s)++ .int .i64 t.k:: .str t.name:: .int .i64 t.n:: .sl (t.l.map aa.cs)::gh (i*4+4) (aK s)=aK (s.set i t):=by
 have h:=XD (fX s) (i:=i) (by rw[bY];exact b) t.cs (by rw[aa.aG];rfl);rw[aa.aG,dq]at h;unfold aK;rw[List.map_set,aa.aG];exact h
def nc{s:List aa}{i:Nat}(b:i<s.length):cq s (i:Int)=s[i]:=by
 unfold cq;rw[jX,cx,aN b,mi]
end Go.Lamb
namespace Go.Proofs.YtdlkenpilhakfaaGreatDoor
open Go.RowKit Go.Lamb
section
attribute [local go_sem] aa.v aa.aG aO aQ aL aH aM
def ML(w0:World)(n:Int)(σ:H):DC prog w0 190 [I n] σ (Same (aJ n).v σ):=by
 refine My.go rfl (fun b c=>?_);apply bl;simp only[go_sem,D7];exact wF b
def vI(w0:World)(s:List aa)(t:aa)(w:ay s.length t)(b:Nat)(σ:H)(E:σ[b]?=some (.vec 34 4 (aK s))):DC prog w0 238 [.vec b s.length,t.v] σ (Same (B (bJ s t)) σ):=by
 refine Ec.go rfl (fun c M=>?_);by_cases p:t.k=1
 ·obtain⟨h0,g,r,hl⟩:=w.var p;obtain⟨k,N,n,l⟩:=t;simp only[aO,aQ,aL,aH]at p h0 g r hl;subst p r hl;obtain⟨i,rfl⟩:=oY h0;have G:i<s.length:=by omega
  have e:bJ s (.mk 1 [] (i:Int) [])=!(s[i].k==1&&s[i].n==(i:Int)):=by
   unfold bJ;simp only[aO,aL,nc G];rfl
  rw[e];have h:=fun L=>hG E L;obtain⟨A,D⟩:=vG G;generalize s[i]=u at*;generalize aK s=F at*;clear e w;cases j:(u.k==1)
  ·apply bl;simp only[go_sem,qW];(apply W.aD (aF _ _);case hc=>((apply ab.aj;simp only[go_sem,h,h0,g,A,D,bne,j]);exact ab.nil));apply bl;simp only[go_sem];exact wF c
  ·cases J:(u.n==(i:Int))
   ·apply bl;simp only[go_sem,qW];(apply W.aD (aF _ _);case hc=>((apply ab.aj;simp only[go_sem,h,h0,g,A,D,bne,j,J]);exact ab.nil));apply bl;simp only[go_sem];exact wF c
   ·apply bl;simp only[go_sem,qW];(apply W.aD (aF _ _);case hc=>((apply ab.aj;simp only[go_sem,h,h0,g,A,D,bne,j,J]);exact ab.nil));apply bl;simp only[go_sem];exact wF c
 ·have j:(t.k==1)=false:=by simp[p]
  have e:bJ s t=false:=by unfold bJ;rw[j];rfl
  rw[e];clear w E e p;apply bl;simp only[go_sem,qW];(apply W.aD (aF _ _);case hc=>((apply ab.aj;simp only[go_sem,j]);exact ab.nil));apply bl;simp only[go_sem];exact wF c
def z6(w0:World)(s:List aa)(P:∀t∈s,ay s.length t)(t u:aa)(m:Nat)(A:eP s t u m)(D:ay s.length t)(b:Nat)(σ:H)(h:σ[b]?=some (.vec 34 4 (aK s))):DC prog w0 191 [.vec b s.length,t.v] σ (Same u.v σ):=by
 refine D8.go rfl (fun E Q=>?_);have G:=fun L=>hG h L;have hS:=fun(t:aa) (D:ay s.length t) (σ:H) (h:σ[b]?=some (.vec 34 4 (aK s)))=>vI w0 s t D b σ h;apply bl;simp only[go_sem,zW];refine W.aY (α:=aa×Nat) (fun x=>eP s x.1 u x.2/\ay s.length x.1) (fun x=>⟨(((base.put (some 0) (.vec b s.length)).put (some 3) (.ptr σ.length 0)).put (some 4) (.ptr (σ.length+1) 0)),σ++[.cells x.1.v.af,.cells [I 0,S [],I 0,.ae []]]⟩) (fun x=>x.2) (t,m) ⟨A,D⟩ ?_ (fun x j=>?_)
 ·exact wV
 obtain⟨x,n⟩:=x;obtain⟨A,j⟩:=j;simp only at A j;have c:=hS x j;cases A with
 |stop e=>
  rw[e]at c;apply bl;simp only[go_sem];(refine db (c _ (hG h _)) ?_;simp only[go_sem]);refine wN ?_;simp only[go_sem];exact wF E
 |go e r=>
  rw[e]at c;have R:=fk e;obtain⟨h0,g,_⟩:=j.var R;obtain⟨i,N⟩:=oY h0;rw[N]at r h0 g;have p:i<s.length:=by omega
  have O:ay s.length (cq s (i:Int)):=P _ (iN h0 g);rw[nc p]at r O;have w:=ob p;have J:i*4+4<=s.length*4:=by omega
  have M:=gC s;generalize s[i]=y at*;generalize aK s=F at*
  apply bl;simp only[go_sem];(refine db (c _ (hG h _)) ?_;simp only[go_sem]);refine wY ?_;simp only[go_sem,N,h0,g,G,w,J,M];refine .inv ⟨(y,_),⟨r,O⟩,by simp only;omega,?_⟩;exact wV
def MM{n:Nat}(hn:n<=1000000)(t:aa):ay n t->∀m:Int,0<=m->bS m t<=max m n/\m<=bS m t:=by
 refine aa.ind (P:=fun t=>ay n t->∀m:Int,0<=m->bS m t<=max m n/\m<=bS m t) (fun t r i m b=>?_) t;rw[yp];by_cases c:t.k=1
 ·obtain⟨h0,w,_⟩:=i.var c;rw[if_pos c];unfold jJ;have e:(if-1>t.n then-1 else t.n)=t.n:=if_neg (by omega);have hw:aE.wrap (t.n+1)=t.n+1:=by rw[a7]<;>omega
  rw[e,hw];split<;>omega
 ·rw[if_neg c];have key:∀(l:List aa),(∀u∈l,u∈t.l)->∀m:Int,0<=m->cc m l<=max m n/\m<=cc m l:=by
   intro l;induction l with
   |nil=>intro _ m b;rw[cc];omega
   |cons x l g=>
    intro j m b;rw[cc];have p:=j x (aZ ..);obtain⟨D,E⟩:=r x p (i.dA c p) m b;obtain⟨F,G⟩:=g (fun u A=>j u (bH _ A)) (bS m x) (by omega);omega
  exact key t.l (fun _ h=>h) m b
def MN(t:aa):iM t<=aw t:=by
 refine aa.ind (P:=fun t=>iM t<=aw t) (fun t e=>?_) t;rw[Ct,ct];split
 ·omega
 ·have key:∀(l:List aa),(∀u∈l,u∈t.l)->jI l<=bE l:=by
   intro l;induction l with
   |nil=>intro _;rw[jI,bE];omega
   |cons x l b=>
    intro c;rw[jI,bE];have:=e x (c x (aZ ..));have:=b (fun u g=>c u (bH _ g));omega
  have:=key t.l (fun _ h=>h);omega
def MO(w0:World){n:Nat}(b:Nat)(hn:n<=1000000)(t:aa)(c:ay n t)(u:aw t<=1000000)(p:Nat)(σ:H)(hp:σ[p]?=some (.cells [.vec b n])):DC prog w0 236 [t.v,.ptr p 0] σ (Same (B false) σ):=by
 refine D9.go rfl (fun e i=>?_);have g:=fun L=>hG hp L;have h:=fun σ=>qQ w0 t σ;rw[c.valid]at h;have j:=fun σ=>vv w0 t (by have:=MN t;omega) σ;have r:=(MM hn t c 0 (by omega)).1;have hg:¬bS 0 t>(n:Int):=by omega
 generalize bS 0 t=z at*
 clear c r;apply bl;simp only[go_sem,c236];apply W.aD (aF _ _)
 case hc=>
  (apply ab.aj;simp only[go_sem]);(apply ab.call (h _)<;>try rfl);(apply ab.aj;simp only[go_sem]);(apply ab.call (j _)<;>try rfl);(apply ab.aj;simp only[go_sem,g,hg,pj]);exact ab.nil
 apply bl;simp only[go_sem];exact wF e
def XF(w0:World)(hn:0<=1000000)(t:aa)(b:ay 0 t)(r:aw t<=1000000)(p:Nat)(σ:H)(hp:σ[p]?=some (.cells [.ae []])):DC prog w0 236 [t.v,.ptr p 0] σ (Same (B false) σ):=by
 refine D9.go rfl (fun c h=>?_);have e:=fun L=>hG hp L;have g:=fun σ=>qQ w0 t σ;rw[b.valid]at g;have i:=fun σ=>vv w0 t (by have:=MN t;omega) σ;have j:=(MM hn t b 0 (by omega)).1;have hg:¬bS 0 t>0:=by omega
 generalize bS 0 t=z at*
 clear b j;apply bl;simp only[go_sem,c236];apply W.aD (aF _ _)
 case hc=>
  (apply ab.aj;simp only[go_sem]);(apply ab.call (g _)<;>try rfl);(apply ab.aj;simp only[go_sem]);(apply ab.call (i _)<;>try rfl);(apply ab.aj;simp only[go_sem,e,hg,pj]);exact ab.nil
 apply bl;simp only[go_sem];exact wF c
def XG(w0:World)(s:List aa)(f:FuncId)(caps:List V)(b:Nat)(σ:H)(w:s.length<=1000000)(t:σ[b]?=some (.vec 34 4 (aK s)))(hp:∀o∈s,DC prog w0 f (o.v::caps) σ (Same (B false) σ)):DC prog w0 117 [.vec b s.length,.fn f caps] σ (Same (I (-1)) σ):=by
 refine zz.go rfl (fun h u=>?_);apply bl;simp only[go_sem,c117];refine W.aY (fun i=>i<=s.length) (fun i=>⟨((((base.put (some 0) (.vec b s.length)).put (some 1) (.fn f caps)).put (some 7) (I s.length)).put (some 8) (I i)),σ⟩) (fun i=>s.length-i) 0 (be _) ?_ (fun i A=>?_)
 ·exact wV
 by_cases c:i<s.length
 ·have g:((i:Int)<(s.length:Int)):=by omega
  have h0:(0:Int)<=(i:Int):=by omega
  have hw:aE.wrap ((i:Int)+1)=((i+1:Nat):Int):=by rw[a7]<;>omega
  have j:=hp s[i] (bg c);have e:=ob c;have p:i*4+4<=s.length*4:=by omega
  have r:=gC s;generalize s[i]=y at*;generalize aK s=F at*
  apply bl;simp only[go_sem,g];refine wY ?_;simp only[go_sem,g,h0,t,e,p,r];(refine db (j) ?_;simp only[go_sem]);refine wN ?_;simp only[go_sem,hw];refine .inv ⟨i+1,c,by omega,?_⟩;exact wV
 have g:¬((i:Int)<(s.length:Int)):=by omega
 apply bl;simp only[go_sem,g];refine wN ?_;simp only[go_sem];exact wF h
def XH(w0:World)(s:List aa)(f:FuncId)(caps:List V)(b:Nat)(σ:H)(e:s.length<=1000000)(g:σ[b]?=some (.vec 34 4 (aK s)))(hp:∀o∈s,DC prog w0 f (o.v::caps) σ (Same (B false) σ)):DC prog w0 64 [.vec b s.length,.fn f caps] σ (Same (B false) σ):=by
 refine zy.go rfl (fun c h=>?_);have i:=XG w0 s f caps b σ e g hp;apply bl;simp only[go_sem,sS];(refine db (i) ?_;simp only[go_sem]);exact wF c
def XI(w0:World){α:Type}(U:α->H)(m:Nat)(r:∀a,(U a).length=m)(h:∀a c,H.ok (U a)->H.ok (U c))(l:List aa)(hl:l.length<=1000000)(f:FuncId)(caps:List V)(st:Nat->α)(k:Nat)(F:k<=l.length)
  (t:∀i (A:i<l.length),i<k->DC prog w0 f (l[i].v::caps) (U (st i)) (Same (B false) (U (st (i+1))))) (j:∀A:k<l.length,DC prog w0 f (l[k].v::caps) (U (st k)) (Same (B true) (U (st (k+1))))):
  DC prog w0 117 [.c (.sl (l.map aa.cs)),.fn f caps] (U (st 0)) (Same (I (if k<l.length then(k:Int)else-1)) (U (st (if k<l.length then k+1 else k)))):=by
 refine zz.go rfl (fun w E=>?_);have e:=fun a=>h _ a w;apply bl;simp only[go_sem,c117,r];refine W.aY (fun i=>i<=k) (fun i=>⟨((((base.put (some 0) (.c (.sl (l.map aa.cs)))).put (some 1) (.fn f caps)).put (some 7) (I l.length)).put (some 8) (I i)),U (st i)⟩) (fun i=>k-i) 0 (be _) ?_ (fun i A=>?_)
 ·exact wV
 by_cases b:i<l.length
 ·have g:((i:Int)<(l.length:Int)):=by omega
  have h0:(0:Int)<=(i:Int):=by omega
  have D:l[i]?=some l[i]:=aN b;have hw:aE.wrap ((i:Int)+1)=((i+1:Nat):Int):=by rw[a7]<;>omega
  by_cases p:i<k
  ·have hp:=t i b p;generalize l[i]=u at*
   apply bl;simp only[go_sem,g];refine wY ?_;simp only[go_sem,g,h0,D];(refine db (hp) ?_;simp only[go_sem]);refine wN ?_;simp only[go_sem,hw];refine .inv ⟨i+1,p,by omega,?_⟩;exact wV
  ·obtain rfl:i=k:=by omega
   have hp:=j b;rw[if_pos b,if_pos b];generalize l[i]=u at*
   apply bl;simp only[go_sem,g];refine wY ?_;simp only[go_sem,g,h0,D];(refine db (hp) ?_;simp only[go_sem]);refine wY ?_;simp only[go_sem];(refine W.fg (e _) (d:=I (i:Int)) (by simp only[sT,go_sem];rfl) (by simp only[aT,go_sem];exact aR) ?_ (hn:=(r _)));exact⟨rfl,rfl⟩
 obtain rfl:i=k:=by omega
 have g:¬((i:Int)<(l.length:Int)):=by omega
 rw[if_neg b,if_neg b];apply bl;simp only[go_sem,g];refine wN ?_;simp only[go_sem];(refine W.fg (e _) (d:=I (-1)) (by simp only[sT,go_sem];rfl) (by simp only[aT,go_sem];exact aR) ?_ (hn:=(r _)));exact⟨rfl,rfl⟩
def MP(w0:World){α:Type}(U:α->H)(m:Nat)(p:∀a,(U a).length=m)(g:∀a c,H.ok (U a)->H.ok (U c))(l:List aa)(hl:l.length<=1000000)(f:FuncId)(caps:List V)(st:Nat->α)(k:Nat)(w:k<=l.length)
  (j:∀i (A:i<l.length),i<k->DC prog w0 f (l[i].v::caps) (U (st i)) (Same (B false) (U (st (i+1))))) (e:∀A:k<l.length,DC prog w0 f (l[k].v::caps) (U (st k)) (Same (B true) (U (st (k+1))))):
  DC prog w0 64 [.c (.sl (l.map aa.cs)),.fn f caps] (U (st 0)) (Same (B (decide (k<l.length))) (U (st (if k<l.length then k+1 else k)))):=by
 have r:=XI w0 U m p g l hl f caps st k w j e;refine zy.go rfl (fun t D=>?_);have h:=fun a=>g _ a t;by_cases b:k<l.length
 ·rw[if_pos b,if_pos b]at r;rw[if_pos b,decide_eq_true b];have u:(k:Int)>=0:=by omega
  clear j e;apply bl;simp only[go_sem,sS,p];(refine db (r) ?_;simp only[go_sem,u]);(refine W.fg (h _) (d:=B true) (by simp only[vt,go_sem];rfl) (by simp only[aT,go_sem];exact aR) ?_ (hn:=(p _)));exact⟨rfl,rfl⟩
 ·rw[if_neg b,if_neg b]at r;rw[if_neg b,decide_eq_false b];clear j e;apply bl;simp only[go_sem,sS,p];(refine db (r) ?_;simp only[go_sem]);(refine W.fg (h _) (d:=B false) (by simp only[vt,go_sem];rfl) (by simp only[aT,go_sem];exact aR) ?_ (hn:=(p _)));exact⟨rfl,rfl⟩
def XJ(w0:World)(s:List aa)(hn:s.length<=1000000)(hl:∀t∈s,ay s.length t/\aw t<=1000000)(σ:H)(b:Nat)(g:σ[b]?=some (.vec 34 4 (aK s))):DC prog w0 188 [.vec b s.length,.vec b s.length] σ (Same (B true) σ):=by
 refine vD.go rfl (fun c h=>?_);have i:=XH w0 s 236 [.ptr σ.length 0] b (σ++[.cells [.vec b s.length]]) hn (hG g _) (fun o e=>MO w0 b hn o (hl o e).1 (hl o e).2 σ.length _ (by simp));apply bl;simp only[go_sem,sZ];(refine db (i) ?_;simp only[go_sem]);exact wF c
def XK(w0:World)(s:List aa)(hn:s.length<=1000000)(l:List aa)(hl:∀t∈l,ay s.length t/\aw t<=1000000)(σ:H)(b:Nat)(j:σ[b]?=some (.vec 34 4 (aK s))):DC prog w0 188 [.vec b s.length,.c (.sl (l.map aa.cs))] σ (Same (B true) σ):=by
 refine vD.go rfl (fun e i=>?_);have g:=zE w0 l 236 [.ptr σ.length 0] (fun _=>false) (σ++[.cells [.vec b s.length]]) (fun o h=>MO w0 b hn o (hl o h).1 (hl o h).2 σ.length _ (by simp));rw[show l.any (fun _=>false)=false by simp]at g;apply bl;simp only[go_sem,sZ];(refine db (g) ?_;simp only[go_sem]);exact wF e
def XL(w0:World)(σ:H):DC prog w0 188 [.ae [],.ae []] σ (Same (B true) σ):=by
 refine vD.go rfl (fun b e=>?_);have c:=zE w0 [] 236 [.ptr σ.length 0] (fun _=>false) (σ++[.cells [.ae []]]) (fun o g=>by cases g);simp only[cP,List.any_nil]at c;apply bl;simp only[go_sem,sZ];(refine W.fV (c) ?_;simp only[go_sem]);exact wF b
def XM(w0:World)(l:List aa)(hl:∀t∈l,ay 0 t/\aw t<=1000000)(σ:H):DC prog w0 188 [.ae [],.c (.sl (l.map aa.cs))] σ (Same (B true) σ):=by
 refine vD.go rfl (fun b h=>?_);have e:=zE w0 l 236 [.ptr σ.length 0] (fun _=>false) (σ++[.cells [.ae []]]) (fun o g=>XF w0 (by decide) o (hl o g).1 (hl o g).2 σ.length _ (by simp));rw[show l.any (fun _=>false)=false by simp]at e;apply bl;simp only[go_sem,sZ];(refine db (e) ?_;simp only[go_sem]);exact wF b
def fm(st:List Int):List C:=st.map (C.int .i64)
def XN{st:List Int}{i:Nat}(b:i<st.length):(fm st)[i]?=some (.int .i64 (dP st (i:Int))):=by
 unfold fm dP;rw[List.getElem?_map,aN b,jX,cx,aN b];rfl
def MQ{st:List Int}{i:Nat}(b:i<st.length)(x:Int):dj i (fm st)++C.int .i64 x::gh (i+1) (fm st)=fm (st.set i x):=by
 unfold fm;rw[List.map_set,List.set_eq_take_append_cons_drop,if_pos (by rw[bY];exact b)]
structure nd (s:List aa) (b bs m:Nat) (U:List Int->H):Prop where
 len:∀a,(U a).length=m
 ok:∀a c X,H.ok (U a++X)->H.ok (U c++X)
 sub:∀a,(U a)[b]?=some (.vec 34 4 (aK s))
 st:∀a,(U a)[bs]?=some (.vec 3 1 (fm a))
 set:∀a c,(U a).set bs (.vec 3 1 (fm c))=U c
def nd.ext{s:List aa}{b bs m:Nat}{U:List Int->H}(h:nd s b bs m U)(L:H):nd s b bs (m+L.length) (fun a=>U a++L) where
 len:=fun a=>by rw[bC,h.len]
 ok:=fun a c X e=>by rw[dq]at e⊢;exact h.ok a c _ e
 sub:=fun a=>hG (h.sub a) L
 st:=fun a=>hG (h.st a) L
 set:=fun a c=>by rw[hS (h.st a),h.set]
def XO(w0:World){s:List aa}{b bs m:Nat}{U:List Int->H}(F:nd s b bs m U)(st p:List Int)(t:aa)(A:t.k≠1)
  (D:DC prog w0 64 [.c (.sl (t.l.map aa.cs)),.fn 237 [.ptr m 0,.ptr (m+2) 0]] (U st++[.cells [.vec b s.length],.cells t.v.af,.cells [.vec bs s.length]]) (Same (B false) (U p++[.cells [.vec b s.length],.cells t.v.af,.cells [.vec bs s.length]]))):
  DC prog w0 189 [.vec b s.length,t.v,.vec bs s.length] (U st) (Same (B true) (U p)):=by
 refine zV.go rfl (fun u E=>?_);have e:=F.len;have r:=fun c=>by have:=F.ok st c [];simp only[cd]at this;exact this u
 have g:=fun a L=>hG (F.sub a) L;have h:=fun a L=>hG (F.st a) L;have cR:=fun a c L=>by have:=hS (F.st a) (.vec 3 1 (fm c)) L;rw[F.set]at this;exact this
 have i:∀a x L,(U a++x::L)[m]?=some x:=fun a=>jq (e a);have tg:∀a k L,(U a++L)[m+k]?=L[k]?:=fun a=>il (e a);have j:∀a x L,(U a++L).set m x=U a++L.set 0 x:=fun a=>lf (e a);have w:∀a k x L,(U a++L).set (m+k) x=U a++L.set k x:=fun a=>lg (e a);have G:(t.k==1)=false:=by simp[A]
 simp only[aa.v,V.af,aM]at D;clear A;apply bl;simp only[go_sem,s7,bne,G,e,i,tg,j,w,g,h];refine wY ?_;simp only[go_sem,e,i,tg,j,w,g,h];(refine db (D) ?_;simp only[go_sem,e,i,tg,j,w,g,h]);(refine W.fg (r _) (d:=B true) (by simp only[s9,go_sem];rfl) (by simp only[aT,go_sem];exact aR) ?_ (hn:=(e _)));exact⟨rfl,rfl⟩
def MR(w0:World){s:List aa}{b bs m:Nat}{U:List Int->H}(F:nd s b bs m U)(st:List Int)(t:aa)(ht:ay s.length t)(hst':st.length=s.length)(Q:t.k=1)(M:dP st t.n≠1):
  ((dP st t.n=2\/bJ s t=false)->DC prog w0 189 [.vec b s.length,t.v,.vec bs s.length] (U st) (Same (B true) (U st)))/\
  (bJ s t=true->dP st t.n≠2->∀w,w.length=s.length->(∀L,DC prog w0 189 [.vec b s.length,(cq s t.n).v,.vec bs s.length] (U (st.set t.n.toNat 1)++L) (Same (B true) (U w++L)))->DC prog w0 189 [.vec b s.length,t.v,.vec bs s.length] (U st) (Same (B true) (U (w.set t.n.toNat 2)))):=by
 obtain⟨h0,r,N,hl⟩:=ht.var Q;have D:=fun(σ:H) hb=>vI w0 s t ht b σ hb;obtain⟨k,nm,n,l⟩:=t;simp only[aO,aQ,aL,aH]at Q h0 r N hl M⊢;subst Q N hl;obtain⟨i,rfl⟩:=oY h0;have hi:i<s.length:=by omega
 have J:=XN (st:=st) (i:=i) (by omega);have R:(dP st (i:Int)==1)=false:=by simp[M]
 constructor
 ·intro T;refine zV.go rfl (fun G X=>?_);have e:=F.len;have A:=fun c=>by have:=F.ok st c [];simp only[cd]at this;exact this G
  have g:=fun a L=>hG (F.sub a) L;have h:=fun a L=>hG (F.st a) L;have cR:=fun a c L=>by have:=hS (F.st a) (.vec 3 1 (fm c)) L;rw[F.set]at this;exact this
  have j:∀a x L,(U a++x::L)[m]?=some x:=fun a=>jq (e a);have tg:∀a k L,(U a++L)[m+k]?=L[k]?:=fun a=>il (e a);have p:∀a x L,(U a++L).set m x=U a++L.set 0 x:=fun a=>lf (e a);have u:∀a k x L,(U a++L).set (m+k) x=U a++L.set k x:=fun a=>lg (e a);by_cases E:dP st (i:Int)=2
  ·have O:(dP st (i:Int)==2)=true:=by simp[E]
   generalize dP st (i:Int)=q at*;clear T E M;apply bl;simp only[go_sem,s7,bne,e,j,tg,p,u,g,h];refine wN ?_;simp only[go_sem,e,j,tg,p,u,g,h,h0,r,J,R,eK];refine wN ?_;simp only[go_sem,e,j,tg,p,u,g,h,h0,r,J,O,eK];refine wY ?_;simp only[go_sem,e,j,tg,p,u,g,h];(refine W.fg (A _) (d:=B true) (by simp only[s9,go_sem];rfl) (by simp only[aT,go_sem];exact aR) ?_ (hn:=(e _)));exact⟨rfl,rfl⟩
  ·have O:(dP st (i:Int)==2)=false:=by simp[E]
   have Y:=T.resolve_left E;rw[Y]at D;generalize dP st (i:Int)=q at*;clear T E M;apply bl;simp only[go_sem,s7,bne,e,j,tg,p,u,g,h];refine wN ?_;simp only[go_sem,e,j,tg,p,u,g,h,h0,r,J,R,eK];refine wN ?_;simp only[go_sem,e,j,tg,p,u,g,h,h0,r,J,O,eK];(refine db (D _ (g _ _)) ?_;simp only[go_sem,e,j,tg,p,u,g,h]);refine wY ?_;simp only[go_sem,e,j,tg,p,u,g,h];(refine W.fg (A _) (d:=B true) (by simp only[s9,go_sem];rfl) (by simp only[aT,go_sem];exact aR) ?_ (hn:=(e _)))
   exact⟨rfl,rfl⟩
 ·intro Y E w hl' Z;refine zV.go rfl (fun G X=>?_);have e:=F.len;have A:=fun c=>by have:=F.ok st c [];simp only[cd]at this;exact this G
  have g:=fun a L=>hG (F.sub a) L;have h:=fun a L=>hG (F.st a) L;have cR:=fun a c L=>by have:=hS (F.st a) (.vec 3 1 (fm c)) L;rw[F.set]at this;exact this
  have j:∀a x L,(U a++x::L)[m]?=some x:=fun a=>jq (e a);have tg:∀a k L,(U a++L)[m+k]?=L[k]?:=fun a=>il (e a);have p:∀a x L,(U a++L).set m x=U a++L.set 0 x:=fun a=>lf (e a);have u:∀a k x L,(U a++L).set (m+k) x=U a++L.set k x:=fun a=>lg (e a);have O:(dP st (i:Int)==2)=false:=by simp[E]
  rw[Y]at D;rw[jX]at Z⊢;have s1:=MQ (st:=st) (i:=i) (by omega) 1;have s2:=MQ (st:=w) (i:=i) (by omega) 2;have b1:i+1<=(fm st).length:=by unfold fm;rw[bY];omega
  have b2:i+1<=(fm w).length:=by unfold fm;rw[bY];omega
  rw[nc hi]at Z;have P:=ob hi;have hle:i*4+4<=s.length*4:=by omega
  have hFl:=gC s;generalize s[i]=y at*;generalize dP st (i:Int)=q at*;generalize st.set i 1=st1 at*;generalize w.set i 2=st2 at*;generalize aK s=F' at*;clear E M;apply bl;simp only[go_sem,s7,bne,e,j,tg,p,u,g,h];refine wN ?_;simp only[go_sem,e,j,tg,p,u,g,h,h0,r,J,R,eK];refine wN ?_;simp only[go_sem,e,j,tg,p,u,g,h,h0,r,J,O,eK];(refine db (D _ (g _ _)) ?_;simp only[go_sem,e,j,tg,p,u,g,h]);refine wN ?_;simp only[go_sem,e,j,tg,p,u,g,h,h0,r,eK,b1,s1,cR];apply W.aD (aF _ _)
  case hc=>
   (apply ab.aj;simp only[go_sem,e,j,tg,p,u,g,h,h0,r,P,hle,hFl]);(apply ab.call (Z _)<;>try rfl);(apply ab.aj;simp only[go_sem,e,j,tg,p,u,g,h]);exact ab.nil
  apply bl;simp only[go_sem,e,j,tg,p,u,g,h,h0,r,eK,b2,s2,cR];(refine W.fg (A _) (d:=B true) (by simp only[s9,go_sem];rfl) (by simp only[aT,go_sem];exact aR) ?_ (hn:=(e _)));exact⟨rfl,rfl⟩
def XQ(w0:World){s:List aa}{b bs m:Nat}{U:List Int->H}(F:nd s b bs m U)(st i:List Int)(t:aa)(p q:Nat)(h:∀L,DC prog w0 189 [.vec b s.length,t.v,.vec bs s.length] (U st++L) (Same (B true) (U i++L)))
  (hp:∀a,(U a)[p]?=some (.cells [.vec b s.length])) (J:∀a,(U a)[q]?=some (.cells [.vec bs s.length])):DC prog w0 237 [t.v,.ptr p 0,.ptr q 0] (U st) (Same (B false) (U i)):=by
 refine MD.go rfl (fun A M=>?_);have e:=F.len;have j:=fun c=>by have:=F.ok st c [];simp only[cd]at this;exact this A
 have g:=fun a L=>hG (F.sub a) L;have r:=fun a L=>hG (F.st a) L;have cR:=fun a c L=>by have:=hS (F.st a) (.vec 3 1 (fm c)) L;rw[F.set]at this;exact this
 have u:∀a x L,(U a++x::L)[m]?=some x:=fun a=>jq (e a);have tg:∀a k L,(U a++L)[m+k]?=L[k]?:=fun a=>il (e a);have w:∀a x L,(U a++L).set m x=U a++L.set 0 x:=fun a=>lf (e a);have G:∀a k x L,(U a++L).set (m+k) x=U a++L.set k x:=fun a=>lg (e a);have D:=fun a L=>hG (hp a) L;have E:=fun a L=>hG (J a) L;apply bl;simp only[go_sem,Ea,e,u,tg,w,G,g,r,D,E];(refine db (h _) ?_;simp only[go_sem,e,u,tg,w,G,g,r]);(refine W.fg (j _) (d:=B false) (by simp only[Eb,go_sem];rfl) (by simp only[aT,go_sem];exact aR) ?_ (hn:=(e _)))
 exact⟨rfl,rfl⟩
mutual
def Eg{s:List aa}:∀{st b:List Int} {t:aa},nP s st t b->st.length=s.length->b.length=s.length
 |_,_,_,.gK c r,h=>MS r h
 |_,_,_,.stop c e g,h=>h
 |_,_,_,.go i e g r,h=>by rw[bz];exact Eg r (by rw[bz];exact h)
def MS{s:List aa}:∀{st b:List Int} {l:List aa},qw s st l b->st.length=s.length->b.length=s.length
 |_,_,_,.nil,h=>h
 |_,_,_,.cons r rs,h=>MS rs (Eg r h)
end
def lj:∀(l:List aa),l.length<=bE l
 |[]=>by rw[bE];exact aA _
 |x::l=>by
  rw[bE,bG];have:=Ii x;have:=lj l;omega
mutual
def Eh(w0:World){s:List aa}(G:∀t∈s,ay s.length t){b bs:Nat}:∀{st e:List Int} {t:aa},nP s st t e->ay s.length t->st.length=s.length->(∀x∈s,aw x<=1000000)->aw t<=1000000->∀{m:Nat} {U:List Int->H},nd s b bs m U->e.length=s.length/\DC prog w0 189 [.vec b s.length,t.v,.vec bs s.length] (U st) (Same (B true) (U e))
 |st,e,t,.gK g r,j,hl,p,hn,m,U,F=>by
  obtain⟨J,Y,Z,e2,D⟩:=MT w0 G r (fun u M=>j.dA g M) hl p (fun u M=>by have:=jm M;rw[ct]at hn;omega) (b:=b) (bs:=bs);have N:t.l.length<=1000000:=by rw[ct]at hn;have:=lj t.l;omega
  have E:=F.ext [.cells [.vec b s.length],.cells t.v.af,.cells [.vec bs s.length]];have T:=MP w0 (fun a=>U a++[.cells [.vec b s.length],.cells t.v.af,.cells [.vec bs s.length]]) _ E.len (fun a c h=>by have:=E.ok a c [];simp only[cd]at this;exact this h) t.l N 237 [.ptr m 0,.ptr (m+2) 0] J t.l.length (aA _) (fun i O _=>XQ w0 E _ _ _ _ _ (fun L=>D i O (E.ext L)) (fun a=>jq (F.len a) _ _) (fun a=>il (F.len a) 2 _)) (fun O=>absurd O (p8 _));rw[if_neg (p8 _),decide_eq_false (p8 _),Y,Z]at T;exact⟨e2,XO w0 F st e t g T⟩
 |st,_,t,.stop g P Q,j,hl,p,hn,m,U,F=>⟨hl,(MR w0 F st t j hl g P).1 Q⟩
 |st,_,t,.go w P Q r,j,hl,p,hn,m,U,F=>by
  have g:=fk w;obtain⟨h0,R,_⟩:=j.var g;have X:=iN h0 R;have D:=fun L=>Eh w0 G r (G _ X) (by rw[bz];exact hl) p (p _ X) (b:=b) (bs:=bs) (F.ext L);have A:=(D []).1;exact⟨by rw[bz];exact A,(MR w0 F st t j hl g P).2 w Q _ A (fun L=>(D L).2)⟩
def MT(w0:World){s:List aa}(p:∀t∈s,ay s.length t){b bs:Nat}:∀{st e:List Int} {l:List aa},qw s st l e->(∀u∈l,ay s.length u)->st.length=s.length->(∀x∈s,aw x<=1000000)->(∀u∈l,aw u<=1000000)->∃c:Nat->List Int,c 0=st/\c l.length=e/\e.length=s.length/\∀i (g:i<l.length),∀{m:Nat} {U:List Int->H},nd s b bs m U->DC prog w0 189 [.vec b s.length,l[i].v,.vec bs s.length] (U (c i)) (Same (B true) (U (c (i+1))))
 |st,_,_,.nil,_,hl,_,_=>⟨fun _=>st,rfl,rfl,hl,fun i g=>absurd g (fe _)⟩
 |st,e,_,.cons (t:=t) (l:=l) (st1:=st1) r rs,w,hl,A,hn=>by
  have D:=fun(m:Nat) (U:List Int->H) (F:nd s b bs m U)=>Eh w0 p r (w t (aZ ..)) hl A (hn t (aZ ..)) F;have h:st1.length=s.length:=Eg r hl;obtain⟨c,E,G,J,L⟩:=MT w0 p rs (fun u j=>w u (bH _ j)) h A (fun u j=>hn u (bH _ j)) (b:=b) (bs:=bs);refine⟨fun i=>match i with|0=>st|i+1=>c i,rfl,G,J,fun i g m U F=>?_⟩;cases i with
  |zero=>simp only[E];exact(D _ _ F).2
  |succ i=>exact L i (by simpa using g) F
end
def vJ(w0:World){N:Nat}{s:List aa}(D:bO N s)(hN:N<=1000000)(hn:s.length<=1000000)(l:List aa)(hl:∀t∈l,ay s.length t/\aw t<=1000000)(σ:H)(b:Nat)(p:σ[b]?=some (.vec 34 4 (aK s))):DC prog w0 132 [.vec b s.length,.c (.sl (l.map aa.cs))] σ (Same (B true) σ):=by
 refine D2.go rfl (fun J T=>?_);have L:∀t∈s,ay s.length t/\aw t<=1000000:=fun t R=>⟨D.right.holds t R,by have:=D.size t R;omega⟩;have E:=fun(σ:H) p=>XJ w0 s hn L σ b p;have U:=fun(σ:H) p=>XK w0 s hn l hl σ b p;have Y:=fun n σ=>ML w0 n σ;obtain⟨Z,hL⟩:=D.right.less;have c0:(0:Int)<=(s.length:Int):=by omega
 have c1:8*(s.length:Int)<=140737488355328:=by omega
 have c2:(s.length:Int)<=140737488355328:=by omega
 have hbl:=(aI.1 p).1;have F:nd s b σ.length (σ.length+1) (fun a=>σ++[.vec 3 1 (fm a)]):={
  len:=fun a=>by simp
  ok:=fun a c X h=>by
   intro B g cs tg hc x A;have M:(σ++[ad.vec 3 1 (fm a)]++X).length=(σ++[ad.vec 3 1 (fm c)]++X).length:=by simp
   rw[<-M];rcases cJ.1 g with g|g
   ·rcases cJ.1 g with g|g
    ·exact h B (kM _ (kM _ g)) cs tg hc x A
    ·simp at g;subst g;cases hc
   ·exact h B (Bh _ g) cs tg hc x A
  sub:=fun a=>hG p _
  st:=fun a=>by simp
  set:=fun a c=>by simp}
 have G:tS s.length (C.int .i64 0)=fm (tS s.length 0):=by unfold fm;rw[List.map_replicate]
 apply bl;simp only[go_sem,zR];(refine db (E _ p) ?_;simp only[go_sem]);(refine db (U _ p) ?_;simp only[go_sem]);refine wN ?_;simp only[go_sem,c0,c1,c2,G];refine W.aY (α:=Nat×List Int) (fun x=>x.1<=s.length/\x.2.length=s.length/\∀u:Int,0<=u->u<s.length->dP x.2 u≠1) (fun x=>⟨((((base.put (some 0) (.vec b s.length)).put (some 5) (.vec σ.length s.length)).put (some 21) (I s.length)).put (some 22) (I (x.1:Nat))),σ++[.vec 3 1 (fm x.2)]⟩) (fun x=>s.length-x.1) (0,tS s.length 0) ⟨be _,by simp,fun u h0 E=>?_⟩ ?_ (fun x A=>?_)
 ·unfold dP;rw[cx,List.getElem?_replicate,if_pos (by omega)];decide
 ·exact wV
 obtain⟨i,st⟩:=x;obtain⟨hi,j,w⟩:=A;simp only at hi j w;by_cases O:i<s.length
 ·have g1:((i:Int)<(s.length:Int)):=by omega
  have hw:aE.wrap ((i:Int)+1)=((i+1:Nat):Int):=by rw[a7]<;>omega
  have P:ay s.length (aJ (i:Int)):=ij (by omega) g1 hn;obtain⟨m,hm⟩:=uX Z P;obtain⟨Q,r,p1,p2⟩:=Tu hL m (aJ (i:Int)) st j P hm (fun u h0 E hu=>absurd hu (w u h0 (by omega)));have hE:=(Eh w0 D.right.holds r P j (fun x A=>by have:=D.size x A;omega) (by rw[ct];simp[aJ,aa.l,bE]) F).2;apply bl;simp only[go_sem,g1];refine wY ?_;simp only[go_sem];(refine db (Y _ _) ?_;simp only[go_sem]);(refine db (hE) ?_;simp only[go_sem]);refine wN ?_;simp only[go_sem,hw];refine .inv ⟨(i+1,Q),⟨O,p1.trans j,fun u h0 E e=>w u h0 E ((p2 u h0 (by omega)).1 e)⟩,by simp only;omega,?_⟩
  exact wV
 obtain rfl:i=s.length:=by omega
 have g1:¬(((s.length:Nat):Int)<((s.length:Nat):Int)):=by omega
 apply bl;simp only[go_sem,g1];refine wN ?_;simp only[go_sem];exact wF J
def MU(w0:World)(l:List aa)(hl:∀t∈l,ay 0 t/\aw t<=1000000)(σ:H):DC prog w0 132 [.ae [],.c (.sl (l.map aa.cs))] σ (Same (B true) σ):=by
 refine D2.go rfl (fun b e=>?_);have g:=fun(σ:H)=>XL w0 σ;have h:=fun(σ:H)=>XM w0 l hl σ;apply bl;simp only[go_sem,zR];(refine db (g _) ?_;simp only[go_sem]);(refine db (h _) ?_;simp only[go_sem]);refine wN ?_;simp only[go_sem,pj];refine W.aY (α:=Unit) (fun _=>True) (fun _=>⟨(((base.put (some 0) (.ae [])).put (some 21) (I 0)).put (some 22) (I 0)),σ⟩) (fun _=>0) () trivial ?_ (fun _ _=>?_)
 ·exact wD b
 apply bl;simp only[go_sem];refine wN ?_;simp only[go_sem];exact wF b
def vK{σ:H}(h:H.ok σ)(m e n:Nat)(cs:List C):H.ok (σ.set m (.vec e n cs)):=by
 intro b hb cs' tg hc x c;rw[bz];rcases List.mem_or_eq_of_mem_set hb with hb|hb
 ·exact h b hb cs' tg hc x c
 ·rw[hb]at hc;cases hc
structure kD (s:List aa) (b bm m:Nat) (U:List Int->H):Prop where
 len:∀a,(U a).length=m
 ok:∀a c X,H.ok (U a++X)->H.ok (U c++X)
 sub:∀a,(U a)[b]?=some (.vec 34 4 (aK s))
 mp:∀a,(U a)[bm]?=some (.mp (gM a))
 set:∀a c,(U a).set bm (.mp (gM c))=U c
def kD.ext{s:List aa}{b bm m:Nat}{U:List Int->H}(h:kD s b bm m U)(L:H):kD s b bm (m+L.length) (fun a=>U a++L) where
 len:=fun a=>by rw[bC,h.len]
 ok:=fun a c X e=>by rw[dq]at e⊢;exact h.ok a c _ e
 sub:=fun a=>hG (h.sub a) L
 mp:=fun a=>hG (h.mp a) L
 set:=fun a c=>by rw[hS (h.mp a),h.set]
def XR(w0:World){s:List aa}{b bm m:Nat}{U:List Int->H}(F:kD s b bm m U)(v:Int)(u p:List Int)(t:aa)(M:ay s.length t)(E:t.k≠1)(r:Bool)
  (J:DC prog w0 64 [.c (.sl (t.l.map aa.cs)),.fn 288 [.ptr m 0,.ptr (m+1) 0,.ptr (m+3) 0]] (U u++[.cells [.vec b s.length],.cells [I v],.cells t.v.af,.cells [.mp bm]]) (Same (B r) (U p++[.cells [.vec b s.length],.cells [I v],.cells t.v.af,.cells [.mp bm]]))):
  DC prog w0 279 [.vec b s.length,I v,t.v,.mp bm] (U u) (Same (B r) (U p)):=by
 have w:=fun(σ:H) N=>vI w0 s t M b σ N;rw[show bJ s t=false by unfold bJ;simp[E]]at w;refine vE.go rfl (fun G O=>?_);have e:=F.len;have A:=fun c=>by have:=F.ok u c [];simp only[cd]at this;exact this G
 have g:=fun a L=>hG (F.sub a) L;have h:=fun a L=>hG (F.mp a) L;have cR:=fun a c L=>by have:=hS (F.mp a) (.mp (gM c)) L;rw[F.set]at this;exact this
 have i:∀a x L,(U a++x::L)[m]?=some x:=fun a=>jq (e a);have tg:∀a k L,(U a++L)[m+k]?=L[k]?:=fun a=>il (e a);have j:∀a x L,(U a++L).set m x=U a++L.set 0 x:=fun a=>lf (e a);have D:∀a k x L,(U a++L).set (m+k) x=U a++L.set k x:=fun a=>lg (e a);have P:(t.k==1)=false:=by simp[E]
 simp only[aa.v,V.af,aM]at J;clear E;apply bl;simp only[go_sem,tc,bne,e,i,tg,j,D,g,h];(refine db (w _ (g _ _)) ?_;simp only[go_sem,e,i,tg,j,D,g,h]);refine wN ?_;simp only[go_sem,e,i,tg,j,D,g,h,P];refine wN ?_;simp only[go_sem,e,i,tg,j,D,g,h];(refine db (J) ?_;simp only[go_sem,e,i,tg,j,D,g,h]);(refine W.fg (A _) (d:=B r) (by simp only[td,go_sem];rfl) (by simp only[aT,go_sem];exact aR) ?_ (hn:=(e _)));exact⟨rfl,rfl⟩
def XT(w0:World){s:List aa}{b bm m:Nat}{U:List Int->H}(F:kD s b bm m U)(v:Int)(p:List Int)(t:aa)(G:ay s.length t)(D:t.k=1)(E:bJ s t=false):
  DC prog w0 279 [.vec b s.length,I v,t.v,.mp bm] (U p) (Same (B (t.n==v)) (U p)):=by
 have r:=fun(σ:H) J=>vI w0 s t G b σ J;rw[E]at r;refine vE.go rfl (fun A M=>?_);have e:=F.len;have u:=fun c=>by have:=F.ok p c [];simp only[cd]at this;exact this A
 have g:=fun a L=>hG (F.sub a) L;have h:=fun a L=>hG (F.mp a) L;have cR:=fun a c L=>by have:=hS (F.mp a) (.mp (gM c)) L;rw[F.set]at this;exact this
 have i:∀a x L,(U a++x::L)[m]?=some x:=fun a=>jq (e a);have tg:∀a k L,(U a++L)[m+k]?=L[k]?:=fun a=>il (e a);have j:∀a x L,(U a++L).set m x=U a++L.set 0 x:=fun a=>lf (e a);have w:∀a k x L,(U a++L).set (m+k) x=U a++L.set k x:=fun a=>lg (e a);have N:(t.k==1)=true:=by simp[D]
 clear D E;apply bl;simp only[go_sem,tc,bne,e,i,tg,j,w,g,h];(refine db (r _ (g _ _)) ?_;simp only[go_sem,e,i,tg,j,w,g,h]);refine wN ?_;simp only[go_sem,e,i,tg,j,w,g,h,N];refine wY ?_;simp only[go_sem,e,i,tg,j,w,g,h];(refine W.fg (u _) (d:=B (t.n==v)) (by simp only[td,go_sem];rfl) (by simp only[aT,go_sem];exact aR) ?_ (hn:=(e _)));exact⟨rfl,rfl⟩
def MV(w0:World){s:List aa}{b bm m:Nat}{U:List Int->H}(F:kD s b bm m U)(v:Int)(h:List Int)(t:aa)(Q:ay s.length t)(R:bJ s t=true):
  (h.contains t.n=true->DC prog w0 279 [.vec b s.length,I v,t.v,.mp bm] (U h) (Same (B false) (U h)))/\
  (h.contains t.n=false->∀A r,(∀L,DC prog w0 279 [.vec b s.length,I v,(cq s t.n).v,.mp bm] (U (h++[t.n])++L) (Same (B r) (U A++L)))->DC prog w0 279 [.vec b s.length,I v,t.v,.mp bm] (U h) (Same (B r) (U A))):=by
 have G:=fun(σ:H) hb=>vI w0 s t Q b σ hb;rw[R]at G;have hf:=MI t.n h;have ha:=XE h;have E:(KD.i aE).ok (C.int aE t.n)=true:=rfl;constructor
 ·intro hc;rw[if_pos hc]at hf;refine vE.go rfl (fun J T=>?_);have e:=F.len;have D:=fun c=>by have:=F.ok h c [];simp only[cd]at this;exact this J
  have g:=fun a L=>hG (F.sub a) L;have j:=fun a L=>hG (F.mp a) L;have cR:=fun a c L=>by have:=hS (F.mp a) (.mp (gM c)) L;rw[F.set]at this;exact this
  have p:∀a x L,(U a++x::L)[m]?=some x:=fun a=>jq (e a);have tg:∀a k L,(U a++L)[m+k]?=L[k]?:=fun a=>il (e a);have u:∀a x L,(U a++L).set m x=U a++L.set 0 x:=fun a=>lf (e a);have w:∀a k x L,(U a++L).set (m+k) x=U a++L.set k x:=fun a=>lg (e a);clear R Q hc;apply bl;simp only[go_sem,tc,bne,e,p,tg,u,w,g,j];(refine db (G _ (g _ _)) ?_;simp only[go_sem,e,p,tg,u,w,g,j]);refine wY ?_;simp only[go_sem,e,p,tg,u,w,g,j,ha,E,hf,o5,mi];refine wY ?_;simp only[go_sem,e,p,tg,u,w,g,j]
  (refine W.fg (D _) (d:=B false) (by simp only[td,go_sem];rfl) (by simp only[aT,go_sem];exact aR) ?_ (hn:=(e _)));exact⟨rfl,rfl⟩
 ·intro hc A r Z;rw[hc,if_neg (by simp)]at hf;have hu:=MJ t.n h hc;obtain⟨h0,M,_⟩:=Q.var (fk R);obtain⟨i,N⟩:=oY h0;have O:i<s.length:=by omega
  rw[N,nc O]at Z;rw[N]at hu hf E h0 M;have P:=ob O;have X:i*4+4<=s.length*4:=by omega
  have Y:=gC s;refine vE.go rfl (fun J T=>?_);have e:=F.len;have D:=fun c=>by have:=F.ok h c [];simp only[cd]at this;exact this J
  have g:=fun a L=>hG (F.sub a) L;have j:=fun a L=>hG (F.mp a) L;have cR:=fun a c L=>by have:=hS (F.mp a) (.mp (gM c)) L;rw[F.set]at this;exact this
  have p:∀a x L,(U a++x::L)[m]?=some x:=fun a=>jq (e a);have tg:∀a k L,(U a++L)[m+k]?=L[k]?:=fun a=>il (e a);have u:∀a x L,(U a++L).set m x=U a++L.set 0 x:=fun a=>lf (e a);have w:∀a k x L,(U a++L).set (m+k) x=U a++L.set k x:=fun a=>lg (e a);generalize s[i]=y at*;generalize aK s=F' at*;generalize h++[(i:Int)]=met1 at*;clear R Q hc;apply bl;simp only[go_sem,tc,bne,e,p,tg,u,w,g,j];(refine db (G _ (g _ _)) ?_;simp only[go_sem,e,p,tg,u,w,g,j])
  refine wY ?_;simp only[go_sem,e,p,tg,u,w,g,j,N,ha,E,hf,o5,Option.getD_none];refine wN ?_;simp only[go_sem,e,p,tg,u,w,g,j,N,ha,E,hu,cR];apply W.aD (aF _ _)
  case hc=>
   (apply ab.aj;simp only[go_sem,e,p,tg,u,w,g,j,N,h0,M,P,X,Y]);(apply ab.call (Z _)<;>try rfl);(apply ab.aj;simp only[go_sem,e,p,tg,u,w,g,j]);exact ab.nil
  apply bl;simp only[go_sem,e,p,tg,u,w,g,j];(refine W.fg (D _) (d:=B r) (by simp only[td,go_sem];rfl) (by simp only[aT,go_sem];exact aR) ?_ (hn:=(e _)));exact⟨rfl,rfl⟩
def MW(w0:World){s:List aa}{b bm m:Nat}{U:List Int->H}(F:kD s b bm m U)(v:Int)(j g:List Int)(t:aa)(r:Bool)(p q o:Nat)(h:∀L,DC prog w0 279 [.vec b s.length,I v,t.v,.mp bm] (U j++L) (Same (B r) (U g++L)))
  (hp:∀a,(U a)[p]?=some (.cells [.vec b s.length])) (O:∀a,(U a)[q]?=some (.cells [I v])) (P:∀a,(U a)[o]?=some (.cells [.mp bm])):DC prog w0 288 [t.v,.ptr p 0,.ptr q 0,.ptr o 0] (U j) (Same (B r) (U g)):=by
 refine MG.go rfl (fun E Q=>?_);have e:=F.len;have u:=fun c=>by have:=F.ok j c [];simp only[cd]at this;exact this E
 have i:=fun a L=>hG (F.sub a) L;have w:=fun a L=>hG (F.mp a) L;have cR:=fun a c L=>by have:=hS (F.mp a) (.mp (gM c)) L;rw[F.set]at this;exact this
 have A:∀a x L,(U a++x::L)[m]?=some x:=fun a=>jq (e a);have tg:∀a k L,(U a++L)[m+k]?=L[k]?:=fun a=>il (e a);have D:∀a x L,(U a++L).set m x=U a++L.set 0 x:=fun a=>lf (e a);have N:∀a k x L,(U a++L).set (m+k) x=U a++L.set k x:=fun a=>lg (e a);have G:=fun a L=>hG (hp a) L;have J:=fun a L=>hG (O a) L;have M:=fun a L=>hG (P a) L;apply bl;simp only[go_sem,Ee,e,A,tg,D,N,i,w,G,J,M];(refine db (h _) ?_;simp only[go_sem,e,A,tg,D,N,i,w]);(refine W.fg (u _) (d:=B r) (by simp only[Ef,go_sem];rfl) (by simp only[aT,go_sem];exact aR) ?_ (hn:=(e _)))
 exact⟨rfl,rfl⟩
mutual
def z7(w0:World){s:List aa}(A:∀t∈s,ay s.length t)(D:∀x∈s,aw x<=1000000){b bm:Nat}{v:Int}:∀{met e:List Int} {t:aa} {r:Bool},gv s v met t r e->ay s.length t->aw t<=1000000->∀{m:Nat} {U:List Int->H},kD s b bm m U->DC prog w0 279 [.vec b s.length,I v,t.v,.mp bm] (U met) (Same (B r) (U e))
 |met,_,t,_,.seen h E,g,hn,m,U,F=>(MV w0 F v met t g h).1 E
 |met,e,t,G,.go h E r,g,hn,m,U,F=>by
  have j:=fk h;obtain⟨h0,J,_⟩:=g.var j;have T:=iN h0 J;exact(MV w0 F v met t g h).2 E e G (fun L=>z7 w0 A D r (A _ T) (D _ T) (b:=b) (bm:=bm) (F.ext L))
 |met,_,t,_,.var h j,g,hn,m,U,F=>XT w0 F v met t g j h
 |met,e,t,G,.gK j r,g,hn,m,U,F=>by
  obtain⟨M,k,N,Y,Z,e2,O,w⟩:=MX w0 A D r (fun u P=>g.dA j P) (fun u P=>by have:=jm P;rw[ct]at hn;omega) (b:=b) (bm:=bm);have hl:t.l.length<=1000000:=by rw[ct]at hn;have:=lj t.l;omega
  have p:=F.ext [.cells [.vec b s.length],.cells [I v],.cells t.v.af,.cells [.mp bm]];have X:=MP w0 (fun a=>U a++[.cells [.vec b s.length],.cells [I v],.cells t.v.af,.cells [.mp bm]]) _ p.len (fun a c h=>by have:=p.ok a c [];simp only[cd]at this;exact this h) t.l hl 288 [.ptr m 0,.ptr (m+1) 0,.ptr (m+3) 0] M k N
   (fun i Q R=>MW w0 p v _ _ _ _ _ _ _ (fun L=>O i Q R (p.ext L)) (fun a=>jq (F.len a) _ _) (fun a=>il (F.len a) 1 _) (fun a=>il (F.len a) 3 _))
   (fun Q=>MW w0 p v _ _ _ _ _ _ _ (fun L=>w Q (p.ext L)) (fun a=>jq (F.len a) _ _) (fun a=>il (F.len a) 1 _) (fun a=>il (F.len a) 3 _))
  rw[Y,<-Z,<-e2]at X;exact XR w0 F v met e t g j G X
def MX(w0:World){s:List aa}(w:∀t∈s,ay s.length t)(A:∀x∈s,aw x<=1000000){b bm:Nat}{v:Int}:∀{met c:List Int} {l:List aa} {r:Bool},nQ s v met l r c->(∀u∈l,ay s.length u)->(∀u∈l,aw u<=1000000)->∃(e:Nat->List Int) (k:Nat),k<=l.length/\e 0=met/\r=decide (k<l.length)/\c=e (if k<l.length then k+1 else k)/\
  (∀i (g:i<l.length),i<k->∀{m:Nat} {U:List Int->H},kD s b bm m U->DC prog w0 279 [.vec b s.length,I v,l[i].v,.mp bm] (U (e i)) (Same (B false) (U (e (i+1)))))/\
  (∀(g:k<l.length),∀{m:Nat} {U:List Int->H},kD s b bm m U->DC prog w0 279 [.vec b s.length,I v,l[k].v,.mp bm] (U (e k)) (Same (B true) (U (e (k+1)))))
 |met,_,_,_,.nil,_,_=>⟨fun _=>met,0,aA _,rfl,rfl,rfl,fun i g=>absurd g (fe _),fun g=>absurd g (fe _)⟩
 |met,c,_,_,.yes (t:=t) (l:=l) r,p,hn=>by
  have D:=fun(m:Nat) (U:List Int->H) (F:kD s b bm m U)=>z7 w0 w A r (p t (aZ ..)) (hn t (aZ ..)) F;exact⟨fun i=>match i with|0=>met|_+1=>c,0,be _,rfl,by simp,by simp,fun i _ g=>absurd g (fe _),fun g m U F=>D _ _ F⟩
 |met,c,_,_,.no (m1:=m1) (t:=t) (l:=l) r rs,p,hn=>by
  have D:=fun(m:Nat) (U:List Int->H) (F:kD s b bm m U)=>z7 w0 w A r (p t (aZ ..)) (hn t (aZ ..)) F;obtain⟨e,k,J,L,M,N,E,j⟩:=MX w0 w A rs (fun u G=>p u (bH _ G)) (fun u G=>hn u (bH _ G)) (b:=b) (bm:=bm);refine⟨fun i=>match i with|0=>met|i+1=>e i,k+1,by rw[bG];omega,rfl,by rw[M,bG];simp,?_,fun i g O m U F=>?_,fun g m U F=>?_⟩
  ·rw[N,bG];by_cases h:k<l.length
   ·rw[if_pos h,if_pos (by omega)]
   ·rw[if_neg h,if_neg (by omega)]
  ·cases i with
   |zero=>simp only[L];exact D _ _ F
   |succ i=>exact E i (by simpa using g) (by omega) F
  ·exact j (by simpa using g) F
end
def XU(s:List aa)(b:Nat)(σ:H)(j:σ[b]?=some (.vec 34 4 (aK s)))(X:ad):kD s b (σ.length+1) (σ.length+2) (fun a=>σ++[X,.mp (gM a)]) where
 len:=fun a=>by simp
 ok:=fun a c L h=>by
  intro B e cs tg hc x g;have i:(σ++[X,.mp (gM a)]++L).length=(σ++[X,.mp (gM c)]++L).length:=by simp
  rw[<-i];rcases cJ.1 e with e|e
  ·rcases cJ.1 e with e|e
   ·exact h B (kM _ (kM _ e)) cs tg hc x g
   ·simp only[cD,iZ,or_false]at e;rcases e with rfl|rfl
    ·exact h B (kM _ (Bh _ (aZ ..))) cs tg hc x g
    ·cases hc
  ·exact h B (Bh _ e) cs tg hc x g
 sub:=fun a=>hG j _
 mp:=fun a=>by
  rw[List.getElem?_append_right (by omega),fu];rfl
 set:=fun a c=>by
  rw[List.set_append_right _ _ (by omega),fu];rfl
def XV(w0:World){N:Nat}{s:List aa}(M:bO N s)(Y:N<=1000000)(v:Int)(t:aa)(T:ay s.length t)(hn:aw t<=N)(h0:0<=v)(u:v<s.length)(e:Int)(s':List aa)(U:jK s v t e s')(b:Nat)(σ:H)(g:σ[b]?=some (.vec 34 4 (aK s))):
  DC prog w0 259 [.vec b s.length,I v,t.v] σ (Same (I e) (σ.set b (.vec 34 4 (aK s')))):=by
 have O:=fun r w (h:gv s v [] t r w)=>z7 w0 M.right.holds (fun x X=>by have:=M.size x X;omega) h T (by omega) (XU s b σ g (.cells t.v.af));have P:gM []=[]:=rfl;cases U with
 |yes h=>
  have j:=O _ _ h;simp only[P,aa.v,V.af,aM]at j;rw[qp g];refine Ed.go rfl (fun c A=>?_);apply bl;simp only[go_sem,zZ];(refine db (j) ?_;simp only[go_sem]);refine wY ?_;simp only[go_sem];exact wF c
 |no h=>
  have j:=O _ _ h;simp only[P,aa.v,V.af,aM]at j;obtain⟨i,rfl⟩:=oY h0;have D:i<s.length:=by omega
  have cR:=vH D t;have E:i*4+4<=s.length*4:=by omega
  have F:=gC s;have Q:=(aI.1 g).1;rw[jX];generalize aK (s.set i t)=R at*;generalize aK s=Z at*
  have G:=fun L=>hG g L;have J:=fun L=>hS g (.vec 34 4 R) L;refine Ed.go rfl (fun c A=>?_);have p:H.ok (σ.set b (.vec 34 4 R)):=vK c b _ _ _;apply bl;simp only[go_sem,zZ];(refine db (j) ?_;simp only[go_sem]);refine wN ?_;simp only[go_sem,h0,u,G,E,F,cR,J];exact wF p
