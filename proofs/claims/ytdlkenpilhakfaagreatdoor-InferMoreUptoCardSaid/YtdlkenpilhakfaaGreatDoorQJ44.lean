/- . -/
import Derived.Test.YtdlkenpilhakfaaGreatDoorQJ43
import Derived.Test.YtdlkenpilhakfaaGreatDoorQJ17
import Derived.Test.YtdlkenpilhakfaaGreatDoorQJ14
import Derived.Test.YtdlkenpilhakfaaGreatDoorQTyA2
import Derived.Test.YtdlkenpilhakfaaGreatDoorQJ16
import Derived.Deep.QuietTactic
import Derived.Test.YtdlkenpilhakfaaGreatDoorQJ38
import Derived.Test.YtdlkenpilhakfaaGreatDoorQJ39
import Derived.Test.YtdlkenpilhakfaaGreatDoorQJ42
import Derived.Test.YtdlkenpilhakfaaGreatDoorQTm3
import Derived.Test.YtdlkenpilhakfaaGreatDoorChecked
set_option linter.unusedSimpArgs false
set_option linter.unusedVariables false
set_option maxHeartbeats 8000000
set_option maxRecDepth 20000
open And renaming intro->fb
open Array renaming replicate_succ->wj,replicate_zero->wm
open Bool renaming and_eq_true->bz
open Classical renaming choose->Fm,choose_spec->Fo
open Decidable renaming of_not_not->Fp
open Fin renaming val->iS
open Go renaming cell_kept->gA,grownBy_putObj'->sQ,heap_alloc_old->zZ
open Go.IntKind renaming i64->aW
open Go.KeepsOthers renaming setCell->wx
open Go.RowKit.Below renaming refl->ep
open Go.World renaming cell?_alloc_at->wu,cell?_setCell_same'->wv
open Int renaming le_refl->eG,toNat_natCast->jX
open List renaming all_eq_true->cL,append_assoc->dc,append_nil->cq,append_toArray->wq,cons_append->iR,cons_ne_nil->aS,drop->fV,drop_append_of_le_length->Oi,eq_nil_of_length_eq_zero->fA,getD_eq_getElem?_getD->cc,getElem?_append_left->cF,getElem?_append_right->cY,getElem?_eq_getElem->aR,getElem?_eq_some_iff->aK,getElem?_set_ne->bX,getElem?_set_self->ct,getElem_map->dE,getElem_mem->bw,getElem_of_mem->fU,length_append->bt,length_cons->bo,length_drop->kO,length_map->cd,length_nil->cM,length_set->bC,length_take->eu,map_append->dX,mem_append->cH,mem_cons->cD,mem_cons_of_mem->bW,mem_cons_self->bp,mem_map->dK,mem_range->jW,mem_singleton->lM,nil_append->er,push_toArray->wo,set_append_right->iQ,singleton_append->aae,size_toArray->oV,take->dM,take_length->oZ,take_succ_cons->ey,take_zero->dj
open Nat renaming add_sub_cancel_left->fm,add_zero->mS,le_add_right->oY,le_refl->aA,le_trans->bB,mul_add->jn,mul_one->gN,reduceAdd->dL,reduceSub->sK,sub_self->ck,zero_add->eF,zero_le->bx
open Ne renaming symm->di
open Option renaming getD_some->ir,isSome_some->sL
open Go.Proofs.Tryz
namespace Go.Lamb
open Go Go.RowKit
def eX:List C:=[.int .i64 0,.str [],.int .i64 0,.sl []]
def oH(n:Nat):List C:=[.int .i64 1,.str [],.int .i64 n,.sl []]
def lx:List V:=[.c (.int .i64 0),.c (.str []),.c (.int .i64 0),.ab []]
def cP(n:Nat):List V:=[.c (.int .i64 1),.c (.str []),.c (.int .i64 n),.ab []]
def eY(e:Nat)(σ σ1:H)(b o:Nat)(cs:List V)(tg:Option TypeId)(n:Nat)(pre:List C)(a s c:Bool):H:=
 (bif c then σ1.set b (.cells (cs.take o++[.vec (σ.length+2) (n+1)]++cs.drop (o+1)) tg)else bif a then σ1 else σ)++(.cells lx none:: .cells (cP n) none::(bif a then[.vec e 4 (pre++bif s then oH n else eX)]else[]))
section
variable {P:Program} {w0:World} {l0:List aj} {S:(Nat->Bool)->H->Prop} {k:Nat} {o:aj} {ρ ρ':Env} {v:V}
theorem YG.pure(hg:bU ρ o.guard=some true)(h:∀τ,step ρ τ o.ins=some (v,τ))(hS:∀L σ,S L σ->S (jx L k) σ):YG P w0 l0 S k o ρ v:=fun L _ _ _=>.step hg fun σ hσ=>⟨σ,h σ,hS L σ hσ⟩
end
end Go.Lamb
namespace Go.Proofs.YtdlkenpilhakfaaGreatDoor
open Go.RowKit Go.Lamb
section
variable {P:Program} {w0:World} {l0:List aj}
def LS:List aj:=[.m 10 0,.n 11 10,.f 12 3 11,.l 13 12,.d 14 4 3,.o 15 (.aO (.t 13)),.o 16 (.bn 4 [(.k (.agg [.c (.int .i64 0),.c (.str []),.c (.int .i64 0),.ab []]))]),.o 17 (.app 34 4 56 (.t 13) (.t 16)),.o 18 (.aI 4 (.t 17) (.t 15)),.s 4 18 14,.n 19 10,.f 20 3 19,.s 1 20 17]
def yW(ρ:Env)(b o N n:Nat)(y:V):Env:=(((((((((((((ρ.put (some 10) (.ptr b o)).put (some 11) (.ptr b o)).put (some 12) (.ptr b (o+3))).put (some 13) y).put (some 14) (.agg (cP n))).put (some 15) (.c (.int .i64 n))).put (some 16) (.ab [eX])).put (some 17) (.vec (N+2) (n+1))).put (some 18) (.ptr (N+2) (n*4))).put none .void).put (some 19) (.ptr b o)).put (some 20) (.ptr b (o+3))).put none .void)
theorem vd{L:Nat->Bool}(hcl:Ay l0 L)(k j:Nat)(hk:k<l0.length)(hj:j∈pe l0 k)(h:L j=false):L k=false:=by
 cases hq:L k with
 |false=>rfl
 |true=>rw[hcl k hk hq j hj]at h;cases h
theorem LU{e:Nat}{σ σ1:H}{b o:Nat}{cs:List V}{tg:Option TypeId}{n:Nat}{pre:List C}{a s c:Bool}(h1:σ1.length=σ.length):∃X,eY e σ σ1 b o cs tg n pre a s c=X++(.cells lx none:: .cells (cP n) none::(bif a then[.vec e 4 (pre++bif s then oH n else eX)]else[]))/\X.length=σ.length:=by
 refine⟨_,rfl,?_⟩;cases c<;>cases a<;>simp[h1]
theorem LV(σ σ1:H)(b o n:Nat)(hn:n<=1000000)(cs:List V)(tg:Option TypeId)(hb:σ[b]?=some (.cells cs tg))(hb1:σ1[b]?=some (.cells cs tg))(hl1:σ1.length=σ.length)(y:V)(hy:cs[o+3]?=some y)(pre:List C)(hpl:pre.length=n*4)
  (hlen:∀(ρ:Env) (τ:H),ρ 13=y->Lamb.step ρ τ (.aO (.t 13))=some (.c (.int .i64 n),τ))
  (happ:∀(ρ:Env) (o:aj),o.guard=none->o.ins= .app 34 4 56 (.t 13) (.t 16)->ρ 13=y->ρ 16= .ab [eX]->dG P w0 (fun x=>x=σ++[.cells lx none,.cells (cP n) none]) (fun x=>x=σ1++[.cells lx none,.cells (cP n) none,.vec 34 4 (pre++eX)]) o ρ (.vec (σ.length+2) (n+1)))
  (ρ:Env) (h0:ρ 0= .ptr b o) (h3:ρ 3= .ptr (σ.length+1) 0):
  oa P w0 LS (fun L x=>x=eY 34 σ σ1 b (o+3) cs tg n pre (L 7) (L 9) (L 12)) 0 LS ρ (yW ρ b o σ.length n y):=by
 have hlt:b<σ.length:=(aK.1 hb).1;unfold yW;have P1:∀{ρ:Env} {d k:Nat} {v:V},k≠d->(ρ.put (some d) v) k=ρ k:=fun h=>by simp only[Env.put];rw[if_neg h]
 have P2:∀{ρ:Env} {d:Nat} {v:V},(ρ.put (some d) v) d=v:=by intro ρ d v;simp[Env.put]
 have P3:∀{ρ:Env} {v:V},ρ.put none v=ρ:=fun{_ _}=>rfl;refine .cons (v:=.ptr b o) (YG.pure rfl (fun τ=>by simp only[Lamb.step,ai.ev,h0]) (fun L x h=>h)) ?_;refine .cons (v:=.ptr b o) (YG.pure rfl (fun τ=>by simp only[Lamb.step,ai.ev,P2]) (fun L x h=>h)) ?_;refine .cons (v:=.ptr b (o+3)) (YG.pure rfl (fun τ=>by simp only[Lamb.step,ai.ev,P2]) (fun L x h=>h)) ?_;refine .cons (v:=y) ?_ ?_
 ·intro L hcl hk hpre;have h7:L 7=false:=vd hcl 7 3 (by decide) (by decide) hk;have h12:L 12=false:=vd hcl 12 7 (by decide) (by decide) h7;refine .step rfl fun x hx=>⟨x,?_,hx⟩;subst hx;rw[h7,h12];have:(eY 34 σ σ1 b (o+3) cs tg n pre false (L 9) false)[b]?=some (.cells cs tg):=by
   unfold eY;simp only[cond_false];rw[cF hlt];exact hb
  simp only[Lamb.step,ai.ev,P2,iV,this,hy]
 refine .cons (v:=.agg (cP n)) ?_ ?_
 ·intro L hcl hk hpre;refine .step rfl fun x hx=>⟨x,?_,hx⟩;subst hx;obtain⟨X,hX,hXl⟩:=LU (e:=34) (b:=b) (o:=o+3) (cs:=cs) (tg:=tg) (n:=n) (pre:=pre) (a:=L 7) (s:=L 9) (c:=L 12) hl1;have:(eY 34 σ σ1 b (o+3) cs tg n pre (L 7) (L 9) (L 12))[σ.length+1]?=some (.cells (cP n) none):=by
   rw[hX,cY (by omega),hXl,fm];rfl
  have e3:((((ρ.put (some 10) (.ptr b o)).put (some 11) (.ptr b o)).put (some 12) (.ptr b (o+3))).put (some 13) y) 3= .ptr (σ.length+1) 0:=by
   rw[P1 (by decide),P1 (by decide),P1 (by decide),P1 (by decide),h3]
  simp only[Lamb.step,ai.ev,e3,iV,this];rfl
 refine .cons (v:=.c (.int .i64 n)) (YG.pure rfl (fun τ=>hlen _ _ (by rw[P1 (by decide),P2])) (fun L x h=>h)) ?_;refine .cons (v:=.ab [eX]) (YG.pure rfl (fun τ=>rfl) (fun L x h=>h)) ?_;refine .cons (v:=.vec (σ.length+2) (n+1)) ?_ ?_
 ·intro L hcl hk hpre;have h8:L 8=false:=vd hcl 8 7 (by decide) (by decide) hk;have h9:L 9=false:=vd hcl 9 8 (by decide) (by decide) h8;have h12:L 12=false:=vd hcl 12 7 (by decide) (by decide) hk;have e1:(fun x=>x=eY 34 σ σ1 b (o+3) cs tg n pre (L 7) (L 9) (L 12))=(fun x=>x=σ++[.cells lx none,.cells (cP n) none]):=by
   rw[hk,h12];rfl
  have e2:(fun x=>x=eY 34 σ σ1 b (o+3) cs tg n pre (jx L 7 7) (jx L 7 9) (jx L 7 12))=(fun x=>x=σ1++[.cells lx none,.cells (cP n) none,.vec 34 4 (pre++eX)]):=by
   have a1:jx L 7 7=true:=rfl;have a2:jx L 7 9=L 9:=rfl;have a3:jx L 7 12=L 12:=rfl;rw[a1,a2,a3,h9,h12];rfl
  show dG P w0 (fun x=>x=eY 34 σ σ1 b (o+3) cs tg n pre (L 7) (L 9) (L 12)) (fun x=>x=eY 34 σ σ1 b (o+3) cs tg n pre (jx L 7 7) (jx L 7 9) (jx L 7 12)) _ _ _;rw[e1,e2];exact happ _ _ rfl rfl (by rw[P1 (by decide),P1 (by decide),P1 (by decide),P2]) P2
 refine .cons (v:=.ptr (σ.length+2) (n*4)) (YG.pure rfl (fun τ=>?_) (fun L x h=>h)) ?_
 ·have e1:(((((((((ρ.put (some 10) (.ptr b o)).put (some 11) (.ptr b o)).put (some 12) (.ptr b (o+3))).put (some 13) y).put (some 14) (.agg (cP n))).put (some 15) (.c (.int .i64 n))).put (some 16) (.ab [eX])).put (some 17) (.vec (σ.length+2) (n+1)))) 15= .c (.int .i64 n):=by rw[P1 (by decide),P1 (by decide),P2]
  simp only[Lamb.step,ai.ev,e1,P2];rw[if_pos ⟨by omega,by omega⟩];rfl
 refine .cons (v:=.void) ?_ ?_
 ·intro L hcl hk hpre;have h8:L 8=true:=hpre 8 (by decide);have h7:L 7=true:=hcl 8 (by decide) h8 7 (by decide);refine .step rfl fun x hx=>⟨x.set (σ.length+2) (.vec 34 4 (pre++oH n)),?_,?_⟩
  ·subst hx;obtain⟨X,hX,hXl⟩:=LU (e:=34) (b:=b) (o:=o+3) (cs:=cs) (tg:=tg) (n:=n) (pre:=pre) (a:=true) (s:=L 9) (c:=L 12) hl1;have:(eY 34 σ σ1 b (o+3) cs tg n pre true (L 9) (L 12))[σ.length+2]?=some (.vec 34 4 (pre++eX)):=by
    rw[hX,cY (by omega),hXl,fm,hk];rfl
   have e1:((((((((((ρ.put (some 10) (.ptr b o)).put (some 11) (.ptr b o)).put (some 12) (.ptr b (o+3))).put (some 13) y).put (some 14) (.agg (cP n))).put (some 15) (.c (.int .i64 n))).put (some 16) (.ab [eX])).put (some 17) (.vec (σ.length+2) (n+1))).put (some 18) (.ptr (σ.length+2) (n*4)))) 14= .agg (cP n):=by rw[P1 (by decide),P1 (by decide),P1 (by decide),P1 (by decide),P2]
   have t4:fq (cP n)=some (oH n):=rfl;have q1:(pre++eX).take (n*4)=pre:=by rw[<-hpl];exact List.take_left
   have q2:(pre++eX).drop (n*4+4)=[]:=by rw[List.drop_eq_nil_iff];simp[hpl,eX]
   rw[h7];simp only[Lamb.step,ai.ev,e1,P2,this,V.ah,t4];rw[if_pos ⟨rfl,by simp[hpl,eX]⟩,q1,q2,cq]
  ·subst hx;show(eY 34 σ σ1 b (o+3) cs tg n pre (L 7) (L 9) (L 12)).set _ _=eY 34 σ σ1 b (o+3) cs tg n pre (L 7) true (L 12);rw[h7,hk];unfold eY;rw[iQ _ _ (by cases L 12<;>simp[hl1])];congr 1;have:σ.length+2-(bif L 12 then σ1.set b (.cells (cs.take (o+3)++[.vec (σ.length+2) (n+1)]++cs.drop (o+3+1)) tg)else bif true then σ1 else σ).length=2:=by cases L 12<;>simp[hl1]
   rw[this];rfl
 rw[P3];refine .cons (v:=.ptr b o) (YG.pure rfl (fun τ=>?_) (fun L x h=>h)) ?_
 ·have e1:((((((((((ρ.put (some 10) (.ptr b o)).put (some 11) (.ptr b o)).put (some 12) (.ptr b (o+3))).put (some 13) y).put (some 14) (.agg (cP n))).put (some 15) (.c (.int .i64 n))).put (some 16) (.ab [eX])).put (some 17) (.vec (σ.length+2) (n+1))).put (some 18) (.ptr (σ.length+2) (n*4)))) 10= .ptr b o:=by rw[P1 (by decide),P1 (by decide),P1 (by decide),P1 (by decide),P1 (by decide),P1 (by decide),P1 (by decide),P1 (by decide),P2]
  simp only[Lamb.step,ai.ev,e1]
 refine .cons (v:=.ptr b (o+3)) (YG.pure rfl (fun τ=>by simp only[Lamb.step,ai.ev,P2]) (fun L x h=>h)) ?_;refine .cons (v:=.void) ?_ .nil;intro L hcl hk hpre;have h7:L 7=true:=hpre 7 (by decide);refine .step rfl fun x hx=>⟨x.set b (.cells (cs.take (o+3)++[.vec (σ.length+2) (n+1)]++cs.drop (o+3+1)) tg),?_,?_⟩
 ·subst hx;rw[h7,hk];have:(eY 34 σ σ1 b (o+3) cs tg n pre true (L 9) false)[b]?=some (.cells cs tg):=by
   unfold eY;simp only[cond_false,cond_true];rw[cF (by omega)];exact hb1
  have e1:((((((((((((ρ.put (some 10) (.ptr b o)).put (some 11) (.ptr b o)).put (some 12) (.ptr b (o+3))).put (some 13) y).put (some 14) (.agg (cP n))).put (some 15) (.c (.int .i64 n))).put (some 16) (.ab [eX])).put (some 17) (.vec (σ.length+2) (n+1))).put (some 18) (.ptr (σ.length+2) (n*4))).put (some 19) (.ptr b o)).put (some 20) (.ptr b (o+3)))) 17= .vec (σ.length+2) (n+1):=by rw[P1 (by decide),P1 (by decide),P1 (by decide),P2]
  have ho:o+3<cs.length:=(aK.1 hy).1;simp only[Lamb.step,ai.ev,e1,P2,this,V.ah];rw[if_pos ⟨rfl,by omega,rfl⟩]
 ·subst hx;show(eY 34 σ σ1 b (o+3) cs tg n pre (L 7) (L 9) (L 12)).set _ _=eY 34 σ σ1 b (o+3) cs tg n pre (L 7) (L 9) true;rw[h7,hk];unfold eY;simp only[cond_false,cond_true];rw[List.set_append_left _ _ (by omega)]
end
section
variable {w0:World}
theorem yX(σ σ1:H)(b o n:Nat)(hn:n<=1000000)(cs:List V)(tg:Option TypeId)(hb:σ[b]?=some (.cells cs tg))(y:V)(hy:cs[o+3]?=some y)(pre:List C)
  (hcase:(y= .ab []/\n=0/\pre=[]/\σ1=σ)\/(∃b' cells,y= .vec b' n/\σ[b']?=some (.vec 34 4 cells)/\n*4<=cells.length/\pre=cells.take (n*4)/\σ1=σ.set b' .gone)):
  DC prog w0 67 [.ptr b o] σ (fun d σ'=>d= .agg (cP n)/\σ'=σ1.set b (.cells (cs.take (o+3)++[.vec (σ.length+2) (n+1)]++cs.drop (o+3+1)) tg)++[.cells (cP n) none,.cells (cP n) none,.vec 34 4 (pre++oH n)]):=by
 have hlt:b<σ.length:=(aK.1 hb).1;have ho:o+3<cs.length:=(aK.1 hy).1;have hl1:σ1.length=σ.length:=by rcases hcase with⟨_,_,_,rfl⟩|⟨b',cells,_,_,_,_,rfl⟩<;>simp
 have hb1:σ1[b]?=some (.cells cs tg):=by
  rcases hcase with⟨_,_,_,rfl⟩|⟨b',cells,_,h,_,_,rfl⟩
  ·exact hb
  ·rw[bX]
   ·exact hb
   ·rintro rfl;rw[hb]at h;cases h
 have ha:∀L,(σ++L)[b]?=some (.cells cs tg):=fun L=>by rw[cF hlt];exact hb
 have hg0:∀x L,(σ++x::L)[σ.length]?=some x:=fun x L=>by rw[cY (aA _),ck];rfl
 have hg1:∀L k,(σ++L)[σ.length+k]?=L[k]?:=fun L k=>by rw[cY (by omega),fm]
 have hs1:∀L k x,(σ++L).set (σ.length+k) x=σ++L.set k x:=fun L k x=>by rw[iQ _ _ (by omega),fm]
 have hs0:∀L x,(σ++L).set σ.length x=σ++L.set 0 x:=fun L x=>by rw[iQ _ _ (aA _),ck]
 refine DC.HM sh.hm sh.hf sh.hb sh.ag sh.dN (Nat.le_of_ble_eq_true rfl) sh.en ?_;rcases hcase with⟨rfl,rfl,rfl,rfl⟩|⟨b',cells,rfl,hv,hc4,rfl,rfl⟩
 ·(refine W.a ?_;simp only[go_sem,Dw,ha,hg0,hg1,hs0,hs1,hy]);refine W.Az (fun L x=>x=eY 34 σ1 σ1 b (o+3) cs tg 0 [] (L 7) (L 9) (L 12)) rfl (LV σ1 σ1 b o 0 hn cs tg hb hb rfl _ hy [] rfl (fun ρ τ h=>by simp only[Lamb.step,ai.ev,h];rfl) (fun ρ o hg hi h1 h2=>?_) _ rfl rfl) ?_
  ·refine dG.vec (olds:=[]) (news:=[eX]) (by rw[hg];rfl) hi h1 (by show(ρ 16).rows=_;rw[h2];rfl) ⟨by simp,by simp,by simp[eX],by simp,by simp⟩ (fun x hx=>?_);subst hx;exact⟨by simp,by simp⟩
  ·intro L hL x hx;rw[hL 7 (by decide),hL 9 (by decide),hL 12 (by decide)]at hx;subst hx;have hl2:(eY 34 σ1 σ1 b (o+3) cs tg 0 [] true true true)=σ1.set b (.cells (cs.take (o+3)++[.vec (σ1.length+2) (0+1)]++cs.drop (o+3+1)) tg)++[.cells lx none,.cells (cP 0) none,.vec 34 4 ([]++oH 0)]:=rfl;rw[hl2];generalize hX:σ1.set b (.cells (cs.take (o+3)++[.vec (σ1.length+2) (0+1)]++cs.drop (o+3+1)) tg)=X;have hXl:X.length=σ1.length:=by rw[<-hX];simp
   rw[<-hXl];have hx0:∀x L,(X++x::L)[X.length]?=some x:=fun x L=>by rw[cY (aA _),ck];rfl
   have hx1:∀L k,(X++L)[X.length+k]?=L[k]?:=fun L k=>by rw[cY (by omega),fm]
   have hx2:∀L x,(X++L).set X.length x=X++L.set 0 x:=fun L x=>by rw[iQ _ _ (aA _),ck]
   (refine W.a ?_;simp only[go_sem,yW,cP,lx,hx0,hx1,hx2]);refine W.ret ⟨_,aq.refl _ _,[.agg (cP 0)],?_,.inl ⟨rfl,?_⟩⟩
   ·simp only[go_sem,Dx,br,hx0,hx1,cP]
   ·rw[hXl,<-hX];simp only[dc,aae]
 ·(refine W.a ?_;simp only[go_sem,Dw,ha,hg0,hg1,hs0,hs1,hy]);have hbb:b'<σ.length:=(aK.1 hv).1;refine W.Az (fun L x=>x=eY 34 σ (σ.set b' .gone) b (o+3) cs tg n (cells.take (n*4)) (L 7) (L 9) (L 12)) rfl (LV σ (σ.set b' .gone) b o n hn cs tg hb hb1 hl1 _ hy (cells.take (n*4)) (by rw[eu];omega) (fun ρ τ h=>by simp only[Lamb.step,ai.ev,h]) (fun ρ o hg hi h1 h2=>?_) _ rfl rfl) ?_
  ·refine dG.step (by rw[hg];rfl) (fun x hx=>?_);subst hx;have hv':(σ++[.cells lx none,.cells (cP n) none])[b']?=some (.vec 34 4 cells):=by rw[cF hbb];exact hv
   rw[hi];have h3:(V.ab [eX]).rows=some [eX]:=rfl;have e1:n*4+4=n*4+[eX].flatten.length:=rfl;refine⟨_,?_,rfl⟩;simp only[Lamb.step,ai.ev,h1,h2,h3,nc,hv'];rw[if_pos ⟨trivial,trivial,hc4,by simp,by simp[eX],by simp;omega,by simp;omega⟩];simp[List.set_append,hbb]
  ·intro L hL x hx;rw[hL 7 (by decide),hL 9 (by decide),hL 12 (by decide)]at hx;subst hx;have hl2:(eY 34 σ (σ.set b' .gone) b (o+3) cs tg n (cells.take (n*4)) true true true)=(σ.set b' .gone).set b (.cells (cs.take (o+3)++[.vec (σ.length+2) (n+1)]++cs.drop (o+3+1)) tg)++[.cells lx none,.cells (cP n) none,.vec 34 4 (cells.take (n*4)++oH n)]:=rfl;rw[hl2];generalize hX:(σ.set b' .gone).set b (.cells (cs.take (o+3)++[.vec (σ.length+2) (n+1)]++cs.drop (o+3+1)) tg)=X;have hXl:X.length=σ.length:=by rw[<-hX];simp
   rw[<-hXl];have hx0:∀x L,(X++x::L)[X.length]?=some x:=fun x L=>by rw[cY (aA _),ck];rfl
   have hx1:∀L k,(X++L)[X.length+k]?=L[k]?:=fun L k=>by rw[cY (by omega),fm]
   have hx2:∀L x,(X++L).set X.length x=X++L.set 0 x:=fun L x=>by rw[iQ _ _ (aA _),ck]
   (refine W.a ?_;simp only[go_sem,yW,cP,lx,hx0,hx1,hx2]);refine W.ret ⟨_,aq.refl _ _,[.agg (cP n)],?_,.inl ⟨rfl,?_⟩⟩
   ·simp only[go_sem,Dx,br,hx0,hx1,cP]
   ·rw[hXl,<-hX];simp only[dc,aae]
end
theorem Vn(s:List aa)(t:aa):aJ (s++[t])=aJ s++t.cs:=by simp[aJ]
theorem Vo(w0:World){s:List aa}(hs:s.length<=1000000)(p bs:Nat)(σ:H)(g1 g2 g3 y4 y5 y6 y7:V)(tg:Option TypeId)(hp:σ[p]?=some (.cells [g1,g2,g3,.vec bs s.length,y4,y5,y6,y7] tg))(hb:σ[bs]?=some (.vec 34 4 (aJ s))):
  DC prog w0 67 [.ptr p 0] σ (Same (aN s.length).v ((σ.set bs .gone).set p (.cells [g1,g2,g3,.vec σ.length (s.length+1),y4,y5,y6,y7] tg)++[.vec 34 4 (aJ (s++[aN s.length]))])):=by
 refine DC.B4 (A:=[g1,g2,g3]) (B:=[y4,y5,y6,y7]) (y:=.vec bs s.length) hp (by rw[aa.v];exact .agg fun x hx=>by simp at hx;rcases hx with rfl|rfl|rfl|rfl<;>exact .c _) ?_;refine(yX σ (σ.set bs .gone) p 0 s.length hs _ tg hp (.vec bs s.length) rfl (aJ s) (.inr ⟨bs,aJ s,rfl,hb,Nat.le_of_eq (lq s).symm,by rw[<-lq s,oZ],rfl⟩)).mono ?_;rintro d τ ⟨rfl,rfl⟩;refine⟨?_,[.cells (cP s.length) none,.cells (cP s.length) none],[],?_⟩
 ·exact .agg rfl fun j hj hj'=>by
   rcases(by simp[cP]at hj;omega:j=0\/j=1\/j=2\/j=3)with rfl|rfl|rfl|rfl
   ·exact .rfl _
   ·exact .rfl _
   ·exact .rfl _
   ·first|exact .ab _|exact .rfl _
 ·rw[Vn];rfl
theorem Vp(w0:World)(p:Nat)(σ:H)(g1 g2 g3 y4 y5 y6 y7:V)(tg:Option TypeId)(hp:σ[p]?=some (.cells [g1,g2,g3,.ab [],y4,y5,y6,y7] tg)):
  DC prog w0 67 [.ptr p 0] σ (Same (aN 0).v (σ.set p (.cells [g1,g2,g3,.vec σ.length 1,y4,y5,y6,y7] tg)++[.vec 34 4 (aJ [aN 0])])):=by
 have h0:σ.set σ.length .gone=σ:=by rw[List.set_eq_of_length_le (aA _)]
 have key:=DC.B4 (P:=prog) (w0:=w0) (f:=67) (args:=[.ptr p 0]) (e:=34) (size:=4) (k:=1) (cs:=aJ [aN 0]) (b0:=σ.length) (A:=[g1,g2,g3]) (B:=[y4,y5,y6,y7]) (y:=.ab []) (d:=(aN 0).v) hp (by rw[aa.v];exact .agg fun x hx=>by simp at hx;rcases hx with rfl|rfl|rfl|rfl<;>exact .c _) ?_
 ·rw[h0]at key;exact key
 rw[h0];refine(yX σ σ p 0 0 (bx _) _ tg hp (.ab []) rfl [] (.inl ⟨rfl,rfl,rfl,rfl⟩)).mono ?_;rintro d τ ⟨rfl,rfl⟩;refine⟨?_,[.cells (cP 0) none,.cells (cP 0) none],[],rfl⟩;exact .agg rfl fun j hj hj'=>by
  rcases(by simp[cP]at hj;omega:j=0\/j=1\/j=2\/j=3)with rfl|rfl|rfl|rfl
  ·exact .rfl _
  ·exact .rfl _
  ·exact .rfl _
  ·first|exact .ab _|exact .rfl _
attribute [local go_sem] aa.v aa.aM aY a7 aV aL aT
theorem Vq(w0:World){N:Nat}{s:List aa}(hR:cl N s)(hN1:1<=N)(hN:N<=1000000)(hs:s.length<=1000000)(hs0:s≠[]){a b:aa}(ha:aD s.length a)(na:aC a<=N)(hb:aD s.length b)(nb:aC b<=N){s':List aa}(h:eU 4096 s [(a,b)] 0 s')(p bs:Nat)(σ:H)(g1 g2 g3 y4 y5 y6 y7:V)(tg:Option TypeId)(hp:σ[p]?=some (.cells [g1,g2,g3,.vec bs s.length,y4,y5,y6,y7] tg))(hbs:σ[bs]?=some (.vec 34 4 (aJ s))):
  DC prog w0 26 [.ptr p 0,a.v,b.v] σ (Same (B true) ((σ.set bs .gone).set p (.cells [g1,g2,g3,.vec σ.length s.length,y4,y5,y6,y7] tg)++[.vec 34 4 (aJ s')])):=by
 have hpl:=(aK.1 hp).1;have hbl:=(aK.1 hbs).1;have hne:p≠bs:=fun e=>by rw[e,hbs]at hp;cases hp
 have hp2:=fun L=>hG hp L;have hp4:(σ.set bs .gone)[p]?=some (.cells [g1,g2,g3,.vec bs s.length,y4,y5,y6,y7] tg):=by rw[bX (by omega)];exact hp
 have hp3:=fun L=>hG hp4 L;have hp5:=fun y L=>hS hp4 y L;have hU:∀c d:ad,DC prog w0 71 [.vec bs s.length,a.v,b.v] (σ++[c,d]) (Same (.av [.vec (σ.length+2) s.length,I 0]) (σ.set bs .gone++[c,d,.vec 34 4 (aJ s')])):=fun c d=>by
  have:=Vi w0 hR hN1 hN hs hs0 ha na hb nb h bs (σ++[c,d]) (hG hbs _);rw[hS hbs,dc,bt]at this;exact this
 refine DC.B4 (A:=[g1,g2,g3]) (B:=[y4,y5,y6,y7]) (y:=.vec bs s.length) hp (.c _) ?_;refine yP.dn rfl (fun hok hsz=>?_);(refine W.a ?_;simp only[go_sem,uR]);apply W.aQ (aS _ _)
 case hc=>
  (apply ae.al;simp only[go_sem,hp2]);(apply ae.call (hU _ _);(case hg=>rfl);(case hf=>rfl);(case ha=>first|rfl|simp));(apply ae.al;simp only[go_sem]);exact ae.nil
 (refine W.a ?_;simp only[go_sem,hp3,hp5]);exact W.ret ⟨_,_,(by simp only[br,uS,go_sem];rfl),.rfl _,⟨.rfl _,[_,_],[],rfl⟩⟩
theorem Vr(w0:World){N:Nat}{s:List aa}(hR:cl N s)(hN1:1<=N)(hN:N<=1000000)(hs:s.length<=1000000)(hs0:s≠[]){a b:aa}(ha:aD s.length a)(na:aC a<=N)(hb:aD s.length b)(nb:aC b<=N){e:Int}{s':List aa}(h:eU 4096 s [(a,b)] e s')(he:e≠0)(p bs:Nat)(σ:H)(g1 g2 g3 y4 y5 y6 y7:V)(tg:Option TypeId)(hp:σ[p]?=some (.cells [g1,g2,g3,.vec bs s.length,y4,y5,y6,y7] tg))(hbs:σ[bs]?=some (.vec 34 4 (aJ s))):
  DC prog w0 26 [.ptr p 0,a.v,b.v] σ (Same (B false) (σ.set bs .gone)):=by
 have hpl:=(aK.1 hp).1;have hbl:=(aK.1 hbs).1;have hne:p≠bs:=fun e=>by rw[e,hbs]at hp;cases hp
 have hp2:=fun L=>hG hp L;have hp4:(σ.set bs .gone)[p]?=some (.cells [g1,g2,g3,.vec bs s.length,y4,y5,y6,y7] tg):=by rw[bX (by omega)];exact hp
 have hp3:=fun L=>hG hp4 L;have hp5:=fun y L=>hS hp4 y L;have hU:∀c d:ad,DC prog w0 71 [.vec bs s.length,a.v,b.v] (σ++[c,d]) (Same (.av [.vec bs s.length,I e]) (σ.set bs .gone++[c,d])):=fun c d=>by
  have:=Vj w0 hR hN1 hN hs hs0 ha na hb nb h he bs (σ++[c,d]) (hG hbs _);rwa [hS hbs]at this
 have hef:(e==0)=false:=by simp[he]
 have de:(σ.set bs .gone).set p (.cells [g1,g2,g3,.vec bs s.length,y4,y5,y6,y7] tg)=σ.set bs .gone:=pj hp4;refine yP.go rfl (fun hok hsz=>?_);have hok2:H.ok (σ.set bs .gone):=Dv hok bs;(refine W.a ?_;simp only[go_sem,uR]);apply W.aQ (aS _ _)
 case hc=>
  (apply ae.al;simp only[go_sem,hp2]);(apply ae.call (hU _ _);(case hg=>rfl);(case hf=>rfl);(case ha=>first|rfl|simp));(apply ae.al;simp only[go_sem]);exact ae.nil
 (refine W.a ?_;simp only[go_sem,hp3,hp5,hef,de]);refine W.ret (Fin.lW (vs:=[B false]) hok2 (bC ..) (by simp only[br,uS,go_sem]) (.rfl _) (.c _) rfl)
theorem Vs(w0:World){N:Nat}(hN:N<=1000000){a b:aa}(ha:aD 0 a)(na:aC a<=N)(hb:aD 0 b)(nb:aC b<=N){e:Int}(h:eU 4096 [] [(a,b)] e [])(p:Nat)(σ:H)(g1 g2 g3 y4 y5 y6 y7:V)(tg:Option TypeId)(hp:σ[p]?=some (.cells [g1,g2,g3,.ab [],y4,y5,y6,y7] tg)):
  DC prog w0 26 [.ptr p 0,a.v,b.v] σ (Same (B (e==0)) (σ.set p (.cells [g1,g2,g3,.c (.sl []),y4,y5,y6,y7] tg))):=by
 have hpl:=(aK.1 hp).1;have hp2:=fun L=>hG hp L;have hp5:=fun y L=>hS hp y L;have hU:=fun σ=>Vk w0 hN ha na hb nb h σ;refine yP.go rfl (fun hok hsz=>?_);have hok2:H.ok (σ.set p (.cells [g1,g2,g3,.c (.sl []),y4,y5,y6,y7] tg)):=fun B hB cs t hc x hx=>by
  rw[bC];rcases List.mem_or_eq_of_mem_set hB with hB|rfl
  ·exact hok B hB cs t hc x hx
  ·cases hc;have hl:=hok _ (List.mem_of_getElem? hp) _ _ rfl;simp at hx;rcases hx with rfl|rfl|rfl|rfl|rfl|rfl|rfl|rfl
   ·exact hl _ (by simp)
   ·exact hl _ (by simp)
   ·exact hl _ (by simp)
   ·exact .c _
   ·exact hl _ (by simp)
   ·exact hl _ (by simp)
   ·exact hl _ (by simp)
   ·exact hl _ (by simp)
 (refine W.a ?_;simp only[go_sem,uR]);apply W.aQ (aS _ _)
 case hc=>
  (apply ae.al;simp only[go_sem,hp2]);(apply ae.call (hU _);(case hg=>rfl);(case hf=>rfl);(case ha=>first|rfl|simp));(apply ae.al;simp only[go_sem]);exact ae.nil
 (refine W.a ?_;simp only[go_sem,hp2,hp5]);refine W.ret (Fin.lW (vs:=[B (e==0)]) hok2 (bC ..) (by simp only[br,uS,go_sem]) (.rfl _) (.c _) rfl)
end Go.Proofs.YtdlkenpilhakfaaGreatDoor
namespace Go.Lamb
open Go Go.RowKit
def ly(l:List ay):List (List C):=l.map fun x=>x.ty.cs
end Go.Lamb
namespace Go.Proofs.YtdlkenpilhakfaaGreatDoor
open Go.RowKit Go.Lamb
attribute [local go_sem] aa.v aa.aM aY a7 aV aL aT
theorem Vt(w0:World)(l:List ay)(hn:l.length<=1000000)(σ:H):DC prog w0 32 [.c (.sl (l.map ay.cs))] σ (Same (.c (.sl (ly l))) σ):=by
 refine LH.go rfl (fun hok hsz=>?_);(refine W.a ?_;simp only[go_sem,Dl]);refine W.bA (α:=Option Nat) (fun o=>match o with|none=>True|some i=>1<=i/\i<=l.length) (fun o=>match o with
  |none=>⟨((((base.put (some 3) (.ab [])).put (some 6) (.c (.sl (l.map ay.cs)))).put (some 7) (I (l.length:Int))).put (some 8) (I 0)),σ⟩
  |some i=>⟨((((base.put (some 3) (.aF (σ.length+1) (ly (l.take i)))).put (some 6) (.c (.sl (l.map ay.cs)))).put (some 7) (I (l.length:Int))).put (some 8) (I (i:Int))),σ++[.gone,.spare 34 4 i]⟩) (fun o=>match o with|none=>l.length+1|some i=>l.length-i) none trivial ?_ (fun o ho=>?_)
 ·dsimp only
  (refine aq.env ?_;exact aE)
 cases o with
 |none=>
  dsimp only
  by_cases h0:0<l.length
  ·have z1:(0:Int)<(l.length:Int):=by omega
   have hx0:l[0]?=some l[0]:=aR h0;have htk:l.take 1=[l[0]]:=by
    cases l with
    |nil=>simp at h0
    |cons x l=>rfl
   have hw1:aW.wrap (0+1)=((1:Nat):Int):=by decide
   generalize l[0]=x at*;obtain⟨nm,ty⟩:=x;(refine W.a ?_;simp only[go_sem,z1]);refine W.yes rfl (W.a ?_);simp only[go_sem,z1,hx0,ay.cs,hw1,true_or];refine .inv ⟨some 1,⟨aA _,h0⟩,by dsimp only;omega,?_⟩;dsimp only
   rw[htk];simp only[ly,List.map_cons,List.map_nil,aa.aM];(refine aq.eS (hok) ?_ (by simp) (by simp) ?_ ?_ ?_;exact aE;((try simp only[okB,bu,go_sem])<;>omega);(simp only[bo,cM,dL,ey,dj,bu,and_true];(repeat' (refine fb ?_ ?_))<;>(first|exact ad.wk.rfl _|exact ad.wk.gone _|(refine ad.eT ?_ rfl;(exact au))));(repeat' (first|exact aZ.base _|(refine aZ.put ?_ (by first|exact .c _|((try simp only[okB,bu,go_sem])<;>omega))))))
  ·have hw0:l=[]:=fA (by omega);subst hw0;have z1:¬(0:Int)<0:=by decide
   (refine W.a ?_;simp only[go_sem,z1]);refine W.no rfl (W.a ?_);simp only[go_sem];refine W.ret (Fin.lW (vs:=[.ab []]) hok rfl (by simp only[br,yQ,go_sem]) (.ab _) (.c _) (cq _).symm)
 |some i=>
  obtain⟨hi1,hi⟩:=ho;dsimp only
  by_cases hlt:i<l.length
  ·have z1:(i:Int)<(l.length:Int):=by omega
   have z0:(0:Int)<=(i:Int):=by omega
   have hx0:l[i]?=some l[i]:=aR hlt;have htk:ly (l.take (i+1))=ly (l.take i)++[(l[i]).ty.cs]:=by
    unfold ly;rw[List.take_succ_eq_append_getElem hlt,dX];rfl
   have hw1:aW.wrap ((i:Int)+1)=((i+1:Nat):Int):=by rw[bD]<;>omega
   have htl:(ly (l.take i)).length=i:=by unfold ly;rw[cd,eu];omega
   have b1:(i+1)*56<=140737488355328:=by omega
   have b2:i+1<=140737488355328:=by omega
   have hr4:(∀r∈ly (l.take i),r.length=4)=True:=eq_true (fun r hr=>by
    obtain⟨x,_,rfl⟩:=dK.1 hr;rw[aa.aM];rfl)
   generalize l[i]=x at*;obtain⟨nm,ty⟩:=x;rw[aa.aM]at htk;(refine W.a ?_;simp only[go_sem,z1]);refine W.yes rfl (W.a ?_);simp only[go_sem,z1,z0,hx0,ay.cs,hw1,htl,b1,b2,true_or];refine .inv ⟨some (i+1),⟨by omega,hlt⟩,by dsimp only;omega,?_⟩;dsimp only
   rw[htk];(refine aq.eS (hok) ?_ (by simp) (by simp) ?_ ?_ ?_;exact aE;((try simp only[okB,bu,go_sem])<;>omega);(simp only[bo,cM,dL,ey,dj,bu,and_true];(repeat' (refine fb ?_ ?_))<;>(first|exact ad.wk.rfl _|exact ad.wk.gone _|(refine ad.eT ?_ rfl;(exact au))));(repeat' (first|exact aZ.base _|(refine aZ.put ?_ (by first|exact .c _|((try simp only[okB,bu,go_sem])<;>omega))))))
  ·obtain rfl:i=l.length:=by omega
   have z1:¬((l.length:Nat):Int)<((l.length:Nat):Int):=by omega
   rw[oZ];(refine W.a ?_;simp only[go_sem,z1]);refine W.no rfl (W.a ?_);simp only[go_sem];(refine W.fs (hok) (by simp only[yQ,go_sem];rfl) ?_;simp only[ak];try exact V.wk.rfl _)
   all_goals (all_goals exact au)
end Go.Proofs.YtdlkenpilhakfaaGreatDoor
namespace Go.Lamb
open Go Go.RowKit
def dw(name:bG):Nat->List ay->Int
 |_,[]=>-1
 |i,x::l=>match dw name (i+1) l with
  | .ofNat n=>.ofNat n
  | .negSucc _=>bif x.name==name then(i:Int)else-1
theorem Dy(name:bG):∀(l:List ay) (i:Nat),(∀x∈l,(x.name==name)=false)->dw name i l=-1
 |[],_,_=>rfl
 |x::l,i,h=>by
  unfold dw;rw[Dy name l (i+1) fun y hy=>h y (bW _ hy)];show(bif x.name==name then(i:Int)else-1)=-1;rw[h x (bp ..)];rfl
theorem LW(name:bG):∀(l:List ay) (i j:Nat) (hj:j<l.length),(l[j].name==name)=true->(∀k,j<k->∀hk:k<l.length,(l[k].name==name)=false)->dw name i l=((i+j:Nat):Int)
 |x::l,i,0,_,h1,h2=>by
  unfold dw;rw[Dy name l (i+1) fun y hy=>by obtain⟨k,hk,rfl⟩:=List.getElem_of_mem hy;exact h2 (k+1) (by omega) (by simpa using hk)];show(bif x.name==name then(i:Int)else-1)=_;rw[show(x.name==name)=true from h1];rfl
 |x::l,i,j+1,hj,h1,h2=>by
  unfold dw;rw[LW name l (i+1) j (by simpa using hj) h1 fun k hk hk'=>h2 (k+1) (by omega) (by simpa using hk')];show((i+1+j:Nat):Int)=_;congr 1;omega
end Go.Lamb
namespace Go.Proofs.YtdlkenpilhakfaaGreatDoor
open Go.RowKit Go.Shelf Go.Lamb
attribute [local go_sem] Oper.semAt_some
def yY(xs:Nat->Value)(i:Nat):Value:=.agg #[xs (i*5),xs (i*5+1),xs (i*5+2),xs (i*5+3),xs (i*5+4)]
set_option maxRecDepth 100000 in
set_option maxHeartbeats 2000000 in
theorem Vu(F:Fence)(n:Nat)(hf:F.fn 226)(hro:F.round=none)(hn:1<=n)(l Bs n₀ b off len cap:Nat)(A:Option Addr)(hA:0<len->A=some ⟨b,off,none⟩)(xs:Nat->Value)(hreach:len<=1000000)(hb:0<len->b<n₀)(J Jx:List (Fin len)->World->Prop)
  (hY:∀pre (x:Fin len) W,J pre W->pre.length<len->YieldAt F (n-1) prog l #[.int .i64 (x.1:Nat),yY xs x.1] W fun e W'=>
    (e= .returned (.bool true)/\J (pre++[x]) W'/\ff n₀ Bs W W')\/(e= .returned (.bool false)/\Jx (pre++[x]) W'))
  (W:World) (hBs:W.cell? ⟨Bs,0,none⟩=some (.slice A len cap)) (hc:∀j,j<len*5->W.cell? ⟨b,off+j,none⟩=some (xs j)) (h0:J [] W):
  CallsIn F n prog 226 #[.func (.yield l) #[] #[],.pointer (some ⟨Bs,0,none⟩)] W fun e W'=>(∃v,e= .returned v)/\
   ((∃ys,ys.map iS=gm len len/\J ys W')\/(∃pre,(∃k,k<len/\pre.map iS=gm len (k+1))/\Jx pre W')):=by
 have hw0:aW.wrap ((len:Int)-1)=(len:Int)-1:=bD (by omega) (by omega);refine callsIn_of_wp func226 rfl hf ?_ hro;simp only[ntmps226,oV,bo,cM,dL,sK,wj,wm,wo,wq,er,iR]
 gi_wp2
 gi_loopw [3] (fun i wr=>∃(k:Nat) (pre:List (Fin len)),k<=len/\i= .int .i64 ((len:Int)-1-k)/\pre.map iS=gm len k/\J pre wr/\ff n₀ Bs W wr)
  (fun i _=>(intOf i+1).toNat)
 case atStart=>exact⟨0,[],bx _,by simp[hw0],rfl,h0,ff.refl _ _ _⟩
 case round=>
  obtain⟨k,pre,hk,rfl,hpre,hJs,hnx⟩:=hrel;have hBx:=hnx.2 _ hBs;by_cases hlt:k<len
  ·have hcx:∀j,j<len*5->wr.cell? ⟨b,off+j,none⟩=some (xs j):=fun j h=>(hnx.1.cell (p:=⟨b,off+j,none⟩) (hb (by omega))).trans (hc j h);obtain⟨m,hm,hmm⟩:∃m,m<len/\len-1-k=m:=⟨_,by omega,rfl⟩;obtain⟨fn,tmps,assign,body,hy,hR⟩:=hY _ ⟨m,hm⟩ wr hJs (by rw[<-cd (f:=iS),hpre,LX];exact hlt);have e:(len:Int)-1-k=(m:Int):=by omega
   have hpre':(pre++[(⟨m,hm⟩:Fin len)]).map iS=gm len (k+1):=by rw[dX,hpre,yZ,hmm];rfl
   obtain rfl:=hA (by omega);rw[e];have c0:=hcx (m*5) (by omega);have c1:=hcx (m*5+1) (by omega);have c2:=hcx (m*5+2) (by omega);have c3:=hcx (m*5+3) (by omega);have c4:=hcx (m*5+4) (by omega);rw[<-Nat.add_assoc]at c1 c2 c3 c4;unfold yY at hy;dsimp only at hy
   gi_wp2
   refine hR.mono ?_;rintro e W3 (⟨rfl,hJ3,hk3⟩|⟨rfl,hJx3⟩)
   ·gi_wp2
    go_roundw
    case rel=>exact⟨k+1,_,by omega,by simp only[Value.int.injEq,true_and];omega,hpre',hJ3,hnx.trans hk3⟩
    case measure=>simp[intOf]
   ·gi_wp2
    refine bodyPost_ret (results_none rfl _ _ _) rfl ?_;exact⟨⟨_,rfl⟩,.inr ⟨_,⟨k,hlt,hpre'⟩,hJx3⟩⟩
  ·obtain rfl:k=len:=by omega
   have e:(k:Int)-1-k=-1:=by omega
   rw[e]
   gi_wp2
   go_end0
   exact⟨⟨_,rfl⟩,.inl ⟨_,hpre,hJs⟩⟩
set_option maxHeartbeats 1000000 in
theorem Vv(F:Fence)(n:Nat)(hf:F.fn 179)(hro:F.round=none)(a:Option Addr)(len cap:Nat)(w:World):
  CallsIn F n prog 179 #[.slice a len cap] w fun e w'=>e= .returned (.func (.func 226) #[] #[.pointer (some ⟨w.heap.size,0,none⟩)])/\w'=w.alloc (.cells #[.slice a len cap] 23):=by
 refine callsIn_of_wp func179 rfl hf ?_ hro;simp only[ntmps179,oV,bo,cM,dL,sK,wj,wm,wo,wq,er,iR]
 gi_wp2
 go_ret
 exact⟨rfl,rfl⟩
theorem Vw(F:Fence)(n:Nat)(hf:F.fn 226)(hro:F.round=none)(hn:1<=n)(Bs n₀ b off len cap:Nat)(A:Option Addr)(hA:0<len->A=some ⟨b,off,none⟩)(xs:Nat->Value)(hreach:len<=1000000)(hb:0<len->b<n₀)(w:World)(hBw:Bs<w.heap.size)(hn₀:n₀<=w.heap.size)
  (hBs:w.cell? ⟨Bs,0,none⟩=some (.slice A len cap)) (hc:∀j,j<len*5->w.cell? ⟨b,off+j,none⟩=some (xs j)):
  SeqStopsK F n prog 226 #[.pointer (some ⟨Bs,0,none⟩)] (fun x:Fin len=>#[.int .i64 (x.1:Nat),yY xs x.1]) (ff n₀ Bs) (fun ys=>ys.map iS=gm len len) (fun pre=>∃k,k<len/\pre.map iS=gm len (k+1)) len w:=fun l J Jx W hW _ _ hY h0=>by
 refine Vu F n hf hro hn l Bs n₀ b off len cap A hA xs hreach hb J Jx hY W ((hW.cell (p:=⟨Bs,0,none⟩) hBw).trans hBs) (fun j hj=>?_) h0;have hb':=hb (by omega);exact(hW.cell (p:=⟨b,off+j,none⟩) (by show b<_;omega)).trans (hc j hj)
theorem Vx{m:Mem}{l:List ay}{A:Option Addr}{len cap:Nat}(h:RC m (ef l) (.slice A len cap)):len=l.length/\∃xs:Nat->Value,(0<len->∃b o,A=some ⟨b,o,none⟩/\∀k,k<len*5->m b (o+k)=some (xs k))/\
  ∀i (hi:i<l.length),xs (i*5)= .string (bs l[i].name)/\(xs (i*5+1)).oneCell'=true/\(xs (i*5+2)).oneCell'=true/\(xs (i*5+3)).oneCell'=true/\(xs (i*5+4)).oneCell'=true:=by
 unfold ef at h;generalize hr:l.map ay.cs=rows at h;cases h with
 |sl rows s A cap xs h0 h1 h2 h3 h4 h5=>
  subst hr;refine⟨by simp,fun k=>xs.getD k undef,fun hl=>?_,fun i hi=>?_⟩
  ·have hne:l.map ay.cs≠[]:=fun e=>by rw[e]at hl;simp at hl
   obtain⟨b,o,rfl,hm⟩:=h4 hne;have hs:s=5:=by
    cases l with
    |nil=>simp at hne
    |cons a r=>exact(h0 a.cs (by simp)).symm
   subst hs;refine⟨b,o,rfl,fun k hk=>?_⟩;have hk':k<xs.length:=by rw[h3];exact hk
   rw[hm k hk',aR hk'];simp[List.getD,hk']
  ·have hs:s=5:=(h0 l[i].cs (List.mem_map_of_mem (bw hi))).symm;subst hs;have hi':i<(l.map ay.cs).length:=by simpa using hi
   have h5':=h5 i hi';simp only[dE,ay.cs]at h5';have q0:=h5' 0 (by simp);have q1:=h5' 1 (by simp);have q2:=h5' 2 (by simp);have q3:=h5' 3 (by simp);have q4:=h5' 4 (by simp);refine⟨?_,q1.one,q2.one,q3.one,q4.one⟩;simp only[List.getElem_cons_zero,mS]at q0;show xs.getD (i*5) undef=_;generalize xs.getD (i*5) undef=u at q0;cases q0;rfl
end Go.Proofs.YtdlkenpilhakfaaGreatDoor
namespace Go.Lamb
open Go Go.RowKit
theorem Vy{P:Program}{id r m:Nat}{Q:Exit->Act->World->Prop}{a:Act}{w:World}{l:List Oper}(hm:P.follows .mixedOrders=true)(hB:Region.lexB .any l.toArray=true)(hp:(l.toArray.all fun o=>Op.plain o.op)=true)(hlo:¬LetsOut Q)
  (h:wpQuiet P l.toArray (fun w'=>∃n,w'=w.drewN n) (fun a'=>∀w',(∃n,w'=w.drewN n)->Q .normal a' w') l a):(Code.region id l.toArray true).wpIn (pT r) m P Q a w:=by
 simp only[Region.lexB,bz]at hB;refine wpIn_region_any hm (Ij hlo (fun o ho=>by rw[Array.all_eq_true']at hp;exact hp o ho) (wpAny_of_quiet (C:=fun w'=>∃n,w'=w.drewN n) (Q:=fun a'=>∀w',(∃n,w'=w.drewN n)->Q .normal a' w') (fun _ w' hw' h=>h w' hw') _ _ _ _ ⟨1,rfl⟩ ?_));have:=wpAnyQ_lex (C:=fun w'=>∃n,w'=w.drewN n) (md:=.any) hB.1 l 0 (Array.replicate l.toArray.size false) a (by simp) (by simpa using hB.2) h;simpa using this
end Go.Lamb
namespace Go.Proofs.YtdlkenpilhakfaaGreatDoor
open Go.RowKit Go.Shelf Go.Lamb
attribute [local go_sem] Oper.semAt_some
def LY(w:World)(l:List ay)(name:bG)(A:Option Addr)(cap:Nat)(pre:List (_root_.Fin l.length))(W:World):Prop:=
 Below w.heap.size w W/\W.cell? ⟨w.heap.size,0,none⟩=some (.slice A l.length cap)/\W.cell? ⟨w.heap.size+1,0,none⟩=some (.string (bs name))/\(∃v,W.cell? ⟨w.heap.size+2,0,none⟩=some v)/\W.frozen? ⟨w.heap.size+2,0,none⟩=false/\w.heap.size+3<=W.heap.size/\∀x∈pre,(l[x].name==name)=false
def LZ(w:World)(l:List ay)(name:bG)(c:Code)(pre:List (_root_.Fin l.length))(W:World):Prop:=
 c= .ret/\Below w.heap.size w W/\∃r x,pre=r++[x]/\W.cell? ⟨w.heap.size+2,0,none⟩=some (.int .i64 (x.1:Nat))/\(l[x].name==name)=true/\∀y∈r,(l[y].name==name)=false
theorem Vz{w:World}{l:List ay}{name:bG}{A:Option Addr}{cap B:Nat}(hB:w.heap.size<=B):OwnFrom B (LY w l name A cap):=by
 rintro pre W W' row ⟨h1,h2,h3,⟨v,h4⟩,h5,h6,h7⟩ hg hr;have hr':∀r,row=some r->∃o:Obj,W.heap[r]?=some o/\o.isCells=false:=fun r e=>(hr r e).2;exact⟨h1.grown hg (by omega) (fun k e=>by have:=(hr k e).1;omega),gA h2 hg hr',gA h3 hg hr',⟨v,gA h4 hg hr'⟩,(frozen_kept h4 hg hr').trans h5,by have:=hg.size;omega,h7⟩
theorem VA{w:World}{l:List ay}{name:bG}{B:Nat}(hB:w.heap.size<=B)(c:Code):OwnFrom B (LZ w l name c):=by
 rintro pre W W' row ⟨h0,h1,r,x,h2,h3,h4,h5⟩ hg hr;have hr':∀r,row=some r->∃o:Obj,W.heap[r]?=some o/\o.isCells=false:=fun r e=>(hr r e).2;have:=hg.size;have hs:=L0 h3;exact⟨h0,h1.grown hg (by have:=h1.size;omega) (fun k e=>by have:=(hr k e).1;omega),r,x,h2,gA h3 hg hr',h4,h5⟩
theorem VB(w:World)(o:Obj)(i:Nat)(h:i<w.heap.size):(w.alloc o).heap[i]?=w.heap[i]?:=by first|exact zZ w o i h|exact zZ w o h
theorem L1{W:World}{a:Addr}{v:Value}(h:W.cell? a=some v):(loadVar 3 a).run prog W= .ok v W:=by
 simp only[loadVar,Sem.run_bind,Sem.run_pure,Result.andThen_ok,Go.Lamb.nX underlying3,ju,Bool.false_eq_true,if_false];simp[go_sem,h]
set_option maxRecDepth 100000 in
set_option maxHeartbeats 4000000 in
theorem Dz{w:World}(l:List ay)(name:bG)(hl:l.length<=1000000)(A:Option Addr)(cap:Nat)(xs:Nat->Value)(b off:Nat)(hA:0<l.length->A=some ⟨b,off,none⟩)(hm':∀k,k<l.length*5->w.cell? ⟨b,off+k,none⟩=some (xs k))(hb:0<l.length->b<w.heap.size)
  (hxs:∀i (hi:i<l.length),xs (i*5)= .string (bs l[i].name)/\(xs (i*5+1)).oneCell'=true/\(xs (i*5+2)).oneCell'=true/\(xs (i*5+3)).oneCell'=true/\(xs (i*5+4)).oneCell'=true):
  Calls prog 121 #[.slice A l.length cap,.string (bs name)] w (fun e w'=>e= .returned (.int .i64 (dw name 0 l))/\Below w.heap.size w w'):=by
 refine(callsIn_wide (n:=3)).1 ?_;refine callsIn_of_wp_marks func121 rfl trivial ?_ rfl;simp only[ntmps121,oV,bo,cM,dL,sK,wj,wm,wo,wq,er,iR]
 gi_wp2_with (refine⟨trivial,?_⟩;gi_at_call 179;refine(Vv Fence.wide 2 trivial rfl _ _ _ _).mono ?_;rintro e w' ⟨rfl,rfl⟩)
 obtain⟨W0,hW0⟩:∃W0,((((w.alloc (.cells #[.slice A l.length cap] 23)).alloc (.cells #[.string (bs name)] 9)).alloc (.cells #[.int .i64 0] 3)).alloc (.cells #[.slice A l.length cap] 23))=W0:=⟨_,rfl⟩;rw[hW0];have hsz:W0.heap.size=w.heap.size+4:=by rw[<-hW0];simp
 have hBel:Below w.heap.size w W0:=by
  rw[<-hW0];exact((((ep _ w).alloc (aA _) _).alloc (by simp) _).alloc (by simp;omega) _).alloc (by simp;omega) _
 have hc0:W0.cell? ⟨w.heap.size,0,none⟩=some (.slice A l.length cap):=by
  rw[<-hW0];exact jO _ (jO _ (jO _ (wu _ _ _ _ rfl)))
 have hc1:W0.cell? ⟨w.heap.size+1,0,none⟩=some (.string (bs name)):=by
  rw[<-hW0];exact jO _ (jO _ (wu _ _ _ _ (by simp)))
 have hh2:W0.heap[w.heap.size+2]?=some (.cells #[.int .i64 0] 3 (0,0)):=by
  rw[<-hW0,VB _ _ _ (by simp)];have:=heap_alloc_new ((w.alloc (.cells #[.slice A l.length cap] 23)).alloc (.cells #[.string (bs name)] 9)) (.cells #[.int .i64 0] 3);simpa using this
 have hc2:W0.cell? ⟨w.heap.size+2,0,none⟩=some (.int .i64 0):=by rw[cell_of_row _ _ _ _ _ _ hh2];rfl
 have hf2:W0.frozen? ⟨w.heap.size+2,0,none⟩=false:=by simp[World.frozen?,hh2]
 have hcD:W0.cell? ⟨w.heap.size+1+1+1,0,none⟩=some (.slice A l.length cap):=by
  rw[<-hW0];exact wu _ _ _ _ (by simp)
 refine wpIn_rangeFunc_ownH rfl (by omega) (gf:=226) (lb:=#[.pointer (some ⟨w.heap.size+1+1+1,0,none⟩)]) rfl trivial (enters_of func226 (by kernel_rfl) rfl)
  (Vw Fence.wide 2 trivial rfl (by omega) (w.heap.size+1+1+1) w.heap.size b off l.length cap A hA xs hl hb W0 (by omega) (by omega) hcD (fun j hj=>(hBel.cell (p:=⟨b,off+j,none⟩) (hb (by omega))).trans (hm' j hj)))
  ff.trans (ff.xu (by omega)) (ep _ _) (fun _=>rfl)
  (LY w l name A cap)
  (LZ w l name) (Vz (by omega)) (VA (by omega)) ?h0
  (fun x a' _=>a'={tmps:=#[.slice A l.length cap,.string (bs name),.pointer (some ⟨w.heap.size,0,none⟩),.pointer (some ⟨w.heap.size+1,0,none⟩),.pointer (some ⟨w.heap.size+1+1,0,none⟩),.int .i64 (x.1:Nat),.slice A l.length cap,.func (.func 226) #[] #[.pointer (some ⟨w.heap.size+1+1+1,0,none⟩)],.int .i64 (x.1:Nat),yY xs x.1,undef,undef,undef,undef,undef,undef,undef,undef],defers:=[]}) ?hAx ?assign ?body ?done ?stop
 case h0=>exact⟨hBel,hc0,hc1,⟨_,hc2⟩,hf2,by omega,fun x hx=>by cases hx⟩
 case hAx=>exact fun x a'=>ownFrom_pure _ _
 case assign=>
  intro l' pre x W K hi hK
  gi_wp2
  exact hK _ _ ((KeepsOthers.refl _).from _) (ff.refl _ _ _) hi rfl
 case body=>
  rintro l' pre x a' W hl' ⟨r,hr⟩ ⟨h1,h2,h3,⟨v4,h4⟩,h5,h6,h7⟩ rfl hlt;obtain⟨k0,k1,k2,k3,k4⟩:=hxs x.1 x.2;have hxl:x.1<l.length:=x.2;obtain rfl:=hA (by omega);have p0:=(h1.cell (p:=⟨b,off+x.1*5,none⟩) (hb (by omega))).trans (hm' (x.1*5) (by omega));rw[k0]at p0;have h4':W.cell? ⟨w.heap.size+1+1,0,none⟩=some v4:=h4;have h5':W.frozen? ⟨w.heap.size+1+1,0,none⟩=false:=h5
  gi_wp2
  refine Vy (by kernel_rfl) (by kernel_rfl) (by kernel_rfl) (fun⟨_,_,h⟩=>h) ?_
  repeat (quiet_step (skip))
  refine wpQuiet_nil ?_;intro _ hw';obtain⟨nq,hw''⟩:=hw';subst hw'';have hbel:Below w.heap.size W (W.drewN nq):=⟨rfl,rfl,rfl,aA _,fun _ _=>rfl⟩;cases hq:(l[x.1].name==name)
  ·gi_wp2
   refine⟨?_,⟨hbel,fun v hv=>hv⟩,h1.trans hbel,h2,h3,⟨v4,h4⟩,h5,h6,fun y hy=>?_⟩
   ·exact⟨aA _,fun k o _ h _=>h⟩
   ·rcases cH.1 hy with hy|hy
    ·exact h7 y hy
    ·have:=lM.1 hy;subst this;exact hq
  ·gi_wp2
   have hs:((W.drewN nq).setCell ⟨w.heap.size+1+1,0,none⟩ (.int .i64 (x.1:Nat))).cell? ⟨w.heap.size+1+1,0,none⟩=some (.int .i64 (x.1:Nat)):=wv _ _ _ (by show((W.drewN nq).cell? _).isSome=true;rw[World.cell?_drewN,h4'];rfl);refine⟨?_,rfl,(h1.trans hbel).setCell (p:=⟨w.heap.size+1+1,0,none⟩) (by show w.heap.size<=w.heap.size+1+1;omega) _,pre,x,rfl,hs,hq,h7⟩;have hk0:KeepsFrom W0.heap.size W (W.drewN nq):=⟨aA _,fun k o _ h _=>h⟩;exact hk0.trans ((wx _ _ _).from _)
 case done=>
  rintro D ys W hD hS ⟨h1,h2,h3,⟨v4,h4⟩,h5,h6,h7⟩ hK;have hall:∀x∈l,(x.name==name)=false:=fun x hx=>by
   obtain⟨j,hj,rfl⟩:=fU hx;have:j∈ys.map iS:=by
    rw[hS];exact dK.2 ⟨l.length-1-j,jW.2 (by omega),by omega⟩
   obtain⟨y,hy,rfl⟩:=dK.1 this;exact h7 y hy
  have h4':W.cell? ⟨w.heap.size+1+1,0,none⟩=some v4:=h4;have h5':W.frozen? ⟨w.heap.size+1+1,0,none⟩=false:=h5
  gi_wp2
  have hK':(W.setCell ⟨w.heap.size+1+1,0,none⟩ (.int .i64 (-1))).heap[D]?=some (.deferred (some [])):=(wx _ _ _).same D _ hK rfl;refine⟨by simp,.inl ⟨_,_,rfl,run_takeDeferred hK',?_⟩⟩;have hg:((W.setCell ⟨w.heap.size+1+1,0,none⟩ (.int .i64 (-1))).putObj D (.deferred none)).cell? ⟨w.heap.size+1+1,0,none⟩=some (.int .i64 (-1)):=gA (wv _ _ _ (by rw[h4'];rfl)) (sQ _ D (.deferred none)) (fun r e=>by cases e;exact⟨_,hK',rfl⟩);have hBf:Below w.heap.size w ((W.setCell ⟨w.heap.size+1+1,0,none⟩ (.int .i64 (-1))).putObj D (.deferred none)):=(h1.setCell (p:=⟨w.heap.size+1+1,0,none⟩) (by show w.heap.size<=w.heap.size+1+1;omega) _).grown (sQ _ D (.deferred none)) (by have:=h1.size;simpa using this) (fun k e=>by cases e;omega)
  refine⟨.int .i64 (-1),by simp[results,Tryz.f121,asAddr,L1 hg],?_,hBf⟩;rw[Dy name l 0 hall]
 case stop=>
  rintro D c pre W hD ⟨k,hk,hpre⟩ ⟨rfl,h1,r,x,rfl,h3,h4,h5⟩ hK;have dN:dw name 0 l=((x.1:Nat):Int):=by
   have:=LW name l 0 x.1 x.2 h4 fun j hj hj'=>by
    rw[dX,yZ]at hpre;obtain⟨q1,q2⟩:=List.append_inj' hpre rfl;have hx:x.1=l.length-1-k:=by simpa using q2
    have:j∈r.map iS:=by
     rw[q1];exact dK.2 ⟨l.length-1-j,jW.2 (by omega),by omega⟩
    obtain⟨y,hy,rfl⟩:=dK.1 this;exact h5 y hy
   rw[this,eF]
  have h3':W.cell? ⟨w.heap.size+1+1,0,none⟩=some (.int .i64 (x.1:Nat)):=h3
  gi_wp2
  refine⟨by simp,.inl ⟨_,_,rfl,run_takeDeferred hK,?_⟩⟩;have hg:(W.putObj D (.deferred none)).cell? ⟨w.heap.size+1+1,0,none⟩=some (.int .i64 (x.1:Nat)):=gA h3' (sQ _ D (.deferred none)) (fun r e=>by cases e;exact⟨_,hK,rfl⟩);have hBf:Below w.heap.size w (W.putObj D (.deferred none)):=h1.grown (sQ _ D (.deferred none)) h1.size (fun k e=>by cases e;omega);refine⟨.int .i64 (x.1:Nat),by simp[results,Tryz.f121,asAddr,L1 hg],?_,hBf⟩;rw[dN]
theorem VC{w0 w:World}{κ:K}{σ:H}(hrep:aB w0 κ σ w)(l:List ay)(name:bG)(hl:l.length<=1000000)(A:Option Addr)(len cap:Nat)(hfv:RC κ.m (ef l) (.slice A len cap)):
  Calls prog 121 #[.slice A len cap,.string (bs name)] w (fun e w'=>e= .returned (.int .i64 (dw name 0 l))/\Below w.heap.size w w'):=by
 obtain⟨rfl,xs,hx,hxs⟩:=Vx hfv;by_cases h:0<l.length
 ·obtain⟨b,o,e,h'⟩:=hx h;exact Dz l name hl A cap xs b o (fun _=>e) (fun k hk=>hrep.mem _ _ _ (h' k hk)) (fun _=>hrep.nf (h' 0 (by omega))) hxs
 ·exact Dz l name hl A cap xs 0 0 (fun h'=>absurd h' h) (fun k hk=>by omega) (fun h'=>absurd h' h) hxs
theorem y8(w0:World)(l:List ay)(name:bG)(hl:l.length<=1000000)(σ:H):DC prog w0 121 [.c (ef l),S name] σ (Same (I (dw name 0 l)) σ):=by
 refine DC.xt (lO func121 (by kernel_rfl) rfl) fun κ w vs hrep hfit=>?_;obtain⟨v,ys,rfl,hv,hfit⟩:=hfit.cons_inv;obtain⟨u,zs,rfl,hu,hfit⟩:=hfit.cons_inv;have:=hfit.kS;subst this;cases hv with
 |c hv=>
  have hv':=hv;unfold ef at hv;cases hv with
  |sl rows s A cap xs h0 h1 h2 h3 h4 h5=>
   cases hu with
   |c hu=>
    cases hu with
    |str _ h=>
     refine(VC hrep l name hl A _ cap hv').mono ?_;rintro e w' ⟨rfl,hb⟩;exact⟨_,rfl,hb,.c (.int _ _)⟩
end Go.Proofs.YtdlkenpilhakfaaGreatDoor
namespace Go.Lamb
open Go Go.RowKit
def cb(l:List ay):List C:=(l.map ay.cs).flatten
theorem si(l:List ay):∀r∈l.map ay.cs,r.length=5:=fun r hr=>by
 obtain⟨x,_,rfl⟩:=dK.1 hr;rfl
theorem qc(l:List ay):(cb l).length=l.length*5:=by unfold cb;rw[Ls (si l),cd]
theorem L3(l:List ay)(x:ay):cb (l++[x])=cb l++x.cs:=by simp[cb]
theorem DA{l:List ay}{i:Nat}(hi:i<l.length):((cb l).drop (i*5)).take 5=l[i].cs:=by
 unfold cb;rw[Lt (si l) (by rw[cd];exact hi),dE]
theorem L4{l:List ay}{i:Nat}(hi:i<l.length):(cb l)[i*5]?=some (.str l[i].name):=by
 have h:=DA hi;have h2:(((cb l).drop (i*5)).take 5)[0]?=some (.str l[i].name):=by rw[h];rfl
 rw[List.getElem?_take_of_lt (by decide),List.getElem?_drop,mS]at h2;exact h2
end Go.Lamb
namespace Go.Proofs.YtdlkenpilhakfaaGreatDoor
open Go.RowKit Go.Lamb
theorem VD(w0:World)(l:List ay)(name:bG)(hl:l.length<=1000000)(b:Nat)(J:List C)(σ:H)(hb:σ[b]?=some (.vec 50 5 (cb l++J))):DC prog w0 121 [.vec b l.length,S name] σ (Same (I (dw name 0 l)) σ):=by
 refine DC.xt (lO func121 (by kernel_rfl) rfl) fun κ w vs hrep hfit=>?_;obtain⟨v,ys,rfl,hv,hfit⟩:=hfit.cons_inv;obtain⟨u,zs,rfl,hu,hfit⟩:=hfit.cons_inv;have:=hfit.kS;subst this;obtain⟨hlt,hbe⟩:=aK.1 hb;have hblk:=hrep.cz b hlt;rw[hbe]at hblk;obtain⟨cur,n',cap',k0,k1,k2,k3,k4,k5,k6⟩:=hblk.row;have hsz:l.length*5<=cur.size:=by
  have h1:(cb l++J).length=l.length*5+J.length:=by rw[bt,qc]
  have h2:=Nat.mul_le_mul_right 5 k3;omega
 have hrc:∀k,k<l.length*5->∃c,(cb l)[k]?=some c/\RC κ.m c (cur.getD k undef):=fun k hk=>by
  have hk':k<(cb l).length:=by rw[qc];exact hk
  refine⟨(cb l)[k],aR hk',?_⟩;have:=k6 k (by rw[bt];omega);rwa [List.getElem_append_left hk']at this
 cases hv with
 |vec q0 q1 q2 q3 q4 q5=>
  cases hu with
  |c hu=>
   cases hu with
   |str _ h=>
    refine(Dz l name hl _ _ (fun k=>cur.getD k undef) (κ.pos b) 0 (fun _=>rfl) (fun k hk=>?_) (fun _=>(Array.getElem?_eq_some_iff.1 k1).1) (fun i hi=>?_)).mono ?_
    ·rw[eF,cell_of_row _ _ _ _ _ _ k1,Array.getD_eq_getD_getElem?,Array.getElem?_eq_getElem (by omega)];rfl
    ·obtain⟨c0,h0,r0⟩:=hrc (i*5) (by omega);obtain⟨c1,_,r1⟩:=hrc (i*5+1) (by omega);obtain⟨c2,_,r2⟩:=hrc (i*5+2) (by omega);obtain⟨c3,_,r3⟩:=hrc (i*5+3) (by omega);obtain⟨c4,_,r4⟩:=hrc (i*5+4) (by omega);refine⟨?_,r1.one,r2.one,r3.one,r4.one⟩;rw[L4 hi]at h0;injection h0 with h0;subst h0;show cur.getD (i*5) undef=_;generalize cur.getD (i*5) undef=z at r0;cases r0;rfl
    ·rintro e w' ⟨rfl,hb⟩;exact⟨_,rfl,hb,.c (.int _ _)⟩
end Go.Proofs.YtdlkenpilhakfaaGreatDoor
namespace Go.Lamb
open Go Go.RowKit
structure aH where
 sub:List aa
 bound:List ay
 vars:List ay
 e:Int
 pos:Int
 live:Bool
structure Kept (n0 p:Nat) (σ τ:H):Prop where
 low:∀b,b<n0->τ[b]?=σ[b]?
 cells:∀(b:Nat) (cs:List V) (tg:Option TypeId),b≠p->σ[b]?=some (.cells cs tg)->τ[b]?=some (.cells cs tg)
 len:σ.length<=τ.length
theorem Kept.refl(n0 p:Nat)(σ:H):Kept n0 p σ σ:=⟨fun _ _=>rfl,fun _ _ _ _ h=>h,aA _⟩
theorem Kept.trans{n0 p:Nat}{a b c:H}(h:Kept n0 p a b)(k:Kept n0 p b c):Kept n0 p a c:=
 ⟨fun x hx=>(k.low x hx).trans (h.low x hx),fun x cs tg hp hx=>k.cells x cs tg hp (h.cells x cs tg hp hx),bB h.len k.len⟩
theorem Kept.app{n0 p:Nat}{σ τ:H}(h:Kept n0 p σ τ)(h0:n0<=σ.length)(L:H):Kept n0 p σ (τ++L):=
 ⟨fun x hx=>by rw[cF (by have:=h.len;omega)];exact h.low x hx,fun x cs tg hp hx=>by
   have:=h.cells x cs tg hp hx;rw[cF (aK.1 this).1];exact this,by rw[bt];have:=h.len;omega⟩
theorem Kept.set{n0 p:Nat}{σ τ:H}(h:Kept n0 p σ τ){a:Nat}(x:ad)(h0:n0<=a)(ha:a=p\/σ.length<=a\/∀cs tg,σ[a]?≠some (.cells cs tg)):Kept n0 p σ (τ.set a x):=
 ⟨fun y hy=>by rw[bX (by omega)];exact h.low y hy,fun y cs tg hp hy=>by
   have hne:a≠y:=by
    rintro rfl;rcases ha with ha|ha|ha
    ·exact hp ha
    ·have:=(aK.1 hy).1;omega
    ·exact ha _ _ hy
   rw[bX hne];exact h.cells y cs tg hp hy,by rw[bC];exact h.len⟩
theorem qd{σ:H}{q b:Nat}{x B:ad}(h:σ[b]?=some B)(hq:σ[q]?≠some B):(σ.set q x)[b]?=some B:=by
 have:q≠b:=by rintro rfl;exact hq h
 rw[bX this];exact h
theorem VE{s l:List aa}{n:Int}(h0:0<=n)(h:n<s.length):cf (s++l) n=cf s n:=by
 unfold cf;rw[cc,cc,cF (by omega)]
theorem L5{N:Nat}{s:List aa}(hN:1<=N)(hs:s.length<1000000)(h:cl N s):cl N (s++[aN s.length]):=by
 have hL:(s++[aN s.length]).length=s.length+1:=by simp
 have ht:aD (s.length+1) (aN s.length):=iF (by omega) (by omega) (by omega);refine⟨⟨fun t hm=>?_,?_⟩,fun t hm=>?_⟩
 ·rw[hL];rcases cH.1 hm with hm|hm
  ·exact(h.right.holds t hm).mono (by omega)
  ·rw[lM.1 hm];exact ht
 ·obtain⟨rk,hr⟩:=h.right.Bi;refine⟨rk,fun i hi hs' v hv=>?_⟩;rw[hL]at hi;by_cases hlt:i<s.length
  ·have e:cf (s++[aN s.length]) (i:Int)=cf s i:=VE (by omega) (by omega);rw[e]at hv;refine hr i hlt ?_ v hv;unfold bH at hs'⊢;have e2:(aN (i:Int)).n=i:=rfl;rw[e2,e]at hs';exact hs'
  ·have hi':i=s.length:=by omega
   subst hi';exfalso;have e:cf (s++[aN s.length]) (s.length:Int)=aN s.length:=by
    unfold cf;rw[cc,cY (by simp),jX,ck];rfl
   unfold bH at hs';have e2:(aN (s.length:Int)).n=s.length:=rfl;rw[e2,e]at hs';simp[aN,aY,aV]at hs'
 ·rcases cH.1 hm with hm|hm
  ·exact h.size t hm
  ·rw[lM.1 hm,aN,cW,aL,bS];omega
noncomputable def eE(s:List aa)(a b:aa):Int×List aa:=by
 classical
 exact if h:∃r:Int×List aa,eU 4096 s [(a,b)] r.1 r.2/\cl 100000 r.2/\r.2.length=s.length then Fm h else(0,s)
theorem ve{s:List aa}(hR:cl 100000 s)(hs:s.length<=1000000){a b:aa}(hp:ee s.length 100000 (a,b)):eU 4096 s [(a,b)] (eE s a b).1 (eE s a b).2/\cl 100000 (eE s a b).2/\(eE s a b).2.length=s.length:=by
 have h:∃r:Int×List aa,eU 4096 s [(a,b)] r.1 r.2/\cl 100000 r.2/\r.2.length=s.length:=by
  obtain⟨e,s',h⟩:=Ha (N:=100000) (by decide) 4096 s [(a,b)] hR hs (fun p hm=>by rw[lM.1 hm];exact hp);exact⟨(e,s'),h⟩
 unfold eE;rw[dif_pos h];exact Fo h
namespace aH
def fail(f:aH)(e pos:Int):aH:=if f.e=0 then{f with e:=e,pos:=pos}else f
def fresh(f:aH):aH:={f with sub:=f.sub++[aN f.sub.length]}
noncomputable def one(f:aH)(a b:aa):aH:={f with sub:=(eE f.sub a b).2,live:=f.live&&((eE f.sub a b).1==0&&!f.sub.isEmpty)}
noncomputable def mB(f:aH)(a b:aa):Bool:=(eE f.sub a b).1==0
end aH
end Go.Lamb
namespace Go.Proofs.YtdlkenpilhakfaaGreatDoor
open Go.RowKit Go.Lamb
def vf(n0:Nat)(σ:H)(y:V)(s:List aa):Prop:=(s=[]/\y= .ab [])\/∃b,n0<=b/\y= .vec b s.length/\σ[b]?=some (.vec 34 4 (aJ s))/\s≠[]
def sj(n0:Nat)(σ:H)(y:V)(l:List ay):Prop:=(l=[]/\y= .ab [])\/∃b J,n0<=b/\y= .vec b l.length/\σ[b]?=some (.vec 50 5 (cb l++J))
def sk(n0:Nat)(σ:H)(y:V)(l:List ay):Prop:=(l=[]/\y= .ab [])\/∃b,n0<=b/\y= .aF b (l.map ay.cs)/\σ[b]?=some (.spare 50 5 l.length)
def bJ(g:Sg)(f:aH)(y3 y4 y5:V):ad:=.cells [.c (fO g.kinds),.c (ef g.types),.c (iC g.ops),y3,y4,y5,I f.e,I f.pos] none
structure bq (n0:Nat) (σ:H) (p:Nat) (g:Sg) (f:aH) (y3 y4 y5:V):Prop where
 here:σ[p]?=some (bJ g f y3 y4 y5)
 le:n0<=p
 sub:f.live=true->vf n0 σ y3 f.sub
 eh:sj n0 σ y4 f.bound
 var:sk n0 σ y5 f.vars
section
variable {n0 p:Nat} {σ τ:H} {g:Sg} {f:aH} {y3 y4 y5:V}
theorem vf.mono{y:V}{s:List aa}(h:vf n0 σ y s)(hm:∀(b:Nat) c,n0<=b->σ[b]?=some (.vec 34 4 c)->τ[b]?=some (.vec 34 4 c)):vf n0 τ y s:=h.imp id fun⟨b,h1,h2,h3,h4⟩=>⟨b,h1,h2,hm b _ h1 h3,h4⟩
theorem sj.mono{y:V}{s:List ay}(h:sj n0 σ y s)(hm:∀(b:Nat) c,n0<=b->σ[b]?=some (.vec 50 5 c)->τ[b]?=some (.vec 50 5 c)):sj n0 τ y s:=h.imp id fun⟨b,J,h1,h2,h3⟩=>⟨b,J,h1,h2,hm b _ h1 h3⟩
theorem sk.mono{y:V}{s:List ay}(h:sk n0 σ y s)(hm:∀(b:Nat) k,n0<=b->σ[b]?=some (.spare 50 5 k)->τ[b]?=some (.spare 50 5 k)):sk n0 τ y s:=h.imp id fun⟨b,h1,h2,h3⟩=>⟨b,h1,h2,hm b _ h1 h3⟩
theorem bq.lt(h:bq n0 σ p g f y3 y4 y5):p<σ.length:=(aK.1 h.here).1
theorem bq.mono(h:bq n0 σ p g f y3 y4 y5)(hm:∀(b:Nat) B,n0<=b->(∀cs tg,B≠ .cells cs tg)->σ[b]?=some B->τ[b]?=some B)(hp:τ[p]?=some (bJ g f y3 y4 y5)):bq n0 τ p g f y3 y4 y5:=
 ⟨hp,h.le,fun hl=>(h.sub hl).mono fun b c h0 hb=>hm b _ h0 (fun _ _ e=>by cases e) hb,h.eh.mono fun b c h0 hb=>hm b _ h0 (fun _ _ e=>by cases e) hb,h.var.mono fun b c h0 hb=>hm b _ h0 (fun _ _ e=>by cases e) hb⟩
theorem bq.app(h:bq n0 σ p g f y3 y4 y5)(L:H):bq n0 (σ++L) p g f y3 y4 y5:=
 h.mono (fun b B _ _ hb=>by rw[cF (aK.1 hb).1];exact hb) (by rw[cF h.lt];exact h.here)
theorem bq.put{f':aH}{z3 z4 z5:V}(h:bq n0 σ p g f y3 y4 y5)(h3:f'.live=true->vf n0 σ z3 f'.sub)(h4:sj n0 σ z4 f'.bound)(h5:sk n0 σ z5 f'.vars):bq n0 (σ.set p (bJ g f' z3 z4 z5)) p g f' z3 z4 z5/\Kept n0 p σ (σ.set p (bJ g f' z3 z4 z5)):=by
 have hk:∀(b:Nat) (B:ad),(∀cs tg,B≠ .cells cs tg)->σ[b]?=some B->(σ.set p (bJ g f' z3 z4 z5))[b]?=some B:=fun b B hB hb=>qd hb (fun e=>by
  rw[h.here]at e;injection e with e;exact hB _ _ e.symm)
 exact⟨⟨ct h.lt,h.le,fun hl=>(h3 hl).mono fun b c _ hb=>hk b _ (fun _ _ e=>by cases e) hb,h4.mono fun b c _ hb=>hk b _ (fun _ _ e=>by cases e) hb,h5.mono fun b c _ hb=>hk b _ (fun _ _ e=>by cases e) hb⟩,(Kept.refl _ _ _).set _ h.le (.inl rfl)⟩
theorem bq.box(h:bq n0 σ p g f y3 y4 y5){a:Nat}{cs:List V}{tg:Option TypeId}(ha:σ[a]?=some (.cells cs tg))(hp:a≠p)(x:ad):bq n0 (σ.set a x) p g f y3 y4 y5:=
 h.mono (fun b B _ hB hb=>qd hb (by rw[ha];intro e;injection e with e;exact hB _ _ e.symm)) (by rw[bX hp];exact h.here)
theorem bq.DB{σ1:H}(h:bq n0 σ p g f y3 y4 y5)(hn:n0<=σ.length)(hl:σ1.length=σ.length)(hs:∀b:Nat,σ1[b]?=σ[b]?\/(n0<=b/\∃c,σ[b]?=some (.vec 34 4 c)))(s':List aa)(hs':s'≠[])(lv:Bool):
  bq n0 (σ1.set p (bJ g f (.vec σ.length s'.length) y4 y5)++[.vec 34 4 (aJ s')]) p g {f with sub:=s',live:=lv} (.vec σ.length s'.length) y4 y5/\Kept n0 p σ (σ1.set p (bJ g f (.vec σ.length s'.length) y4 y5)++[.vec 34 4 (aJ s')]):=by
 have hp1:p<σ1.length:=by rw[hl];exact h.lt
 have key:∀(b:Nat) B,(∀c,B≠ .vec 34 4 c)->b≠p->σ[b]?=some B->(σ1.set p (bJ g f (.vec σ.length s'.length) y4 y5)++[.vec 34 4 (aJ s')])[b]?=some B:=fun b B hB hb hσ=>by
  have hb1:b<(σ1.set p (bJ g f (.vec σ.length s'.length) y4 y5)).length:=by rw[bC,hl];exact(aK.1 hσ).1
  rw[cF hb1,bX (di hb)];rcases hs b with e|⟨_,c,e⟩
  ·rw[e];exact hσ
  ·rw[hσ]at e;injection e with e;exact absurd e (hB c)
 have hne:∀b B,(∀cs tg,B≠ .cells cs tg)->σ[b]?=some B->b≠p:=by
  rintro b B hB hb rfl;rw[h.here]at hb;injection hb with hb;exact hB _ _ hb.symm
 refine⟨⟨?_,h.le,fun _=>.inr ⟨σ.length,hn,rfl,?_,hs'⟩,h.eh.mono fun b c _ hb=>key b _ (fun _ e=>by cases e) (hne b _ (fun _ _ e=>by cases e) hb) hb,h.var.mono fun b c _ hb=>key b _ (fun _ e=>by cases e) (hne b _ (fun _ _ e=>by cases e) hb) hb⟩,⟨fun b hb=>?_,fun b cs tg hb hσ=>key b _ (fun _ e=>by cases e) hb hσ,?_⟩⟩
 ·rw[cF (by rw[bC];exact hp1),ct hp1];rfl
 ·rw[cY (by rw[bC,hl];exact aA _),bC,hl,ck];rfl
 ·have h1:=h.le;rw[cF (by rw[bC];omega),bX (by omega)];rcases hs b with e|⟨e,_⟩
  ·exact e
  ·omega
 ·rw[bt,bC,hl];exact oY _ _
theorem sn(w0:World)(h:bq n0 σ p g f y3 y4 y5)(hn:n0<=σ.length)(hl:f.live=true)(hs:f.sub.length<=999999):
  ∃τ,DC prog w0 67 [.ptr p 0] σ (Same (aN f.sub.length).v τ)/\bq n0 τ p g f.fresh (.vec σ.length (f.sub.length+1)) y4 y5/\Kept n0 p σ τ:=by
 have e1:(f.sub++[aN f.sub.length]).length=f.sub.length+1:=by simp
 have e2:f.fresh={f with sub:=f.sub++[aN f.sub.length],live:=f.live}:=rfl;rcases h.sub hl with⟨h0,rfl⟩|⟨b,hb0,rfl,hb,_⟩
 ·have hm:=h.DB (σ1:=σ) hn rfl (fun _=>.inl rfl) (f.sub++[aN f.sub.length]) (by simp) f.live;rw[e1]at hm;refine⟨_,?_,by rw[e2];exact hm.1,hm.2⟩;rw[h0];exact Vp w0 p σ _ _ _ y4 y5 _ _ none h.here
 ·have hm:=h.DB (σ1:=σ.set b .gone) hn (bC ..) (fun b'=>by
   by_cases e:b'=b
   ·subst e;exact .inr ⟨hb0,_,hb⟩
   ·exact .inl (bX (di e))) (f.sub++[aN f.sub.length]) (by simp) f.live
  rw[e1]at hm;exact⟨_,Vo w0 (by omega) p b σ _ _ _ y4 y5 _ _ none h.here hb,by rw[e2];exact hm.1,hm.2⟩
theorem L6(w0:World)(h:bq n0 σ p g f y3 y4 y5)(hn:n0<=σ.length)(hl:f.live=true)(hs:f.sub.length<=1000000)(hR:cl 100000 f.sub){a b:aa}(hp:ee f.sub.length 100000 (a,b)):
  ∃τ y3',DC prog w0 26 [.ptr p 0,a.v,b.v] σ (Same (B (f.mB a b)) τ)/\bq n0 τ p g (f.one a b) y3' y4 y5/\Kept n0 p σ τ:=by
 obtain⟨u1,u2,u3⟩:=ve hR hs hp;obtain⟨ha,hb',na,nb⟩:=hp;rcases h.sub hl with⟨h0,rfl⟩|⟨b0,hb0,rfl,hb,hz⟩
 ·have hlv:(f.one a b).live=false:=by unfold aH.one;rw[h0];simp
  have hlen0:(eE f.sub a b).2=[]:=fA (by rw[u3,h0];rfl);have hC:=Vs w0 (N:=100000) (by decide) (a:=a) (b:=b) (by rw[h0]at ha;exact ha) na (by rw[h0]at hb';exact hb') nb (e:=(eE f.sub a b).1) (by rw[hlen0,h0]at u1;rw[h0];exact u1) p σ _ _ _ y4 y5 _ _ none h.here;have hpl:=h.lt;have hk:∀B:ad,(∀cs tg,B≠ .cells cs tg)->σ[p]?≠some B:=fun B hB e=>by
   rw[h.here]at e;injection e with e;exact hB _ _ e.symm
  refine⟨_,_,hC,⟨ct hpl,h.le,fun e=>(by rw[hlv]at e;cases e),h.eh.mono fun b c _ hb=>qd hb (hk _ (fun _ _ e=>by cases e)),h.var.mono fun b c _ hb=>qd hb (hk _ (fun _ _ e=>by cases e))⟩,(Kept.refl _ _ _).set _ h.le (.inl rfl)⟩
 ·by_cases he:(eE f.sub a b).1=0
  ·have hm:=h.DB (σ1:=σ.set b0 .gone) hn (bC ..) (fun b'=>by
    by_cases e:b'=b0
    ·subst e;exact .inr ⟨hb0,_,hb⟩
    ·exact .inl (bX (di e))) (eE f.sub a b).2 (fun e=>hz (fA (by rw[<-u3,e];rfl))) (f.one a b).live
   rw[u3]at hm;have hC:=Vq w0 hR (by decide) (by decide) hs hz ha na hb' nb (s':=(eE f.sub a b).2) (by rw[he]at u1;exact u1) p b0 σ _ _ _ y4 y5 _ _ none h.here hb;refine⟨_,_,?_,hm.1,hm.2⟩;have:f.mB a b=true:=by unfold aH.mB;simp[he]
   rw[this];exact hC
  ·have hC:=Vr w0 hR (by decide) (by decide) hs hz ha na hb' nb u1 he p b0 σ _ _ _ y4 y5 _ _ none h.here hb;have:f.mB a b=false:=by unfold aH.mB;simp[he]
   have hlv:(f.one a b).live=false:=by unfold aH.one;simp[he]
   rw[this];have hk:∀B:ad,(∀c,B≠ .vec 34 4 c)->σ[b0]?≠some B:=fun B hB e=>by
    rw[hb]at e;injection e with e;exact hB _ e.symm
   refine⟨_,_,hC,⟨qd h.here (hk _ (fun _ e=>by cases e)),h.le,fun e=>(by rw[hlv]at e;cases e),h.eh.mono fun b c _ hb=>qd hb (hk _ (fun _ e=>by cases e)),h.var.mono fun b c _ hb=>qd hb (hk _ (fun _ e=>by cases e))⟩,(Kept.refl _ _ _).set _ hb0 (.inr (.inr fun cs tg e=>by rw[hb]at e;cases e))⟩
end
end Go.Proofs.YtdlkenpilhakfaaGreatDoor
namespace Go.Lamb
open Go Go.RowKit
def mC(n:Int)(t:aa):aa:=(cI (ml n) () t).1
namespace aH
def more(f:aH):Nat->aH
 |0=>f
 |n+1=>(more f n).fresh
def db(f:aH)(t:aa):aa:=mC f.sub.length (cK t)
def renew(f:aH)(t:aa):aH:=f.more (cx 0 (cK t)).toNat
def push(f:aH)(x:ay):aH:={f with bound:=f.bound++[x]}
def pop(f:aH):aH:={f with bound:=f.bound.dropLast}
def gK(f:aH)(x:ay):aH:={f with vars:=f.vars++[x]}
end aH
end Go.Lamb
namespace Go.Proofs.YtdlkenpilhakfaaGreatDoor
open Go Go.RowKit Go.Lamb
def iL(g:Sg)(name:bG):Option aa:=match fP g.types name with
 |some x=>if cJ x.ty=true then some x.ty else none
 |none=>none
def y9(g:Sg)(f:aH)(p:ao):aa×aa×aH:=match iL g p.name with
 |some t=>(.mk 0 p.name 0 [],f.db t,f.renew t)
 |none=>(.mk 0 p.name 0 [],.none,f.fail 120 p.pos)
def mD(f:aH)(p:ao):aa×aa×aH:=
 if dw p.name 0 f.vars<0 then(.mk 4 [] f.vars.length [],aN f.sub.length,f.fresh.gK ⟨p.name,aN f.sub.length⟩)
 else(.mk 4 [] (dw p.name 0 f.vars) [],(f.vars.getD (dw p.name 0 f.vars).toNat .none).ty,f)
def vg(f:aH)(i:Int):aa×aa×aH:=(.mk 3 [] (f.bound.length-1-i) [],(f.bound.getD i.toNat .none).ty,f)
def jP(g:Sg)(f:aH)(p:ao):aa×aa×aH:=
 if 0<=dw p.name 0 f.bound then vg f (dw p.name 0 f.bound)else if p.k=1 then mD f p else y9 g f p
def oI(v:aa)(r:aa×aa×aH):aa×aa×aH:=(bI r.1,.arr v r.2.1,r.2.2.pop)
noncomputable def mE(pos:Int)(r q:aa×aa×aH):aa×aa×aH:=
 if q.2.2.e≠0 then(.none,.none,q.2.2)
 else(cv r.1 [q.1],aN q.2.2.sub.length,if q.2.2.fresh.mB r.2.1 (.arr q.2.1 (aN q.2.2.sub.length))=true then q.2.2.fresh.one r.2.1 (.arr q.2.1 (aN q.2.2.sub.length))else(q.2.2.fresh.one r.2.1 (.arr q.2.1 (aN q.2.2.sub.length))).fail 121 pos)
noncomputable def bE(g:Sg):ao->aH->aa×aa×aH
 | .mk k nm n [b] pos=>fun f=>if f.e≠0 then(.none,.none,f)else if k=2 then(.mk 2 [] n [],.mk 0 [105,110,116] 0 [],f)
   else if k=4 then oI (aN f.sub.length) (bE g b (f.fresh.push ⟨nm,aN f.sub.length⟩))else jP g f (.mk k nm n [b] pos)
 | .mk k nm n [a,b] pos=>fun f=>if f.e≠0 then(.none,.none,f)else if k=2 then(.mk 2 [] n [],.mk 0 [105,110,116] 0 [],f)
   else if k=3 then mE pos (bE g a f) (bE g b (bE g a f).2.2)else jP g f (.mk k nm n [a,b] pos)
 | .mk k nm n l pos=>fun f=>if f.e≠0 then(.none,.none,f)else if k=2 then(.mk 2 [] n [],.mk 0 [105,110,116] 0 [],f)else jP g f (.mk k nm n l pos)
theorem qe(g:Sg)(t:ao)(f:aH)(h:f.e≠0):bE g t f=(.none,.none,f):=by
 unfold bE;split<;>simp only[if_pos h]
theorem za(g:Sg)(t:ao)(f:aH)(h:f.e=0)(hk:t.k=2):bE g t f=(.mk 2 [] t.n [],.mk 0 [105,110,116] 0 [],f):=by
 unfold bE;split<;>simp only[ao.k]at hk<;>simp only[if_neg (not_not_intro h),if_pos hk,ao.n]
theorem zb(g:Sg)(nm:bG)(n:Int)(b:ao)(pos:Int)(f:aH)(h:f.e=0):bE g (.mk 4 nm n [b] pos) f=oI (aN f.sub.length) (bE g b (f.fresh.push ⟨nm,aN f.sub.length⟩)):=by
 rw[bE];simp only[if_neg (not_not_intro h)];rfl
theorem zd(g:Sg)(nm:bG)(n:Int)(a b:ao)(pos:Int)(f:aH)(h:f.e=0):bE g (.mk 3 nm n [a,b] pos) f=mE pos (bE g a f) (bE g b (bE g a f).2.2):=by
 rw[bE];simp only[if_neg (not_not_intro h)];rfl
theorem VF(g:Sg)(t:ao)(f:aH)(h:f.e=0)(h2:t.k≠2)(h3:t.k≠3)(h4:t.k≠4):bE g t f=jP g f t:=by
 unfold bE;split<;>simp only[ao.k]at h2 h3 h4<;>simp only[if_neg (not_not_intro h),if_neg h2]
 ·rw[if_neg h4]
 ·rw[if_neg h3]
end Go.Proofs.YtdlkenpilhakfaaGreatDoor
namespace Go.Lamb
open Go Go.RowKit
theorem lz(k:Int)(s:bG)(n:Int)(l:List aa):aC (.mk k s n l)=1+bS l:=by rw[aC]
theorem DD(p:aa):∀vs:List Int,(cI dp vs p).2.length<=vs.length+aC p:=by
 induction p using aa.ind with
 |h p ih=>
  intro vs;rw[pA,cW];split
  ·have:=(Hh vs p.n).1;show(aI vs p.n).length<=_;omega
  ·have key:∀l:List aa,(∀x∈l,x∈p.l)->∀vs:List Int,(bZ dp vs l).2.length<=vs.length+bS l:=by
    intro l;induction l with
    |nil=>intro _ vs;simp[bZ]
    |cons x l ihl=>
     intro hs vs;rw[bZ,bS];have h1:=ih x (hs x (bp ..)) vs;have h2:=ihl (fun y hy=>hs y (bW _ hy)) (cI dp vs x).2;simp only;omega
   have:=key p.l (fun x hx=>hx) vs;simp only;omega
theorem VG(p:aa):∀vs:List Int,vs.length+aC p<=1000000->cJ p=true->vs.length<=(cI dp vs p).2.length/\aD (cI dp vs p).2.length (cI dp vs p).1/\aC (cI dp vs p).1=aC p:=by
 refine aa.ind (P:=fun p=>∀vs:List Int,vs.length+aC p<=1000000->cJ p=true->vs.length<=(cI dp vs p).2.length/\aD (cI dp vs p).2.length (cI dp vs p).1/\aC (cI dp vs p).1=aC p) (fun p ih vs hvs hv=>?_) p;have hlen:=DD p vs;rw[pA]at hlen⊢;by_cases h1:p.k=1
 ·rw[if_pos h1]at hlen⊢;have hl:p.l=[]:=by
   rw[jF,bz]at hv;have:=hv.1;unfold lf at this;simp[h1]at this;exact this.2
  unfold dp at hlen⊢;dsimp only at hlen⊢;obtain⟨a1,a2⟩:=Hh vs p.n;have hin:nl vs p.n<(aI vs p.n).length:=by
   rcases Hi vs p.n with⟨e1,e2,_⟩|⟨h,e2,_⟩
   ·rw[e1,e2];simp
   ·rw[e2];exact h
  refine⟨a2,iF (by omega) (by omega) (by omega),?_⟩;rw[aa.var,lz,cW p,hl]
 ·rw[if_neg h1]at hlen⊢;dsimp only at hlen⊢;have hk:∀u∈p.l,cJ u=true:=by
   rw[jF,bz]at hv;exact cL.1 hv.2
  have hnp:=cW p;have key:∀(l:List aa) (vs:List Int),(∀u∈l,u∈p.l)->vs.length+bS l<=1000000->vs.length<=(bZ dp vs l).2.length/\(∀u∈(bZ dp vs l).1,aD (bZ dp vs l).2.length u)/\bS (bZ dp vs l).1=bS l:=by
   intro l;induction l with
   |nil=>intro vs _ _;rw[bZ];exact⟨aA _,fun u hu=>by simp at hu,rfl⟩
   |cons x l ihl=>
    intro vs hl hn;rw[bS]at hn;have hx:=DD x vs;obtain⟨b1,b2,b3⟩:=ih x (hl x (bp ..)) vs (by omega) (hk x (hl x (bp ..)));obtain⟨c1,c2,c3⟩:=ihl (cI dp vs x).2 (fun u hu=>hl u (bW _ hu)) (by omega);rw[bZ];dsimp only
    refine⟨by omega,fun u hu=>?_,?_⟩
    ·rcases cD.1 hu with rfl|hu
     ·exact b2.mono c1
     ·exact c2 u hu
    ·rw[bS,bS,b3,c3]
  obtain⟨c1,c2,c3⟩:=key p.l vs (fun _ h=>h) (by omega);refine⟨c1,⟨?_,fun v hv'=>?_⟩,by rw[lz,c3,<-hnp]⟩
  ·rw[jF,bz];refine⟨?_,cL.2 fun u hu=>(c2 u hu).valid⟩;have hvn:=hv;rw[jF,bz]at hvn;have hn:=hvn.1;unfold lf at hn⊢;by_cases h0:p.k=0
   ·have hA:dA p=false:=by unfold dA;simp[h0]
    simp[h0]at hn;simp[hA,aY,a7,aV,hn.1]
   ·by_cases h2:p.k=2
    ·simp[h2]at hn;have hA:dA p=true:=by unfold dA;simp[h2,hn.2]
     simp[hA,aY,a7,aV,aL,tO,hn.2]
    ·simp[h0,h1,h2]at hn
  ·rw[lh (by rw[aY];split<;>decide),aL]at hv';obtain⟨u,hu,ho⟩:=hv';exact(c2 u hu).vars v ho
theorem VH(p:aa):∀(m:Int) (n:Nat),aD n p->0<=m->m<=n->n<=1000000->m<=cx m p/\cx m p<=n/\∀v,cX v p=true->v<cx m p:=by
 refine aa.ind (P:=fun p=>∀(m:Int) (n:Nat),aD n p->0<=m->m<=n->n<=1000000->m<=cx m p/\cx m p<=n/\∀v,cX v p=true->v<cx m p) (fun p ih m n h h0 hm hn=>?_) p;rw[Be];by_cases h1:p.k=1
 ·rw[if_pos h1];obtain⟨q0,q1,_,_⟩:=h.var h1;have e:nh m p.n=if p.n+1>m then p.n+1 else m:=by
   unfold nh;rw[if_neg (by omega:¬(-1:Int)>p.n),bD (by omega) (by omega)]
  rw[e];refine⟨by split<;>omega,by split<;>omega,fun v hv=>?_⟩;have:=(mj h1).1 hv;split<;>omega
 ·rw[if_neg h1];have key:∀(l:List aa) (m:Int),(∀u∈l,u∈p.l)->0<=m->m<=n->m<=cO m l/\cO m l<=n/\∀u∈l,∀v,cX v u=true->v<cO m l:=by
   intro l;induction l with
   |nil=>intro m _ _ hm;rw[cO];exact⟨eG _,hm,fun u hu=>by cases hu⟩
   |cons x l ihl=>
    intro m hl h0 hm;obtain⟨a1,a2,a3⟩:=ih x (hl x (bp ..)) m n (h.dO h1 (hl x (bp ..))) h0 hm hn;obtain⟨b1,b2,b3⟩:=ihl (cx m x) (fun u hu=>hl u (bW _ hu)) (by omega) a2;rw[cO];refine⟨by omega,b2,fun u hu v hv=>?_⟩;rcases cD.1 hu with rfl|hu
    ·have:=a3 v hv;omega
    ·exact b3 u hu v hv
  obtain⟨b1,b2,b3⟩:=key p.l m (fun _ h=>h) h0 hm;refine⟨b1,b2,fun v hv=>?_⟩;obtain⟨u,hu,ho⟩:=(lh h1).1 hv;exact b3 u hu v ho
theorem L7(b:Nat)(p:aa):∀(n:Nat),aD n p->b+n<=1000000->aD (b+n) (mC b p)/\aC (mC b p)=aC p:=by
 refine aa.ind (P:=fun p=>∀(n:Nat),aD n p->b+n<=1000000->aD (b+n) (mC b p)/\aC (mC b p)=aC p) (fun p ih n h hb=>?_) p;unfold mC;rw[pA];by_cases h1:p.k=1
 ·rw[if_pos h1];obtain⟨q0,q1,_,ql⟩:=h.var h1;unfold ml;dsimp only
  rw[bD (by omega) (by omega)];refine⟨iF (by omega) (by omega) (by omega),?_⟩;rw[aa.var,lz,cW p,ql]
 ·rw[if_neg h1];dsimp only
  have key:∀(l:List aa),(∀u∈l,u∈p.l)->(∀u∈(bZ (ml b) () l).1,aD (b+n) u)/\bS (bZ (ml b) () l).1=bS l:=by
   intro l;induction l with
   |nil=>intro _;rw[bZ];exact⟨fun u hu=>by simp at hu,rfl⟩
   |cons x l ihl=>
    intro hl;obtain⟨a1,a2⟩:=ih x (hl x (bp ..)) n (h.dO h1 (hl x (bp ..))) hb;obtain⟨b1,b2⟩:=ihl (fun u hu=>hl u (bW _ hu));unfold mC at a1 a2;rw[bZ];dsimp only
    refine⟨fun u hu=>?_,by rw[bS,bS,a2,b2]⟩;rcases cD.1 hu with rfl|hu
    ·exact a1
    ·exact b1 u hu
  obtain⟨b1,b2⟩:=key p.l (fun _ h=>h);refine⟨⟨?_,fun v hv=>?_⟩,by rw[lz,b2,<-cW]⟩
  ·rw[jF,bz];refine⟨?_,cL.2 fun u hu=>(b1 u hu).valid⟩;have hvn:=h.valid;rw[jF,bz]at hvn;have hn:=hvn.1;unfold lf at hn⊢;by_cases h0:p.k=0
   ·have hA:dA p=false:=by unfold dA;simp[h0]
    simp[h0]at hn;simp[hA,aY,a7,aV,hn.1]
   ·by_cases h2:p.k=2
    ·simp[h2]at hn;have hA:dA p=true:=by unfold dA;simp[h2,hn.2]
     simp[hA,aY,a7,aV,aL,tO,hn.2]
    ·simp[h0,h1,h2]at hn
  ·rw[lh (by rw[aY];split<;>decide),aL]at hv;obtain⟨u,hu,ho⟩:=hv;exact(b1 u hu).vars v ho
theorem vh{t:aa}(hv:cJ t=true)(hn:aC t<=1000000):aD (cx 0 (cK t)).toNat (cK t)/\aC (cK t)=aC t/\0<=cx 0 (cK t)/\cx 0 (cK t)<=aC t:=by
 obtain⟨_,h2,h3⟩:=VG t [] (by simpa using hn) hv;have hlen:=DD t [];simp only[cM,eF]at hlen;have e:(cI dp [] t).1=cK t:=rfl;rw[e]at h2 h3;obtain⟨v1,v2,v3⟩:=VH (cK t) 0 _ h2 (eG _) (by omega) (by omega);refine⟨⟨h2.valid,fun v hv=>?_⟩,h3,v1,by omega⟩;have:=(h2.vars v hv).1;have:=v3 v hv;omega
namespace aH
theorem oJ(f:aH):∀n,(f.more n).sub.length=f.sub.length+n
 |0=>rfl
 |n+1=>by
  show((f.more n).sub++[_]).length=_;rw[bt,oJ f n];rfl
theorem so(f:aH):∀n,(f.more n).bound=f.bound/\(f.more n).vars=f.vars/\(f.more n).e=f.e/\(f.more n).pos=f.pos/\(f.more n).live=f.live
 |0=>⟨rfl,rfl,rfl,rfl,rfl⟩
 |n+1=>so f n
theorem qf(f:aH):f.fresh.sub.length=f.sub.length+1:=by show(f.sub++[_]).length=_;rw[bt];rfl
end aH
end Go.Lamb
namespace Go.Proofs.YtdlkenpilhakfaaGreatDoor
open Go Go.RowKit Go.Lamb
structure cU (f:aH):Prop where
 right:cl 100000 f.sub
 eh:∀x∈f.bound,∃i:Nat,i<f.sub.length/\x.ty=aN i
 var:∀x∈f.vars,∃i:Nat,i<f.sub.length/\x.ty=aN i
 live:f.e=0->f.live=true
theorem cU.fresh{f:aH}(h:cU f)(hs:f.sub.length<1000000):cU f.fresh:=by
 have hl:=f.qf;exact⟨L5 (by decide) hs h.right,fun x hx=>by obtain⟨i,hi,e⟩:=h.eh x hx;exact⟨i,by omega,e⟩,fun x hx=>by obtain⟨i,hi,e⟩:=h.var x hx;exact⟨i,by omega,e⟩,h.live⟩
theorem cU.more{f:aH}(h:cU f):∀n:Nat,f.sub.length+n<=1000000->cU (f.more n)
 |0,_=>h
 |n+1,hn=>(h.more n (by omega)).fresh (by rw[f.oJ];omega)
theorem cU.push{f:aH}(h:cU f){i:Nat}(hi:i<f.sub.length)(nm:bG):cU (f.push ⟨nm,aN i⟩):=
 ⟨h.right,fun x hx=>by
   rcases cH.1 hx with hx|hx
   ·exact h.eh x hx
   ·rw[lM.1 hx];exact⟨i,hi,rfl⟩,h.var,h.live⟩
theorem cU.gK{f:aH}(h:cU f){i:Nat}(hi:i<f.sub.length)(nm:bG):cU (f.gK ⟨nm,aN i⟩):=
 ⟨h.right,h.eh,fun x hx=>by
   rcases cH.1 hx with hx|hx
   ·exact h.var x hx
   ·rw[lM.1 hx];exact⟨i,hi,rfl⟩,h.live⟩
theorem cU.pop{f:aH}(h:cU f):cU f.pop:=⟨h.right,fun x hx=>h.eh x (List.dropLast_subset _ hx),h.var,h.live⟩
theorem cU.fail{f:aH}(h:cU f)(e pos:Int)(he:e≠0):cU (f.fail e pos):=by
 unfold aH.fail;split
 ·exact⟨h.right,h.eh,h.var,fun e'=>absurd e' he⟩
 ·exact h
theorem cU.VI{f:aH}(h:cU f)(hs:f.sub.length<=1000000)(h0:f.sub≠[]){a b:aa}(hp:ee f.sub.length 100000 (a,b))(hb:f.mB a b=true):cU (f.one a b):=by
 obtain⟨_,u2,u3⟩:=ve h.right hs hp;refine⟨u2,fun x hx=>?_,fun x hx=>?_,fun e=>?_⟩
 ·obtain⟨i,hi,e⟩:=h.eh x hx;exact⟨i,by show i<(eE f.sub a b).2.length;omega,e⟩
 ·obtain⟨i,hi,e⟩:=h.var x hx;exact⟨i,by show i<(eE f.sub a b).2.length;omega,e⟩
 ·show(f.live&&((eE f.sub a b).1==0&&!f.sub.isEmpty))=true;have hb':((eE f.sub a b).1==0)=true:=hb;rw[h.live e,hb'];cases hf:f.sub with
  |nil=>exact absurd hf h0
  |cons x l=>rfl
theorem cU.VJ{f:aH}(h:cU f)(he:f.e=0)(hs:f.sub.length<=1000000){a b:aa}(hp:ee f.sub.length 100000 (a,b))(e pos:Int)(he':e≠0):cU ((f.one a b).fail e pos):=by
 obtain⟨_,u2,u3⟩:=ve h.right hs hp;have:(f.one a b).e=0:=he;unfold aH.fail;rw[if_pos this];refine⟨u2,fun x hx=>?_,fun x hx=>?_,fun e'=>absurd e' he'⟩
 ·obtain⟨i,hi,e⟩:=h.eh x hx;exact⟨i,by show i<(eE f.sub a b).2.length;omega,e⟩
 ·obtain⟨i,hi,e⟩:=h.var x hx;exact⟨i,by show i<(eE f.sub a b).2.length;omega,e⟩
theorem ze{f:aH}(h:cU f)(hs:f.sub.length<=1000000){a b:aa}(hp:ee f.sub.length 100000 (a,b)):(f.one a b).sub.length=f.sub.length:=(ve h.right hs hp).2.2
theorem L8(f:aH)(e pos:Int):(f.fail e pos).sub=f.sub/\(f.fail e pos).bound=f.bound/\(f.fail e pos).vars=f.vars:=by unfold aH.fail;split<;>exact⟨rfl,rfl,rfl⟩
structure oK (W:Nat) (f:aH) (n:Nat) (r:aa×aa×aH):Prop where
 ok:cU r.2.2
 len:r.2.2.sub.length<=f.sub.length+(W+1)*n
 ge:f.sub.length<=r.2.2.sub.length
 bound:r.2.2.bound=f.bound
 vars:r.2.2.vars.length<=f.vars.length+n
 ty:r.2.2.e=0->aD r.2.2.sub.length r.2.1/\aC r.2.1<=W+3*n
 nodes:ax r.1<=2*n
 VK:∀M:Int,f.bound.length+n<=M->f.vars.length+n<=M->bM M r.1=true
theorem qg{M:Int}(k:Int)(s:bG)(n:Int)(h0:0<=n)(h:n<=M):bM M (.mk k s n [])=true:=gZ (.inr ⟨by rw[aV];omega,h⟩) (fun u hu=>by cases hu)
theorem oL(k:Int)(s:bG)(n:Int):ax (.mk k s n [])=1:=by rw[jc,bg]
theorem oM(n:Int):aC (aN n)=1:=by rw[aN,lz,bS]
theorem zf(name:bG)(l:List ay):∀i:Nat,dw name i l=-1\/∃k:Nat,k<l.length/\dw name i l=((i+k:Nat):Int):=by
 induction l with
 |nil=>intro i;exact .inl rfl
 |cons x l ih=>
  intro i;unfold dw;rcases ih (i+1)with h|⟨k,hk,h⟩
  ·rw[h];show(bif x.name==name then(i:Int)else-1)=-1\/_;cases x.name==name
   ·exact .inl rfl
   ·exact .inr ⟨0,by simp,rfl⟩
  ·rw[h];refine .inr ⟨k+1,by simp;omega,?_⟩;show((i+1+k:Nat):Int)=_;congr 1;omega
theorem L9{l:List ay}{k:Nat}(h:k<l.length):l.getD k .none∈l:=by
 rw[cc,aR h,ir];exact bw h
theorem oK.same{W:Nat}{f:aH}(h:cU f){x u:aa}(hx:ax x<=2)(hn:∀M:Int,f.bound.length+1<=M->f.vars.length+1<=M->bM M x=true)(hu:aD f.sub.length u/\aC u<=W+3):oK W f 1 (x,u,f):=
 ⟨h,oY _ _,aA _,rfl,oY _ _,fun _=>hu,hx,hn⟩
theorem oK.err{W:Nat}{f:aH}(h:cU f)(he:f.e≠0){n:Nat}(hn:1<=n):oK W f n (.none,.none,f):=
 ⟨h,oY _ _,aA _,rfl,oY _ _,fun e=>absurd e he,by show ax .none<=_;rw[aa.none,oL];omega,fun M h1 _=>qg 0 [] 0 (eG _) (by omega)⟩
theorem VL{W:Nat}{g:Sg}(hW:∀x∈g.types,aC x.ty<=W)(hW1:1<=W)(hW2:W<=100000){f:aH}(h:cU f)(he:f.e=0)(p:ao)(hs:f.sub.length+(W+1)<=999000):oK W f 1 (jP g f p):=by
 unfold jP;split
 ·rename_i h0;rcases zf p.name f.bound 0 with hl|⟨k,hk,hl⟩
  ·omega
  ·rw[hl,eF];obtain⟨i,hi,e⟩:=h.eh _ (L9 hk);unfold vg;refine .same h (by rw[oL];omega) (fun M h1 _=>qg _ _ _ (by omega) (by omega)) ?_;rw[jX,e];exact⟨iF (by omega) (by omega) (by omega),by rw[oM];omega⟩
 ·split
  ·unfold mD;split
   ·have hf:=h.fresh (by omega);have hl:=f.qf;have hi:f.sub.length<f.fresh.sub.length:=by omega
    refine⟨hf.gK hi p.name,?_,?_,rfl,?_,fun _=>?_,?_,fun M h1 h2=>qg _ _ _ (by omega) (by omega)⟩
    ·show f.fresh.sub.length<=_;omega
    ·show _<=f.fresh.sub.length;omega
    ·show(f.vars++[_]).length<=_;rw[bt];exact aA _
    ·show aD f.fresh.sub.length _/\_;exact⟨iF (by omega) (by omega) (by omega),by rw[oM];omega⟩
    ·show ax _<=_;rw[oL];omega
   ·rename_i hneg;rcases zf p.name f.vars 0 with hl|⟨k,hk,hl⟩
    ·omega
    ·rw[hl,eF];obtain⟨i,hi,e⟩:=h.var _ (L9 hk);refine .same h (by rw[oL];omega) (fun M _ h2=>qg _ _ _ (by omega) (by omega)) ?_;rw[jX,e];exact⟨iF (by omega) (by omega) (by omega),by rw[oM];omega⟩
  ·unfold y9;split
   ·rename_i t ht;have hvt:cJ t=true/\aC t<=W:=by
     unfold iL at ht;split at ht
     ·rename_i x hx;split at ht
      ·injection ht with ht;subst ht;exact⟨by assumption,hW x (List.mem_of_find?_eq_some hx)⟩
      ·cases ht
     ·cases ht
    obtain⟨n1,n2,n3,n4⟩:=vh hvt.1 (by omega);have hms:=f.oJ (cx 0 (cK t)).toNat;obtain⟨m1,m2,m3,m4,m5⟩:=f.so (cx 0 (cK t)).toNat;obtain⟨s1,s2⟩:=L7 f.sub.length (cK t) _ n1 (by omega);refine⟨h.more _ (by omega),?_,?_,m1,?_,fun _=>?_,?_,fun M h1 h2=>qg _ _ _ (eG _) (by omega)⟩
    ·show(f.more _).sub.length<=_;omega
    ·show _<=(f.more _).sub.length;omega
    ·show(f.more _).vars.length<=_;rw[m2];omega
    ·show aD (f.more _).sub.length (mC _ _)/\aC (mC _ _)<=_;rw[hms];exact⟨s1,by rw[s2,n2];omega⟩
    ·show ax _<=_;rw[oL];omega
   ·obtain⟨f1,f2,f3⟩:=L8 f 120 p.pos;have hfe:(f.fail 120 p.pos).e=120:=by unfold aH.fail;rw[if_pos he]
    refine⟨h.fail _ _ (by decide),?_,?_,f2,?_,fun e=>?_,?_,fun M h1 h2=>qg _ _ _ (eG _) (by omega)⟩
    ·show(f.fail _ _).sub.length<=_;rw[f1];omega
    ·show _<=(f.fail _ _).sub.length;rw[f1];exact aA _
    ·show(f.fail _ _).vars.length<=_;rw[f3];omega
    ·have e':(f.fail 120 p.pos).e=0:=e;rw[hfe]at e';cases e'
    ·show ax _<=_;rw[oL];omega
theorem zg(a b:aa):aC (.arr a b)=1+aC a+aC b:=by rw[aa.arr,lz,bS,bS,bS];omega
theorem DE{n:Nat}{a b:aa}(ha:aD n a)(hb:aD n b):aD n (.arr a b):=by
 refine⟨?_,fun v hv=>?_⟩
 ·rw[jF];simp[aa.arr,lf,aY,a7,aV,aL,ha.valid,hb.valid]
 ·rw[lh (by rw[aa.arr,aY];decide)]at hv;obtain⟨u,hu,ho⟩:=hv;simp[aa.arr,aL]at hu;rcases hu with rfl|rfl
  ·exact ha.vars v ho
  ·exact hb.vars v ho
theorem VM(g:Sg)(t:ao)(f:aH):(f.e≠0/\bE g t f=(.none,.none,f))\/(f.e=0/\t.k=2/\bE g t f=(.mk 2 [] t.n [],.mk 0 [105,110,116] 0 [],f))
  \/(f.e=0/\∃nm n b pos,t= .mk 4 nm n [b] pos/\bE g t f=oI (aN f.sub.length) (bE g b (f.fresh.push ⟨nm,aN f.sub.length⟩)))
  \/(f.e=0/\∃nm n a b pos,t= .mk 3 nm n [a,b] pos/\bE g t f=mE pos (bE g a f) (bE g b (bE g a f).2.2))
  \/(f.e=0/\t.k≠2/\bE g t f=jP g f t):=by
 by_cases he:f.e≠0
 ·exact .inl ⟨he,qe g t f he⟩
 replace he:f.e=0:=Fp he;by_cases h2:t.k=2
 ·exact .inr (.inl ⟨he,h2,za g t f he h2⟩)
 by_cases h4:t.k=4/\t.l.length=1
 ·obtain⟨k,nm,n,l,pos⟩:=t;simp only[ao.k,ao.l]at h4;obtain⟨rfl,hl⟩:=h4
  match l,hl with
  |[b],_=>exact .inr (.inr (.inl ⟨he,nm,n,b,pos,rfl,zb g nm n b pos f he⟩))
 by_cases h3:t.k=3/\t.l.length=2
 ·obtain⟨k,nm,n,l,pos⟩:=t;simp only[ao.k,ao.l]at h3;obtain⟨rfl,hl⟩:=h3
  match l,hl with
  |[a,b],_=>exact .inr (.inr (.inr (.inl ⟨he,nm,n,a,b,pos,rfl,zd g nm n a b pos f he⟩)))
 refine .inr (.inr (.inr (.inr ⟨he,h2,?_⟩)));unfold bE;split
 ·simp only[ao.k,ao.l]at h2 h4;simp only[if_neg (not_not_intro he),if_neg h2];rw[if_neg (fun e=>h4 ⟨e,rfl⟩)]
 ·simp only[ao.k,ao.l]at h2 h3;simp only[if_neg (not_not_intro he),if_neg h2];rw[if_neg (fun e=>h3 ⟨e,rfl⟩)]
 ·simp only[ao.k]at h2;simp only[if_neg (not_not_intro he),if_neg h2]
theorem VN{M:Int}{x y:aa}(hM:0<=M)(hx:bM M x=true)(hy:bM M y=true):bM M (cv x [y])=true:=rP hM hx (fun u hu=>by rw[lM.1 hu];exact hy)
theorem VO(x y:aa):ax (cv x [y])<=ax x+ax y+1:=by
 have h:ax (cv x [y])<=ax x+bg [y]+1:=by
  rw[rO,jc,sq];split
  ·rw[eO x];omega
  ·rw[bg,bg];omega
 rw[bg,bg]at h;omega
theorem zh{W:Nat}{g:Sg}(hW:∀x∈g.types,aC x.ty<=W)(hW1:1<=W)(hW2:W<=10000)(t:ao):∀(f:aH),cU f->bT t<=20000->f.sub.length+(W+1)*bT t<=999000->oK W f (bT t) (bE g t f):=by
 refine ao.ind (P:=fun t=>∀(f:aH),cU f->bT t<=20000->f.sub.length+(W+1)*bT t<=999000->oK W f (bT t) (bE g t f)) (fun t ih f h hn hs=>?_) t;have hp1:1<=bT t:=by rw[ya];omega
 have hW1':(W+1)*1<=(W+1)*bT t:=Nat.mul_le_mul_left _ hp1;rcases VM g t f with⟨he,e⟩|⟨he,h2,e⟩|⟨he,nm,n,b,pos,rfl,e⟩|⟨he,nm,n,a,b,pos,rfl,e⟩|⟨he,h2,e⟩
 ·rw[e];exact .err h he hp1
 ·rw[e];refine⟨h,by show f.sub.length<=_;omega,aA _,rfl,by show f.vars.length<=_;omega,fun _=>⟨⟨?_,fun v hv=>?_⟩,?_⟩,?_,fun M h1 _=>gZ (.inl rfl) (fun u hu=>by cases hu)⟩
  ·show cJ (.mk 0 [105,110,116] 0 [])=true;decide
  ·have hv':cX v (.mk 0 [105,110,116] 0 [])=true:=hv;rw[lh (by decide)]at hv';obtain⟨u,hu,_⟩:=hv';cases hu
  ·show aC (.mk 0 [105,110,116] 0 [])<=_;rw[lz,bS];omega
  ·show ax (.mk 2 [] t.n [])<=_;rw[oL];omega
 ·rw[e];have hnt:bT (.mk 4 nm n [b] pos)=1+bT b:=by rw[bT,dh,dh];omega
  rw[hnt]at hn hs⊢;rw[jn,gN]at hs;have hl:=f.qf;have hi:f.sub.length<f.fresh.sub.length:=by omega
  have hf2:=(h.fresh (by omega)).push hi nm;have hr:=ih b (by simp[ao.l]) _ hf2 (by omega) (by show f.fresh.sub.length+_<=_;omega);generalize bE g b (f.fresh.push ⟨nm,aN f.sub.length⟩)=r at hr⊢;obtain⟨r1,r2,r3,r4,r5,r6,r7,r8⟩:=hr;have e1:(f.fresh.push ⟨nm,aN f.sub.length⟩).sub.length=f.sub.length+1:=hl;have e2:(f.fresh.push ⟨nm,aN f.sub.length⟩).vars.length=f.vars.length:=rfl;have e3:(f.fresh.push ⟨nm,aN f.sub.length⟩).bound.length=f.bound.length+1:=by show(f.bound++[_]).length=_;rw[bt];rfl
  rw[e1]at r2 r3;rw[e2]at r5 r8;rw[e3]at r8;refine⟨r1.pop,?_,?_,?_,?_,fun h0=>?_,?_,fun M h1 h2=>?_⟩
  ·show r.2.2.sub.length<=_;rw[jn,gN];omega
  ·show _<=r.2.2.sub.length;omega
  ·show r.2.2.bound.dropLast=_;rw[r4];show(f.bound++[_]).dropLast=_;rw[List.dropLast_concat]
  ·show r.2.2.vars.length<=_;omega
  ·obtain⟨q1,q2⟩:=r6 h0;show aD r.2.2.sub.length (.arr (aN f.sub.length) r.2.1)/\aC (.arr (aN f.sub.length) r.2.1)<=_;have:=r2;exact⟨DE (iF (by omega) (by omega) (by omega)) q1,by rw[zg,oM];omega⟩
  ·show ax (bI r.1)<=_;rw[bI,jc,bg,bg];omega
  ·show bM M (bI r.1)=true;refine gZ (.inr ?_) (fun u hu=>?_)
   ·rw[bI,aV];omega
   ·unfold bI at hu;simp[aL]at hu;rw[hu];exact r8 M (by omega) (by omega)
 ·rw[e];have hnt:bT (.mk 3 nm n [a,b] pos)=1+bT a+bT b:=by rw[bT,dh,dh,dh];omega
  rw[hnt]at hn hs⊢;rw[jn,jn,gN]at hs;have hr:=ih a (by simp[ao.l]) f h (by omega) (by omega);have hre:=fun f':aH=>qe g b f';have hq:=fun(hk:(bE g a f).2.2.sub.length+(W+1)*bT b<=999000)=>ih b (by simp[ao.l]) _ hr.ok (by omega) hk;have hq:=hq (by have:=hr.len;omega);have hre:=hre (bE g a f).2.2;generalize bE g b (bE g a f).2.2=q at hq hre⊢;generalize bE g a f=r at hr hq hre⊢;obtain⟨r1,r2,r3,r4,r5,r6,r7,r8⟩:=hr;obtain⟨q1,q2,q3,q4,q5,q6,q7,q8⟩:=hq;rw[r4]at q8;unfold mE;by_cases hqe:q.2.2.e≠0
  ·rw[if_pos hqe];refine⟨q1,?_,?_,q4.trans r4,?_,fun h0=>absurd h0 hqe,?_,fun M h1 _=>qg 0 [] 0 (eG _) (by omega)⟩
   ·show q.2.2.sub.length<=_;rw[jn,jn,gN];omega
   ·show _<=q.2.2.sub.length;omega
   ·show q.2.2.vars.length<=_;omega
   ·show ax .none<=_;rw[aa.none,oL];omega
  ·rw[if_neg hqe];replace hqe:q.2.2.e=0:=Fp hqe;have hr0:r.2.2.e=0:=by
    by_cases h0:r.2.2.e=0
    ·exact h0
    ·have:=hre h0;rw[this]at hqe;exact absurd hqe h0
   obtain⟨t1,t2⟩:=r6 hr0;obtain⟨t3,t4⟩:=q6 hqe;have hl:=q.2.2.qf;have hf:=q1.fresh (by omega);have hp:ee q.2.2.fresh.sub.length 100000 (r.2.1,.arr q.2.1 (aN q.2.2.sub.length)):=
    ⟨t1.mono (by omega),DE (t3.mono (by omega)) (iF (by omega) (by omega) (by omega)),by show aC r.2.1<=_;omega,by show aC (.arr _ _)<=_;rw[zg,oM];omega⟩
   have hol:=ze hf (by omega) hp;have hne:q.2.2.fresh.sub≠[]:=fun e=>by rw[e]at hl;cases hl
   have hbt:aD q.2.2.fresh.sub.length (aN q.2.2.sub.length):=iF (by omega) (by omega) (by omega);have hap:=VO r.1 q.1;have hnn:∀M:Int,(f.bound.length:Int)+((1+bT a+bT b:Nat):Int)<=M->(f.vars.length:Int)+((1+bT a+bT b:Nat):Int)<=M->bM M (cv r.1 [q.1])=true:=fun M h1 h2=>VN (by omega) (r8 M (by omega) (by omega)) (q8 M (by omega) (by omega));split
   ·rename_i hb;refine⟨hf.VI (by omega) hne hp hb,?_,?_,q4.trans r4,?_,fun _=>?_,?_,hnn⟩
    ·show(aH.one _ _ _).sub.length<=_;rw[hol,jn,jn,gN];omega
    ·show _<=(aH.one _ _ _).sub.length;rw[hol];omega
    ·show q.2.2.vars.length<=_;omega
    ·show aD (aH.one _ _ _).sub.length _/\aC _<=_;rw[hol,oM];exact⟨hbt,by omega⟩
    ·show ax (cv r.1 [q.1])<=_;omega
   ·have hz:q.2.2.fresh.e=0:=hqe;have hfl:=L8 (q.2.2.fresh.one r.2.1 (.arr q.2.1 (aN q.2.2.sub.length))) 121 pos;have hfe:((q.2.2.fresh.one r.2.1 (.arr q.2.1 (aN q.2.2.sub.length))).fail 121 pos).e=121:=by unfold aH.fail;rw[if_pos (show(q.2.2.fresh.one _ _).e=0 from hz)]
    refine⟨hf.VJ hz (by omega) hp 121 pos (by decide),?_,?_,?_,?_,fun h0=>?_,?_,hnn⟩
    ·show(aH.fail _ _ _).sub.length<=_;rw[hfl.1,hol,jn,jn,gN];omega
    ·show _<=(aH.fail _ _ _).sub.length;rw[hfl.1,hol];omega
    ·show(aH.fail _ _ _).bound=_;rw[hfl.2.1];exact q4.trans r4
    ·show(aH.fail _ _ _).vars.length<=_;rw[hfl.2.2];show q.2.2.vars.length<=_;omega
    ·rw[hfe]at h0;cases h0
    ·show ax (cv r.1 [q.1])<=_;omega
 ·rw[e];have hk:=VL (W:=W) hW hW1 (by omega) h he t (by omega);obtain⟨r1,r2,r3,r4,r5,r6,r7,r8⟩:=hk;exact⟨r1,by omega,r3,r4,by omega,fun h0=>⟨(r6 h0).1,by have:=(r6 h0).2;omega⟩,by omega,fun M h1 h2=>r8 M (by omega) (by omega)⟩
end Go.Proofs.YtdlkenpilhakfaaGreatDoor
namespace Go.Proofs.YtdlkenpilhakfaaGreatDoor
open Go.RowKit Go.Lamb
def DF:AC:=rsq [.o 2 (.box 0),.o 3 (.box 1),.o 4 (.box (.k (.agg zS4))),.o 5 (.af (zK 0))] (.seq (.seq (drg [.d 6 4 2,.k 7 30 [6],.d 8 4 2,.k 9 261 [8,(zK 0)],.d 10 4 3,.k 11 30 [10],.o 12 (.bin .mul 9 11),.o 13 (.bin .add 7 12),.o 14 (.bin .gtr 13 (zK 4096))] [0,101,2,303,4,505,606,607,608]) (.cond 14 (rsq [.o 15 (.build zS4 []),.s 4 4 15,.o 5 (.af (zK 80))] .ret) .skip)) (rsq [.d 16 4 2,.d 17 4 3,.k 18 262 [16,(zK 0),17],.s 4 4 18,.o 5 (.af (zK 0))] .ret))
def DG:List aw:=[.bj 4 4,.tmp 5]
theorem VP:az prog 231 2 Tryz.f231 DF DG:=.auto func231
def sr:AC:=rsq [.o 2 (.box 0),.o 4 (.af (zK 0))] (.seq (rsq [.f 8 0 2,.l 9 8] (.block 0 (rif [.o 11 (.bin .eql 9 (zK 3)),.m 10 11] 10 (rif [.f 12 2 2,.l 13 12,.m 14 1,.o 15 (.bin .eql 13 14)] 15 (rsq [.o 4 (.af (zK 1))] .ret) .skip) (rif [.o 17 (.bin .eql 9 (zK 5)),.m 16 17] 16 (.aG [.m 18 1,.o 19 (.bin .add 18 (zK 1)),.m 1 19]) .skip)))) (rsq [.o 5 (.af (zK 0))] (.seq (rsq [.f 20 3 2,.l 21 20,.o 22 (.aO 21),.o 23 (.af (zK 0))] (.block 1 (.loop (rsq [.o 24 (.bin .lss 23 22)] (.seq (.cond 24 .skip (.exit 1)) (.seq (.block 2 (rsq [.o 25 (.aI 4 21 23),.d 26 4 25,.o 7 (.box (.k (.agg zS4))),.s 4 7 26] (.aG [.m 27 5,.d 28 4 7,.m 29 1,.k 30 261 [28,29],.o 31 (.bin .add 27 30),.m 5 31]))) (.aG [.o 32 (.bin .add 23 (zK 1)),.m 23 32]))))))) (rsq [.m 33 5,.m 4 33] .ret))))
def ss:List aw:=[.tmp 4]
theorem Ma:az prog 261 2 Tryz.f261 sr ss:=.auto func261
def c232:AC:=rsq [.o 2 (.box 0),.o 4 (.af (zK 0))] (.seq (rif [.d 5 4 2,.k 6 183 [5],.o 7 (.un .not 6)] 7 (rsq [.o 4 (.af (zK 0))] .ret) .skip) (rsq [.d 8 4 2,.m 9 1,.k 10 261 [8,9],.m 4 10] .ret))
def DH:List aw:=[.tmp 4]
theorem Mb:az prog 232 2 Tryz.f232 c232 DH:=.auto func232
def DI:AC:=rsq [.o 2 (.box 0),.o 4 (.af zF)] (rsq [.d 5 4 2,.m 6 1,.k 7 232 [5,6],.o 8 (.bin .gtr 7 (zK 0)),.m 4 8] .ret)
def DJ:List aw:=[.tmp 4]
theorem Mc:az prog 186 2 Tryz.f186 DI DJ:=.auto func186
def c28:AC:=rif [.m 6 0,.n 7 6,.f 8 6 7,.f 9 0 8,.l 10 9,.o 11 (.bin .eql 10 (zK 0))] 11 (.aG [.m 12 0,.m 13 1,.m 14 2,.o 15 (.build [.c (.int .i64 0),.c (.int .i64 0)] [(0,1,13),(1,1,14)]),.n 16 12,.f 17 6 16,.s 2 17 15]) .skip
def Md:List aw:=[]
theorem Me:az prog 28 3 Tryz.f28 c28 Md:=.auto func28
def Mf(n0 p:Nat)(g:Sg)(σ:H)(f:aH)(v:V)(y4 y5:V):V->H->Prop:=fun d τ=>d=v/\(∃y3,bq n0 τ p g f y3 y4 y5)/\Kept n0 p σ τ
def gn(n0 p:Nat)(g:Sg)(σ:H)(f:aH)(v:V):V->H->Prop:=fun d τ=>d=v/\(∃y3 y4 y5,bq n0 τ p g f y3 y4 y5)/\Kept n0 p σ τ
section
variable {n0 p:Nat} {σ τ:H} {g:Sg} {f:aH} {y3 y4 y5:V}
attribute [local go_sem] aa.v aa.aM aY a7 aV aL aT
theorem DK(w0:World)(h:bq n0 σ p g f y3 y4 y5)(e pos:Int):DC prog w0 28 [.ptr p 0,I e,I pos] σ (fun d τ=>d= .av []/\bq n0 τ p g (f.fail e pos) y3 y4 y5/\Kept n0 p σ τ):=by
 refine Me.dn rfl (fun hok hsz=>?_);have hp:=h.here;unfold bJ at hp;by_cases he:f.e=0
 ·have k0:(f.e==0)=true:=by simp[he]
  have hf:f.fail e pos={f with e:=e,pos:=pos}:=by unfold aH.fail;rw[if_pos he]
  rw[hf];have hq:=h.put (f':={f with e:=e,pos:=pos}) h.sub h.eh h.var;clear he;(refine W.a ?_;simp only[go_sem,c28,hp,k0]);refine W.yes rfl (W.a ?_);simp only[go_sem,hp];exact W.done ⟨_,_,rfl,.rfl _,rfl,hq⟩
 ·have k0:(f.e==0)=false:=by simp[he]
  have hf:f.fail e pos=f:=by unfold aH.fail;rw[if_neg he]
  rw[hf];clear he;(refine W.a ?_;simp only[go_sem,c28,hp,k0]);refine W.no rfl (W.a ?_);simp only[go_sem];exact W.done ⟨_,_,rfl,.rfl _,rfl,h,Kept.refl _ _ _⟩
theorem VQ(w0:World)(h:bq n0 σ p g f y3 y4 y5)(hn:n0<=σ.length)(hl:f.live=true)(t:aa)(hv:cJ t=true)(ht:aC t<=10000)(hs:f.sub.length+aC t<=999999):
  DC prog w0 27 [.ptr p 0,t.v] σ (Mf n0 p g σ (f.renew t) (f.db t).v y4 y5):=by
 refine Dg.dn rfl (fun hok hsz=>?_);obtain⟨n1,n2,n3,n4⟩:=vh hv (by omega);have hN:=fun σ=>yl w0 t (by omega) σ;have hS:=fun σ=>J4 w0 (cK t) f.sub.length (by omega) σ;have hV:=fun σ=>uo w0 (cK t) (bB (Bh _) (by omega)) σ;have hE:(cI (ml f.sub.length) () (cK t)).1=f.db t:=rfl;rw[hE]at hS;obtain⟨nv,hnv⟩:∃nv:Nat,cx 0 (cK t)=(nv:Int):=⟨(cx 0 (cK t)).toNat,by omega⟩;have hfin:f.renew t=f.more nv:=by unfold aH.renew;rw[hnv,jX]
 rw[hnv]at hV n4;rw[hfin];have hp:=fun L=>hG h.here L;unfold bJ at hp;have hlt:=h.lt;have hsub:=h.sub hl;generalize f.db t=u at*
 generalize cK t=s at*
 clear hE hfin n1 n2 n3 hnv;rcases hsub with⟨h0,rfl⟩|⟨b,hb0,rfl,hb,hz⟩
 ·simp only[h0,cM]at hS;have hA0:=h.app [.cells s.v.ah,.cells [I 0,S [],I 0,.ab []],.cells u.v.ah];have hK0:=(Kept.refl n0 p σ).app hn [.cells s.v.ah,.cells [I 0,S [],I 0,.ab []],.cells u.v.ah];(refine W.a ?_;simp only[go_sem,sa]);(refine W.c1 (hN _) ?_;simp only[go_sem]);(refine W.a ?_;simp only[go_sem]);apply W.aQ (aS _ _)
  case hc=>
   (apply ae.al;simp only[go_sem,hp]);(apply ae.pn (fun τ=>hS τ);(case hg=>rfl);(case hf=>rfl);(case ha=>first|rfl|simp));(apply ae.al;simp only[go_sem]);exact ae.nil
  (refine W.a ?_;simp only[go_sem]);(refine W.c1 (hV _) ?_;simp only[go_sem]);(refine W.a ?_;simp only[go_sem]);refine W.bA (α:=Nat×H×V) (fun x=>x.1<=nv/\bq n0 x.2.1 p g (f.more x.1) x.2.2 y4 y5/\Kept n0 p σ x.2.1/\x.2.1[σ.length+1]?=some (.cells [I 0,S [],I 0,.ab []])/\x.2.1[σ.length+2]?=some (.cells u.v.ah)) (fun x=>⟨(((((base.put (some 0) (.ptr p 0)).put (some 4) (.ptr (σ.length+1) 0)).put (some 5) (.ptr (σ.length+2) 0)).put (some 16) (I (nv:Int))).put (some 17) (I (x.1:Int))),x.2.1⟩) (fun x=>nv-x.1) (0,_,_) ⟨bx _,hA0,hK0,Go.Lamb.bY _ _ 1,Go.Lamb.bY _ _ 2⟩ ?_ (fun x hx=>?_)
  ·(refine aq.env ?_;exact aE)
  obtain⟨i,τ,y⟩:=x;obtain⟨x1,x2,x3,x4,x5⟩:=hx;dsimp only at x1 x2 x3 x4 x5⊢;by_cases hlt:i<nv
  ·have z:(i:Int)<(nv:Int):=by omega
   have hw:aW.wrap ((i:Int)+1)=((i+1:Nat):Int):=by rw[bD]<;>omega
   obtain⟨m1,m2,m3,m4,m5⟩:=f.so i;have msub:=f.oJ i;obtain⟨τ',c1,c2,c3⟩:=sn w0 x2 (bB hn x3.len) (by rw[m5];exact hl) (by omega);(refine W.a ?_;simp only[go_sem,z]);refine W.yes rfl (W.a ?_);simp only[go_sem];(refine W.c1 (c1) ?_;simp only[go_sem]);(refine W.a ?_;simp only[go_sem,hw]);refine .inv ⟨(i+1,τ',_),⟨hlt,c2,x3.trans c3,c3.cells _ _ _ (by omega) x4,c3.cells _ _ _ (by omega) x5⟩,by dsimp only;omega,?_⟩;(refine aq.env ?_;exact aE)
  ·obtain rfl:i=nv:=by omega
   have z:¬((i:Int)<(i:Int)):=by omega
   have l1:σ.length+1<τ.length:=(aK.1 x4).1;have s1:∀B,(τ.set (σ.length+1) B)[σ.length+1]?=some B:=fun B=>ct l1;have hfin:=x2.box x4 (by omega) (.cells u.v.ah);have hfin2:=x3.set (.cells u.v.ah) (a:=σ.length+1) (by omega) (.inr (.inl (by omega)));(refine W.a ?_;simp only[go_sem,z]);refine W.no rfl (W.a ?_);simp only[go_sem,x4,x5,s1];exact W.ret ⟨_,_,(by simp only[br,sb,s1,go_sem];rfl),.rfl _,rfl,⟨_,hfin⟩,hfin2⟩
 ·clear hb hz;have hA0:=h.app [.cells s.v.ah,.cells [I 0,S [],I 0,.ab []],.cells u.v.ah];have hK0:=(Kept.refl n0 p σ).app hn [.cells s.v.ah,.cells [I 0,S [],I 0,.ab []],.cells u.v.ah];(refine W.a ?_;simp only[go_sem,sa]);(refine W.c1 (hN _) ?_;simp only[go_sem]);(refine W.a ?_;simp only[go_sem]);apply W.aQ (aS _ _)
  case hc=>
   (apply ae.al;simp only[go_sem,hp]);(apply ae.pn (fun τ=>hS τ);(case hg=>rfl);(case hf=>rfl);(case ha=>first|rfl|simp));(apply ae.al;simp only[go_sem]);exact ae.nil
  (refine W.a ?_;simp only[go_sem]);(refine W.c1 (hV _) ?_;simp only[go_sem]);(refine W.a ?_;simp only[go_sem]);refine W.bA (α:=Nat×H×V) (fun x=>x.1<=nv/\bq n0 x.2.1 p g (f.more x.1) x.2.2 y4 y5/\Kept n0 p σ x.2.1/\x.2.1[σ.length+1]?=some (.cells [I 0,S [],I 0,.ab []])/\x.2.1[σ.length+2]?=some (.cells u.v.ah)) (fun x=>⟨(((((base.put (some 0) (.ptr p 0)).put (some 4) (.ptr (σ.length+1) 0)).put (some 5) (.ptr (σ.length+2) 0)).put (some 16) (I (nv:Int))).put (some 17) (I (x.1:Int))),x.2.1⟩) (fun x=>nv-x.1) (0,_,_) ⟨bx _,hA0,hK0,Go.Lamb.bY _ _ 1,Go.Lamb.bY _ _ 2⟩ ?_ (fun x hx=>?_)
  ·(refine aq.env ?_;exact aE)
  obtain⟨i,τ,y⟩:=x;obtain⟨x1,x2,x3,x4,x5⟩:=hx;dsimp only at x1 x2 x3 x4 x5⊢;by_cases hlt:i<nv
  ·have z:(i:Int)<(nv:Int):=by omega
   have hw:aW.wrap ((i:Int)+1)=((i+1:Nat):Int):=by rw[bD]<;>omega
   obtain⟨m1,m2,m3,m4,m5⟩:=f.so i;have msub:=f.oJ i;obtain⟨τ',c1,c2,c3⟩:=sn w0 x2 (bB hn x3.len) (by rw[m5];exact hl) (by omega);(refine W.a ?_;simp only[go_sem,z]);refine W.yes rfl (W.a ?_);simp only[go_sem];(refine W.c1 (c1) ?_;simp only[go_sem]);(refine W.a ?_;simp only[go_sem,hw]);refine .inv ⟨(i+1,τ',_),⟨hlt,c2,x3.trans c3,c3.cells _ _ _ (by omega) x4,c3.cells _ _ _ (by omega) x5⟩,by dsimp only;omega,?_⟩;(refine aq.env ?_;exact aE)
  ·obtain rfl:i=nv:=by omega
   have z:¬((i:Int)<(i:Int)):=by omega
   have l1:σ.length+1<τ.length:=(aK.1 x4).1;have s1:∀B,(τ.set (σ.length+1) B)[σ.length+1]?=some B:=fun B=>ct l1;have hfin:=x2.box x4 (by omega) (.cells u.v.ah);have hfin2:=x3.set (.cells u.v.ah) (a:=σ.length+1) (by omega) (.inr (.inl (by omega)));(refine W.a ?_;simp only[go_sem,z]);refine W.no rfl (W.a ?_);simp only[go_sem,x4,x5,s1];exact W.ret ⟨_,_,(by simp only[br,sb,s1,go_sem];rfl),.rfl _,rfl,⟨_,hfin⟩,hfin2⟩
end
section
variable {n0 p:Nat} {σ τ:H} {g:Sg} {f:aH} {y3 y4 y5:V}
attribute [local go_sem] aa.v aa.aM aY a7 aV aL aT
theorem VR(w0:World)(h:bq n0 σ p g f y3 y4 y5)(name:bG)(hc:iL g name=none)(σ':H)(hσ:σ'=σ):
  DC prog w0 122 [.ptr p 0,S name] σ (Same (.av [aa.none.v,B false]) σ):=by
 refine Ds.go rfl (fun hok hsz=>?_);have hp:=fun L=>hG h.here L;unfold bJ at hp;have hF:=fun σ=>rJ w0 g name σ;simp only[Sg.v]at hF;unfold iL at hc;cases hf:fP g.types name with
 |none=>
  rw[hf]at hF;simp only[oA,Option.getD_none,Option.isSome_none]at hF;(refine W.a ?_;simp only[go_sem,u7,hp]);(refine W.c1 (hF _) ?_;simp only[go_sem]);(refine W.a ?_;simp only[go_sem,ay.none,aa.none]);refine W.yes rfl (W.a ?_);simp only[go_sem,aa.none];(refine W.fs (hok) (by simp only[u9,go_sem];rfl) ?_;simp only[ak];try exact V.wk.rfl _)
  all_goals (all_goals exact au)
 |some x=>
  rw[hf]at hF hc;dsimp only at hc;have hv:cJ x.ty=false:=by
   cases hv:cJ x.ty
   ·rfl
   ·rw[hv]at hc;simp at hc
  have hV:=fun σ=>nB w0 x.ty σ;rw[hv]at hV;simp only[oA,ir,sL]at hF;(refine W.a ?_;simp only[go_sem,u7,hp]);(refine W.c1 (hF _) ?_;simp only[go_sem]);(refine W.a ?_;simp only[go_sem]);(refine W.c1 (hV _) ?_;simp only[go_sem]);(refine W.a ?_;simp only[go_sem]);refine W.yes rfl (W.a ?_);simp only[go_sem,aa.none];(refine W.fs (hok) (by simp only[u9,go_sem];rfl) ?_;simp only[ak];try exact V.wk.rfl _)
  all_goals (all_goals exact au)
theorem VS(w0:World)(h:bq n0 σ p g f y3 y4 y5)(hn:n0<=σ.length)(hl:f.live=true)(name:bG){t:aa}(hc:iL g name=some t)(ht:aC t<=10000)(hs:f.sub.length+aC t<=999999):
  DC prog w0 122 [.ptr p 0,S name] σ (Mf n0 p g σ (f.renew t) (.av [(f.db t).v,B true]) y4 y5):=by
 refine Ds.dn rfl (fun hok hsz=>?_);have hp:=fun L=>hG h.here L;unfold bJ at hp;have hlt:=h.lt;have hF:=fun σ=>rJ w0 g name σ;simp only[Sg.v]at hF;unfold iL at hc;cases hf:fP g.types name with
 |none=>rw[hf]at hc;cases hc
 |some x=>
  rw[hf]at hF hc;dsimp only at hc;have hvx:cJ x.ty=true/\x.ty=t:=by
   cases hv:cJ x.ty
   ·rw[hv]at hc;simp at hc
   ·rw[hv]at hc;simp at hc;exact⟨rfl,hc⟩
  obtain⟨hv,rfl⟩:=hvx;have hV:=fun σ=>nB w0 x.ty σ;rw[hv]at hV;simp only[oA,ir,sL]at hF;have hA0:=h.app [.cells [I 0,S [],I 0,.ab []],.cells x.ty.v.ah];have hK0:=(Kept.refl n0 p σ).app hn [.cells [I 0,S [],I 0,.ab []],.cells x.ty.v.ah];have hR:=VQ w0 hA0 (bB hn hK0.len) hl x.ty hv ht hs;simp only[aa.v,V.ah]at hR hK0;(refine W.a ?_;simp only[go_sem,u7,hp]);(refine W.c1 (hF _) ?_;simp only[go_sem]);(refine W.a ?_;simp only[go_sem]);(refine W.c1 (hV _) ?_;simp only[go_sem]);(refine W.a ?_;simp only[go_sem])
  refine W.no rfl (W.a ?_);simp only[go_sem];(refine W.call (hR) rfl rfl (by first|rfl|simp) ?_);rintro d τ ⟨rfl,⟨z3,hA⟩,hK⟩;have x4:τ[σ.length]?=some (.cells [I 0,S [],I 0,.ab []] none):=hK.cells _ _ _ (by omega) (Go.Lamb.eB _ _);have l1:σ.length<τ.length:=(aK.1 x4).1;have s1:∀B,(τ.set σ.length B)[σ.length]?=some B:=fun B=>ct l1;have hfin:=hA.box x4 (by omega) (.cells (f.db x.ty).v.ah);have hfin2:=(hK0.trans hK).set (.cells (f.db x.ty).v.ah) (a:=σ.length) (by omega) (.inr (.inl (aA _)));generalize f.db x.ty=u at*
  (refine W.a ?_;simp only[go_sem,x4,s1]);exact W.ret ⟨_,_,(by simp only[br,u9,s1,go_sem];rfl),.rfl _,rfl,⟨_,hfin⟩,hfin2⟩
end
end Go.Proofs.YtdlkenpilhakfaaGreatDoor
namespace Go.Lamb
open Go Go.RowKit
theorem VT{l:List ay}{i:Nat}(hi:i<l.length)(J:List C):dM 4 (fV (i*5+1) (List.map V.c (cb l++J)))=[.c (.int .i64 l[i].ty.k),.c (.str l[i].ty.name),.c (.int .i64 l[i].ty.n),.c (.sl (l[i].ty.l.map aa.cs))]:=by
 have h:=DA hi;have hl:=qc l;have e:dM 4 (fV (i*5+1) (cb l++J))=[.int .i64 l[i].ty.k,.str l[i].ty.name,.int .i64 l[i].ty.n,.sl (l[i].ty.l.map aa.cs)]:=by
  rw[<-List.drop_drop,Oi (by omega),Oi (by rw[kO];omega)];rw[List.take_append_of_le_length (by rw[kO,kO];omega)];have h2:dM 4 (fV 1 (dM 5 (fV (i*5) (cb l))))=dM 4 (fV 1 (fV (i*5) (cb l))):=by
   rw[List.drop_take];rw[List.take_take];rfl
  rw[<-h2,h];rfl
 rw[<-List.map_drop,<-List.map_take,e];rfl
end Go.Lamb
namespace Go.Proofs.YtdlkenpilhakfaaGreatDoor
open Go.RowKit Go.Lamb
section
variable {n0 p:Nat} {σ τ:H} {g:Sg} {f:aH} {y3 y4 y5:V}
theorem DL{x y z:V}(h:V.wk x y):V.wk (.agg [x,z]) (.agg [y,z]):=xa h (.rfl _)
theorem vi(w0:World){y:V}{l:List ay}(h:sj n0 σ y l)(hl:l.length<=1000000)(name:bG):DC prog w0 121 [y,S name] σ (Same (I (dw name 0 l)) σ):=by
 rcases h with⟨rfl,rfl⟩|⟨b,J,_,rfl,hb⟩
 ·exact(y8 w0 [] name (by simp) σ).fY (DL (.ab _))
 ·exact VD w0 l name hl b J σ hb
theorem Mg(w0:World){y:V}{l:List ay}(h:sk n0 σ y l)(hl:l.length<=1000000)(name:bG):DC prog w0 121 [y,S name] σ (Same (I (dw name 0 l)) σ):=by
 rcases h with⟨rfl,rfl⟩|⟨b,_,rfl,hb⟩
 ·exact(y8 w0 [] name (by simp) σ).fY (DL (.ab _))
 ·exact(y8 w0 l name hl σ).fY (DL (.aF _ _))
attribute [local go_sem] aa.v aa.aM aY a7 aV aL aT
theorem VU(w0:World)(h:bq n0 σ p g f y3 y4 y5)(hn:n0<=σ.length)(hbl:f.bound.length<=1000000)(t:ao)(i:Nat)(hi:i<f.bound.length)(hlk:dw t.name 0 f.bound=(i:Int)):
  DC prog w0 70 [.ptr p 0,t.v] σ (gn n0 p g σ f (.av [(vg f (i:Int)).1.v,(vg f (i:Int)).2.1.v])):=by
 refine sc.dn rfl (fun hok hsz=>?_);have hp:=fun L=>hG h.here L;unfold bJ at hp;have hlt:=h.lt;have hL:=fun a b c=>vi w0 (h.app [a,b,c]).eh hbl t.name;rw[hlk]at hL;have g0:(i:Int)>=0:=by omega
 have g1:(0:Int)<=(i:Int):=by omega
 have g2:(i:Int)<(f.bound.length:Int):=by omega
 have hw1:aW.wrap ((f.bound.length:Int)-1)=(f.bound.length:Int)-1:=by rw[bD]<;>omega
 have hw2:aW.wrap ((f.bound.length:Int)-1-(i:Int))=(f.bound.length:Int)-1-(i:Int):=by rw[bD]<;>omega
 rcases h.eh with⟨h0,_⟩|⟨b,J,hb0,rfl,hb⟩
 ·rw[h0]at hi;cases hi
 have hb2:=fun L=>hG hb L;have hrow:=VT hi J;have hnl:=qc f.bound;have hle2:i*5+1+4<=(cb f.bound).length+J.length:=by omega
 have hfin:=fun L=>h.app L;have hfin2:=fun L=>(Kept.refl n0 p σ).app hn L;have dN:(f.bound.getD i .none).ty=f.bound[i].ty:=by rw[cc,aR hi];rfl
 unfold vg;rw[jX,dN];generalize f.bound[i]=x at*
 clear dN;(refine W.a ?_;simp only[go_sem,c70,hp]);apply W.aQ (aS _ _)
 case hc=>
  (apply ae.al;simp only[go_sem,hp]);(apply ae.call (hL _ _ _);(case hg=>rfl);(case hf=>rfl);(case ha=>first|rfl|simp));(apply ae.al;simp only[go_sem]);exact ae.nil
 (refine W.a ?_;simp only[go_sem,g0]);refine W.yes rfl (W.a ?_);simp only[go_sem];apply W.aQ (aS _ _)
 case hc=>
  (apply ae.al;simp only[go_sem,hp,hw1,hw2,g1,g2,hb2,hrow,hle2,cd]);exact ae.nil
 (refine W.a ?_;simp only[go_sem]);exact W.ret ⟨_,_,(by simp only[br,oF,go_sem];rfl),au,rfl,⟨_,_,_,hfin _⟩,hfin2 _⟩
end
section
variable {n0 p:Nat} {σ τ:H} {g:Sg} {f:aH} {y3 y4 y5:V}
attribute [local go_sem] aa.v aa.aM aY a7 aV aL aT
theorem DM{l:List ay}{i:Nat}(hi:i<l.length):(l.map ay.cs)[i]?=some [.str l[i].name,.int .i64 l[i].ty.k,.str l[i].ty.name,.int .i64 l[i].ty.n,.sl (l[i].ty.l.map aa.cs)]:=by
 rw[List.getElem?_map,aR hi];rfl
theorem VV(w0:World)(h:bq n0 σ p g f y3 y4 y5)(hn:n0<=σ.length)(hbl:f.bound.length<=1000000)(hvl:f.vars.length<=1000000)(t:ao)(h1:t.k=1)(hlk:dw t.name 0 f.bound=-1)(i:Nat)(hi:i<f.vars.length)(hlv:dw t.name 0 f.vars=(i:Int)):
  DC prog w0 70 [.ptr p 0,t.v] σ (gn n0 p g σ f (.av [(mD f t).1.v,(mD f t).2.1.v])):=by
 refine sc.dn rfl (fun hok hsz=>?_);have hp:=fun L=>hG h.here L;unfold bJ at hp;have hlt:=h.lt;have k1:(t.k==1)=true:=by simp[h1]
 have hL:=fun a b c=>vi w0 (h.app [a,b,c]).eh hbl t.name;rw[hlk]at hL;have hV:=fun a b c=>Mg w0 (h.app [a,b,c]).var hvl t.name;rw[hlv]at hV;have gz:¬(-1:Int)>=0:=by decide
 have g0:¬(i:Int)<0:=by omega
 have g1:(0:Int)<=(i:Int):=by omega
 have g2:(i:Int)<(f.vars.length:Int):=by omega
 rcases h.var with⟨h0,_⟩|⟨b,hb0,rfl,hb⟩
 ·rw[h0]at hi;cases hi
 have hrow:=DM hi;have hfin:=fun L=>h.app L;have hfin2:=fun L=>(Kept.refl n0 p σ).app hn L;have dN:(f.vars.getD i .none).ty=f.vars[i].ty:=by rw[cc,aR hi];rfl
 unfold mD;rw[hlv,if_neg g0,jX,dN];have hrl:(f.vars.map ay.cs).length=f.vars.length:=cd _;generalize f.vars[i]=x at*
 generalize hR:f.vars.map ay.cs=R at*
 clear dN h1;(refine W.a ?_;simp only[go_sem,c70,hp]);apply W.aQ (aS _ _)
 case hc=>
  (apply ae.al;simp only[go_sem,hp]);(apply ae.call (hL _ _ _);(case hg=>rfl);(case hf=>rfl);(case ha=>first|rfl|simp));(apply ae.al;simp only[go_sem]);exact ae.nil
 (refine W.a ?_;simp only[go_sem,gz]);refine W.no rfl (W.a ?_);simp only[go_sem,k1];refine W.yes rfl (W.a ?_);simp only[go_sem];apply W.aQ (aS _ _)
 case hc=>
  (apply ae.al;simp only[go_sem,hp]);(apply ae.call (hV _ _ _);(case hg=>rfl);(case hf=>rfl);(case ha=>first|rfl|simp));(apply ae.al;simp only[go_sem]);exact ae.nil
 (refine W.a ?_;simp only[go_sem,g0]);refine W.no rfl (W.a ?_);simp only[go_sem];apply W.aQ (aS _ _)
 case hc=>
  (apply ae.al;simp only[go_sem,hp,g1,g2,hrow,hrl]);exact ae.nil
 (refine W.a ?_;simp only[go_sem]);exact W.ret ⟨_,_,(by simp only[br,oF,go_sem];rfl),au,rfl,⟨_,_,_,hfin _⟩,hfin2 _⟩
end
end Go.Proofs.YtdlkenpilhakfaaGreatDoor
