/- . -/
import Derived.Test.YtdlkenpilhakfaaGreatDoorQJ40
import Derived.Test.YtdlkenpilhakfaaGreatDoorQJ17
import Derived.Test.YtdlkenpilhakfaaGreatDoorQJ14
import Derived.Test.YtdlkenpilhakfaaGreatDoorQTyA2
import Derived.Test.YtdlkenpilhakfaaGreatDoorQJ16
import Derived.Deep.QuietTactic
import Derived.Test.YtdlkenpilhakfaaGreatDoorQJ37
import Derived.Test.YtdlkenpilhakfaaGreatDoorQJ38
import Derived.Test.YtdlkenpilhakfaaGreatDoorQJ39
import Derived.Test.YtdlkenpilhakfaaGreatDoorChecked
set_option linter.unusedSimpArgs false
set_option linter.unusedVariables false
set_option maxHeartbeats 8000000
set_option maxRecDepth 20000
open And renaming intro->eV
open Array renaming replicate_succ->wc,replicate_zero->we
open Bool renaming and_eq_true->bG
open Classical renaming choose->EW,choose_spec->EX
open Decidable renaming of_not_not->EY
open Fin renaming val->iN
open Go renaming cell_kept->gx,grownBy_putObj'->sG,heap_alloc_old->zO
open Go.IntKind renaming i64->aN
open Go.KeepsOthers renaming setCell->wm
open Go.RowKit.Below renaming refl->ep
open Go.World renaming cell?_alloc_at->wi,cell?_setCell_same'->wj
open Int renaming le_refl->eU,toNat_natCast->jk
open List renaming all_eq_true->cU,append_assoc->dt,append_nil->cw,append_toArray->wh,cons_append->iM,cons_ne_nil->aT,drop->fW,drop_append_of_le_length->NZ,eq_nil_of_length_eq_zero->fF,getD_eq_getElem?_getD->cf,getElem?_append_left->cI,getElem?_append_right->cZ,getElem?_eq_getElem->aO,getElem?_eq_some_iff->aL,getElem?_set_ne->bX,getElem?_set_self->cr,getElem_map->dN,getElem_mem->bt,getElem_of_mem->fD,length_append->bD,length_cons->bk,length_drop->lC,length_map->bW,length_nil->cN,length_set->bF,length_take->dV,map_append->dv,mem_append->cM,mem_cons->cA,mem_cons_of_mem->bS,mem_cons_self->bu,mem_map->eu,mem_range->mJ,mem_singleton->mO,nil_append->eH,push_toArray->wg,set_append_right->iL,singleton_append->ZW,size_toArray->oR,take->de,take_length->oX,take_succ_cons->dZ,take_zero->cV
open Nat renaming add_sub_cancel_left->ft,add_zero->mG,le_add_right->oW,le_refl->aA,le_trans->bE,mul_add->jl,mul_one->gM,reduceAdd->dI,reduceSub->sB,sub_self->cq,zero_add->er,zero_le->bC
open Ne renaming symm->dn
open Option renaming getD_some->mI,isSome_some->N1
open Go.Proofs.Tryz
namespace Go.Lamb
open Go Go.RowKit
def e7:List C:=[.int .i64 0,.str [],.int .i64 0,.sl []]
def oF(n:Nat):List C:=[.int .i64 1,.str [],.int .i64 n,.sl []]
def lh:List V:=[.c (.int .i64 0),.c (.str []),.c (.int .i64 0),.ab []]
def cP(n:Nat):List V:=[.c (.int .i64 1),.c (.str []),.c (.int .i64 n),.ab []]
def e9(e:Nat)(σ σ1:H)(b o:Nat)(cs:List V)(tg:Option TypeId)(n:Nat)(pre:List C)(a s c:Bool):H:=
 (bif c then σ1.set b (.cells (cs.take o++[.vec (σ.length+2) (n+1)]++cs.drop (o+1)) tg)else bif a then σ1 else σ)++(.cells lh none:: .cells (cP n) none::(bif a then[.vec e 4 (pre++bif s then oF n else e7)]else[]))
section
variable {P:Program} {w0:World} {l0:List ak} {S:(Nat->Bool)->H->Prop} {k:Nat} {o:ak} {ρ ρ':Env} {v:V}
theorem YG.pure(hg:bU ρ o.guard=some true)(h:∀τ,step ρ τ o.ins=some (v,τ))(hS:∀L σ,S L σ->S (jv L k) σ):YG P w0 l0 S k o ρ v:=fun L _ _ _=>.step hg fun σ hσ=>⟨σ,h σ,hS L σ hσ⟩
end
end Go.Lamb
namespace Go.Proofs.YtdlkenpilhakfaaGreatDoor
open Go.RowKit Go.Lamb
section
variable {P:Program} {w0:World} {l0:List ak}
def Lu:List ak:=[.m 10 0,.n 11 10,.f 12 3 11,.l 13 12,.d 14 4 3,.o 15 (.aR (.t 13)),.o 16 (.bo 4 [(.k (.agg [.c (.int .i64 0),.c (.str []),.c (.int .i64 0),.ab []]))]),.o 17 (.app 34 4 56 (.t 13) (.t 16)),.o 18 (.aI 4 (.t 17) (.t 15)),.s 4 18 14,.n 19 10,.f 20 3 19,.s 1 20 17]
def yK(ρ:Env)(b o N n:Nat)(y:V):Env:=(((((((((((((ρ.put (some 10) (.ptr b o)).put (some 11) (.ptr b o)).put (some 12) (.ptr b (o+3))).put (some 13) y).put (some 14) (.agg (cP n))).put (some 15) (.c (.int .i64 n))).put (some 16) (.ab [e7])).put (some 17) (.vec (N+2) (n+1))).put (some 18) (.ptr (N+2) (n*4))).put none .void).put (some 19) (.ptr b o)).put (some 20) (.ptr b (o+3))).put none .void)
theorem uT{L:Nat->Bool}(hcl:Ao l0 L)(k j:Nat)(hk:k<l0.length)(hj:j∈pc l0 k)(h:L j=false):L k=false:=by
 cases hq:L k with
 |false=>rfl
 |true=>rw[hcl k hk hq j hj]at h;cases h
theorem Lv{e:Nat}{σ σ1:H}{b o:Nat}{cs:List V}{tg:Option TypeId}{n:Nat}{pre:List C}{a s c:Bool}(h1:σ1.length=σ.length):∃X,e9 e σ σ1 b o cs tg n pre a s c=X++(.cells lh none:: .cells (cP n) none::(bif a then[.vec e 4 (pre++bif s then oF n else e7)]else[]))/\X.length=σ.length:=by
 refine⟨_,rfl,?_⟩;cases c<;>cases a<;>simp[h1]
theorem Lw(σ σ1:H)(b o n:Nat)(hn:n<=1000000)(cs:List V)(tg:Option TypeId)(hb:σ[b]?=some (.cells cs tg))(hb1:σ1[b]?=some (.cells cs tg))(hl1:σ1.length=σ.length)(y:V)(hy:cs[o+3]?=some y)(pre:List C)(hpl:pre.length=n*4)
  (hlen:∀(ρ:Env) (τ:H),ρ 13=y->Lamb.step ρ τ (.aR (.t 13))=some (.c (.int .i64 n),τ))
  (happ:∀(ρ:Env) (o:ak),o.guard=none->o.ins= .app 34 4 56 (.t 13) (.t 16)->ρ 13=y->ρ 16= .ab [e7]->dK P w0 (fun x=>x=σ++[.cells lh none,.cells (cP n) none]) (fun x=>x=σ1++[.cells lh none,.cells (cP n) none,.vec 34 4 (pre++e7)]) o ρ (.vec (σ.length+2) (n+1)))
  (ρ:Env) (h0:ρ 0= .ptr b o) (h3:ρ 3= .ptr (σ.length+1) 0):
  nY P w0 Lu (fun L x=>x=e9 34 σ σ1 b (o+3) cs tg n pre (L 7) (L 9) (L 12)) 0 Lu ρ (yK ρ b o σ.length n y):=by
 have hlt:b<σ.length:=(aL.1 hb).1;unfold yK;have P1:∀{ρ:Env} {d k:Nat} {v:V},k≠d->(ρ.put (some d) v) k=ρ k:=fun h=>by simp only[Env.put];rw[if_neg h]
 have P2:∀{ρ:Env} {d:Nat} {v:V},(ρ.put (some d) v) d=v:=by intro ρ d v;simp[Env.put]
 have P3:∀{ρ:Env} {v:V},ρ.put none v=ρ:=fun{_ _}=>rfl;refine .cons (v:=.ptr b o) (YG.pure rfl (fun τ=>by simp only[Lamb.step,aj.ev,h0]) (fun L x h=>h)) ?_;refine .cons (v:=.ptr b o) (YG.pure rfl (fun τ=>by simp only[Lamb.step,aj.ev,P2]) (fun L x h=>h)) ?_;refine .cons (v:=.ptr b (o+3)) (YG.pure rfl (fun τ=>by simp only[Lamb.step,aj.ev,P2]) (fun L x h=>h)) ?_;refine .cons (v:=y) ?_ ?_
 ·intro L hcl hk hpre;have h7:L 7=false:=uT hcl 7 3 (by decide) (by decide) hk;have h12:L 12=false:=uT hcl 12 7 (by decide) (by decide) h7;refine .step rfl fun x hx=>⟨x,?_,hx⟩;subst hx;rw[h7,h12];have:(e9 34 σ σ1 b (o+3) cs tg n pre false (L 9) false)[b]?=some (.cells cs tg):=by
   unfold e9;simp only[cond_false];rw[cI hlt];exact hb
  simp only[Lamb.step,aj.ev,P2,iQ,this,hy]
 refine .cons (v:=.agg (cP n)) ?_ ?_
 ·intro L hcl hk hpre;refine .step rfl fun x hx=>⟨x,?_,hx⟩;subst hx;obtain⟨X,hX,hXl⟩:=Lv (e:=34) (b:=b) (o:=o+3) (cs:=cs) (tg:=tg) (n:=n) (pre:=pre) (a:=L 7) (s:=L 9) (c:=L 12) hl1;have:(e9 34 σ σ1 b (o+3) cs tg n pre (L 7) (L 9) (L 12))[σ.length+1]?=some (.cells (cP n) none):=by
   rw[hX,cZ (by omega),hXl,ft];rfl
  have e3:((((ρ.put (some 10) (.ptr b o)).put (some 11) (.ptr b o)).put (some 12) (.ptr b (o+3))).put (some 13) y) 3= .ptr (σ.length+1) 0:=by
   rw[P1 (by decide),P1 (by decide),P1 (by decide),P1 (by decide),h3]
  simp only[Lamb.step,aj.ev,e3,iQ,this];rfl
 refine .cons (v:=.c (.int .i64 n)) (YG.pure rfl (fun τ=>hlen _ _ (by rw[P1 (by decide),P2])) (fun L x h=>h)) ?_;refine .cons (v:=.ab [e7]) (YG.pure rfl (fun τ=>rfl) (fun L x h=>h)) ?_;refine .cons (v:=.vec (σ.length+2) (n+1)) ?_ ?_
 ·intro L hcl hk hpre;have h8:L 8=false:=uT hcl 8 7 (by decide) (by decide) hk;have h9:L 9=false:=uT hcl 9 8 (by decide) (by decide) h8;have h12:L 12=false:=uT hcl 12 7 (by decide) (by decide) hk;have e1:(fun x=>x=e9 34 σ σ1 b (o+3) cs tg n pre (L 7) (L 9) (L 12))=(fun x=>x=σ++[.cells lh none,.cells (cP n) none]):=by
   rw[hk,h12];rfl
  have e2:(fun x=>x=e9 34 σ σ1 b (o+3) cs tg n pre (jv L 7 7) (jv L 7 9) (jv L 7 12))=(fun x=>x=σ1++[.cells lh none,.cells (cP n) none,.vec 34 4 (pre++e7)]):=by
   have a1:jv L 7 7=true:=rfl;have a2:jv L 7 9=L 9:=rfl;have a3:jv L 7 12=L 12:=rfl;rw[a1,a2,a3,h9,h12];rfl
  show dK P w0 (fun x=>x=e9 34 σ σ1 b (o+3) cs tg n pre (L 7) (L 9) (L 12)) (fun x=>x=e9 34 σ σ1 b (o+3) cs tg n pre (jv L 7 7) (jv L 7 9) (jv L 7 12)) _ _ _;rw[e1,e2];exact happ _ _ rfl rfl (by rw[P1 (by decide),P1 (by decide),P1 (by decide),P2]) P2
 refine .cons (v:=.ptr (σ.length+2) (n*4)) (YG.pure rfl (fun τ=>?_) (fun L x h=>h)) ?_
 ·have e1:(((((((((ρ.put (some 10) (.ptr b o)).put (some 11) (.ptr b o)).put (some 12) (.ptr b (o+3))).put (some 13) y).put (some 14) (.agg (cP n))).put (some 15) (.c (.int .i64 n))).put (some 16) (.ab [e7])).put (some 17) (.vec (σ.length+2) (n+1)))) 15= .c (.int .i64 n):=by rw[P1 (by decide),P1 (by decide),P2]
  simp only[Lamb.step,aj.ev,e1,P2];rw[if_pos ⟨by omega,by omega⟩];rfl
 refine .cons (v:=.void) ?_ ?_
 ·intro L hcl hk hpre;have h8:L 8=true:=hpre 8 (by decide);have h7:L 7=true:=hcl 8 (by decide) h8 7 (by decide);refine .step rfl fun x hx=>⟨x.set (σ.length+2) (.vec 34 4 (pre++oF n)),?_,?_⟩
  ·subst hx;obtain⟨X,hX,hXl⟩:=Lv (e:=34) (b:=b) (o:=o+3) (cs:=cs) (tg:=tg) (n:=n) (pre:=pre) (a:=true) (s:=L 9) (c:=L 12) hl1;have:(e9 34 σ σ1 b (o+3) cs tg n pre true (L 9) (L 12))[σ.length+2]?=some (.vec 34 4 (pre++e7)):=by
    rw[hX,cZ (by omega),hXl,ft,hk];rfl
   have e1:((((((((((ρ.put (some 10) (.ptr b o)).put (some 11) (.ptr b o)).put (some 12) (.ptr b (o+3))).put (some 13) y).put (some 14) (.agg (cP n))).put (some 15) (.c (.int .i64 n))).put (some 16) (.ab [e7])).put (some 17) (.vec (σ.length+2) (n+1))).put (some 18) (.ptr (σ.length+2) (n*4)))) 14= .agg (cP n):=by rw[P1 (by decide),P1 (by decide),P1 (by decide),P1 (by decide),P2]
   have t4:fv (cP n)=some (oF n):=rfl;have q1:(pre++e7).take (n*4)=pre:=by rw[<-hpl];exact List.take_left
   have q2:(pre++e7).drop (n*4+4)=[]:=by rw[List.drop_eq_nil_iff];simp[hpl,e7]
   rw[h7];simp only[Lamb.step,aj.ev,e1,P2,this,V.ai,t4];rw[if_pos ⟨rfl,by simp[hpl,e7]⟩,q1,q2,cw]
  ·subst hx;show(e9 34 σ σ1 b (o+3) cs tg n pre (L 7) (L 9) (L 12)).set _ _=e9 34 σ σ1 b (o+3) cs tg n pre (L 7) true (L 12);rw[h7,hk];unfold e9;rw[iL _ _ (by cases L 12<;>simp[hl1])];congr 1;have:σ.length+2-(bif L 12 then σ1.set b (.cells (cs.take (o+3)++[.vec (σ.length+2) (n+1)]++cs.drop (o+3+1)) tg)else bif true then σ1 else σ).length=2:=by cases L 12<;>simp[hl1]
   rw[this];rfl
 rw[P3];refine .cons (v:=.ptr b o) (YG.pure rfl (fun τ=>?_) (fun L x h=>h)) ?_
 ·have e1:((((((((((ρ.put (some 10) (.ptr b o)).put (some 11) (.ptr b o)).put (some 12) (.ptr b (o+3))).put (some 13) y).put (some 14) (.agg (cP n))).put (some 15) (.c (.int .i64 n))).put (some 16) (.ab [e7])).put (some 17) (.vec (σ.length+2) (n+1))).put (some 18) (.ptr (σ.length+2) (n*4)))) 10= .ptr b o:=by rw[P1 (by decide),P1 (by decide),P1 (by decide),P1 (by decide),P1 (by decide),P1 (by decide),P1 (by decide),P1 (by decide),P2]
  simp only[Lamb.step,aj.ev,e1]
 refine .cons (v:=.ptr b (o+3)) (YG.pure rfl (fun τ=>by simp only[Lamb.step,aj.ev,P2]) (fun L x h=>h)) ?_;refine .cons (v:=.void) ?_ .nil;intro L hcl hk hpre;have h7:L 7=true:=hpre 7 (by decide);refine .step rfl fun x hx=>⟨x.set b (.cells (cs.take (o+3)++[.vec (σ.length+2) (n+1)]++cs.drop (o+3+1)) tg),?_,?_⟩
 ·subst hx;rw[h7,hk];have:(e9 34 σ σ1 b (o+3) cs tg n pre true (L 9) false)[b]?=some (.cells cs tg):=by
   unfold e9;simp only[cond_false,cond_true];rw[cI (by omega)];exact hb1
  have e1:((((((((((((ρ.put (some 10) (.ptr b o)).put (some 11) (.ptr b o)).put (some 12) (.ptr b (o+3))).put (some 13) y).put (some 14) (.agg (cP n))).put (some 15) (.c (.int .i64 n))).put (some 16) (.ab [e7])).put (some 17) (.vec (σ.length+2) (n+1))).put (some 18) (.ptr (σ.length+2) (n*4))).put (some 19) (.ptr b o)).put (some 20) (.ptr b (o+3)))) 17= .vec (σ.length+2) (n+1):=by rw[P1 (by decide),P1 (by decide),P1 (by decide),P2]
  have ho:o+3<cs.length:=(aL.1 hy).1;simp only[Lamb.step,aj.ev,e1,P2,this,V.ai];rw[if_pos ⟨rfl,by omega,rfl⟩]
 ·subst hx;show(e9 34 σ σ1 b (o+3) cs tg n pre (L 7) (L 9) (L 12)).set _ _=e9 34 σ σ1 b (o+3) cs tg n pre (L 7) (L 9) true;rw[h7,hk];unfold e9;simp only[cond_false,cond_true];rw[List.set_append_left _ _ (by omega)]
end
section
variable {w0:World}
theorem yL(σ σ1:H)(b o n:Nat)(hn:n<=1000000)(cs:List V)(tg:Option TypeId)(hb:σ[b]?=some (.cells cs tg))(y:V)(hy:cs[o+3]?=some y)(pre:List C)
  (hcase:(y= .ab []/\n=0/\pre=[]/\σ1=σ)\/(∃b' cells,y= .vec b' n/\σ[b']?=some (.vec 34 4 cells)/\n*4<=cells.length/\pre=cells.take (n*4)/\σ1=σ.set b' .gone)):
  DC prog w0 67 [.ptr b o] σ (fun d σ'=>d= .agg (cP n)/\σ'=σ1.set b (.cells (cs.take (o+3)++[.vec (σ.length+2) (n+1)]++cs.drop (o+3+1)) tg)++[.cells (cP n) none,.cells (cP n) none,.vec 34 4 (pre++oF n)]):=by
 have hlt:b<σ.length:=(aL.1 hb).1;have ho:o+3<cs.length:=(aL.1 hy).1;have hl1:σ1.length=σ.length:=by rcases hcase with⟨_,_,_,rfl⟩|⟨b',cells,_,_,_,_,rfl⟩<;>simp
 have hb1:σ1[b]?=some (.cells cs tg):=by
  rcases hcase with⟨_,_,_,rfl⟩|⟨b',cells,_,h,_,_,rfl⟩
  ·exact hb
  ·rw[bX]
   ·exact hb
   ·rintro rfl;rw[hb]at h;cases h
 have ha:∀L,(σ++L)[b]?=some (.cells cs tg):=fun L=>by rw[cI hlt];exact hb
 have hg0:∀x L,(σ++x::L)[σ.length]?=some x:=fun x L=>by rw[cZ (aA _),cq];rfl
 have hg1:∀L k,(σ++L)[σ.length+k]?=L[k]?:=fun L k=>by rw[cZ (by omega),ft]
 have hs1:∀L k x,(σ++L).set (σ.length+k) x=σ++L.set k x:=fun L k x=>by rw[iL _ _ (by omega),ft]
 have hs0:∀L x,(σ++L).set σ.length x=σ++L.set 0 x:=fun L x=>by rw[iL _ _ (aA _),cq]
 refine DC.Hb rX.hm rX.hf rX.hb rX.ag rX.cF (Nat.le_of_ble_eq_true rfl) rX.en ?_;rcases hcase with⟨rfl,rfl,rfl,rfl⟩|⟨b',cells,rfl,hv,hc4,rfl,rfl⟩
 ·(refine W.a ?_;simp only[go_sem,Dc,ha,hg0,hg1,hs0,hs1,hy]);refine W.Ap (fun L x=>x=e9 34 σ1 σ1 b (o+3) cs tg 0 [] (L 7) (L 9) (L 12)) rfl (Lw σ1 σ1 b o 0 hn cs tg hb hb rfl _ hy [] rfl (fun ρ τ h=>by simp only[Lamb.step,aj.ev,h];rfl) (fun ρ o hg hi h1 h2=>?_) _ rfl rfl) ?_
  ·refine dK.vec (olds:=[]) (news:=[e7]) (by rw[hg];rfl) hi h1 (by show(ρ 16).rows=_;rw[h2];rfl) ⟨by simp,by simp,by simp[e7],by simp,by simp⟩ (fun x hx=>?_);subst hx;exact⟨by simp,by simp⟩
  ·intro L hL x hx;rw[hL 7 (by decide),hL 9 (by decide),hL 12 (by decide)]at hx;subst hx;have hl2:(e9 34 σ1 σ1 b (o+3) cs tg 0 [] true true true)=σ1.set b (.cells (cs.take (o+3)++[.vec (σ1.length+2) (0+1)]++cs.drop (o+3+1)) tg)++[.cells lh none,.cells (cP 0) none,.vec 34 4 ([]++oF 0)]:=rfl;rw[hl2];generalize hX:σ1.set b (.cells (cs.take (o+3)++[.vec (σ1.length+2) (0+1)]++cs.drop (o+3+1)) tg)=X;have hXl:X.length=σ1.length:=by rw[<-hX];simp
   rw[<-hXl];have hx0:∀x L,(X++x::L)[X.length]?=some x:=fun x L=>by rw[cZ (aA _),cq];rfl
   have hx1:∀L k,(X++L)[X.length+k]?=L[k]?:=fun L k=>by rw[cZ (by omega),ft]
   have hx2:∀L x,(X++L).set X.length x=X++L.set 0 x:=fun L x=>by rw[iL _ _ (aA _),cq]
   (refine W.a ?_;simp only[go_sem,yK,cP,lh,hx0,hx1,hx2]);refine W.ret ⟨_,ao.refl _ _,[.agg (cP 0)],?_,.inl ⟨rfl,?_⟩⟩
   ·simp only[go_sem,Dd,bA,hx0,hx1,cP]
   ·rw[hXl,<-hX];simp only[dt,ZW]
 ·(refine W.a ?_;simp only[go_sem,Dc,ha,hg0,hg1,hs0,hs1,hy]);have hbb:b'<σ.length:=(aL.1 hv).1;refine W.Ap (fun L x=>x=e9 34 σ (σ.set b' .gone) b (o+3) cs tg n (cells.take (n*4)) (L 7) (L 9) (L 12)) rfl (Lw σ (σ.set b' .gone) b o n hn cs tg hb hb1 hl1 _ hy (cells.take (n*4)) (by rw[dV];omega) (fun ρ τ h=>by simp only[Lamb.step,aj.ev,h]) (fun ρ o hg hi h1 h2=>?_) _ rfl rfl) ?_
  ·refine dK.step (by rw[hg];rfl) (fun x hx=>?_);subst hx;have hv':(σ++[.cells lh none,.cells (cP n) none])[b']?=some (.vec 34 4 cells):=by rw[cI hbb];exact hv
   rw[hi];have h3:(V.ab [e7]).rows=some [e7]:=rfl;have e1:n*4+4=n*4+[e7].flatten.length:=rfl;refine⟨_,?_,rfl⟩;simp only[Lamb.step,aj.ev,h1,h2,h3,mS,hv'];rw[if_pos ⟨trivial,trivial,hc4,by simp,by simp[e7],by simp;omega,by simp;omega⟩];simp[List.set_append,hbb]
  ·intro L hL x hx;rw[hL 7 (by decide),hL 9 (by decide),hL 12 (by decide)]at hx;subst hx;have hl2:(e9 34 σ (σ.set b' .gone) b (o+3) cs tg n (cells.take (n*4)) true true true)=(σ.set b' .gone).set b (.cells (cs.take (o+3)++[.vec (σ.length+2) (n+1)]++cs.drop (o+3+1)) tg)++[.cells lh none,.cells (cP n) none,.vec 34 4 (cells.take (n*4)++oF n)]:=rfl;rw[hl2];generalize hX:(σ.set b' .gone).set b (.cells (cs.take (o+3)++[.vec (σ.length+2) (n+1)]++cs.drop (o+3+1)) tg)=X;have hXl:X.length=σ.length:=by rw[<-hX];simp
   rw[<-hXl];have hx0:∀x L,(X++x::L)[X.length]?=some x:=fun x L=>by rw[cZ (aA _),cq];rfl
   have hx1:∀L k,(X++L)[X.length+k]?=L[k]?:=fun L k=>by rw[cZ (by omega),ft]
   have hx2:∀L x,(X++L).set X.length x=X++L.set 0 x:=fun L x=>by rw[iL _ _ (aA _),cq]
   (refine W.a ?_;simp only[go_sem,yK,cP,lh,hx0,hx1,hx2]);refine W.ret ⟨_,ao.refl _ _,[.agg (cP n)],?_,.inl ⟨rfl,?_⟩⟩
   ·simp only[go_sem,Dd,bA,hx0,hx1,cP]
   ·rw[hXl,<-hX];simp only[dt,ZW]
end
theorem Ve(s:List aa)(t:aa):aK (s++[t])=aK s++t.cs:=by simp[aK]
theorem Vf(w0:World){s:List aa}(hs:s.length<=1000000)(p bs:Nat)(σ:H)(g1 g2 g3 y4 y5 y6 y7:V)(tg:Option TypeId)(hp:σ[p]?=some (.cells [g1,g2,g3,.vec bs s.length,y4,y5,y6,y7] tg))(hb:σ[bs]?=some (.vec 34 4 (aK s))):
  DC prog w0 67 [.ptr p 0] σ (Same (aJ s.length).v ((σ.set bs .gone).set p (.cells [g1,g2,g3,.vec σ.length (s.length+1),y4,y5,y6,y7] tg)++[.vec 34 4 (aK (s++[aJ s.length]))])):=by
 refine DC.BV (A:=[g1,g2,g3]) (B:=[y4,y5,y6,y7]) (y:=.vec bs s.length) hp (by rw[aa.v];exact .agg fun x hx=>by simp at hx;rcases hx with rfl|rfl|rfl|rfl<;>exact .c _) ?_;refine(yL σ (σ.set bs .gone) p 0 s.length hs _ tg hp (.vec bs s.length) rfl (aK s) (.inr ⟨bs,aK s,rfl,hb,Nat.le_of_eq (lf s).symm,by rw[<-lf s,oX],rfl⟩)).mono ?_;rintro d τ ⟨rfl,rfl⟩;refine⟨?_,[.cells (cP s.length) none,.cells (cP s.length) none],[],?_⟩
 ·exact .agg rfl fun j hj hj'=>by
   rcases(by simp[cP]at hj;omega:j=0\/j=1\/j=2\/j=3)with rfl|rfl|rfl|rfl
   ·exact .rfl _
   ·exact .rfl _
   ·exact .rfl _
   ·first|exact .ab _|exact .rfl _
 ·rw[Ve];rfl
theorem Vg(w0:World)(p:Nat)(σ:H)(g1 g2 g3 y4 y5 y6 y7:V)(tg:Option TypeId)(hp:σ[p]?=some (.cells [g1,g2,g3,.ab [],y4,y5,y6,y7] tg)):
  DC prog w0 67 [.ptr p 0] σ (Same (aJ 0).v (σ.set p (.cells [g1,g2,g3,.vec σ.length 1,y4,y5,y6,y7] tg)++[.vec 34 4 (aK [aJ 0])])):=by
 have h0:σ.set σ.length .gone=σ:=by rw[List.set_eq_of_length_le (aA _)]
 have key:=DC.BV (P:=prog) (w0:=w0) (f:=67) (args:=[.ptr p 0]) (e:=34) (size:=4) (k:=1) (cs:=aK [aJ 0]) (b0:=σ.length) (A:=[g1,g2,g3]) (B:=[y4,y5,y6,y7]) (y:=.ab []) (d:=(aJ 0).v) hp (by rw[aa.v];exact .agg fun x hx=>by simp at hx;rcases hx with rfl|rfl|rfl|rfl<;>exact .c _) ?_
 ·rw[h0]at key;exact key
 rw[h0];refine(yL σ σ p 0 0 (bC _) _ tg hp (.ab []) rfl [] (.inl ⟨rfl,rfl,rfl,rfl⟩)).mono ?_;rintro d τ ⟨rfl,rfl⟩;refine⟨?_,[.cells (cP 0) none,.cells (cP 0) none],[],rfl⟩;exact .agg rfl fun j hj hj'=>by
  rcases(by simp[cP]at hj;omega:j=0\/j=1\/j=2\/j=3)with rfl|rfl|rfl|rfl
  ·exact .rfl _
  ·exact .rfl _
  ·exact .rfl _
  ·first|exact .ab _|exact .rfl _
attribute [local go_sem] aa.v aa.aM a7 bh aW aQ aX
theorem Vh(w0:World){N:Nat}{s:List aa}(hR:ck N s)(hN1:1<=N)(hN:N<=1000000)(hs:s.length<=1000000)(hs0:s≠[]){a b:aa}(ha:aE s.length a)(na:aD a<=N)(hb:aE s.length b)(nb:aD b<=N){s':List aa}(h:eX 4096 s [(a,b)] 0 s')(p bs:Nat)(σ:H)(g1 g2 g3 y4 y5 y6 y7:V)(tg:Option TypeId)(hp:σ[p]?=some (.cells [g1,g2,g3,.vec bs s.length,y4,y5,y6,y7] tg))(hbs:σ[bs]?=some (.vec 34 4 (aK s))):
  DC prog w0 26 [.ptr p 0,a.v,b.v] σ (Same (B true) ((σ.set bs .gone).set p (.cells [g1,g2,g3,.vec σ.length s.length,y4,y5,y6,y7] tg)++[.vec 34 4 (aK s')])):=by
 have hpl:=(aL.1 hp).1;have hbl:=(aL.1 hbs).1;have hne:p≠bs:=fun e=>by rw[e,hbs]at hp;cases hp
 have hp2:=fun L=>hG hp L;have hp4:(σ.set bs .gone)[p]?=some (.cells [g1,g2,g3,.vec bs s.length,y4,y5,y6,y7] tg):=by rw[bX (by omega)];exact hp
 have hp3:=fun L=>hG hp4 L;have hp5:=fun y L=>hS hp4 y L;have hU:∀c d:ad,DC prog w0 71 [.vec bs s.length,a.v,b.v] (σ++[c,d]) (Same (.ay [.vec (σ.length+2) s.length,I 0]) (σ.set bs .gone++[c,d,.vec 34 4 (aK s')])):=fun c d=>by
  have:=U9 w0 hR hN1 hN hs hs0 ha na hb nb h bs (σ++[c,d]) (hG hbs _);rw[hS hbs,dt,bD]at this;exact this
 refine DC.BV (A:=[g1,g2,g3]) (B:=[y4,y5,y6,y7]) (y:=.vec bs s.length) hp (.c _) ?_;refine yD.dL rfl (fun hok hsz=>?_);(refine W.a ?_;simp only[go_sem,uH]);apply W.aS (aT _ _)
 case hc=>
  (apply ae.aq;simp only[go_sem,hp2]);(apply ae.call (hU _ _);(case hg=>rfl);(case hf=>rfl);(case ha=>first|rfl|simp));(apply ae.aq;simp only[go_sem]);exact ae.nil
 (refine W.a ?_;simp only[go_sem,hp3,hp5]);exact W.ret ⟨_,_,(by simp only[bA,uI,go_sem];rfl),.rfl _,⟨.rfl _,[_,_],[],rfl⟩⟩
theorem Vi(w0:World){N:Nat}{s:List aa}(hR:ck N s)(hN1:1<=N)(hN:N<=1000000)(hs:s.length<=1000000)(hs0:s≠[]){a b:aa}(ha:aE s.length a)(na:aD a<=N)(hb:aE s.length b)(nb:aD b<=N){e:Int}{s':List aa}(h:eX 4096 s [(a,b)] e s')(he:e≠0)(p bs:Nat)(σ:H)(g1 g2 g3 y4 y5 y6 y7:V)(tg:Option TypeId)(hp:σ[p]?=some (.cells [g1,g2,g3,.vec bs s.length,y4,y5,y6,y7] tg))(hbs:σ[bs]?=some (.vec 34 4 (aK s))):
  DC prog w0 26 [.ptr p 0,a.v,b.v] σ (Same (B false) (σ.set bs .gone)):=by
 have hpl:=(aL.1 hp).1;have hbl:=(aL.1 hbs).1;have hne:p≠bs:=fun e=>by rw[e,hbs]at hp;cases hp
 have hp2:=fun L=>hG hp L;have hp4:(σ.set bs .gone)[p]?=some (.cells [g1,g2,g3,.vec bs s.length,y4,y5,y6,y7] tg):=by rw[bX (by omega)];exact hp
 have hp3:=fun L=>hG hp4 L;have hp5:=fun y L=>hS hp4 y L;have hU:∀c d:ad,DC prog w0 71 [.vec bs s.length,a.v,b.v] (σ++[c,d]) (Same (.ay [.vec bs s.length,I e]) (σ.set bs .gone++[c,d])):=fun c d=>by
  have:=Va w0 hR hN1 hN hs hs0 ha na hb nb h he bs (σ++[c,d]) (hG hbs _);rwa [hS hbs]at this
 have hef:(e==0)=false:=by simp[he]
 have dk:(σ.set bs .gone).set p (.cells [g1,g2,g3,.vec bs s.length,y4,y5,y6,y7] tg)=σ.set bs .gone:=pg hp4;refine yD.go rfl (fun hok hsz=>?_);have hok2:H.ok (σ.set bs .gone):=Db hok bs;(refine W.a ?_;simp only[go_sem,uH]);apply W.aS (aT _ _)
 case hc=>
  (apply ae.aq;simp only[go_sem,hp2]);(apply ae.call (hU _ _);(case hg=>rfl);(case hf=>rfl);(case ha=>first|rfl|simp));(apply ae.aq;simp only[go_sem]);exact ae.nil
 (refine W.a ?_;simp only[go_sem,hp3,hp5,hef,dk]);refine W.ret (Fin.lQ (vs:=[B false]) hok2 (bF ..) (by simp only[bA,uI,go_sem]) (.rfl _) (.c _) rfl)
theorem Vj(w0:World){N:Nat}(hN:N<=1000000){a b:aa}(ha:aE 0 a)(na:aD a<=N)(hb:aE 0 b)(nb:aD b<=N){e:Int}(h:eX 4096 [] [(a,b)] e [])(p:Nat)(σ:H)(g1 g2 g3 y4 y5 y6 y7:V)(tg:Option TypeId)(hp:σ[p]?=some (.cells [g1,g2,g3,.ab [],y4,y5,y6,y7] tg)):
  DC prog w0 26 [.ptr p 0,a.v,b.v] σ (Same (B (e==0)) (σ.set p (.cells [g1,g2,g3,.c (.sl []),y4,y5,y6,y7] tg))):=by
 have hpl:=(aL.1 hp).1;have hp2:=fun L=>hG hp L;have hp5:=fun y L=>hS hp y L;have hU:=fun σ=>Vb w0 hN ha na hb nb h σ;refine yD.go rfl (fun hok hsz=>?_);have hok2:H.ok (σ.set p (.cells [g1,g2,g3,.c (.sl []),y4,y5,y6,y7] tg)):=fun B hB cs t hc x hx=>by
  rw[bF];rcases List.mem_or_eq_of_mem_set hB with hB|rfl
  ·exact hok B hB cs t hc x hx
  ·cases hc;have hl:=hok _ (List.mem_of_getElem? hp) _ _ rfl;simp at hx;rcases hx with rfl|rfl|rfl|rfl|rfl|rfl|rfl|rfl
   ·exact hl _ (by simp)
   ·exact hl _ (by simp)
   ·exact hl _ (by simp)
   ·exact .c _
   ·exact hl _ (by simp)
   ·exact hl _ (by simp)
   ·exact hl _ (by simp)
   ·exact hl _ (by simp)
 (refine W.a ?_;simp only[go_sem,uH]);apply W.aS (aT _ _)
 case hc=>
  (apply ae.aq;simp only[go_sem,hp2]);(apply ae.call (hU _);(case hg=>rfl);(case hf=>rfl);(case ha=>first|rfl|simp));(apply ae.aq;simp only[go_sem]);exact ae.nil
 (refine W.a ?_;simp only[go_sem,hp2,hp5]);refine W.ret (Fin.lQ (vs:=[B (e==0)]) hok2 (bF ..) (by simp only[bA,uI,go_sem]) (.rfl _) (.c _) rfl)
end Go.Proofs.YtdlkenpilhakfaaGreatDoor
namespace Go.Lamb
open Go Go.RowKit
def lj(l:List az):List (List C):=l.map fun x=>x.ty.cs
end Go.Lamb
namespace Go.Proofs.YtdlkenpilhakfaaGreatDoor
open Go.RowKit Go.Lamb
attribute [local go_sem] aa.v aa.aM a7 bh aW aQ aX
theorem Vk(w0:World)(l:List az)(hn:l.length<=1000000)(σ:H):DC prog w0 32 [.c (.sl (l.map az.cs))] σ (Same (.c (.sl (lj l))) σ):=by
 refine Lj.go rfl (fun hok hsz=>?_);(refine W.a ?_;simp only[go_sem,C2]);refine W.bB (α:=Option Nat) (fun o=>match o with|none=>True|some i=>1<=i/\i<=l.length) (fun o=>match o with
  |none=>⟨((((base.put (some 3) (.ab [])).put (some 6) (.c (.sl (l.map az.cs)))).put (some 7) (I (l.length:Int))).put (some 8) (I 0)),σ⟩
  |some i=>⟨((((base.put (some 3) (.aG (σ.length+1) (lj (l.take i)))).put (some 6) (.c (.sl (l.map az.cs)))).put (some 7) (I (l.length:Int))).put (some 8) (I (i:Int))),σ++[.gone,.spare 34 4 i]⟩) (fun o=>match o with|none=>l.length+1|some i=>l.length-i) none trivial ?_ (fun o ho=>?_)
 ·dsimp only
  (refine ao.env ?_;exact aF)
 cases o with
 |none=>
  dsimp only
  by_cases h0:0<l.length
  ·have z1:(0:Int)<(l.length:Int):=by omega
   have hx0:l[0]?=some l[0]:=aO h0;have htk:l.take 1=[l[0]]:=by
    cases l with
    |nil=>simp at h0
    |cons x l=>rfl
   have hw1:aN.wrap (0+1)=((1:Nat):Int):=by decide
   generalize l[0]=x at*;obtain⟨nm,ty⟩:=x;(refine W.a ?_;simp only[go_sem,z1]);refine W.yes rfl (W.a ?_);simp only[go_sem,z1,hx0,az.cs,hw1,true_or];refine .inv ⟨some 1,⟨aA _,h0⟩,by dsimp only;omega,?_⟩;dsimp only
   rw[htk];simp only[lj,List.map_cons,List.map_nil,aa.aM];(refine ao.eN (hok) ?_ (by simp) (by simp) ?_ ?_ ?_;exact aF;((try simp only[okB,bx,go_sem])<;>omega);(simp only[bk,cN,dI,dZ,cV,bx,and_true];(repeat' (refine eV ?_ ?_))<;>(first|exact ad.wk.rfl _|exact ad.wk.gone _|(refine ad.eO ?_ rfl;(exact au))));(repeat' (first|exact aZ.base _|(refine aZ.put ?_ (by first|exact .c _|((try simp only[okB,bx,go_sem])<;>omega))))))
  ·have hw0:l=[]:=fF (by omega);subst hw0;have z1:¬(0:Int)<0:=by decide
   (refine W.a ?_;simp only[go_sem,z1]);refine W.no rfl (W.a ?_);simp only[go_sem];refine W.ret (Fin.lQ (vs:=[.ab []]) hok rfl (by simp only[bA,yE,go_sem]) (.ab _) (.c _) (cw _).symm)
 |some i=>
  obtain⟨hi1,hi⟩:=ho;dsimp only
  by_cases hlt:i<l.length
  ·have z1:(i:Int)<(l.length:Int):=by omega
   have z0:(0:Int)<=(i:Int):=by omega
   have hx0:l[i]?=some l[i]:=aO hlt;have htk:lj (l.take (i+1))=lj (l.take i)++[(l[i]).ty.cs]:=by
    unfold lj;rw[List.take_succ_eq_append_getElem hlt,dv];rfl
   have hw1:aN.wrap ((i:Int)+1)=((i+1:Nat):Int):=by rw[bn]<;>omega
   have htl:(lj (l.take i)).length=i:=by unfold lj;rw[bW,dV];omega
   have b1:(i+1)*56<=140737488355328:=by omega
   have b2:i+1<=140737488355328:=by omega
   have hr4:(∀r∈lj (l.take i),r.length=4)=True:=eq_true (fun r hr=>by
    obtain⟨x,_,rfl⟩:=eu.1 hr;rw[aa.aM];rfl)
   generalize l[i]=x at*;obtain⟨nm,ty⟩:=x;rw[aa.aM]at htk;(refine W.a ?_;simp only[go_sem,z1]);refine W.yes rfl (W.a ?_);simp only[go_sem,z1,z0,hx0,az.cs,hw1,htl,b1,b2,true_or];refine .inv ⟨some (i+1),⟨by omega,hlt⟩,by dsimp only;omega,?_⟩;dsimp only
   rw[htk];(refine ao.eN (hok) ?_ (by simp) (by simp) ?_ ?_ ?_;exact aF;((try simp only[okB,bx,go_sem])<;>omega);(simp only[bk,cN,dI,dZ,cV,bx,and_true];(repeat' (refine eV ?_ ?_))<;>(first|exact ad.wk.rfl _|exact ad.wk.gone _|(refine ad.eO ?_ rfl;(exact au))));(repeat' (first|exact aZ.base _|(refine aZ.put ?_ (by first|exact .c _|((try simp only[okB,bx,go_sem])<;>omega))))))
  ·obtain rfl:i=l.length:=by omega
   have z1:¬((l.length:Nat):Int)<((l.length:Nat):Int):=by omega
   rw[oX];(refine W.a ?_;simp only[go_sem,z1]);refine W.no rfl (W.a ?_);simp only[go_sem];(refine W.fs (hok) (by simp only[yE,go_sem];rfl) ?_;simp only[al];try exact V.wk.rfl _)
   all_goals (all_goals exact au)
end Go.Proofs.YtdlkenpilhakfaaGreatDoor
namespace Go.Lamb
open Go Go.RowKit
def cy(name:aY):Nat->List az->Int
 |_,[]=>-1
 |i,x::l=>match cy name (i+1) l with
  | .ofNat n=>.ofNat n
  | .negSucc _=>bif x.name==name then(i:Int)else-1
theorem uU(name:aY):∀(l:List az) (i:Nat),(∀x∈l,(x.name==name)=false)->cy name i l=-1
 |[],_,_=>rfl
 |x::l,i,h=>by
  unfold cy;rw[uU name l (i+1) fun y hy=>h y (bS _ hy)];show(bif x.name==name then(i:Int)else-1)=-1;rw[h x (bu ..)];rfl
theorem yM(name:aY):∀(l:List az) (i j:Nat) (hj:j<l.length),(l[j].name==name)=true->(∀k,j<k->∀hk:k<l.length,(l[k].name==name)=false)->cy name i l=((i+j:Nat):Int)
 |x::l,i,0,_,h1,h2=>by
  unfold cy;rw[uU name l (i+1) fun y hy=>by obtain⟨k,hk,rfl⟩:=List.getElem_of_mem hy;exact h2 (k+1) (by omega) (by simpa using hk)];show(bif x.name==name then(i:Int)else-1)=_;rw[show(x.name==name)=true from h1];rfl
 |x::l,i,j+1,hj,h1,h2=>by
  unfold cy;rw[yM name l (i+1) j (by simpa using hj) h1 fun k hk hk'=>h2 (k+1) (by omega) (by simpa using hk')];show((i+1+j:Nat):Int)=_;congr 1;omega
end Go.Lamb
namespace Go.Proofs.YtdlkenpilhakfaaGreatDoor
open Go.RowKit Go.Shelf Go.Lamb
attribute [local go_sem] Oper.semAt_some
def yN(xs:Nat->Value)(i:Nat):Value:=.agg #[xs (i*5),xs (i*5+1),xs (i*5+2),xs (i*5+3),xs (i*5+4)]
set_option maxRecDepth 100000 in
set_option maxHeartbeats 2000000 in
theorem Vl(F:Fence)(n:Nat)(hf:F.fn 226)(hro:F.round=none)(hn:1<=n)(l Bs n₀ b off len cap:Nat)(A:Option Addr)(hA:0<len->A=some ⟨b,off,none⟩)(xs:Nat->Value)(hreach:len<=1000000)(hb:0<len->b<n₀)(J Jx:List (Fin len)->World->Prop)
  (hY:∀pre (x:Fin len) W,J pre W->pre.length<len->YieldAt F (n-1) prog l #[.int .i64 (x.1:Nat),yN xs x.1] W fun e W'=>
    (e= .returned (.bool true)/\J (pre++[x]) W'/\fj n₀ Bs W W')\/(e= .returned (.bool false)/\Jx (pre++[x]) W'))
  (W:World) (hBs:W.cell? ⟨Bs,0,none⟩=some (.slice A len cap)) (hc:∀j,j<len*5->W.cell? ⟨b,off+j,none⟩=some (xs j)) (h0:J [] W):
  CallsIn F n prog 226 #[.func (.yield l) #[] #[],.pointer (some ⟨Bs,0,none⟩)] W fun e W'=>(∃v,e= .returned v)/\
   ((∃ys,ys.map iN=gm len len/\J ys W')\/(∃pre,(∃k,k<len/\pre.map iN=gm len (k+1))/\Jx pre W')):=by
 have hw0:aN.wrap ((len:Int)-1)=(len:Int)-1:=bn (by omega) (by omega);refine callsIn_of_wp func226 rfl hf ?_ hro;simp only[ntmps226,oR,bk,cN,dI,sB,wc,we,wg,wh,eH,iM]
 gi_wp2
 gi_loopw [3] (fun i wr=>∃(k:Nat) (pre:List (Fin len)),k<=len/\i= .int .i64 ((len:Int)-1-k)/\pre.map iN=gm len k/\J pre wr/\fj n₀ Bs W wr)
  (fun i _=>(intOf i+1).toNat)
 case atStart=>exact⟨0,[],bC _,by simp[hw0],rfl,h0,fj.refl _ _ _⟩
 case round=>
  obtain⟨k,pre,hk,rfl,hpre,hJs,hnx⟩:=hrel;have hBx:=hnx.2 _ hBs;by_cases hlt:k<len
  ·have hcx:∀j,j<len*5->wr.cell? ⟨b,off+j,none⟩=some (xs j):=fun j h=>(hnx.1.cell (p:=⟨b,off+j,none⟩) (hb (by omega))).trans (hc j h);obtain⟨m,hm,hmm⟩:∃m,m<len/\len-1-k=m:=⟨_,by omega,rfl⟩;obtain⟨fn,tmps,assign,body,hy,hR⟩:=hY _ ⟨m,hm⟩ wr hJs (by rw[<-bW (f:=iN),hpre,Lx];exact hlt);have e:(len:Int)-1-k=(m:Int):=by omega
   have hpre':(pre++[(⟨m,hm⟩:Fin len)]).map iN=gm len (k+1):=by rw[dv,hpre,yO,hmm];rfl
   obtain rfl:=hA (by omega);rw[e];have c0:=hcx (m*5) (by omega);have c1:=hcx (m*5+1) (by omega);have c2:=hcx (m*5+2) (by omega);have c3:=hcx (m*5+3) (by omega);have c4:=hcx (m*5+4) (by omega);rw[<-Nat.add_assoc]at c1 c2 c3 c4;unfold yN at hy;dsimp only at hy
   gi_wp2
   refine hR.mono ?_;rintro e W3 (⟨rfl,hJ3,hk3⟩|⟨rfl,hJx3⟩)
   ·gi_wp2
    go_roundw
    case rel=>exact⟨k+1,_,by omega,by simp only[Value.int.injEq,true_and];omega,hpre',hJ3,hnx.trans hk3⟩
    case measure=>simp[intOf]
   ·gi_wp2
    refine bodyPost_ret (results_none rfl _ _ _) rfl ?_;exact⟨⟨_,rfl⟩,.inr ⟨_,⟨k,hlt,hpre'⟩,hJx3⟩⟩
  ·obtain rfl:k=len:=by omega
   have e:(k:Int)-1-k=-1:=by omega
   rw[e]
   gi_wp2
   go_end0
   exact⟨⟨_,rfl⟩,.inl ⟨_,hpre,hJs⟩⟩
set_option maxHeartbeats 1000000 in
theorem Vm(F:Fence)(n:Nat)(hf:F.fn 179)(hro:F.round=none)(a:Option Addr)(len cap:Nat)(w:World):
  CallsIn F n prog 179 #[.slice a len cap] w fun e w'=>e= .returned (.func (.func 226) #[] #[.pointer (some ⟨w.heap.size,0,none⟩)])/\w'=w.alloc (.cells #[.slice a len cap] 23):=by
 refine callsIn_of_wp func179 rfl hf ?_ hro;simp only[ntmps179,oR,bk,cN,dI,sB,wc,we,wg,wh,eH,iM]
 gi_wp2
 go_ret
 exact⟨rfl,rfl⟩
theorem Vn(F:Fence)(n:Nat)(hf:F.fn 226)(hro:F.round=none)(hn:1<=n)(Bs n₀ b off len cap:Nat)(A:Option Addr)(hA:0<len->A=some ⟨b,off,none⟩)(xs:Nat->Value)(hreach:len<=1000000)(hb:0<len->b<n₀)(w:World)(hBw:Bs<w.heap.size)(hn₀:n₀<=w.heap.size)
  (hBs:w.cell? ⟨Bs,0,none⟩=some (.slice A len cap)) (hc:∀j,j<len*5->w.cell? ⟨b,off+j,none⟩=some (xs j)):
  SeqStopsK F n prog 226 #[.pointer (some ⟨Bs,0,none⟩)] (fun x:Fin len=>#[.int .i64 (x.1:Nat),yN xs x.1]) (fj n₀ Bs) (fun ys=>ys.map iN=gm len len) (fun pre=>∃k,k<len/\pre.map iN=gm len (k+1)) len w:=fun l J Jx W hW _ _ hY h0=>by
 refine Vl F n hf hro hn l Bs n₀ b off len cap A hA xs hreach hb J Jx hY W ((hW.cell (p:=⟨Bs,0,none⟩) hBw).trans hBs) (fun j hj=>?_) h0;have hb':=hb (by omega);exact(hW.cell (p:=⟨b,off+j,none⟩) (by show b<_;omega)).trans (hc j hj)
theorem Vo{m:Mem}{l:List az}{A:Option Addr}{len cap:Nat}(h:RC m (gg l) (.slice A len cap)):len=l.length/\∃xs:Nat->Value,(0<len->∃b o,A=some ⟨b,o,none⟩/\∀k,k<len*5->m b (o+k)=some (xs k))/\
  ∀i (hi:i<l.length),xs (i*5)= .string (bs l[i].name)/\(xs (i*5+1)).oneCell'=true/\(xs (i*5+2)).oneCell'=true/\(xs (i*5+3)).oneCell'=true/\(xs (i*5+4)).oneCell'=true:=by
 unfold gg at h;generalize hr:l.map az.cs=rows at h;cases h with
 |sl rows s A cap xs h0 h1 h2 h3 h4 h5=>
  subst hr;refine⟨by simp,fun k=>xs.getD k undef,fun hl=>?_,fun i hi=>?_⟩
  ·have hne:l.map az.cs≠[]:=fun e=>by rw[e]at hl;simp at hl
   obtain⟨b,o,rfl,hm⟩:=h4 hne;have hs:s=5:=by
    cases l with
    |nil=>simp at hne
    |cons a r=>exact(h0 a.cs (by simp)).symm
   subst hs;refine⟨b,o,rfl,fun k hk=>?_⟩;have hk':k<xs.length:=by rw[h3];exact hk
   rw[hm k hk',aO hk'];simp[List.getD,hk']
  ·have hs:s=5:=(h0 l[i].cs (List.mem_map_of_mem (bt hi))).symm;subst hs;have hi':i<(l.map az.cs).length:=by simpa using hi
   have h5':=h5 i hi';simp only[dN,az.cs]at h5';have q0:=h5' 0 (by simp);have q1:=h5' 1 (by simp);have q2:=h5' 2 (by simp);have q3:=h5' 3 (by simp);have q4:=h5' 4 (by simp);refine⟨?_,q1.one,q2.one,q3.one,q4.one⟩;simp only[List.getElem_cons_zero,mG]at q0;show xs.getD (i*5) undef=_;generalize xs.getD (i*5) undef=u at q0;cases q0;rfl
end Go.Proofs.YtdlkenpilhakfaaGreatDoor
namespace Go.Lamb
open Go Go.RowKit
theorem Vp{P:Program}{id r m:Nat}{Q:Exit->Act->World->Prop}{a:Act}{w:World}{l:List Oper}(hm:P.follows .mixedOrders=true)(hB:Region.lexB .any l.toArray=true)(hp:(l.toArray.all fun o=>Op.plain o.op)=true)(hlo:¬LetsOut Q)
  (h:wpQuiet P l.toArray (fun w'=>∃n,w'=w.drewN n) (fun a'=>∀w',(∃n,w'=w.drewN n)->Q .normal a' w') l a):(Code.region id l.toArray true).wpIn (pJ r) m P Q a w:=by
 simp only[Region.lexB,bG]at hB;refine wpIn_region_any hm (Hz hlo (fun o ho=>by rw[Array.all_eq_true']at hp;exact hp o ho) (wpAny_of_quiet (C:=fun w'=>∃n,w'=w.drewN n) (Q:=fun a'=>∀w',(∃n,w'=w.drewN n)->Q .normal a' w') (fun _ w' hw' h=>h w' hw') _ _ _ _ ⟨1,rfl⟩ ?_));have:=wpAnyQ_lex (C:=fun w'=>∃n,w'=w.drewN n) (md:=.any) hB.1 l 0 (Array.replicate l.toArray.size false) a (by simp) (by simpa using hB.2) h;simpa using this
end Go.Lamb
namespace Go.Proofs.YtdlkenpilhakfaaGreatDoor
open Go.RowKit Go.Shelf Go.Lamb
attribute [local go_sem] Oper.semAt_some
def Ly(w:World)(l:List az)(name:aY)(A:Option Addr)(cap:Nat)(pre:List (_root_.Fin l.length))(W:World):Prop:=
 Below w.heap.size w W/\W.cell? ⟨w.heap.size,0,none⟩=some (.slice A l.length cap)/\W.cell? ⟨w.heap.size+1,0,none⟩=some (.string (bs name))/\(∃v,W.cell? ⟨w.heap.size+2,0,none⟩=some v)/\W.frozen? ⟨w.heap.size+2,0,none⟩=false/\w.heap.size+3<=W.heap.size/\∀x∈pre,(l[x].name==name)=false
def Lz(w:World)(l:List az)(name:aY)(c:Code)(pre:List (_root_.Fin l.length))(W:World):Prop:=
 c= .ret/\Below w.heap.size w W/\∃r x,pre=r++[x]/\W.cell? ⟨w.heap.size+2,0,none⟩=some (.int .i64 (x.1:Nat))/\(l[x].name==name)=true/\∀y∈r,(l[y].name==name)=false
theorem Vq{w:World}{l:List az}{name:aY}{A:Option Addr}{cap B:Nat}(hB:w.heap.size<=B):OwnFrom B (Ly w l name A cap):=by
 rintro pre W W' row ⟨h1,h2,h3,⟨v,h4⟩,h5,h6,h7⟩ hg hr;have hr':∀r,row=some r->∃o:Obj,W.heap[r]?=some o/\o.isCells=false:=fun r e=>(hr r e).2;exact⟨h1.grown hg (by omega) (fun k e=>by have:=(hr k e).1;omega),gx h2 hg hr',gx h3 hg hr',⟨v,gx h4 hg hr'⟩,(frozen_kept h4 hg hr').trans h5,by have:=hg.size;omega,h7⟩
theorem Vr{w:World}{l:List az}{name:aY}{B:Nat}(hB:w.heap.size<=B)(c:Code):OwnFrom B (Lz w l name c):=by
 rintro pre W W' row ⟨h0,h1,r,x,h2,h3,h4,h5⟩ hg hr;have hr':∀r,row=some r->∃o:Obj,W.heap[r]?=some o/\o.isCells=false:=fun r e=>(hr r e).2;have:=hg.size;have hs:=LA h3;exact⟨h0,h1.grown hg (by have:=h1.size;omega) (fun k e=>by have:=(hr k e).1;omega),r,x,h2,gx h3 hg hr',h4,h5⟩
theorem Vs(w:World)(o:Obj)(i:Nat)(h:i<w.heap.size):(w.alloc o).heap[i]?=w.heap[i]?:=by first|exact zO w o i h|exact zO w o h
theorem LB{W:World}{a:Addr}{v:Value}(h:W.cell? a=some v):(loadVar 3 a).run prog W= .ok v W:=by
 simp only[loadVar,Sem.run_bind,Sem.run_pure,Result.andThen_ok,Go.Lamb.nV underlying3,jr,Bool.false_eq_true,if_false];simp[go_sem,h]
set_option maxRecDepth 100000 in
set_option maxHeartbeats 4000000 in
theorem De{w:World}(l:List az)(name:aY)(hl:l.length<=1000000)(A:Option Addr)(cap:Nat)(xs:Nat->Value)(b off:Nat)(hA:0<l.length->A=some ⟨b,off,none⟩)(hm':∀k,k<l.length*5->w.cell? ⟨b,off+k,none⟩=some (xs k))(hb:0<l.length->b<w.heap.size)
  (hxs:∀i (hi:i<l.length),xs (i*5)= .string (bs l[i].name)/\(xs (i*5+1)).oneCell'=true/\(xs (i*5+2)).oneCell'=true/\(xs (i*5+3)).oneCell'=true/\(xs (i*5+4)).oneCell'=true):
  Calls prog 121 #[.slice A l.length cap,.string (bs name)] w (fun e w'=>e= .returned (.int .i64 (cy name 0 l))/\Below w.heap.size w w'):=by
 refine(callsIn_wide (n:=3)).1 ?_;refine callsIn_of_wp_marks func121 rfl trivial ?_ rfl;simp only[ntmps121,oR,bk,cN,dI,sB,wc,we,wg,wh,eH,iM]
 gi_wp2_with (refine⟨trivial,?_⟩;gi_at_call 179;refine(Vm Fence.wide 2 trivial rfl _ _ _ _).mono ?_;rintro e w' ⟨rfl,rfl⟩)
 obtain⟨W0,hW0⟩:∃W0,((((w.alloc (.cells #[.slice A l.length cap] 23)).alloc (.cells #[.string (bs name)] 9)).alloc (.cells #[.int .i64 0] 3)).alloc (.cells #[.slice A l.length cap] 23))=W0:=⟨_,rfl⟩;rw[hW0];have hsz:W0.heap.size=w.heap.size+4:=by rw[<-hW0];simp
 have hBel:Below w.heap.size w W0:=by
  rw[<-hW0];exact((((ep _ w).alloc (aA _) _).alloc (by simp) _).alloc (by simp;omega) _).alloc (by simp;omega) _
 have hc0:W0.cell? ⟨w.heap.size,0,none⟩=some (.slice A l.length cap):=by
  rw[<-hW0];exact jK _ (jK _ (jK _ (wi _ _ _ _ rfl)))
 have hc1:W0.cell? ⟨w.heap.size+1,0,none⟩=some (.string (bs name)):=by
  rw[<-hW0];exact jK _ (jK _ (wi _ _ _ _ (by simp)))
 have hh2:W0.heap[w.heap.size+2]?=some (.cells #[.int .i64 0] 3 (0,0)):=by
  rw[<-hW0,Vs _ _ _ (by simp)];have:=heap_alloc_new ((w.alloc (.cells #[.slice A l.length cap] 23)).alloc (.cells #[.string (bs name)] 9)) (.cells #[.int .i64 0] 3);simpa using this
 have hc2:W0.cell? ⟨w.heap.size+2,0,none⟩=some (.int .i64 0):=by rw[cell_of_row _ _ _ _ _ _ hh2];rfl
 have hf2:W0.frozen? ⟨w.heap.size+2,0,none⟩=false:=by simp[World.frozen?,hh2]
 have hcD:W0.cell? ⟨w.heap.size+1+1+1,0,none⟩=some (.slice A l.length cap):=by
  rw[<-hW0];exact wi _ _ _ _ (by simp)
 refine wpIn_rangeFunc_ownH rfl (by omega) (gf:=226) (lb:=#[.pointer (some ⟨w.heap.size+1+1+1,0,none⟩)]) rfl trivial (enters_of func226 (by kernel_rfl) rfl)
  (Vn Fence.wide 2 trivial rfl (by omega) (w.heap.size+1+1+1) w.heap.size b off l.length cap A hA xs hl hb W0 (by omega) (by omega) hcD (fun j hj=>(hBel.cell (p:=⟨b,off+j,none⟩) (hb (by omega))).trans (hm' j hj)))
  fj.trans (fj.xk (by omega)) (ep _ _) (fun _=>rfl)
  (Ly w l name A cap)
  (Lz w l name) (Vq (by omega)) (Vr (by omega)) ?h0
  (fun x a' _=>a'={tmps:=#[.slice A l.length cap,.string (bs name),.pointer (some ⟨w.heap.size,0,none⟩),.pointer (some ⟨w.heap.size+1,0,none⟩),.pointer (some ⟨w.heap.size+1+1,0,none⟩),.int .i64 (x.1:Nat),.slice A l.length cap,.func (.func 226) #[] #[.pointer (some ⟨w.heap.size+1+1+1,0,none⟩)],.int .i64 (x.1:Nat),yN xs x.1,undef,undef,undef,undef,undef,undef,undef,undef],defers:=[]}) ?hAx ?assign ?body ?done ?stop
 case h0=>exact⟨hBel,hc0,hc1,⟨_,hc2⟩,hf2,by omega,fun x hx=>by cases hx⟩
 case hAx=>exact fun x a'=>ownFrom_pure _ _
 case assign=>
  intro l' pre x W K hi hK
  gi_wp2
  exact hK _ _ ((KeepsOthers.refl _).from _) (fj.refl _ _ _) hi rfl
 case body=>
  rintro l' pre x a' W hl' ⟨r,hr⟩ ⟨h1,h2,h3,⟨v4,h4⟩,h5,h6,h7⟩ rfl hlt;obtain⟨k0,k1,k2,k3,k4⟩:=hxs x.1 x.2;have hxl:x.1<l.length:=x.2;obtain rfl:=hA (by omega);have p0:=(h1.cell (p:=⟨b,off+x.1*5,none⟩) (hb (by omega))).trans (hm' (x.1*5) (by omega));rw[k0]at p0;have h4':W.cell? ⟨w.heap.size+1+1,0,none⟩=some v4:=h4;have h5':W.frozen? ⟨w.heap.size+1+1,0,none⟩=false:=h5
  gi_wp2
  refine Vp (by kernel_rfl) (by kernel_rfl) (by kernel_rfl) (fun⟨_,_,h⟩=>h) ?_
  repeat (quiet_step (skip))
  refine wpQuiet_nil ?_;intro _ hw';obtain⟨nq,hw''⟩:=hw';subst hw'';have hbel:Below w.heap.size W (W.drewN nq):=⟨rfl,rfl,rfl,aA _,fun _ _=>rfl⟩;cases hq:(l[x.1].name==name)
  ·gi_wp2
   refine⟨?_,⟨hbel,fun v hv=>hv⟩,h1.trans hbel,h2,h3,⟨v4,h4⟩,h5,h6,fun y hy=>?_⟩
   ·exact⟨aA _,fun k o _ h _=>h⟩
   ·rcases cM.1 hy with hy|hy
    ·exact h7 y hy
    ·have:=mO.1 hy;subst this;exact hq
  ·gi_wp2
   have hs:((W.drewN nq).setCell ⟨w.heap.size+1+1,0,none⟩ (.int .i64 (x.1:Nat))).cell? ⟨w.heap.size+1+1,0,none⟩=some (.int .i64 (x.1:Nat)):=wj _ _ _ (by show((W.drewN nq).cell? _).isSome=true;rw[World.cell?_drewN,h4'];rfl);refine⟨?_,rfl,(h1.trans hbel).setCell (p:=⟨w.heap.size+1+1,0,none⟩) (by show w.heap.size<=w.heap.size+1+1;omega) _,pre,x,rfl,hs,hq,h7⟩;have hk0:KeepsFrom W0.heap.size W (W.drewN nq):=⟨aA _,fun k o _ h _=>h⟩;exact hk0.trans ((wm _ _ _).from _)
 case done=>
  rintro D ys W hD hS ⟨h1,h2,h3,⟨v4,h4⟩,h5,h6,h7⟩ hK;have hall:∀x∈l,(x.name==name)=false:=fun x hx=>by
   obtain⟨j,hj,rfl⟩:=fD hx;have:j∈ys.map iN:=by
    rw[hS];exact eu.2 ⟨l.length-1-j,mJ.2 (by omega),by omega⟩
   obtain⟨y,hy,rfl⟩:=eu.1 this;exact h7 y hy
  have h4':W.cell? ⟨w.heap.size+1+1,0,none⟩=some v4:=h4;have h5':W.frozen? ⟨w.heap.size+1+1,0,none⟩=false:=h5
  gi_wp2
  have hK':(W.setCell ⟨w.heap.size+1+1,0,none⟩ (.int .i64 (-1))).heap[D]?=some (.deferred (some [])):=(wm _ _ _).same D _ hK rfl;refine⟨by simp,.inl ⟨_,_,rfl,run_takeDeferred hK',?_⟩⟩;have hg:((W.setCell ⟨w.heap.size+1+1,0,none⟩ (.int .i64 (-1))).putObj D (.deferred none)).cell? ⟨w.heap.size+1+1,0,none⟩=some (.int .i64 (-1)):=gx (wj _ _ _ (by rw[h4'];rfl)) (sG _ D (.deferred none)) (fun r e=>by cases e;exact⟨_,hK',rfl⟩);have hBf:Below w.heap.size w ((W.setCell ⟨w.heap.size+1+1,0,none⟩ (.int .i64 (-1))).putObj D (.deferred none)):=(h1.setCell (p:=⟨w.heap.size+1+1,0,none⟩) (by show w.heap.size<=w.heap.size+1+1;omega) _).grown (sG _ D (.deferred none)) (by have:=h1.size;simpa using this) (fun k e=>by cases e;omega)
  refine⟨.int .i64 (-1),by simp[results,Tryz.f121,asAddr,LB hg],?_,hBf⟩;rw[uU name l 0 hall]
 case stop=>
  rintro D c pre W hD ⟨k,hk,hpre⟩ ⟨rfl,h1,r,x,rfl,h3,h4,h5⟩ hK;have cF:cy name 0 l=((x.1:Nat):Int):=by
   have:=yM name l 0 x.1 x.2 h4 fun j hj hj'=>by
    rw[dv,yO]at hpre;obtain⟨q1,q2⟩:=List.append_inj' hpre rfl;have hx:x.1=l.length-1-k:=by simpa using q2
    have:j∈r.map iN:=by
     rw[q1];exact eu.2 ⟨l.length-1-j,mJ.2 (by omega),by omega⟩
    obtain⟨y,hy,rfl⟩:=eu.1 this;exact h5 y hy
   rw[this,er]
  have h3':W.cell? ⟨w.heap.size+1+1,0,none⟩=some (.int .i64 (x.1:Nat)):=h3
  gi_wp2
  refine⟨by simp,.inl ⟨_,_,rfl,run_takeDeferred hK,?_⟩⟩;have hg:(W.putObj D (.deferred none)).cell? ⟨w.heap.size+1+1,0,none⟩=some (.int .i64 (x.1:Nat)):=gx h3' (sG _ D (.deferred none)) (fun r e=>by cases e;exact⟨_,hK,rfl⟩);have hBf:Below w.heap.size w (W.putObj D (.deferred none)):=h1.grown (sG _ D (.deferred none)) h1.size (fun k e=>by cases e;omega);refine⟨.int .i64 (x.1:Nat),by simp[results,Tryz.f121,asAddr,LB hg],?_,hBf⟩;rw[cF]
theorem Vt{w0 w:World}{κ:K}{σ:H}(hrep:aC w0 κ σ w)(l:List az)(name:aY)(hl:l.length<=1000000)(A:Option Addr)(len cap:Nat)(hfv:RC κ.m (gg l) (.slice A len cap)):
  Calls prog 121 #[.slice A len cap,.string (bs name)] w (fun e w'=>e= .returned (.int .i64 (cy name 0 l))/\Below w.heap.size w w'):=by
 obtain⟨rfl,xs,hx,hxs⟩:=Vo hfv;by_cases h:0<l.length
 ·obtain⟨b,o,e,h'⟩:=hx h;exact De l name hl A cap xs b o (fun _=>e) (fun k hk=>hrep.mem _ _ _ (h' k hk)) (fun _=>hrep.mU (h' 0 (by omega))) hxs
 ·exact De l name hl A cap xs 0 0 (fun h'=>absurd h' h) (fun k hk=>by omega) (fun h'=>absurd h' h) hxs
theorem yP(w0:World)(l:List az)(name:aY)(hl:l.length<=1000000)(σ:H):DC prog w0 121 [.c (gg l),S name] σ (Same (I (cy name 0 l)) σ):=by
 refine DC.xj (lI func121 (by kernel_rfl) rfl) fun κ w vs hrep hfit=>?_;obtain⟨v,ys,rfl,hv,hfit⟩:=hfit.cons_inv;obtain⟨u,zs,rfl,hu,hfit⟩:=hfit.cons_inv;have:=hfit.kI;subst this;cases hv with
 |c hv=>
  have hv':=hv;unfold gg at hv;cases hv with
  |sl rows s A cap xs h0 h1 h2 h3 h4 h5=>
   cases hu with
   |c hu=>
    cases hu with
    |str _ h=>
     refine(Vt hrep l name hl A _ cap hv').mono ?_;rintro e w' ⟨rfl,hb⟩;exact⟨_,rfl,hb,.c (.int _ _)⟩
end Go.Proofs.YtdlkenpilhakfaaGreatDoor
namespace Go.Lamb
open Go Go.RowKit
def cb(l:List az):List C:=(l.map az.cs).flatten
theorem rY(l:List az):∀r∈l.map az.cs,r.length=5:=fun r hr=>by
 obtain⟨x,_,rfl⟩:=eu.1 hr;rfl
theorem pZ(l:List az):(cb l).length=l.length*5:=by unfold cb;rw[K4 (rY l),bW]
theorem LC(l:List az)(x:az):cb (l++[x])=cb l++x.cs:=by simp[cb]
theorem Df{l:List az}{i:Nat}(hi:i<l.length):((cb l).drop (i*5)).take 5=l[i].cs:=by
 unfold cb;rw[K5 (rY l) (by rw[bW];exact hi),dN]
theorem LD{l:List az}{i:Nat}(hi:i<l.length):(cb l)[i*5]?=some (.str l[i].name):=by
 have h:=Df hi;have h2:(((cb l).drop (i*5)).take 5)[0]?=some (.str l[i].name):=by rw[h];rfl
 rw[List.getElem?_take_of_lt (by decide),List.getElem?_drop,mG]at h2;exact h2
end Go.Lamb
namespace Go.Proofs.YtdlkenpilhakfaaGreatDoor
open Go.RowKit Go.Lamb
theorem Vu(w0:World)(l:List az)(name:aY)(hl:l.length<=1000000)(b:Nat)(J:List C)(σ:H)(hb:σ[b]?=some (.vec 50 5 (cb l++J))):DC prog w0 121 [.vec b l.length,S name] σ (Same (I (cy name 0 l)) σ):=by
 refine DC.xj (lI func121 (by kernel_rfl) rfl) fun κ w vs hrep hfit=>?_;obtain⟨v,ys,rfl,hv,hfit⟩:=hfit.cons_inv;obtain⟨u,zs,rfl,hu,hfit⟩:=hfit.cons_inv;have:=hfit.kI;subst this;obtain⟨hlt,hbe⟩:=aL.1 hb;have hblk:=hrep.cD b hlt;rw[hbe]at hblk;obtain⟨cur,n',cap',k0,k1,k2,k3,k4,k5,k6⟩:=hblk.row;have hsz:l.length*5<=cur.size:=by
  have h1:(cb l++J).length=l.length*5+J.length:=by rw[bD,pZ]
  have h2:=Nat.mul_le_mul_right 5 k3;omega
 have hrc:∀k,k<l.length*5->∃c,(cb l)[k]?=some c/\RC κ.m c (cur.getD k undef):=fun k hk=>by
  have hk':k<(cb l).length:=by rw[pZ];exact hk
  refine⟨(cb l)[k],aO hk',?_⟩;have:=k6 k (by rw[bD];omega);rwa [List.getElem_append_left hk']at this
 cases hv with
 |vec q0 q1 q2 q3 q4 q5=>
  cases hu with
  |c hu=>
   cases hu with
   |str _ h=>
    refine(De l name hl _ _ (fun k=>cur.getD k undef) (κ.pos b) 0 (fun _=>rfl) (fun k hk=>?_) (fun _=>(Array.getElem?_eq_some_iff.1 k1).1) (fun i hi=>?_)).mono ?_
    ·rw[er,cell_of_row _ _ _ _ _ _ k1,Array.getD_eq_getD_getElem?,Array.getElem?_eq_getElem (by omega)];rfl
    ·obtain⟨c0,h0,r0⟩:=hrc (i*5) (by omega);obtain⟨c1,_,r1⟩:=hrc (i*5+1) (by omega);obtain⟨c2,_,r2⟩:=hrc (i*5+2) (by omega);obtain⟨c3,_,r3⟩:=hrc (i*5+3) (by omega);obtain⟨c4,_,r4⟩:=hrc (i*5+4) (by omega);refine⟨?_,r1.one,r2.one,r3.one,r4.one⟩;rw[LD hi]at h0;injection h0 with h0;subst h0;show cur.getD (i*5) undef=_;generalize cur.getD (i*5) undef=z at r0;cases r0;rfl
    ·rintro e w' ⟨rfl,hb⟩;exact⟨_,rfl,hb,.c (.int _ _)⟩
end Go.Proofs.YtdlkenpilhakfaaGreatDoor
namespace Go.Lamb
open Go Go.RowKit
structure av where
 sub:List aa
 bound:List az
 vars:List az
 e:Int
 pos:Int
 live:Bool
structure Kept (n0 p:Nat) (σ τ:H):Prop where
 low:∀b,b<n0->τ[b]?=σ[b]?
 cells:∀(b:Nat) (cs:List V) (tg:Option TypeId),b≠p->σ[b]?=some (.cells cs tg)->τ[b]?=some (.cells cs tg)
 len:σ.length<=τ.length
theorem Kept.refl(n0 p:Nat)(σ:H):Kept n0 p σ σ:=⟨fun _ _=>rfl,fun _ _ _ _ h=>h,aA _⟩
theorem Kept.trans{n0 p:Nat}{a b c:H}(h:Kept n0 p a b)(k:Kept n0 p b c):Kept n0 p a c:=
 ⟨fun x hx=>(k.low x hx).trans (h.low x hx),fun x cs tg hp hx=>k.cells x cs tg hp (h.cells x cs tg hp hx),bE h.len k.len⟩
theorem Kept.app{n0 p:Nat}{σ τ:H}(h:Kept n0 p σ τ)(h0:n0<=σ.length)(L:H):Kept n0 p σ (τ++L):=
 ⟨fun x hx=>by rw[cI (by have:=h.len;omega)];exact h.low x hx,fun x cs tg hp hx=>by
   have:=h.cells x cs tg hp hx;rw[cI (aL.1 this).1];exact this,by rw[bD];have:=h.len;omega⟩
theorem Kept.set{n0 p:Nat}{σ τ:H}(h:Kept n0 p σ τ){a:Nat}(x:ad)(h0:n0<=a)(ha:a=p\/σ.length<=a\/∀cs tg,σ[a]?≠some (.cells cs tg)):Kept n0 p σ (τ.set a x):=
 ⟨fun y hy=>by rw[bX (by omega)];exact h.low y hy,fun y cs tg hp hy=>by
   have hne:a≠y:=by
    rintro rfl;rcases ha with ha|ha|ha
    ·exact hp ha
    ·have:=(aL.1 hy).1;omega
    ·exact ha _ _ hy
   rw[bX hne];exact h.cells y cs tg hp hy,by rw[bF];exact h.len⟩
theorem p6{σ:H}{q b:Nat}{x B:ad}(h:σ[b]?=some B)(hq:σ[q]?≠some B):(σ.set q x)[b]?=some B:=by
 have:q≠b:=by rintro rfl;exact hq h
 rw[bX this];exact h
theorem Vv{s l:List aa}{n:Int}(h0:0<=n)(h:n<s.length):cc (s++l) n=cc s n:=by
 unfold cc;rw[cf,cf,cI (by omega)]
theorem LF{N:Nat}{s:List aa}(hN:1<=N)(hs:s.length<1000000)(h:ck N s):ck N (s++[aJ s.length]):=by
 have hL:(s++[aJ s.length]).length=s.length+1:=by simp
 have ht:aE (s.length+1) (aJ s.length):=iB (by omega) (by omega) (by omega);refine⟨⟨fun t hm=>?_,?_⟩,fun t hm=>?_⟩
 ·rw[hL];rcases cM.1 hm with hm|hm
  ·exact(h.right.holds t hm).mono (by omega)
  ·rw[mO.1 hm];exact ht
 ·obtain⟨rk,hr⟩:=h.right.Ba;refine⟨rk,fun i hi hs' v hv=>?_⟩;rw[hL]at hi;by_cases hlt:i<s.length
  ·have e:cc (s++[aJ s.length]) (i:Int)=cc s i:=Vv (by omega) (by omega);rw[e]at hv;refine hr i hlt ?_ v hv;unfold bI at hs'⊢;have e2:(aJ (i:Int)).n=i:=rfl;rw[e2,e]at hs';exact hs'
  ·have hi':i=s.length:=by omega
   subst hi';exfalso;have e:cc (s++[aJ s.length]) (s.length:Int)=aJ s.length:=by
    unfold cc;rw[cf,cZ (by simp),jk,cq];rfl
   unfold bI at hs';have e2:(aJ (s.length:Int)).n=s.length:=rfl;rw[e2,e]at hs';simp[aJ,a7,aW]at hs'
 ·rcases cM.1 hm with hm|hm
  ·exact h.size t hm
  ·rw[mO.1 hm,aJ,da,aQ,bR];omega
noncomputable def eF(s:List aa)(a b:aa):Int×List aa:=by
 classical
 exact if h:∃r:Int×List aa,eX 4096 s [(a,b)] r.1 r.2/\ck 100000 r.2/\r.2.length=s.length then EW h else(0,s)
theorem uV{s:List aa}(hR:ck 100000 s)(hs:s.length<=1000000){a b:aa}(hp:ef s.length 100000 (a,b)):eX 4096 s [(a,b)] (eF s a b).1 (eF s a b).2/\ck 100000 (eF s a b).2/\(eF s a b).2.length=s.length:=by
 have h:∃r:Int×List aa,eX 4096 s [(a,b)] r.1 r.2/\ck 100000 r.2/\r.2.length=s.length:=by
  obtain⟨e,s',h⟩:=GK (N:=100000) (by decide) 4096 s [(a,b)] hR hs (fun p hm=>by rw[mO.1 hm];exact hp);exact⟨(e,s'),h⟩
 unfold eF;rw[dif_pos h];exact EX h
namespace av
def fail(f:av)(e pos:Int):av:=if f.e=0 then{f with e:=e,pos:=pos}else f
def fresh(f:av):av:={f with sub:=f.sub++[aJ f.sub.length]}
noncomputable def one(f:av)(a b:aa):av:={f with sub:=(eF f.sub a b).2,live:=f.live&&((eF f.sub a b).1==0&&!f.sub.isEmpty)}
noncomputable def lk(f:av)(a b:aa):Bool:=(eF f.sub a b).1==0
end av
end Go.Lamb
namespace Go.Proofs.YtdlkenpilhakfaaGreatDoor
open Go.RowKit Go.Lamb
def uW(n0:Nat)(σ:H)(y:V)(s:List aa):Prop:=(s=[]/\y= .ab [])\/∃b,n0<=b/\y= .vec b s.length/\σ[b]?=some (.vec 34 4 (aK s))/\s≠[]
def rZ(n0:Nat)(σ:H)(y:V)(l:List az):Prop:=(l=[]/\y= .ab [])\/∃b J,n0<=b/\y= .vec b l.length/\σ[b]?=some (.vec 50 5 (cb l++J))
def sa(n0:Nat)(σ:H)(y:V)(l:List az):Prop:=(l=[]/\y= .ab [])\/∃b,n0<=b/\y= .aG b (l.map az.cs)/\σ[b]?=some (.spare 50 5 l.length)
def bK(g:Sg)(f:av)(y3 y4 y5:V):ad:=.cells [.c (kZ g.kinds),.c (gg g.types),.c (oe g.ops),y3,y4,y5,I f.e,I f.pos] none
structure bz (n0:Nat) (σ:H) (p:Nat) (g:Sg) (f:av) (y3 y4 y5:V):Prop where
 here:σ[p]?=some (bK g f y3 y4 y5)
 le:n0<=p
 sub:f.live=true->uW n0 σ y3 f.sub
 eh:rZ n0 σ y4 f.bound
 var:sa n0 σ y5 f.vars
section
variable {n0 p:Nat} {σ τ:H} {g:Sg} {f:av} {y3 y4 y5:V}
theorem uW.mono{y:V}{s:List aa}(h:uW n0 σ y s)(hm:∀(b:Nat) c,n0<=b->σ[b]?=some (.vec 34 4 c)->τ[b]?=some (.vec 34 4 c)):uW n0 τ y s:=h.imp id fun⟨b,h1,h2,h3,h4⟩=>⟨b,h1,h2,hm b _ h1 h3,h4⟩
theorem rZ.mono{y:V}{s:List az}(h:rZ n0 σ y s)(hm:∀(b:Nat) c,n0<=b->σ[b]?=some (.vec 50 5 c)->τ[b]?=some (.vec 50 5 c)):rZ n0 τ y s:=h.imp id fun⟨b,J,h1,h2,h3⟩=>⟨b,J,h1,h2,hm b _ h1 h3⟩
theorem sa.mono{y:V}{s:List az}(h:sa n0 σ y s)(hm:∀(b:Nat) k,n0<=b->σ[b]?=some (.spare 50 5 k)->τ[b]?=some (.spare 50 5 k)):sa n0 τ y s:=h.imp id fun⟨b,h1,h2,h3⟩=>⟨b,h1,h2,hm b _ h1 h3⟩
theorem bz.lt(h:bz n0 σ p g f y3 y4 y5):p<σ.length:=(aL.1 h.here).1
theorem bz.mono(h:bz n0 σ p g f y3 y4 y5)(hm:∀(b:Nat) B,n0<=b->(∀cs tg,B≠ .cells cs tg)->σ[b]?=some B->τ[b]?=some B)(hp:τ[p]?=some (bK g f y3 y4 y5)):bz n0 τ p g f y3 y4 y5:=
 ⟨hp,h.le,fun hl=>(h.sub hl).mono fun b c h0 hb=>hm b _ h0 (fun _ _ e=>by cases e) hb,h.eh.mono fun b c h0 hb=>hm b _ h0 (fun _ _ e=>by cases e) hb,h.var.mono fun b c h0 hb=>hm b _ h0 (fun _ _ e=>by cases e) hb⟩
theorem bz.app(h:bz n0 σ p g f y3 y4 y5)(L:H):bz n0 (σ++L) p g f y3 y4 y5:=
 h.mono (fun b B _ _ hb=>by rw[cI (aL.1 hb).1];exact hb) (by rw[cI h.lt];exact h.here)
theorem bz.put{f':av}{z3 z4 z5:V}(h:bz n0 σ p g f y3 y4 y5)(h3:f'.live=true->uW n0 σ z3 f'.sub)(h4:rZ n0 σ z4 f'.bound)(h5:sa n0 σ z5 f'.vars):bz n0 (σ.set p (bK g f' z3 z4 z5)) p g f' z3 z4 z5/\Kept n0 p σ (σ.set p (bK g f' z3 z4 z5)):=by
 have hk:∀(b:Nat) (B:ad),(∀cs tg,B≠ .cells cs tg)->σ[b]?=some B->(σ.set p (bK g f' z3 z4 z5))[b]?=some B:=fun b B hB hb=>p6 hb (fun e=>by
  rw[h.here]at e;injection e with e;exact hB _ _ e.symm)
 exact⟨⟨cr h.lt,h.le,fun hl=>(h3 hl).mono fun b c _ hb=>hk b _ (fun _ _ e=>by cases e) hb,h4.mono fun b c _ hb=>hk b _ (fun _ _ e=>by cases e) hb,h5.mono fun b c _ hb=>hk b _ (fun _ _ e=>by cases e) hb⟩,(Kept.refl _ _ _).set _ h.le (.inl rfl)⟩
theorem bz.box(h:bz n0 σ p g f y3 y4 y5){a:Nat}{cs:List V}{tg:Option TypeId}(ha:σ[a]?=some (.cells cs tg))(hp:a≠p)(x:ad):bz n0 (σ.set a x) p g f y3 y4 y5:=
 h.mono (fun b B _ hB hb=>p6 hb (by rw[ha];intro e;injection e with e;exact hB _ _ e.symm)) (by rw[bX hp];exact h.here)
theorem bz.Dg{σ1:H}(h:bz n0 σ p g f y3 y4 y5)(hn:n0<=σ.length)(hl:σ1.length=σ.length)(hs:∀b:Nat,σ1[b]?=σ[b]?\/(n0<=b/\∃c,σ[b]?=some (.vec 34 4 c)))(s':List aa)(hs':s'≠[])(lv:Bool):
  bz n0 (σ1.set p (bK g f (.vec σ.length s'.length) y4 y5)++[.vec 34 4 (aK s')]) p g {f with sub:=s',live:=lv} (.vec σ.length s'.length) y4 y5/\Kept n0 p σ (σ1.set p (bK g f (.vec σ.length s'.length) y4 y5)++[.vec 34 4 (aK s')]):=by
 have hp1:p<σ1.length:=by rw[hl];exact h.lt
 have key:∀(b:Nat) B,(∀c,B≠ .vec 34 4 c)->b≠p->σ[b]?=some B->(σ1.set p (bK g f (.vec σ.length s'.length) y4 y5)++[.vec 34 4 (aK s')])[b]?=some B:=fun b B hB hb hσ=>by
  have hb1:b<(σ1.set p (bK g f (.vec σ.length s'.length) y4 y5)).length:=by rw[bF,hl];exact(aL.1 hσ).1
  rw[cI hb1,bX (dn hb)];rcases hs b with e|⟨_,c,e⟩
  ·rw[e];exact hσ
  ·rw[hσ]at e;injection e with e;exact absurd e (hB c)
 have hne:∀b B,(∀cs tg,B≠ .cells cs tg)->σ[b]?=some B->b≠p:=by
  rintro b B hB hb rfl;rw[h.here]at hb;injection hb with hb;exact hB _ _ hb.symm
 refine⟨⟨?_,h.le,fun _=>.inr ⟨σ.length,hn,rfl,?_,hs'⟩,h.eh.mono fun b c _ hb=>key b _ (fun _ e=>by cases e) (hne b _ (fun _ _ e=>by cases e) hb) hb,h.var.mono fun b c _ hb=>key b _ (fun _ e=>by cases e) (hne b _ (fun _ _ e=>by cases e) hb) hb⟩,⟨fun b hb=>?_,fun b cs tg hb hσ=>key b _ (fun _ e=>by cases e) hb hσ,?_⟩⟩
 ·rw[cI (by rw[bF];exact hp1),cr hp1];rfl
 ·rw[cZ (by rw[bF,hl];exact aA _),bF,hl,cq];rfl
 ·have h1:=h.le;rw[cI (by rw[bF];omega),bX (by omega)];rcases hs b with e|⟨e,_⟩
  ·exact e
  ·omega
 ·rw[bD,bF,hl];exact oW _ _
theorem sb(w0:World)(h:bz n0 σ p g f y3 y4 y5)(hn:n0<=σ.length)(hl:f.live=true)(hs:f.sub.length<=999999):
  ∃τ,DC prog w0 67 [.ptr p 0] σ (Same (aJ f.sub.length).v τ)/\bz n0 τ p g f.fresh (.vec σ.length (f.sub.length+1)) y4 y5/\Kept n0 p σ τ:=by
 have e1:(f.sub++[aJ f.sub.length]).length=f.sub.length+1:=by simp
 have e2:f.fresh={f with sub:=f.sub++[aJ f.sub.length],live:=f.live}:=rfl;rcases h.sub hl with⟨h0,rfl⟩|⟨b,hb0,rfl,hb,_⟩
 ·have hm:=h.Dg (σ1:=σ) hn rfl (fun _=>.inl rfl) (f.sub++[aJ f.sub.length]) (by simp) f.live;rw[e1]at hm;refine⟨_,?_,by rw[e2];exact hm.1,hm.2⟩;rw[h0];exact Vg w0 p σ _ _ _ y4 y5 _ _ none h.here
 ·have hm:=h.Dg (σ1:=σ.set b .gone) hn (bF ..) (fun b'=>by
   by_cases e:b'=b
   ·subst e;exact .inr ⟨hb0,_,hb⟩
   ·exact .inl (bX (dn e))) (f.sub++[aJ f.sub.length]) (by simp) f.live
  rw[e1]at hm;exact⟨_,Vf w0 (by omega) p b σ _ _ _ y4 y5 _ _ none h.here hb,by rw[e2];exact hm.1,hm.2⟩
theorem LG(w0:World)(h:bz n0 σ p g f y3 y4 y5)(hn:n0<=σ.length)(hl:f.live=true)(hs:f.sub.length<=1000000)(hR:ck 100000 f.sub){a b:aa}(hp:ef f.sub.length 100000 (a,b)):
  ∃τ y3',DC prog w0 26 [.ptr p 0,a.v,b.v] σ (Same (B (f.lk a b)) τ)/\bz n0 τ p g (f.one a b) y3' y4 y5/\Kept n0 p σ τ:=by
 obtain⟨u1,u2,u3⟩:=uV hR hs hp;obtain⟨ha,hb',na,nb⟩:=hp;rcases h.sub hl with⟨h0,rfl⟩|⟨b0,hb0,rfl,hb,hz⟩
 ·have hlv:(f.one a b).live=false:=by unfold av.one;rw[h0];simp
  have hlen0:(eF f.sub a b).2=[]:=fF (by rw[u3,h0];rfl);have hC:=Vj w0 (N:=100000) (by decide) (a:=a) (b:=b) (by rw[h0]at ha;exact ha) na (by rw[h0]at hb';exact hb') nb (e:=(eF f.sub a b).1) (by rw[hlen0,h0]at u1;rw[h0];exact u1) p σ _ _ _ y4 y5 _ _ none h.here;have hpl:=h.lt;have hk:∀B:ad,(∀cs tg,B≠ .cells cs tg)->σ[p]?≠some B:=fun B hB e=>by
   rw[h.here]at e;injection e with e;exact hB _ _ e.symm
  refine⟨_,_,hC,⟨cr hpl,h.le,fun e=>(by rw[hlv]at e;cases e),h.eh.mono fun b c _ hb=>p6 hb (hk _ (fun _ _ e=>by cases e)),h.var.mono fun b c _ hb=>p6 hb (hk _ (fun _ _ e=>by cases e))⟩,(Kept.refl _ _ _).set _ h.le (.inl rfl)⟩
 ·by_cases he:(eF f.sub a b).1=0
  ·have hm:=h.Dg (σ1:=σ.set b0 .gone) hn (bF ..) (fun b'=>by
    by_cases e:b'=b0
    ·subst e;exact .inr ⟨hb0,_,hb⟩
    ·exact .inl (bX (dn e))) (eF f.sub a b).2 (fun e=>hz (fF (by rw[<-u3,e];rfl))) (f.one a b).live
   rw[u3]at hm;have hC:=Vh w0 hR (by decide) (by decide) hs hz ha na hb' nb (s':=(eF f.sub a b).2) (by rw[he]at u1;exact u1) p b0 σ _ _ _ y4 y5 _ _ none h.here hb;refine⟨_,_,?_,hm.1,hm.2⟩;have:f.lk a b=true:=by unfold av.lk;simp[he]
   rw[this];exact hC
  ·have hC:=Vi w0 hR (by decide) (by decide) hs hz ha na hb' nb u1 he p b0 σ _ _ _ y4 y5 _ _ none h.here hb;have:f.lk a b=false:=by unfold av.lk;simp[he]
   have hlv:(f.one a b).live=false:=by unfold av.one;simp[he]
   rw[this];have hk:∀B:ad,(∀c,B≠ .vec 34 4 c)->σ[b0]?≠some B:=fun B hB e=>by
    rw[hb]at e;injection e with e;exact hB _ e.symm
   refine⟨_,_,hC,⟨p6 h.here (hk _ (fun _ e=>by cases e)),h.le,fun e=>(by rw[hlv]at e;cases e),h.eh.mono fun b c _ hb=>p6 hb (hk _ (fun _ e=>by cases e)),h.var.mono fun b c _ hb=>p6 hb (hk _ (fun _ e=>by cases e))⟩,(Kept.refl _ _ _).set _ hb0 (.inr (.inr fun cs tg e=>by rw[hb]at e;cases e))⟩
end
end Go.Proofs.YtdlkenpilhakfaaGreatDoor
namespace Go.Lamb
open Go Go.RowKit
def ll(n:Int)(t:aa):aa:=(cJ (me n) () t).1
namespace av
def more(f:av):Nat->av
 |0=>f
 |n+1=>(more f n).fresh
def di(f:av)(t:aa):aa:=ll f.sub.length (cK t)
def renew(f:av)(t:aa):av:=f.more (cB 0 (cK t)).toNat
def push(f:av)(x:az):av:={f with bound:=f.bound++[x]}
def pop(f:av):av:={f with bound:=f.bound.dropLast}
def gJ(f:av)(x:az):av:={f with vars:=f.vars++[x]}
end av
end Go.Lamb
namespace Go.Proofs.YtdlkenpilhakfaaGreatDoor
open Go Go.RowKit Go.Lamb
def ln(g:Sg)(name:aY):Option aa:=match qY g.types name with
 |some x=>if cW x.ty=true then some x.ty else none
 |none=>none
def uX(g:Sg)(f:av)(p:ah):aa×aa×av:=match ln g p.name with
 |some t=>(.mk 0 p.name 0 [],f.di t,f.renew t)
 |none=>(.mk 0 p.name 0 [],.none,f.fail 120 p.pos)
def kl(f:av)(p:ah):aa×aa×av:=
 if cy p.name 0 f.vars<0 then(.mk 4 [] f.vars.length [],aJ f.sub.length,f.fresh.gJ ⟨p.name,aJ f.sub.length⟩)
 else(.mk 4 [] (cy p.name 0 f.vars) [],(f.vars.getD (cy p.name 0 f.vars).toNat .none).ty,f)
def sc(f:av)(i:Int):aa×aa×av:=(.mk 3 [] (f.bound.length-1-i) [],(f.bound.getD i.toNat .none).ty,f)
def ib(g:Sg)(f:av)(p:ah):aa×aa×av:=
 if 0<=cy p.name 0 f.bound then sc f (cy p.name 0 f.bound)else if p.k=1 then kl f p else uX g f p
def nB(v:aa)(r:aa×aa×av):aa×aa×av:=(bJ r.1,.arr v r.2.1,r.2.2.pop)
noncomputable def iX(pos:Int)(r q:aa×aa×av):aa×aa×av:=
 if q.2.2.e≠0 then(.none,.none,q.2.2)
 else(ct r.1 [q.1],aJ q.2.2.sub.length,if q.2.2.fresh.lk r.2.1 (.arr q.2.1 (aJ q.2.2.sub.length))=true then q.2.2.fresh.one r.2.1 (.arr q.2.1 (aJ q.2.2.sub.length))else(q.2.2.fresh.one r.2.1 (.arr q.2.1 (aJ q.2.2.sub.length))).fail 121 pos)
noncomputable def bp(g:Sg):ah->av->aa×aa×av
 | .mk k nm n [b] pos=>fun f=>if f.e≠0 then(.none,.none,f)else if k=2 then(.mk 2 [] n [],.mk 0 [105,110,116] 0 [],f)
   else if k=4 then nB (aJ f.sub.length) (bp g b (f.fresh.push ⟨nm,aJ f.sub.length⟩))else ib g f (.mk k nm n [b] pos)
 | .mk k nm n [a,b] pos=>fun f=>if f.e≠0 then(.none,.none,f)else if k=2 then(.mk 2 [] n [],.mk 0 [105,110,116] 0 [],f)
   else if k=3 then iX pos (bp g a f) (bp g b (bp g a f).2.2)else ib g f (.mk k nm n [a,b] pos)
 | .mk k nm n l pos=>fun f=>if f.e≠0 then(.none,.none,f)else if k=2 then(.mk 2 [] n [],.mk 0 [105,110,116] 0 [],f)else ib g f (.mk k nm n l pos)
theorem p7(g:Sg)(t:ah)(f:av)(h:f.e≠0):bp g t f=(.none,.none,f):=by
 unfold bp;split<;>simp only[if_pos h]
theorem uY(g:Sg)(t:ah)(f:av)(h:f.e=0)(hk:t.k=2):bp g t f=(.mk 2 [] t.n [],.mk 0 [105,110,116] 0 [],f):=by
 unfold bp;split<;>simp only[ah.k]at hk<;>simp only[if_neg (not_not_intro h),if_pos hk,ah.n]
theorem uZ(g:Sg)(nm:aY)(n:Int)(b:ah)(pos:Int)(f:av)(h:f.e=0):bp g (.mk 4 nm n [b] pos) f=nB (aJ f.sub.length) (bp g b (f.fresh.push ⟨nm,aJ f.sub.length⟩)):=by
 rw[bp];simp only[if_neg (not_not_intro h)];rfl
theorem u6(g:Sg)(nm:aY)(n:Int)(a b:ah)(pos:Int)(f:av)(h:f.e=0):bp g (.mk 3 nm n [a,b] pos) f=iX pos (bp g a f) (bp g b (bp g a f).2.2):=by
 rw[bp];simp only[if_neg (not_not_intro h)];rfl
theorem yQ(g:Sg)(t:ah)(f:av)(h:f.e=0)(h2:t.k≠2)(h3:t.k≠3)(h4:t.k≠4):bp g t f=ib g f t:=by
 unfold bp;split<;>simp only[ah.k]at h2 h3 h4<;>simp only[if_neg (not_not_intro h),if_neg h2]
 ·rw[if_neg h4]
 ·rw[if_neg h3]
end Go.Proofs.YtdlkenpilhakfaaGreatDoor
namespace Go.Lamb
open Go Go.RowKit
theorem mq(k:Int)(s:aY)(n:Int)(l:List aa):aD (.mk k s n l)=1+bR l:=by rw[aD]
theorem Dh(p:aa):∀vs:List Int,(cJ dq vs p).2.length<=vs.length+aD p:=by
 induction p using aa.ind with
 |h p ih=>
  intro vs;rw[pt,da];split
  ·have:=(GP vs p.n).1;show(aI vs p.n).length<=_;omega
  ·have key:∀l:List aa,(∀x∈l,x∈p.l)->∀vs:List Int,(bY dq vs l).2.length<=vs.length+bR l:=by
    intro l;induction l with
    |nil=>intro _ vs;simp[bY]
    |cons x l ihl=>
     intro hs vs;rw[bY,bR];have h1:=ih x (hs x (bu ..)) vs;have h2:=ihl (fun y hy=>hs y (bS _ hy)) (cJ dq vs x).2;simp only;omega
   have:=key p.l (fun x hx=>hx) vs;simp only;omega
theorem Vw(p:aa):∀vs:List Int,vs.length+aD p<=1000000->cW p=true->vs.length<=(cJ dq vs p).2.length/\aE (cJ dq vs p).2.length (cJ dq vs p).1/\aD (cJ dq vs p).1=aD p:=by
 refine aa.ind (P:=fun p=>∀vs:List Int,vs.length+aD p<=1000000->cW p=true->vs.length<=(cJ dq vs p).2.length/\aE (cJ dq vs p).2.length (cJ dq vs p).1/\aD (cJ dq vs p).1=aD p) (fun p ih vs hvs hv=>?_) p;have hlen:=Dh p vs;rw[pt]at hlen⊢;by_cases h1:p.k=1
 ·rw[if_pos h1]at hlen⊢;have hl:p.l=[]:=by
   rw[jC,bG]at hv;have:=hv.1;unfold kU at this;simp[h1]at this;exact this.2
  unfold dq at hlen⊢;dsimp only at hlen⊢;obtain⟨a1,a2⟩:=GP vs p.n;have hin:nh vs p.n<(aI vs p.n).length:=by
   rcases GQ vs p.n with⟨e1,e2,_⟩|⟨h,e2,_⟩
   ·rw[e1,e2];simp
   ·rw[e2];exact h
  refine⟨a2,iB (by omega) (by omega) (by omega),?_⟩;rw[aa.var,mq,da p,hl]
 ·rw[if_neg h1]at hlen⊢;dsimp only at hlen⊢;have hk:∀u∈p.l,cW u=true:=by
   rw[jC,bG]at hv;exact cU.1 hv.2
  have hnp:=da p;have key:∀(l:List aa) (vs:List Int),(∀u∈l,u∈p.l)->vs.length+bR l<=1000000->vs.length<=(bY dq vs l).2.length/\(∀u∈(bY dq vs l).1,aE (bY dq vs l).2.length u)/\bR (bY dq vs l).1=bR l:=by
   intro l;induction l with
   |nil=>intro vs _ _;rw[bY];exact⟨aA _,fun u hu=>by simp at hu,rfl⟩
   |cons x l ihl=>
    intro vs hl hn;rw[bR]at hn;have hx:=Dh x vs;obtain⟨b1,b2,b3⟩:=ih x (hl x (bu ..)) vs (by omega) (hk x (hl x (bu ..)));obtain⟨c1,c2,c3⟩:=ihl (cJ dq vs x).2 (fun u hu=>hl u (bS _ hu)) (by omega);rw[bY];dsimp only
    refine⟨by omega,fun u hu=>?_,?_⟩
    ·rcases cA.1 hu with rfl|hu
     ·exact b2.mono c1
     ·exact c2 u hu
    ·rw[bR,bR,b3,c3]
  obtain⟨c1,c2,c3⟩:=key p.l vs (fun _ h=>h) (by omega);refine⟨c1,⟨?_,fun v hv'=>?_⟩,by rw[mq,c3,<-hnp]⟩
  ·rw[jC,bG];refine⟨?_,cU.2 fun u hu=>(c2 u hu).valid⟩;have hvn:=hv;rw[jC,bG]at hvn;have hn:=hvn.1;unfold kU at hn⊢;by_cases h0:p.k=0
   ·have hA:dD p=false:=by unfold dD;simp[h0]
    simp[h0]at hn;simp[hA,a7,bh,aW,hn.1]
   ·by_cases h2:p.k=2
    ·simp[h2]at hn;have hA:dD p=true:=by unfold dD;simp[h2,hn.2]
     simp[hA,a7,bh,aW,aQ,tE,hn.2]
    ·simp[h0,h1,h2]at hn
  ·rw[kW (by rw[a7];split<;>decide),aQ]at hv';obtain⟨u,hu,ho⟩:=hv';exact(c2 u hu).vars v ho
theorem Vx(p:aa):∀(m:Int) (n:Nat),aE n p->0<=m->m<=n->n<=1000000->m<=cB m p/\cB m p<=n/\∀v,db v p=true->v<cB m p:=by
 refine aa.ind (P:=fun p=>∀(m:Int) (n:Nat),aE n p->0<=m->m<=n->n<=1000000->m<=cB m p/\cB m p<=n/\∀v,db v p=true->v<cB m p) (fun p ih m n h h0 hm hn=>?_) p;rw[A6];by_cases h1:p.k=1
 ·rw[if_pos h1];obtain⟨q0,q1,_,_⟩:=h.var h1;have e:mZ m p.n=if p.n+1>m then p.n+1 else m:=by
   unfold mZ;rw[if_neg (by omega:¬(-1:Int)>p.n),bn (by omega) (by omega)]
  rw[e];refine⟨by split<;>omega,by split<;>omega,fun v hv=>?_⟩;have:=(mc h1).1 hv;split<;>omega
 ·rw[if_neg h1];have key:∀(l:List aa) (m:Int),(∀u∈l,u∈p.l)->0<=m->m<=n->m<=cO m l/\cO m l<=n/\∀u∈l,∀v,db v u=true->v<cO m l:=by
   intro l;induction l with
   |nil=>intro m _ _ hm;rw[cO];exact⟨eU _,hm,fun u hu=>by cases hu⟩
   |cons x l ihl=>
    intro m hl h0 hm;obtain⟨a1,a2,a3⟩:=ih x (hl x (bu ..)) m n (h.dO h1 (hl x (bu ..))) h0 hm hn;obtain⟨b1,b2,b3⟩:=ihl (cB m x) (fun u hu=>hl u (bS _ hu)) (by omega) a2;rw[cO];refine⟨by omega,b2,fun u hu v hv=>?_⟩;rcases cA.1 hu with rfl|hu
    ·have:=a3 v hv;omega
    ·exact b3 u hu v hv
  obtain⟨b1,b2,b3⟩:=key p.l m (fun _ h=>h) h0 hm;refine⟨b1,b2,fun v hv=>?_⟩;obtain⟨u,hu,ho⟩:=(kW h1).1 hv;exact b3 u hu v ho
theorem LH(b:Nat)(p:aa):∀(n:Nat),aE n p->b+n<=1000000->aE (b+n) (ll b p)/\aD (ll b p)=aD p:=by
 refine aa.ind (P:=fun p=>∀(n:Nat),aE n p->b+n<=1000000->aE (b+n) (ll b p)/\aD (ll b p)=aD p) (fun p ih n h hb=>?_) p;unfold ll;rw[pt];by_cases h1:p.k=1
 ·rw[if_pos h1];obtain⟨q0,q1,_,ql⟩:=h.var h1;unfold me;dsimp only
  rw[bn (by omega) (by omega)];refine⟨iB (by omega) (by omega) (by omega),?_⟩;rw[aa.var,mq,da p,ql]
 ·rw[if_neg h1];dsimp only
  have key:∀(l:List aa),(∀u∈l,u∈p.l)->(∀u∈(bY (me b) () l).1,aE (b+n) u)/\bR (bY (me b) () l).1=bR l:=by
   intro l;induction l with
   |nil=>intro _;rw[bY];exact⟨fun u hu=>by simp at hu,rfl⟩
   |cons x l ihl=>
    intro hl;obtain⟨a1,a2⟩:=ih x (hl x (bu ..)) n (h.dO h1 (hl x (bu ..))) hb;obtain⟨b1,b2⟩:=ihl (fun u hu=>hl u (bS _ hu));unfold ll at a1 a2;rw[bY];dsimp only
    refine⟨fun u hu=>?_,by rw[bR,bR,a2,b2]⟩;rcases cA.1 hu with rfl|hu
    ·exact a1
    ·exact b1 u hu
  obtain⟨b1,b2⟩:=key p.l (fun _ h=>h);refine⟨⟨?_,fun v hv=>?_⟩,by rw[mq,b2,<-da]⟩
  ·rw[jC,bG];refine⟨?_,cU.2 fun u hu=>(b1 u hu).valid⟩;have hvn:=h.valid;rw[jC,bG]at hvn;have hn:=hvn.1;unfold kU at hn⊢;by_cases h0:p.k=0
   ·have hA:dD p=false:=by unfold dD;simp[h0]
    simp[h0]at hn;simp[hA,a7,bh,aW,hn.1]
   ·by_cases h2:p.k=2
    ·simp[h2]at hn;have hA:dD p=true:=by unfold dD;simp[h2,hn.2]
     simp[hA,a7,bh,aW,aQ,tE,hn.2]
    ·simp[h0,h1,h2]at hn
  ·rw[kW (by rw[a7];split<;>decide),aQ]at hv;obtain⟨u,hu,ho⟩:=hv;exact(b1 u hu).vars v ho
theorem u7{t:aa}(hv:cW t=true)(hn:aD t<=1000000):aE (cB 0 (cK t)).toNat (cK t)/\aD (cK t)=aD t/\0<=cB 0 (cK t)/\cB 0 (cK t)<=aD t:=by
 obtain⟨_,h2,h3⟩:=Vw t [] (by simpa using hn) hv;have hlen:=Dh t [];simp only[cN,er]at hlen;have e:(cJ dq [] t).1=cK t:=rfl;rw[e]at h2 h3;obtain⟨v1,v2,v3⟩:=Vx (cK t) 0 _ h2 (eU _) (by omega) (by omega);refine⟨⟨h2.valid,fun v hv=>?_⟩,h3,v1,by omega⟩;have:=(h2.vars v hv).1;have:=v3 v hv;omega
namespace av
theorem oG(f:av):∀n,(f.more n).sub.length=f.sub.length+n
 |0=>rfl
 |n+1=>by
  show((f.more n).sub++[_]).length=_;rw[bD,oG f n];rfl
theorem p8(f:av):∀n,(f.more n).bound=f.bound/\(f.more n).vars=f.vars/\(f.more n).e=f.e/\(f.more n).pos=f.pos/\(f.more n).live=f.live
 |0=>⟨rfl,rfl,rfl,rfl,rfl⟩
 |n+1=>p8 f n
theorem p9(f:av):f.fresh.sub.length=f.sub.length+1:=by show(f.sub++[_]).length=_;rw[bD];rfl
end av
end Go.Lamb
namespace Go.Proofs.YtdlkenpilhakfaaGreatDoor
open Go Go.RowKit Go.Lamb
structure cX (f:av):Prop where
 right:ck 100000 f.sub
 eh:∀x∈f.bound,∃i:Nat,i<f.sub.length/\x.ty=aJ i
 var:∀x∈f.vars,∃i:Nat,i<f.sub.length/\x.ty=aJ i
 live:f.e=0->f.live=true
theorem cX.fresh{f:av}(h:cX f)(hs:f.sub.length<1000000):cX f.fresh:=by
 have hl:=f.p9;exact⟨LF (by decide) hs h.right,fun x hx=>by obtain⟨i,hi,e⟩:=h.eh x hx;exact⟨i,by omega,e⟩,fun x hx=>by obtain⟨i,hi,e⟩:=h.var x hx;exact⟨i,by omega,e⟩,h.live⟩
theorem cX.more{f:av}(h:cX f):∀n:Nat,f.sub.length+n<=1000000->cX (f.more n)
 |0,_=>h
 |n+1,hn=>(h.more n (by omega)).fresh (by rw[f.oG];omega)
theorem cX.push{f:av}(h:cX f){i:Nat}(hi:i<f.sub.length)(nm:aY):cX (f.push ⟨nm,aJ i⟩):=
 ⟨h.right,fun x hx=>by
   rcases cM.1 hx with hx|hx
   ·exact h.eh x hx
   ·rw[mO.1 hx];exact⟨i,hi,rfl⟩,h.var,h.live⟩
theorem cX.gJ{f:av}(h:cX f){i:Nat}(hi:i<f.sub.length)(nm:aY):cX (f.gJ ⟨nm,aJ i⟩):=
 ⟨h.right,h.eh,fun x hx=>by
   rcases cM.1 hx with hx|hx
   ·exact h.var x hx
   ·rw[mO.1 hx];exact⟨i,hi,rfl⟩,h.live⟩
theorem cX.pop{f:av}(h:cX f):cX f.pop:=⟨h.right,fun x hx=>h.eh x (List.dropLast_subset _ hx),h.var,h.live⟩
theorem cX.fail{f:av}(h:cX f)(e pos:Int)(he:e≠0):cX (f.fail e pos):=by
 unfold av.fail;split
 ·exact⟨h.right,h.eh,h.var,fun e'=>absurd e' he⟩
 ·exact h
theorem cX.Vy{f:av}(h:cX f)(hs:f.sub.length<=1000000)(h0:f.sub≠[]){a b:aa}(hp:ef f.sub.length 100000 (a,b))(hb:f.lk a b=true):cX (f.one a b):=by
 obtain⟨_,u2,u3⟩:=uV h.right hs hp;refine⟨u2,fun x hx=>?_,fun x hx=>?_,fun e=>?_⟩
 ·obtain⟨i,hi,e⟩:=h.eh x hx;exact⟨i,by show i<(eF f.sub a b).2.length;omega,e⟩
 ·obtain⟨i,hi,e⟩:=h.var x hx;exact⟨i,by show i<(eF f.sub a b).2.length;omega,e⟩
 ·show(f.live&&((eF f.sub a b).1==0&&!f.sub.isEmpty))=true;have hb':((eF f.sub a b).1==0)=true:=hb;rw[h.live e,hb'];cases hf:f.sub with
  |nil=>exact absurd hf h0
  |cons x l=>rfl
theorem cX.Vz{f:av}(h:cX f)(he:f.e=0)(hs:f.sub.length<=1000000){a b:aa}(hp:ef f.sub.length 100000 (a,b))(e pos:Int)(he':e≠0):cX ((f.one a b).fail e pos):=by
 obtain⟨_,u2,u3⟩:=uV h.right hs hp;have:(f.one a b).e=0:=he;unfold av.fail;rw[if_pos this];refine⟨u2,fun x hx=>?_,fun x hx=>?_,fun e'=>absurd e' he'⟩
 ·obtain⟨i,hi,e⟩:=h.eh x hx;exact⟨i,by show i<(eF f.sub a b).2.length;omega,e⟩
 ·obtain⟨i,hi,e⟩:=h.var x hx;exact⟨i,by show i<(eF f.sub a b).2.length;omega,e⟩
theorem yR{f:av}(h:cX f)(hs:f.sub.length<=1000000){a b:aa}(hp:ef f.sub.length 100000 (a,b)):(f.one a b).sub.length=f.sub.length:=(uV h.right hs hp).2.2
theorem yS(f:av)(e pos:Int):(f.fail e pos).sub=f.sub/\(f.fail e pos).bound=f.bound/\(f.fail e pos).vars=f.vars:=by unfold av.fail;split<;>exact⟨rfl,rfl,rfl⟩
structure oH (W:Nat) (f:av) (n:Nat) (r:aa×aa×av):Prop where
 ok:cX r.2.2
 len:r.2.2.sub.length<=f.sub.length+(W+1)*n
 ge:f.sub.length<=r.2.2.sub.length
 bound:r.2.2.bound=f.bound
 vars:r.2.2.vars.length<=f.vars.length+n
 ty:r.2.2.e=0->aE r.2.2.sub.length r.2.1/\aD r.2.1<=W+3*n
 nodes:ax r.1<=2*n
 VA:∀M:Int,f.bound.length+n<=M->f.vars.length+n<=M->bM M r.1=true
theorem qb{M:Int}(k:Int)(s:aY)(n:Int)(h0:0<=n)(h:n<=M):bM M (.mk k s n [])=true:=gY (.inr ⟨by rw[aW];omega,h⟩) (fun u hu=>by cases hu)
theorem oI(k:Int)(s:aY)(n:Int):ax (.mk k s n [])=1:=by rw[iW,bj]
theorem oJ(n:Int):aD (aJ n)=1:=by rw[aJ,mq,bR]
theorem u9(name:aY)(l:List az):∀i:Nat,cy name i l=-1\/∃k:Nat,k<l.length/\cy name i l=((i+k:Nat):Int):=by
 induction l with
 |nil=>intro i;exact .inl rfl
 |cons x l ih=>
  intro i;unfold cy;rcases ih (i+1)with h|⟨k,hk,h⟩
  ·rw[h];show(bif x.name==name then(i:Int)else-1)=-1\/_;cases x.name==name
   ·exact .inl rfl
   ·exact .inr ⟨0,by simp,rfl⟩
  ·rw[h];refine .inr ⟨k+1,by simp;omega,?_⟩;show((i+1+k:Nat):Int)=_;congr 1;omega
theorem LI{l:List az}{k:Nat}(h:k<l.length):l.getD k .none∈l:=by
 rw[cf,aO h,mI];exact bt h
theorem oH.same{W:Nat}{f:av}(h:cX f){x u:aa}(hx:ax x<=2)(hn:∀M:Int,f.bound.length+1<=M->f.vars.length+1<=M->bM M x=true)(hu:aE f.sub.length u/\aD u<=W+3):oH W f 1 (x,u,f):=
 ⟨h,oW _ _,aA _,rfl,oW _ _,fun _=>hu,hx,hn⟩
theorem oH.err{W:Nat}{f:av}(h:cX f)(he:f.e≠0){n:Nat}(hn:1<=n):oH W f n (.none,.none,f):=
 ⟨h,oW _ _,aA _,rfl,oW _ _,fun e=>absurd e he,by show ax .none<=_;rw[aa.none,oI];omega,fun M h1 _=>qb 0 [] 0 (eU _) (by omega)⟩
theorem VB{W:Nat}{g:Sg}(hW:∀x∈g.types,aD x.ty<=W)(hW1:1<=W)(hW2:W<=100000){f:av}(h:cX f)(he:f.e=0)(p:ah)(hs:f.sub.length+(W+1)<=999000):oH W f 1 (ib g f p):=by
 unfold ib;split
 ·rename_i h0;rcases u9 p.name f.bound 0 with hl|⟨k,hk,hl⟩
  ·omega
  ·rw[hl,er];obtain⟨i,hi,e⟩:=h.eh _ (LI hk);unfold sc;refine .same h (by rw[oI];omega) (fun M h1 _=>qb _ _ _ (by omega) (by omega)) ?_;rw[jk,e];exact⟨iB (by omega) (by omega) (by omega),by rw[oJ];omega⟩
 ·split
  ·unfold kl;split
   ·have hf:=h.fresh (by omega);have hl:=f.p9;have hi:f.sub.length<f.fresh.sub.length:=by omega
    refine⟨hf.gJ hi p.name,?_,?_,rfl,?_,fun _=>?_,?_,fun M h1 h2=>qb _ _ _ (by omega) (by omega)⟩
    ·show f.fresh.sub.length<=_;omega
    ·show _<=f.fresh.sub.length;omega
    ·show(f.vars++[_]).length<=_;rw[bD];exact aA _
    ·show aE f.fresh.sub.length _/\_;exact⟨iB (by omega) (by omega) (by omega),by rw[oJ];omega⟩
    ·show ax _<=_;rw[oI];omega
   ·rename_i hneg;rcases u9 p.name f.vars 0 with hl|⟨k,hk,hl⟩
    ·omega
    ·rw[hl,er];obtain⟨i,hi,e⟩:=h.var _ (LI hk);refine .same h (by rw[oI];omega) (fun M _ h2=>qb _ _ _ (by omega) (by omega)) ?_;rw[jk,e];exact⟨iB (by omega) (by omega) (by omega),by rw[oJ];omega⟩
  ·unfold uX;split
   ·rename_i t ht;have hvt:cW t=true/\aD t<=W:=by
     unfold ln at ht;split at ht
     ·rename_i x hx;split at ht
      ·injection ht with ht;subst ht;exact⟨by assumption,hW x (List.mem_of_find?_eq_some hx)⟩
      ·cases ht
     ·cases ht
    obtain⟨n1,n2,n3,n4⟩:=u7 hvt.1 (by omega);have hms:=f.oG (cB 0 (cK t)).toNat;obtain⟨m1,m2,m3,m4,m5⟩:=f.p8 (cB 0 (cK t)).toNat;obtain⟨s1,s2⟩:=LH f.sub.length (cK t) _ n1 (by omega);refine⟨h.more _ (by omega),?_,?_,m1,?_,fun _=>?_,?_,fun M h1 h2=>qb _ _ _ (eU _) (by omega)⟩
    ·show(f.more _).sub.length<=_;omega
    ·show _<=(f.more _).sub.length;omega
    ·show(f.more _).vars.length<=_;rw[m2];omega
    ·show aE (f.more _).sub.length (ll _ _)/\aD (ll _ _)<=_;rw[hms];exact⟨s1,by rw[s2,n2];omega⟩
    ·show ax _<=_;rw[oI];omega
   ·obtain⟨f1,f2,f3⟩:=yS f 120 p.pos;have hfe:(f.fail 120 p.pos).e=120:=by unfold av.fail;rw[if_pos he]
    refine⟨h.fail _ _ (by decide),?_,?_,f2,?_,fun e=>?_,?_,fun M h1 h2=>qb _ _ _ (eU _) (by omega)⟩
    ·show(f.fail _ _).sub.length<=_;rw[f1];omega
    ·show _<=(f.fail _ _).sub.length;rw[f1];exact aA _
    ·show(f.fail _ _).vars.length<=_;rw[f3];omega
    ·have e':(f.fail 120 p.pos).e=0:=e;rw[hfe]at e';cases e'
    ·show ax _<=_;rw[oI];omega
theorem yT(a b:aa):aD (.arr a b)=1+aD a+aD b:=by rw[aa.arr,mq,bR,bR,bR];omega
theorem Di{n:Nat}{a b:aa}(ha:aE n a)(hb:aE n b):aE n (.arr a b):=by
 refine⟨?_,fun v hv=>?_⟩
 ·rw[jC];simp[aa.arr,kU,a7,bh,aW,aQ,ha.valid,hb.valid]
 ·rw[kW (by rw[aa.arr,a7];decide)]at hv;obtain⟨u,hu,ho⟩:=hv;simp[aa.arr,aQ]at hu;rcases hu with rfl|rfl
  ·exact ha.vars v ho
  ·exact hb.vars v ho
theorem VC(g:Sg)(t:ah)(f:av):(f.e≠0/\bp g t f=(.none,.none,f))\/(f.e=0/\t.k=2/\bp g t f=(.mk 2 [] t.n [],.mk 0 [105,110,116] 0 [],f))
  \/(f.e=0/\∃nm n b pos,t= .mk 4 nm n [b] pos/\bp g t f=nB (aJ f.sub.length) (bp g b (f.fresh.push ⟨nm,aJ f.sub.length⟩)))
  \/(f.e=0/\∃nm n a b pos,t= .mk 3 nm n [a,b] pos/\bp g t f=iX pos (bp g a f) (bp g b (bp g a f).2.2))
  \/(f.e=0/\t.k≠2/\bp g t f=ib g f t):=by
 by_cases he:f.e≠0
 ·exact .inl ⟨he,p7 g t f he⟩
 replace he:f.e=0:=EY he;by_cases h2:t.k=2
 ·exact .inr (.inl ⟨he,h2,uY g t f he h2⟩)
 by_cases h4:t.k=4/\t.l.length=1
 ·obtain⟨k,nm,n,l,pos⟩:=t;simp only[ah.k,ah.l]at h4;obtain⟨rfl,hl⟩:=h4
  match l,hl with
  |[b],_=>exact .inr (.inr (.inl ⟨he,nm,n,b,pos,rfl,uZ g nm n b pos f he⟩))
 by_cases h3:t.k=3/\t.l.length=2
 ·obtain⟨k,nm,n,l,pos⟩:=t;simp only[ah.k,ah.l]at h3;obtain⟨rfl,hl⟩:=h3
  match l,hl with
  |[a,b],_=>exact .inr (.inr (.inr (.inl ⟨he,nm,n,a,b,pos,rfl,u6 g nm n a b pos f he⟩)))
 refine .inr (.inr (.inr (.inr ⟨he,h2,?_⟩)));unfold bp;split
 ·simp only[ah.k,ah.l]at h2 h4;simp only[if_neg (not_not_intro he),if_neg h2];rw[if_neg (fun e=>h4 ⟨e,rfl⟩)]
 ·simp only[ah.k,ah.l]at h2 h3;simp only[if_neg (not_not_intro he),if_neg h2];rw[if_neg (fun e=>h3 ⟨e,rfl⟩)]
 ·simp only[ah.k]at h2;simp only[if_neg (not_not_intro he),if_neg h2]
theorem VD{M:Int}{x y:aa}(hM:0<=M)(hx:bM M x=true)(hy:bM M y=true):bM M (ct x [y])=true:=rE hM hx (fun u hu=>by rw[mO.1 hu];exact hy)
theorem VE(x y:aa):ax (ct x [y])<=ax x+ax y+1:=by
 have h:ax (ct x [y])<=ax x+bj [y]+1:=by
  rw[rD,iW,rF];split
  ·rw[eS x];omega
  ·rw[bj,bj];omega
 rw[bj,bj]at h;omega
theorem yU{W:Nat}{g:Sg}(hW:∀x∈g.types,aD x.ty<=W)(hW1:1<=W)(hW2:W<=10000)(t:ah):∀(f:av),cX f->a8 t<=20000->f.sub.length+(W+1)*a8 t<=999000->oH W f (a8 t) (bp g t f):=by
 refine ah.ind (P:=fun t=>∀(f:av),cX f->a8 t<=20000->f.sub.length+(W+1)*a8 t<=999000->oH W f (a8 t) (bp g t f)) (fun t ih f h hn hs=>?_) t;have hp1:1<=a8 t:=by rw[tT];omega
 have hW1':(W+1)*1<=(W+1)*a8 t:=Nat.mul_le_mul_left _ hp1;rcases VC g t f with⟨he,e⟩|⟨he,h2,e⟩|⟨he,nm,n,b,pos,rfl,e⟩|⟨he,nm,n,a,b,pos,rfl,e⟩|⟨he,h2,e⟩
 ·rw[e];exact .err h he hp1
 ·rw[e];refine⟨h,by show f.sub.length<=_;omega,aA _,rfl,by show f.vars.length<=_;omega,fun _=>⟨⟨?_,fun v hv=>?_⟩,?_⟩,?_,fun M h1 _=>gY (.inl rfl) (fun u hu=>by cases hu)⟩
  ·show cW (.mk 0 [105,110,116] 0 [])=true;decide
  ·have hv':db v (.mk 0 [105,110,116] 0 [])=true:=hv;rw[kW (by decide)]at hv';obtain⟨u,hu,_⟩:=hv';cases hu
  ·show aD (.mk 0 [105,110,116] 0 [])<=_;rw[mq,bR];omega
  ·show ax (.mk 2 [] t.n [])<=_;rw[oI];omega
 ·rw[e];have hnt:a8 (.mk 4 nm n [b] pos)=1+a8 b:=by rw[a8,cj,cj];omega
  rw[hnt]at hn hs⊢;rw[jl,gM]at hs;have hl:=f.p9;have hi:f.sub.length<f.fresh.sub.length:=by omega
  have hf2:=(h.fresh (by omega)).push hi nm;have hr:=ih b (by simp[ah.l]) _ hf2 (by omega) (by show f.fresh.sub.length+_<=_;omega);generalize bp g b (f.fresh.push ⟨nm,aJ f.sub.length⟩)=r at hr⊢;obtain⟨r1,r2,r3,r4,r5,r6,r7,r8⟩:=hr;have e1:(f.fresh.push ⟨nm,aJ f.sub.length⟩).sub.length=f.sub.length+1:=hl;have e2:(f.fresh.push ⟨nm,aJ f.sub.length⟩).vars.length=f.vars.length:=rfl;have e3:(f.fresh.push ⟨nm,aJ f.sub.length⟩).bound.length=f.bound.length+1:=by show(f.bound++[_]).length=_;rw[bD];rfl
  rw[e1]at r2 r3;rw[e2]at r5 r8;rw[e3]at r8;refine⟨r1.pop,?_,?_,?_,?_,fun h0=>?_,?_,fun M h1 h2=>?_⟩
  ·show r.2.2.sub.length<=_;rw[jl,gM];omega
  ·show _<=r.2.2.sub.length;omega
  ·show r.2.2.bound.dropLast=_;rw[r4];show(f.bound++[_]).dropLast=_;rw[List.dropLast_concat]
  ·show r.2.2.vars.length<=_;omega
  ·obtain⟨q1,q2⟩:=r6 h0;show aE r.2.2.sub.length (.arr (aJ f.sub.length) r.2.1)/\aD (.arr (aJ f.sub.length) r.2.1)<=_;have:=r2;exact⟨Di (iB (by omega) (by omega) (by omega)) q1,by rw[yT,oJ];omega⟩
  ·show ax (bJ r.1)<=_;rw[bJ,iW,bj,bj];omega
  ·show bM M (bJ r.1)=true;refine gY (.inr ?_) (fun u hu=>?_)
   ·rw[bJ,aW];omega
   ·unfold bJ at hu;simp[aQ]at hu;rw[hu];exact r8 M (by omega) (by omega)
 ·rw[e];have hnt:a8 (.mk 3 nm n [a,b] pos)=1+a8 a+a8 b:=by rw[a8,cj,cj,cj];omega
  rw[hnt]at hn hs⊢;rw[jl,jl,gM]at hs;have hr:=ih a (by simp[ah.l]) f h (by omega) (by omega);have hre:=fun f':av=>p7 g b f';have hq:=fun(hk:(bp g a f).2.2.sub.length+(W+1)*a8 b<=999000)=>ih b (by simp[ah.l]) _ hr.ok (by omega) hk;have hq:=hq (by have:=hr.len;omega);have hre:=hre (bp g a f).2.2;generalize bp g b (bp g a f).2.2=q at hq hre⊢;generalize bp g a f=r at hr hq hre⊢;obtain⟨r1,r2,r3,r4,r5,r6,r7,r8⟩:=hr;obtain⟨q1,q2,q3,q4,q5,q6,q7,q8⟩:=hq;rw[r4]at q8;unfold iX;by_cases hqe:q.2.2.e≠0
  ·rw[if_pos hqe];refine⟨q1,?_,?_,q4.trans r4,?_,fun h0=>absurd h0 hqe,?_,fun M h1 _=>qb 0 [] 0 (eU _) (by omega)⟩
   ·show q.2.2.sub.length<=_;rw[jl,jl,gM];omega
   ·show _<=q.2.2.sub.length;omega
   ·show q.2.2.vars.length<=_;omega
   ·show ax .none<=_;rw[aa.none,oI];omega
  ·rw[if_neg hqe];replace hqe:q.2.2.e=0:=EY hqe;have hr0:r.2.2.e=0:=by
    by_cases h0:r.2.2.e=0
    ·exact h0
    ·have:=hre h0;rw[this]at hqe;exact absurd hqe h0
   obtain⟨t1,t2⟩:=r6 hr0;obtain⟨t3,t4⟩:=q6 hqe;have hl:=q.2.2.p9;have hf:=q1.fresh (by omega);have hp:ef q.2.2.fresh.sub.length 100000 (r.2.1,.arr q.2.1 (aJ q.2.2.sub.length)):=
    ⟨t1.mono (by omega),Di (t3.mono (by omega)) (iB (by omega) (by omega) (by omega)),by show aD r.2.1<=_;omega,by show aD (.arr _ _)<=_;rw[yT,oJ];omega⟩
   have hol:=yR hf (by omega) hp;have hne:q.2.2.fresh.sub≠[]:=fun e=>by rw[e]at hl;cases hl
   have hbt:aE q.2.2.fresh.sub.length (aJ q.2.2.sub.length):=iB (by omega) (by omega) (by omega);have hap:=VE r.1 q.1;have hnn:∀M:Int,(f.bound.length:Int)+((1+a8 a+a8 b:Nat):Int)<=M->(f.vars.length:Int)+((1+a8 a+a8 b:Nat):Int)<=M->bM M (ct r.1 [q.1])=true:=fun M h1 h2=>VD (by omega) (r8 M (by omega) (by omega)) (q8 M (by omega) (by omega));split
   ·rename_i hb;refine⟨hf.Vy (by omega) hne hp hb,?_,?_,q4.trans r4,?_,fun _=>?_,?_,hnn⟩
    ·show(av.one _ _ _).sub.length<=_;rw[hol,jl,jl,gM];omega
    ·show _<=(av.one _ _ _).sub.length;rw[hol];omega
    ·show q.2.2.vars.length<=_;omega
    ·show aE (av.one _ _ _).sub.length _/\aD _<=_;rw[hol,oJ];exact⟨hbt,by omega⟩
    ·show ax (ct r.1 [q.1])<=_;omega
   ·have hz:q.2.2.fresh.e=0:=hqe;have hfl:=yS (q.2.2.fresh.one r.2.1 (.arr q.2.1 (aJ q.2.2.sub.length))) 121 pos;have hfe:((q.2.2.fresh.one r.2.1 (.arr q.2.1 (aJ q.2.2.sub.length))).fail 121 pos).e=121:=by unfold av.fail;rw[if_pos (show(q.2.2.fresh.one _ _).e=0 from hz)]
    refine⟨hf.Vz hz (by omega) hp 121 pos (by decide),?_,?_,?_,?_,fun h0=>?_,?_,hnn⟩
    ·show(av.fail _ _ _).sub.length<=_;rw[hfl.1,hol,jl,jl,gM];omega
    ·show _<=(av.fail _ _ _).sub.length;rw[hfl.1,hol];omega
    ·show(av.fail _ _ _).bound=_;rw[hfl.2.1];exact q4.trans r4
    ·show(av.fail _ _ _).vars.length<=_;rw[hfl.2.2];show q.2.2.vars.length<=_;omega
    ·rw[hfe]at h0;cases h0
    ·show ax (ct r.1 [q.1])<=_;omega
 ·rw[e];have hk:=VB (W:=W) hW hW1 (by omega) h he t (by omega);obtain⟨r1,r2,r3,r4,r5,r6,r7,r8⟩:=hk;exact⟨r1,by omega,r3,r4,by omega,fun h0=>⟨(r6 h0).1,by have:=(r6 h0).2;omega⟩,by omega,fun M h1 h2=>r8 M (by omega) (by omega)⟩
end Go.Proofs.YtdlkenpilhakfaaGreatDoor
namespace Go.Proofs.YtdlkenpilhakfaaGreatDoor
open Go.RowKit Go.Lamb
def Dj:AC:=rsq [.o 2 (.box 0),.o 3 (.box 1),.o 4 (.box (.k (.agg zS4))),.o 5 (.af (zK 0))] (.seq (.seq (drg [.d 6 4 2,.k 7 30 [6],.d 8 4 2,.k 9 261 [8,(zK 0)],.d 10 4 3,.k 11 30 [10],.o 12 (.bin .mul 9 11),.o 13 (.bin .add 7 12),.o 14 (.bin .gtr 13 (zK 4096))] [0,101,2,303,4,505,606,607,608]) (.cond 14 (rsq [.o 15 (.build zS4 []),.s 4 4 15,.o 5 (.af (zK 80))] .ret) .skip)) (rsq [.d 16 4 2,.d 17 4 3,.k 18 262 [16,(zK 0),17],.s 4 4 18,.o 5 (.af (zK 0))] .ret))
def Dk:List aw:=[.br 4 4,.tmp 5]
theorem VF:aB prog 231 2 Tryz.f231 Dj Dk:=.auto func231
def sd:AC:=rsq [.o 2 (.box 0),.o 4 (.af (zK 0))] (.seq (rsq [.f 8 0 2,.l 9 8] (.block 0 (rif [.o 11 (.bin .eql 9 (zK 3)),.m 10 11] 10 (rif [.f 12 2 2,.l 13 12,.m 14 1,.o 15 (.bin .eql 13 14)] 15 (rsq [.o 4 (.af (zK 1))] .ret) .skip) (rif [.o 17 (.bin .eql 9 (zK 5)),.m 16 17] 16 (.aH [.m 18 1,.o 19 (.bin .add 18 (zK 1)),.m 1 19]) .skip)))) (rsq [.o 5 (.af (zK 0))] (.seq (rsq [.f 20 3 2,.l 21 20,.o 22 (.aR 21),.o 23 (.af (zK 0))] (.block 1 (.loop (rsq [.o 24 (.bin .lss 23 22)] (.seq (.cond 24 .skip (.exit 1)) (.seq (.block 2 (rsq [.o 25 (.aI 4 21 23),.d 26 4 25,.o 7 (.box (.k (.agg zS4))),.s 4 7 26] (.aH [.m 27 5,.d 28 4 7,.m 29 1,.k 30 261 [28,29],.o 31 (.bin .add 27 30),.m 5 31]))) (.aH [.o 32 (.bin .add 23 (zK 1)),.m 23 32]))))))) (rsq [.m 33 5,.m 4 33] .ret))))
def se:List aw:=[.tmp 4]
theorem LJ:aB prog 261 2 Tryz.f261 sd se:=.auto func261
def c232:AC:=rsq [.o 2 (.box 0),.o 4 (.af (zK 0))] (.seq (rif [.d 5 4 2,.k 6 183 [5],.o 7 (.un .not 6)] 7 (rsq [.o 4 (.af (zK 0))] .ret) .skip) (rsq [.d 8 4 2,.m 9 1,.k 10 261 [8,9],.m 4 10] .ret))
def Dl:List aw:=[.tmp 4]
theorem LK:aB prog 232 2 Tryz.f232 c232 Dl:=.auto func232
def Dm:AC:=rsq [.o 2 (.box 0),.o 4 (.af zF)] (rsq [.d 5 4 2,.m 6 1,.k 7 232 [5,6],.o 8 (.bin .gtr 7 (zK 0)),.m 4 8] .ret)
def Dn:List aw:=[.tmp 4]
theorem LL:aB prog 186 2 Tryz.f186 Dm Dn:=.auto func186
def c28:AC:=rif [.m 6 0,.n 7 6,.f 8 6 7,.f 9 0 8,.l 10 9,.o 11 (.bin .eql 10 (zK 0))] 11 (.aH [.m 12 0,.m 13 1,.m 14 2,.o 15 (.build [.c (.int .i64 0),.c (.int .i64 0)] [(0,1,13),(1,1,14)]),.n 16 12,.f 17 6 16,.s 2 17 15]) .skip
def LM:List aw:=[]
theorem LN:aB prog 28 3 Tryz.f28 c28 LM:=.auto func28
def LO(n0 p:Nat)(g:Sg)(σ:H)(f:av)(v:V)(y4 y5:V):V->H->Prop:=fun d τ=>d=v/\(∃y3,bz n0 τ p g f y3 y4 y5)/\Kept n0 p σ τ
def gn(n0 p:Nat)(g:Sg)(σ:H)(f:av)(v:V):V->H->Prop:=fun d τ=>d=v/\(∃y3 y4 y5,bz n0 τ p g f y3 y4 y5)/\Kept n0 p σ τ
section
variable {n0 p:Nat} {σ τ:H} {g:Sg} {f:av} {y3 y4 y5:V}
attribute [local go_sem] aa.v aa.aM a7 bh aW aQ aX
theorem Dp(w0:World)(h:bz n0 σ p g f y3 y4 y5)(e pos:Int):DC prog w0 28 [.ptr p 0,I e,I pos] σ (fun d τ=>d= .ay []/\bz n0 τ p g (f.fail e pos) y3 y4 y5/\Kept n0 p σ τ):=by
 refine LN.dL rfl (fun hok hsz=>?_);have hp:=h.here;unfold bK at hp;by_cases he:f.e=0
 ·have k0:(f.e==0)=true:=by simp[he]
  have hf:f.fail e pos={f with e:=e,pos:=pos}:=by unfold av.fail;rw[if_pos he]
  rw[hf];have hq:=h.put (f':={f with e:=e,pos:=pos}) h.sub h.eh h.var;clear he;(refine W.a ?_;simp only[go_sem,c28,hp,k0]);refine W.yes rfl (W.a ?_);simp only[go_sem,hp];exact W.done ⟨_,_,rfl,.rfl _,rfl,hq⟩
 ·have k0:(f.e==0)=false:=by simp[he]
  have hf:f.fail e pos=f:=by unfold av.fail;rw[if_neg he]
  rw[hf];clear he;(refine W.a ?_;simp only[go_sem,c28,hp,k0]);refine W.no rfl (W.a ?_);simp only[go_sem];exact W.done ⟨_,_,rfl,.rfl _,rfl,h,Kept.refl _ _ _⟩
theorem VG(w0:World)(h:bz n0 σ p g f y3 y4 y5)(hn:n0<=σ.length)(hl:f.live=true)(t:aa)(hv:cW t=true)(ht:aD t<=10000)(hs:f.sub.length+aD t<=999999):
  DC prog w0 27 [.ptr p 0,t.v] σ (LO n0 p g σ (f.renew t) (f.di t).v y4 y5):=by
 refine CX.dL rfl (fun hok hsz=>?_);obtain⟨n1,n2,n3,n4⟩:=u7 hv (by omega);have hN:=fun σ=>ye w0 t (by omega) σ;have hS:=fun σ=>Jy w0 (cK t) f.sub.length (by omega) σ;have hV:=fun σ=>ub w0 (cK t) (bE (A9 _) (by omega)) σ;have hE:(cJ (me f.sub.length) () (cK t)).1=f.di t:=rfl;rw[hE]at hS;obtain⟨nv,hnv⟩:∃nv:Nat,cB 0 (cK t)=(nv:Int):=⟨(cB 0 (cK t)).toNat,by omega⟩;have hfin:f.renew t=f.more nv:=by unfold av.renew;rw[hnv,jk]
 rw[hnv]at hV n4;rw[hfin];have hp:=fun L=>hG h.here L;unfold bK at hp;have hlt:=h.lt;have hsub:=h.sub hl;generalize f.di t=u at*
 generalize cK t=s at*
 clear hE hfin n1 n2 n3 hnv;rcases hsub with⟨h0,rfl⟩|⟨b,hb0,rfl,hb,hz⟩
 ·simp only[h0,cN]at hS;have hA0:=h.app [.cells s.v.ai,.cells [I 0,S [],I 0,.ab []],.cells u.v.ai];have hK0:=(Kept.refl n0 p σ).app hn [.cells s.v.ai,.cells [I 0,S [],I 0,.ab []],.cells u.v.ai];(refine W.a ?_;simp only[go_sem,rQ]);(refine W.c1 (hN _) ?_;simp only[go_sem]);(refine W.a ?_;simp only[go_sem]);apply W.aS (aT _ _)
  case hc=>
   (apply ae.aq;simp only[go_sem,hp]);(apply ae.mW (fun τ=>hS τ);(case hg=>rfl);(case hf=>rfl);(case ha=>first|rfl|simp));(apply ae.aq;simp only[go_sem]);exact ae.nil
  (refine W.a ?_;simp only[go_sem]);(refine W.c1 (hV _) ?_;simp only[go_sem]);(refine W.a ?_;simp only[go_sem]);refine W.bB (α:=Nat×H×V) (fun x=>x.1<=nv/\bz n0 x.2.1 p g (f.more x.1) x.2.2 y4 y5/\Kept n0 p σ x.2.1/\x.2.1[σ.length+1]?=some (.cells [I 0,S [],I 0,.ab []])/\x.2.1[σ.length+2]?=some (.cells u.v.ai)) (fun x=>⟨(((((base.put (some 0) (.ptr p 0)).put (some 4) (.ptr (σ.length+1) 0)).put (some 5) (.ptr (σ.length+2) 0)).put (some 16) (I (nv:Int))).put (some 17) (I (x.1:Int))),x.2.1⟩) (fun x=>nv-x.1) (0,_,_) ⟨bC _,hA0,hK0,Go.Lamb.bT _ _ 1,Go.Lamb.bT _ _ 2⟩ ?_ (fun x hx=>?_)
  ·(refine ao.env ?_;exact aF)
  obtain⟨i,τ,y⟩:=x;obtain⟨x1,x2,x3,x4,x5⟩:=hx;dsimp only at x1 x2 x3 x4 x5⊢;by_cases hlt:i<nv
  ·have z:(i:Int)<(nv:Int):=by omega
   have hw:aN.wrap ((i:Int)+1)=((i+1:Nat):Int):=by rw[bn]<;>omega
   obtain⟨m1,m2,m3,m4,m5⟩:=f.p8 i;have msub:=f.oG i;obtain⟨τ',c1,c2,c3⟩:=sb w0 x2 (bE hn x3.len) (by rw[m5];exact hl) (by omega);(refine W.a ?_;simp only[go_sem,z]);refine W.yes rfl (W.a ?_);simp only[go_sem];(refine W.c1 (c1) ?_;simp only[go_sem]);(refine W.a ?_;simp only[go_sem,hw]);refine .inv ⟨(i+1,τ',_),⟨hlt,c2,x3.trans c3,c3.cells _ _ _ (by omega) x4,c3.cells _ _ _ (by omega) x5⟩,by dsimp only;omega,?_⟩;(refine ao.env ?_;exact aF)
  ·obtain rfl:i=nv:=by omega
   have z:¬((i:Int)<(i:Int)):=by omega
   have l1:σ.length+1<τ.length:=(aL.1 x4).1;have s1:∀B,(τ.set (σ.length+1) B)[σ.length+1]?=some B:=fun B=>cr l1;have hfin:=x2.box x4 (by omega) (.cells u.v.ai);have hfin2:=x3.set (.cells u.v.ai) (a:=σ.length+1) (by omega) (.inr (.inl (by omega)));(refine W.a ?_;simp only[go_sem,z]);refine W.no rfl (W.a ?_);simp only[go_sem,x4,x5,s1];exact W.ret ⟨_,_,(by simp only[bA,rR,s1,go_sem];rfl),.rfl _,rfl,⟨_,hfin⟩,hfin2⟩
 ·clear hb hz;have hA0:=h.app [.cells s.v.ai,.cells [I 0,S [],I 0,.ab []],.cells u.v.ai];have hK0:=(Kept.refl n0 p σ).app hn [.cells s.v.ai,.cells [I 0,S [],I 0,.ab []],.cells u.v.ai];(refine W.a ?_;simp only[go_sem,rQ]);(refine W.c1 (hN _) ?_;simp only[go_sem]);(refine W.a ?_;simp only[go_sem]);apply W.aS (aT _ _)
  case hc=>
   (apply ae.aq;simp only[go_sem,hp]);(apply ae.mW (fun τ=>hS τ);(case hg=>rfl);(case hf=>rfl);(case ha=>first|rfl|simp));(apply ae.aq;simp only[go_sem]);exact ae.nil
  (refine W.a ?_;simp only[go_sem]);(refine W.c1 (hV _) ?_;simp only[go_sem]);(refine W.a ?_;simp only[go_sem]);refine W.bB (α:=Nat×H×V) (fun x=>x.1<=nv/\bz n0 x.2.1 p g (f.more x.1) x.2.2 y4 y5/\Kept n0 p σ x.2.1/\x.2.1[σ.length+1]?=some (.cells [I 0,S [],I 0,.ab []])/\x.2.1[σ.length+2]?=some (.cells u.v.ai)) (fun x=>⟨(((((base.put (some 0) (.ptr p 0)).put (some 4) (.ptr (σ.length+1) 0)).put (some 5) (.ptr (σ.length+2) 0)).put (some 16) (I (nv:Int))).put (some 17) (I (x.1:Int))),x.2.1⟩) (fun x=>nv-x.1) (0,_,_) ⟨bC _,hA0,hK0,Go.Lamb.bT _ _ 1,Go.Lamb.bT _ _ 2⟩ ?_ (fun x hx=>?_)
  ·(refine ao.env ?_;exact aF)
  obtain⟨i,τ,y⟩:=x;obtain⟨x1,x2,x3,x4,x5⟩:=hx;dsimp only at x1 x2 x3 x4 x5⊢;by_cases hlt:i<nv
  ·have z:(i:Int)<(nv:Int):=by omega
   have hw:aN.wrap ((i:Int)+1)=((i+1:Nat):Int):=by rw[bn]<;>omega
   obtain⟨m1,m2,m3,m4,m5⟩:=f.p8 i;have msub:=f.oG i;obtain⟨τ',c1,c2,c3⟩:=sb w0 x2 (bE hn x3.len) (by rw[m5];exact hl) (by omega);(refine W.a ?_;simp only[go_sem,z]);refine W.yes rfl (W.a ?_);simp only[go_sem];(refine W.c1 (c1) ?_;simp only[go_sem]);(refine W.a ?_;simp only[go_sem,hw]);refine .inv ⟨(i+1,τ',_),⟨hlt,c2,x3.trans c3,c3.cells _ _ _ (by omega) x4,c3.cells _ _ _ (by omega) x5⟩,by dsimp only;omega,?_⟩;(refine ao.env ?_;exact aF)
  ·obtain rfl:i=nv:=by omega
   have z:¬((i:Int)<(i:Int)):=by omega
   have l1:σ.length+1<τ.length:=(aL.1 x4).1;have s1:∀B,(τ.set (σ.length+1) B)[σ.length+1]?=some B:=fun B=>cr l1;have hfin:=x2.box x4 (by omega) (.cells u.v.ai);have hfin2:=x3.set (.cells u.v.ai) (a:=σ.length+1) (by omega) (.inr (.inl (by omega)));(refine W.a ?_;simp only[go_sem,z]);refine W.no rfl (W.a ?_);simp only[go_sem,x4,x5,s1];exact W.ret ⟨_,_,(by simp only[bA,rR,s1,go_sem];rfl),.rfl _,rfl,⟨_,hfin⟩,hfin2⟩
end
section
variable {n0 p:Nat} {σ τ:H} {g:Sg} {f:av} {y3 y4 y5:V}
attribute [local go_sem] aa.v aa.aM a7 bh aW aQ aX
theorem VH(w0:World)(h:bz n0 σ p g f y3 y4 y5)(name:aY)(hc:ln g name=none)(σ':H)(hσ:σ'=σ):
  DC prog w0 122 [.ptr p 0,S name] σ (Same (.ay [aa.none.v,B false]) σ):=by
 refine C8.go rfl (fun hok hsz=>?_);have hp:=fun L=>hG h.here L;unfold bK at hp;have hF:=fun σ=>Ci w0 g name σ;simp only[Sg.v]at hF;unfold ln at hc;cases hf:qY g.types name with
 |none=>
  rw[hf]at hF;simp only[ru,Option.getD_none,Option.isSome_none]at hF;(refine W.a ?_;simp only[go_sem,uR,hp]);(refine W.c1 (hF _) ?_;simp only[go_sem]);(refine W.a ?_;simp only[go_sem,az.none,aa.none]);refine W.yes rfl (W.a ?_);simp only[go_sem,aa.none];(refine W.fs (hok) (by simp only[uS,go_sem];rfl) ?_;simp only[al];try exact V.wk.rfl _)
  all_goals (all_goals exact au)
 |some x=>
  rw[hf]at hF hc;dsimp only at hc;have hv:cW x.ty=false:=by
   cases hv:cW x.ty
   ·rfl
   ·rw[hv]at hc;simp at hc
  have hV:=fun σ=>pO w0 x.ty σ;rw[hv]at hV;simp only[ru,mI,N1]at hF;(refine W.a ?_;simp only[go_sem,uR,hp]);(refine W.c1 (hF _) ?_;simp only[go_sem]);(refine W.a ?_;simp only[go_sem]);(refine W.c1 (hV _) ?_;simp only[go_sem]);(refine W.a ?_;simp only[go_sem]);refine W.yes rfl (W.a ?_);simp only[go_sem,aa.none];(refine W.fs (hok) (by simp only[uS,go_sem];rfl) ?_;simp only[al];try exact V.wk.rfl _)
  all_goals (all_goals exact au)
theorem VI(w0:World)(h:bz n0 σ p g f y3 y4 y5)(hn:n0<=σ.length)(hl:f.live=true)(name:aY){t:aa}(hc:ln g name=some t)(ht:aD t<=10000)(hs:f.sub.length+aD t<=999999):
  DC prog w0 122 [.ptr p 0,S name] σ (LO n0 p g σ (f.renew t) (.ay [(f.di t).v,B true]) y4 y5):=by
 refine C8.dL rfl (fun hok hsz=>?_);have hp:=fun L=>hG h.here L;unfold bK at hp;have hlt:=h.lt;have hF:=fun σ=>Ci w0 g name σ;simp only[Sg.v]at hF;unfold ln at hc;cases hf:qY g.types name with
 |none=>rw[hf]at hc;cases hc
 |some x=>
  rw[hf]at hF hc;dsimp only at hc;have hvx:cW x.ty=true/\x.ty=t:=by
   cases hv:cW x.ty
   ·rw[hv]at hc;simp at hc
   ·rw[hv]at hc;simp at hc;exact⟨rfl,hc⟩
  obtain⟨hv,rfl⟩:=hvx;have hV:=fun σ=>pO w0 x.ty σ;rw[hv]at hV;simp only[ru,mI,N1]at hF;have hA0:=h.app [.cells [I 0,S [],I 0,.ab []],.cells x.ty.v.ai];have hK0:=(Kept.refl n0 p σ).app hn [.cells [I 0,S [],I 0,.ab []],.cells x.ty.v.ai];have hR:=VG w0 hA0 (bE hn hK0.len) hl x.ty hv ht hs;simp only[aa.v,V.ai]at hR hK0;(refine W.a ?_;simp only[go_sem,uR,hp]);(refine W.c1 (hF _) ?_;simp only[go_sem]);(refine W.a ?_;simp only[go_sem]);(refine W.c1 (hV _) ?_;simp only[go_sem]);(refine W.a ?_;simp only[go_sem])
  refine W.no rfl (W.a ?_);simp only[go_sem];(refine W.call (hR) rfl rfl (by first|rfl|simp) ?_);rintro d τ ⟨rfl,⟨z3,hA⟩,hK⟩;have x4:τ[σ.length]?=some (.cells [I 0,S [],I 0,.ab []] none):=hK.cells _ _ _ (by omega) (Go.Lamb.eM _ _);have l1:σ.length<τ.length:=(aL.1 x4).1;have s1:∀B,(τ.set σ.length B)[σ.length]?=some B:=fun B=>cr l1;have hfin:=hA.box x4 (by omega) (.cells (f.di x.ty).v.ai);have hfin2:=(hK0.trans hK).set (.cells (f.di x.ty).v.ai) (a:=σ.length) (by omega) (.inr (.inl (aA _)));generalize f.di x.ty=u at*
  (refine W.a ?_;simp only[go_sem,x4,s1]);exact W.ret ⟨_,_,(by simp only[bA,uS,s1,go_sem];rfl),.rfl _,rfl,⟨_,hfin⟩,hfin2⟩
end
end Go.Proofs.YtdlkenpilhakfaaGreatDoor
namespace Go.Lamb
open Go Go.RowKit
theorem VJ{l:List az}{i:Nat}(hi:i<l.length)(J:List C):de 4 (fW (i*5+1) (List.map V.c (cb l++J)))=[.c (.int .i64 l[i].ty.k),.c (.str l[i].ty.name),.c (.int .i64 l[i].ty.n),.c (.sl (l[i].ty.l.map aa.cs))]:=by
 have h:=Df hi;have hl:=pZ l;have e:de 4 (fW (i*5+1) (cb l++J))=[.int .i64 l[i].ty.k,.str l[i].ty.name,.int .i64 l[i].ty.n,.sl (l[i].ty.l.map aa.cs)]:=by
  rw[<-List.drop_drop,NZ (by omega),NZ (by rw[lC];omega)];rw[List.take_append_of_le_length (by rw[lC,lC];omega)];have h2:de 4 (fW 1 (de 5 (fW (i*5) (cb l))))=de 4 (fW 1 (fW (i*5) (cb l))):=by
   rw[List.drop_take];rw[List.take_take];rfl
  rw[<-h2,h];rfl
 rw[<-List.map_drop,<-List.map_take,e];rfl
end Go.Lamb
namespace Go.Proofs.YtdlkenpilhakfaaGreatDoor
open Go.RowKit Go.Lamb
section
variable {n0 p:Nat} {σ τ:H} {g:Sg} {f:av} {y3 y4 y5:V}
theorem Dq{x y z:V}(h:V.wk x y):V.wk (.agg [x,z]) (.agg [y,z]):=qN h (.rfl _)
theorem vd(w0:World){y:V}{l:List az}(h:rZ n0 σ y l)(hl:l.length<=1000000)(name:aY):DC prog w0 121 [y,S name] σ (Same (I (cy name 0 l)) σ):=by
 rcases h with⟨rfl,rfl⟩|⟨b,J,_,rfl,hb⟩
 ·exact(yP w0 [] name (by simp) σ).fP (Dq (.ab _))
 ·exact Vu w0 l name hl b J σ hb
theorem LP(w0:World){y:V}{l:List az}(h:sa n0 σ y l)(hl:l.length<=1000000)(name:aY):DC prog w0 121 [y,S name] σ (Same (I (cy name 0 l)) σ):=by
 rcases h with⟨rfl,rfl⟩|⟨b,_,rfl,hb⟩
 ·exact(yP w0 [] name (by simp) σ).fP (Dq (.ab _))
 ·exact(yP w0 l name hl σ).fP (Dq (.aG _ _))
attribute [local go_sem] aa.v aa.aM a7 bh aW aQ aX
theorem VK(w0:World)(h:bz n0 σ p g f y3 y4 y5)(hn:n0<=σ.length)(hbl:f.bound.length<=1000000)(t:ah)(i:Nat)(hi:i<f.bound.length)(hlk:cy t.name 0 f.bound=(i:Int)):
  DC prog w0 70 [.ptr p 0,t.v] σ (gn n0 p g σ f (.ay [(sc f (i:Int)).1.v,(sc f (i:Int)).2.1.v])):=by
 refine rS.dL rfl (fun hok hsz=>?_);have hp:=fun L=>hG h.here L;unfold bK at hp;have hlt:=h.lt;have hL:=fun a b c=>vd w0 (h.app [a,b,c]).eh hbl t.name;rw[hlk]at hL;have g0:(i:Int)>=0:=by omega
 have g1:(0:Int)<=(i:Int):=by omega
 have g2:(i:Int)<(f.bound.length:Int):=by omega
 have hw1:aN.wrap ((f.bound.length:Int)-1)=(f.bound.length:Int)-1:=by rw[bn]<;>omega
 have hw2:aN.wrap ((f.bound.length:Int)-1-(i:Int))=(f.bound.length:Int)-1-(i:Int):=by rw[bn]<;>omega
 rcases h.eh with⟨h0,_⟩|⟨b,J,hb0,rfl,hb⟩
 ·rw[h0]at hi;cases hi
 have hb2:=fun L=>hG hb L;have hrow:=VJ hi J;have hnl:=pZ f.bound;have hle2:i*5+1+4<=(cb f.bound).length+J.length:=by omega
 have hfin:=fun L=>h.app L;have hfin2:=fun L=>(Kept.refl n0 p σ).app hn L;have cF:(f.bound.getD i .none).ty=f.bound[i].ty:=by rw[cf,aO hi];rfl
 unfold sc;rw[jk,cF];generalize f.bound[i]=x at*
 clear cF;(refine W.a ?_;simp only[go_sem,c70,hp]);apply W.aS (aT _ _)
 case hc=>
  (apply ae.aq;simp only[go_sem,hp]);(apply ae.call (hL _ _ _);(case hg=>rfl);(case hf=>rfl);(case ha=>first|rfl|simp));(apply ae.aq;simp only[go_sem]);exact ae.nil
 (refine W.a ?_;simp only[go_sem,g0]);refine W.yes rfl (W.a ?_);simp only[go_sem];apply W.aS (aT _ _)
 case hc=>
  (apply ae.aq;simp only[go_sem,hp,hw1,hw2,g1,g2,hb2,hrow,hle2,bW]);exact ae.nil
 (refine W.a ?_;simp only[go_sem]);exact W.ret ⟨_,_,(by simp only[bA,oD,go_sem];rfl),au,rfl,⟨_,_,_,hfin _⟩,hfin2 _⟩
end
section
variable {n0 p:Nat} {σ τ:H} {g:Sg} {f:av} {y3 y4 y5:V}
attribute [local go_sem] aa.v aa.aM a7 bh aW aQ aX
theorem Dr{l:List az}{i:Nat}(hi:i<l.length):(l.map az.cs)[i]?=some [.str l[i].name,.int .i64 l[i].ty.k,.str l[i].ty.name,.int .i64 l[i].ty.n,.sl (l[i].ty.l.map aa.cs)]:=by
 rw[List.getElem?_map,aO hi];rfl
theorem VL(w0:World)(h:bz n0 σ p g f y3 y4 y5)(hn:n0<=σ.length)(hbl:f.bound.length<=1000000)(hvl:f.vars.length<=1000000)(t:ah)(h1:t.k=1)(hlk:cy t.name 0 f.bound=-1)(i:Nat)(hi:i<f.vars.length)(hlv:cy t.name 0 f.vars=(i:Int)):
  DC prog w0 70 [.ptr p 0,t.v] σ (gn n0 p g σ f (.ay [(kl f t).1.v,(kl f t).2.1.v])):=by
 refine rS.dL rfl (fun hok hsz=>?_);have hp:=fun L=>hG h.here L;unfold bK at hp;have hlt:=h.lt;have k1:(t.k==1)=true:=by simp[h1]
 have hL:=fun a b c=>vd w0 (h.app [a,b,c]).eh hbl t.name;rw[hlk]at hL;have hV:=fun a b c=>LP w0 (h.app [a,b,c]).var hvl t.name;rw[hlv]at hV;have gz:¬(-1:Int)>=0:=by decide
 have g0:¬(i:Int)<0:=by omega
 have g1:(0:Int)<=(i:Int):=by omega
 have g2:(i:Int)<(f.vars.length:Int):=by omega
 rcases h.var with⟨h0,_⟩|⟨b,hb0,rfl,hb⟩
 ·rw[h0]at hi;cases hi
 have hrow:=Dr hi;have hfin:=fun L=>h.app L;have hfin2:=fun L=>(Kept.refl n0 p σ).app hn L;have cF:(f.vars.getD i .none).ty=f.vars[i].ty:=by rw[cf,aO hi];rfl
 unfold kl;rw[hlv,if_neg g0,jk,cF];have hrl:(f.vars.map az.cs).length=f.vars.length:=bW _;generalize f.vars[i]=x at*
 generalize hR:f.vars.map az.cs=R at*
 clear cF h1;(refine W.a ?_;simp only[go_sem,c70,hp]);apply W.aS (aT _ _)
 case hc=>
  (apply ae.aq;simp only[go_sem,hp]);(apply ae.call (hL _ _ _);(case hg=>rfl);(case hf=>rfl);(case ha=>first|rfl|simp));(apply ae.aq;simp only[go_sem]);exact ae.nil
 (refine W.a ?_;simp only[go_sem,gz]);refine W.no rfl (W.a ?_);simp only[go_sem,k1];refine W.yes rfl (W.a ?_);simp only[go_sem];apply W.aS (aT _ _)
 case hc=>
  (apply ae.aq;simp only[go_sem,hp]);(apply ae.call (hV _ _ _);(case hg=>rfl);(case hf=>rfl);(case ha=>first|rfl|simp));(apply ae.aq;simp only[go_sem]);exact ae.nil
 (refine W.a ?_;simp only[go_sem,g0]);refine W.no rfl (W.a ?_);simp only[go_sem];apply W.aS (aT _ _)
 case hc=>
  (apply ae.aq;simp only[go_sem,hp,g1,g2,hrow,hrl]);exact ae.nil
 (refine W.a ?_;simp only[go_sem]);exact W.ret ⟨_,_,(by simp only[bA,oD,go_sem];rfl),au,rfl,⟨_,_,_,hfin _⟩,hfin2 _⟩
end
end Go.Proofs.YtdlkenpilhakfaaGreatDoor
