/- . -/
import Derived.Test.YtdlkenpilhakfaaGreatDoorQJ12
import Derived.Scope
set_option linter.unusedSimpArgs false
set_option linter.unusedVariables false
set_option maxHeartbeats 8000000
set_option maxRecDepth 20000
open Array renaming ext'->nM,getD->mQ,getD_eq_getD_getElem?->ik,getElem?_eq_getElem->zQ,getElem?_eq_none->Ff,getElem?_eq_some_iff->dR,getElem?_replicate->Oh,replicate->fa,setIfInBounds_comm->wi
open Bool renaming and_eq_true->bz,false_eq_true->e9,false_or->sH
open Go renaming getD_set_ne->lJ,mem_ready->kP,ready_mono->iO,run_underlying->cr
open Go.Instr renaming loadAt->v8,sureAddr->sG
open Go.Op renaming equalIn->gx
open Go.Oper renaming wp->iP
open Go.Region renaming binds->fD,ready->eH
open Go.Result renaming andThen_ok->jU
open Go.Sem renaming run_bind->jj,run_pure->jT
open List renaming all_eq_true->cL,flatMap_cons->Og,getD->lG,getD_eq_getElem?_getD->cc,getElem?_append_left->cF,getElem?_append_right->cY,getElem?_eq_some_iff->aK,getElem?_take->lH,getElem_append_left->cC,getElem_append_right->dJ,getElem_map->dE,getElem_of_mem->fU,length_append->bt,length_cons->bo,length_set->bC,mapM_cons->zL,map_cons->cE,mem_append->cH,mem_cons->cD,mem_range->jW,range->dI,set_append_right->iQ,take_left->mT,take_of_length_le->fj,take_succ_cons->ey
open Nat renaming add_assoc->jk,add_mul->fi,le_refl->aA,lt_of_succ_lt_succ->nQ,lt_or_ge->dS,mul_le_mul_right->iN,sub_self->ck,zero_le->bx
open Ne renaming symm->di
namespace Go.Lamb
open Go Go.RowKit
section
variable {P:Program} {w0 w w':World} {κ κ0:K} {σ σ':H} {a:Act} {ρ ρ':Env} {n:Nat}
theorem eR{x:ai}(h:∀k∈x.tmps,ρ k=ρ' k):x.ev ρ=x.ev ρ':=by
 cases x with
 |t n=>exact h n (by simp[ai.tmps])
 |k v=>rfl
theorem Gi:∀(ps:List (Nat×Nat×ai)) (cs:List V),(∀k∈ps.flatMap (fun p=>p.2.2.tmps),ρ k=ρ' k)->kV ρ cs ps=kV ρ' cs ps
 |[],cs,_=>rfl
 |(o,s,x)::ps,cs,h=>by
  simp only[Og,cH]at h;have hx:x.ev ρ=x.ev ρ':=eR fun k hk=>h k (.inl hk);simp only[kV,hx];split
  ·exact Gi ps _ fun k hk=>h k (.inr hk)
  ·rfl
theorem Gj{size:Nat}:∀(ps:List ai),(∀k∈ps.flatMap ai.tmps,ρ k=ρ' k)->iW ρ size ps=iW ρ' size ps
 |[],_=>rfl
 |x::ps,h=>by
  simp only[Og,cH]at h;have hx:x.ev ρ=x.ev ρ':=eR fun k hk=>h k (.inl hk);simp only[iW,hx,Gj ps fun k hk=>h k (.inr hk)]
theorem td:∀(ps:List ai),(∀k∈ps.flatMap ai.tmps,ρ k=ρ' k)->ps.map (·.ev ρ)=ps.map (·.ev ρ')
 |[],_=>rfl
 |x::ps,h=>by
  simp only[Og,cH]at h;have hx:x.ev ρ=x.ev ρ':=eR fun k hk=>h k (.inl hk);simp only[cE,hx,td ps fun k hk=>h k (.inr hk)]
theorem te{m:Nat}{x:Option ai}(h:∀k∈qU x,ρ k=ρ' k):gC ρ m x=gC ρ' m x/\jt ρ m x=jt ρ' m x:=by
 cases x with
 |none=>exact⟨rfl,rfl⟩
 |some x=>
  have hx:x.ev ρ=x.ev ρ':=eR h;simp only[gC,jt,hx,and_self]
theorem AD{i:bh}(h:∀k∈i.looks,ρ k=ρ' k):step ρ σ i=step ρ' σ i:=by
 cases i with
 |af x|box x _|aU x|eJ _ x|gO x|lQ _ _ x|un _ x|conv _ x|qJ x|sT x|aX _ x|jr _ x|sU _ _ x|ext x _|lens x|aO x|o5 x|kU _ _ _ x=>
  have hx:x.ev ρ=x.ev ρ':=eR h;simp only[step,hx]
 |pick c x y=>
  simp only[bh.looks,cH]at h;have hc:c.ev ρ=c.ev ρ':=eR fun k hk=>h k (.inl (.inl hk));have hx:x.ev ρ=x.ev ρ':=eR fun k hk=>h k (.inl (.inr hk));have hy:y.ev ρ=y.ev ρ':=eR fun k hk=>h k (.inr hk);simp only[step,hc,hx,hy]
 |build z ps=>simp only[step,Gi ps z h]
 |bn s ps=>simp only[step,Gj ps h]
 |kT=>rfl
 |j0 q x k y=>
  simp only[bh.looks,cH]at h;have hc:x.ev ρ=x.ev ρ':=eR fun k hk=>h k (.inl (.inl hk));have hx:k.ev ρ=k.ev ρ':=eR fun k hk=>h k (.inl (.inr hk));have hy:y.ev ρ=y.ev ρ':=eR fun k hk=>h k (.inr hk);simp only[step,hc,hx,hy]
 |look _ _ _ x y|store _ x y|bin _ x y|o4 _ x y|eqs _ _ x y|aI _ x y|index x y|app _ _ _ x y|lR _ _ x y|mx x y|mn x y=>
  simp only[bh.looks,cH]at h;have hx:x.ev ρ=x.ev ρ':=eR fun k hk=>h k (.inl hk);have hy:y.ev ρ=y.ev ρ':=eR fun k hk=>h k (.inr hk);simp only[step,hx,hy]
 |gB f cs=>simp only[step,td cs h]
 |qK x lo hi=>
  simp only[bh.looks,cH]at h;have hx:x.ev ρ=x.ev ρ':=eR fun k hk=>h k (.inl (.inl hk));have h1:=fun m=>(te (m:=m) (x:=lo) fun k hk=>h k (.inl (.inr hk))).2;have h2:=fun m=>(te (m:=m) (x:=hi) fun k hk=>h k (.inr hk)).1;simp only[step,hx,h1,h2]
 |jq s x lo hi q=>
  simp only[bh.looks,cH]at h;have hx:x.ev ρ=x.ev ρ':=eR fun k hk=>h k (.inl (.inl (.inl hk)));have h1:=fun m=>(te (m:=m) (x:=lo) fun k hk=>h k (.inl (.inl (.inr hk)))).2;have h2:=fun m=>(te (m:=m) (x:=hi) fun k hk=>h k (.inl (.inr hk))).1;cases q with
  |none=>simp only[step,hx,h1,h2]
  |some q=>
   have h3:=fun m=>(te (m:=m) (x:=some q) fun k hk=>h k (.inr hk)).1;simp only[step,hx,h1,h2,h3]
 |call f as=>rfl
 |iw _ x=>rfl
 |bad=>rfl
theorem AE{g:Option (Nat×Bool)}(h:∀d w,g=some (d,w)->ρ d=ρ' d):bU ρ g=bU ρ' g:=by
 cases g with
 |none=>rfl
 |some p=>
  obtain⟨d,want⟩:=p;simp only[bU,h d want rfl]
theorem dF.agree{o:aj}{v:V}(h:∀k∈o.looks,ρ k=ρ' k)(y:dF P w0 σ o ρ v):dF P w0 σ o ρ' v:=by
 unfold aj.looks at h;simp only[cH]at h;have hw:bU ρ o.guard=bU ρ' o.guard:=AE fun d want e=>h d (.inr (by rw[e];simp));cases y with
 |skip hg=>exact .skip (by rw[<-hw];exact hg)
 |step hg hs=>exact .step (by rw[<-hw];exact hg) (by rw[<-AD fun k hk=>h k (.inl hk)];exact hs)
 |call hg hi hf hc=>
  rename_i f as fid caps;rw[hi]at h;simp only[bh.looks,cH]at h;have hf':f.ev ρ=f.ev ρ':=eR fun k hk=>h k (.inl (.inl hk));have hm:as.map (·.ev ρ)=as.map (·.ev ρ'):=td as fun k hk=>h k (.inl (.inr hk));exact .call (by rw[<-hw];exact hg) hi (by rw[<-hf'];exact hf) (by rw[<-hm];exact hc)
theorem tf{d:Option Nat}{v:V}{k:Nat}(h:d≠some k):(ρ.put d v) k=ρ k:=by
 cases d with
 |none=>rfl
 |some d=>simp only[Env.put];rw[if_neg (fun e=>h (by rw[e]))]
theorem put_comm{d e:Option Nat}{u v:V}(h:∀k,d=some k->e≠some k):(ρ.put d u).put e v=(ρ.put e v).put d u:=by
 cases d with
 |none=>rfl
 |some d=>
  cases e with
  |none=>rfl
  |some e=>
   have hne:d≠e:=fun he=>h d rfl (by rw[he]);funext k;simp only[Env.put];by_cases h1:k=e
   ·subst h1;rw[if_pos rfl,if_neg (fun e=>hne e.symm),if_pos rfl]
   ·rw[if_neg h1,if_neg h1]
theorem wS{x y:aj}(h:iY x y=true):(∀d,x.dst=some d->d∉y.looks)/\(∀d,x.dst=some d->y.dst≠some d)/\(∀d,y.dst=some d->d∉x.looks):=by
 unfold iY at h;simp only[bz]at h;refine⟨fun d hd=>?_,fun d hd=>?_,fun d hd=>?_⟩
 ·rw[hd]at h;have:=h.1;simp at this;exact this.1
 ·rw[hd]at h;have:=h.1;simp at this;exact this.2
 ·rw[hd]at h;have:=h.2;simp at this;exact this
theorem dF.put{o:aj}{d:Option Nat}{u v:V}(h:∀e,d=some e->e∉o.looks)(y:dF P w0 σ o ρ v):dF P w0 σ o (ρ.put d u) v:=
 y.agree fun k hk=>(tf fun e=>h k e hk).symm
theorem dF.jz{o:aj}{d:Option Nat}{u v:V}(h:∀e,d=some e->e∉o.looks)(y:dF P w0 σ o (ρ.put d u) v):dF P w0 σ o ρ v:=
 y.agree fun k hk=>tf fun e=>h k e hk
def th(P:Program)(w0:World)(σ:H)(ops:Array Oper)(aops:Array aj)(F:Env->Prop):Nat->Array Bool->Env->Prop
 |0,listed,ρ=>eH .any ops listed=[]/\F ρ
 |fuel+1,listed,ρ=>(eH .any ops listed=[]->F ρ)/\∀i∈eH .any ops listed,∃o v,aops[i]?=some o/\dF P w0 σ o ρ v/\th P w0 σ ops aops F fuel (listed.setIfInBounds i true) (ρ.put o.dst v)
theorem ti{ops:Array Oper}{aops:Array aj}{listed:Array Bool}{i:Nat}{x:aj}(h:wO ops aops listed i=true)(hx:aops[i]?=some x){j:Nat}{oj:Oper}(hj:ops[j]?=some oj)(hne:j≠i)(hun:listed.getD j true=false)
  (hno:∀e∈oj.after,fD .any e=true->e.on≠i):∃y,aops[j]?=some y/\iY x y=true:=by
 unfold wO at h;rw[cL]at h;have h1:=h j (jW.2 (dR.1 hj).1);simp only[hj,hx,Bool.or_eq_true,beq_iff_eq,hne,false_or,hun,e9]at h1;rcases h1 with h1|h1
 ·obtain⟨e,he,hb⟩:=Array.any_eq_true'.1 h1;simp only[bz,beq_iff_eq]at hb;exact absurd hb.2 (hno e he hb.1)
 ·cases hy:aops[j]? with
  |none=>rw[hy]at h1;cases h1
  |some y=>rw[hy]at h1;exact⟨y,rfl,h1⟩
theorem Gk{ops:Array Oper}{aops:Array aj}{F:Env->Prop}{i:Nat}{x:aj}{v:V}(hx:aops[i]?=some x):∀(fuel:Nat) (listed:Array Bool) (ρ:Env),
  (∀j oj,ops[j]?=some oj->j≠i->listed.getD j true=false->(∀e∈oj.after,fD .any e=true->e.on≠i)->∃y,aops[j]?=some y/\iY x y=true)->
  i∈eH .any ops listed->dF P w0 σ x ρ v->th P w0 σ ops aops F fuel (listed.setIfInBounds i true) (ρ.put x.dst v)->th P w0 σ ops aops F (fuel+1) listed ρ
 |0,listed,ρ,_,hr,hy,H=>by
  refine⟨fun h=>(by rw[h]at hr;cases hr),fun j hj=>?_⟩;by_cases hji:j=i
  ·subst hji;exact⟨x,v,hx,hy,H⟩
  ·have:=iO hj hji;rw[H.1]at this;cases this
 |fuel+1,listed,ρ,hfree,hr,hy,H=>by
  refine⟨fun h=>(by rw[h]at hr;cases hr),fun j hj=>?_⟩;by_cases hji:j=i
  ·subst hji;exact⟨x,v,hx,hy,H⟩
  ·obtain⟨y,u,hy1,hy2,hy3⟩:=H.2 j (iO hj hji);obtain⟨hjun,oj,hoj,hall⟩:=kP.1 hj;have hnot:∀e∈oj.after,fD .any e=true->e.on≠i:=fun e he hb heq=>by
    have h1:=hall e he hb;have h0:=(kP.1 hr).1;rw[heq]at h1;rcases dS i listed.size with h'|h'
    ·simp[h']at h0 h1;rw[h0]at h1;cases h1
    ·simp[Ff h']at h1
   obtain⟨y',hy',hap⟩:=hfree j oj hoj hji hjun hnot;rw[hy1]at hy';injection hy' with hy';subst hy';obtain⟨p1,p2,p3⟩:=wS hap;refine⟨y,u,hy1,hy2.jz p1,?_⟩;have hfree':∀k ok,ops[k]?=some ok->k≠i->(listed.setIfInBounds j true).getD k true=false->(∀e∈ok.after,fD .any e=true->e.on≠i)->∃y,aops[k]?=some y/\iY x y=true:=fun k ok hk hki hun hno=>by
    refine hfree k ok hk hki ?_ hno;by_cases hjk:j=k
    ·subst hjk;exact hjun
    ·rw[lJ true hjk]at hun;exact hun
   refine Gk hx fuel (listed.setIfInBounds j true) _ hfree' (iO hr (di hji)) (hy.put p3) ?_;rw[wi _ _ hji,put_comm (fun k hk e=>p2 k e hk)];exact hy3
theorem Gl{ops:Array Oper}{aops:Array aj}{F:Env->Prop}:∀(l:List aj) (k:Nat) (listed:Array Bool) (ρ ρ':Env),(∀j,l[j]?=aops[k+j]?)->kY ops aops l.length k listed=true->Canon P w0 σ l ρ ρ'->F ρ'->
  th P w0 σ ops aops F l.length listed ρ
 |[],k,listed,ρ,ρ',_,hB,hc,hF=>by
  cases hc;exact⟨by simpa[kY]using hB,hF⟩
 |o::l,k,listed,ρ,ρ',hl,hB,hc,hF=>by
  have h0:aops[k]?=some o:=by simpa using(hl 0).symm
  simp only[bo,kY,bz]at hB;obtain⟨⟨hr,hf⟩,hB'⟩:=hB;cases hc with
  |cons hy hc=>
   exact Gk h0 l.length listed ρ (fun j oj hj hne hun hno=>ti hf h0 hj hne hun hno) (by simpa using hr) hy
    (Gl l (k+1) _ _ ρ' (fun j=>by have:=hl (j+1);simpa[jk,Nat.add_comm 1 j]using this) hB' hc hF)
end
section
variable {P:Program} {w0 w w':World} {κ κ0:K} {σ σ':H} {a:Act} {ρ ρ':Env} {n:Nat}
theorem fc.agree{o:aj}{v:V}{σ1:H}(h:∀k∈o.looks,ρ k=ρ' k)(y:fc P w0 σ o ρ v σ1):fc P w0 σ o ρ' v σ1:=by
 unfold aj.looks at h;simp only[cH]at h;have hw:bU ρ o.guard=bU ρ' o.guard:=AE fun d want e=>h d (.inr (by rw[e];simp));cases y with
 |skip hg=>exact .skip (by rw[<-hw];exact hg)
 |step hg hs=>exact .step (by rw[<-hw];exact hg) (by rw[<-AD fun k hk=>h k (.inl hk)];exact hs)
 |call hg hi hf hc=>
  rename_i f as fid caps;rw[hi]at h;simp only[bh.looks,cH]at h;have hf':f.ev ρ=f.ev ρ':=eR fun k hk=>h k (.inl (.inl hk));have hm:as.map (·.ev ρ)=as.map (·.ev ρ'):=td as fun k hk=>h k (.inl (.inr hk));exact .call (by rw[<-hw];exact hg) hi (by rw[<-hf'];exact hf) (by rw[<-hm];exact hc)
 |vec hg hi hx hy hc=>
  rename_i x y olds news;rw[hi]at h;simp only[bh.looks,cH]at h;have hx':x.ev ρ=x.ev ρ':=eR fun k hk=>h k (.inl (.inl hk));have hy':y.ev ρ=y.ev ρ':=eR fun k hk=>h k (.inl (.inr hk));exact .vec (by rw[<-hw];exact hg) hi (by rw[<-hx'];exact hx) (by rw[<-hy'];exact hy) hc
theorem fc.put{o:aj}{d:Option Nat}{u v:V}{σ1:H}(h:∀e,d=some e->e∉o.looks)(y:fc P w0 σ o ρ v σ1):fc P w0 σ o (ρ.put d u) v σ1:=
 y.agree fun k hk=>(tf fun e=>h k e hk).symm
def jA(ops:Array Oper)(listed:Array Bool):Prop:=
 ∀(k:Nat) (o:Oper),ops[k]?=some o->listed.getD k false=true->∀e∈o.after,fD .any e=true->listed.getD e.on false=true
theorem Gm{ops:Array Oper}{an:Array Nat}(h:lU ops an=true){k:Nat}{o:Oper}(ho:ops[k]?=some o){j:Nat}(hj:j<ops.size)(ha:gD an k j=true):∃e∈o.after,fD .any e=true/\(e.on=j\/gD an e.on j=true)/\e.on<k:=by
 unfold lU at h;rw[cL]at h;have h1:=h k (jW.2 (dR.1 ho).1);simp only[ho,cL,jW]at h1;have h2:=h1 j hj;simp only[ha,Bool.not_true,sH]at h2;obtain⟨e,he,hb⟩:=Array.any_eq_true'.1 h2;simp only[bz,Bool.or_eq_true,beq_iff_eq,decide_eq_true_eq]at hb;exact⟨e,he,hb.1.1,hb.1.2,hb.2⟩
theorem PL{ops:Array Oper}{an:Array Nat}(h:lU ops an=true){listed:Array Bool}(hc:jA ops listed){j:Nat}(hj:j<ops.size):∀(k:Nat),k<ops.size->listed.getD k false=true->gD an k j=true->listed.getD j false=true:=by
 intro k;induction k using Nat.strongRecOn with
 |_ k ih=>
  intro hks hk ha;obtain⟨e,he,hb,hr,hlt⟩:=Gm h (zQ hks) hj ha;have hl:=hc k _ (zQ hks) hk e he hb;rcases hr with rfl|hr
  ·exact hl
  ·exact ih e.on hlt (by omega) hl hr
theorem AF{ops:Array Oper}{an:Array Nat}(h:lU ops an=true){listed:Array Bool}(hc:jA ops listed){i j:Nat}(hi:i∈eH .any ops listed)(hj:j<ops.size)(ha:gD an i j=true):listed.getD j false=true:=by
 obtain⟨_,o,ho,hall⟩:=kP.1 hi;obtain⟨e,he,hb,hr,hlt⟩:=Gm h ho hj ha;have hl:=hall e he hb;have hs:=(dR.1 ho).1;rcases hr with rfl|hr
 ·exact hl
 ·exact PL h hc hj e.on (by omega) hl hr
theorem jA.set{ops:Array Oper}{listed:Array Bool}(hc:jA ops listed){i:Nat}(hi:i∈eH .any ops listed):jA ops (listed.setIfInBounds i true):=by
 intro k o ho hk e he hb;by_cases hki:k=i
 ·subst hki;obtain⟨_,o',ho',hall⟩:=kP.1 hi;rw[ho]at ho';injection ho' with ho';subst ho';exact getD_set_true (hall e he hb)
 ·rw[lJ false (di hki)]at hk;exact getD_set_true (hc k o ho hk e he hb)
theorem pg{listed:Array Bool}{x:Nat}(hx:listed.getD x true=false):¬listed.getD x false=true:=by
 intro hy;rcases dS x listed.size with h'|h'
 ·simp[h']at hx hy;rw[hx]at hy;cases hy
 ·simp[Ff h']at hx
theorem wT{q:Bool}{aops:Array aj}{listed:Array Bool}{j:Nat}(hj:((aops.getD j default).bK q)=false):gT q aops (listed.setIfInBounds j true)=gT q aops listed:=by
 unfold gT;congr 1;apply List.filter_congr;intro x _;by_cases hxj:x=j
 ·subst hxj;rw[hj];rfl
 ·rw[lJ false (di hxj)]
theorem lo_le{q:Bool}{ops:Array Oper}{an:Array Nat}(h:lU ops an=true){aops:Array aj}(hsz:aops.size=ops.size){listed:Array Bool}(hc:jA ops listed){i:Nat}(hi:i∈eH .any ops listed):gE q an aops i<=gT q aops listed:=by
 unfold gE gT;have key:∀l:List Nat,(∀x∈l,x<ops.size)->(l.filter fun j=>((aops.getD j default).bK q)&&gD an i j).length<=(l.filter fun j=>((aops.getD j default).bK q)&&listed.getD j false).length:=by
  intro l;induction l with
  |nil=>intro _;simp
  |cons x l ih=>
   intro hx;have ih:=ih (fun y hy=>hx y (by simp[hy]));simp only[List.filter_cons];by_cases hp:(((aops.getD x default).bK q)&&gD an i x)=true
   ·have hq:(((aops.getD x default).bK q)&&listed.getD x false)=true:=by
     simp only[bz]at hp⊢;exact⟨hp.1,AF h hc hi (hx x (by simp)) hp.2⟩
    rw[if_pos hp,if_pos hq];simpa using ih
   ·rw[if_neg hp];split
    ·rw[bo];omega
    ·exact ih
 exact key _ fun x hx=>by rw[<-hsz];exact jW.1 hx
theorem Gn{q:Bool}{aops:Array aj}{listed:Array Bool}{i:Nat}(hi:((aops.getD i default).bK q)=true)(his:i<aops.size)(hil:i<listed.size)(hun:listed.getD i true=false):gT q aops (listed.setIfInBounds i true)=gT q aops listed+1:=by
 unfold gT;have key:∀(m:Nat),((dI m).filter fun j=>((aops.getD j default).bK q)&&(listed.setIfInBounds i true).getD j false).length=
   ((dI m).filter fun j=>((aops.getD j default).bK q)&&listed.getD j false).length+(if i<m then 1 else 0):=by
  intro m;induction m with
  |zero=>simp
  |succ m ih=>
   simp only[List.range_succ,List.filter_append,bt,ih,List.filter_cons,List.filter_nil];by_cases hmi:m=i
   ·subst hmi;have e1:listed.getD m false=false:=by
     have:=pg hun;simpa using this
    have e2:(listed.setIfInBounds m true).getD m false=true:=by simp[hil]
    rw[hi,e1,e2];simp
   ·rw[lJ false (di hmi)];by_cases h1:i<m
    ·have h2:i<m+1:=by omega
     simp only[h1,h2,if_true];omega
    ·have h2:¬i<m+1:=by omega
     simp only[h1,h2,if_false];omega
 rw[key,if_pos his]
def ob(q:Bool)(P:Program)(w0:World)(ops:Array Oper)(an:Array Nat)(aops:Array aj)(F:Env->H->Prop):Nat->Array Bool->Env->H->List H->Prop
 |0,listed,ρ,σ,_=>eH .any ops listed=[]/\F ρ σ
 |fuel+1,listed,ρ,σ,past=>(eH .any ops listed=[]->F ρ σ)/\∀i∈eH .any ops listed,∃o,aops[i]?=some o/\
   (((o.bK q)=true/\∃v σ1,fc P w0 σ o ρ v σ1/\ob q P w0 ops an aops F fuel (listed.setIfInBounds i true) (ρ.put o.dst v) σ1 (σ::past))\/
    ((o.bK q)=false/\∃v,dF P w0 σ o ρ v/\(∀τ∈past.take (past.length-gE q an aops i),dF P w0 τ o ρ v)/\ob q P w0 ops an aops F fuel (listed.setIfInBounds i true) (ρ.put o.dst v) σ past))
theorem wU{aops:Array aj}{i:Nat}{x:aj}(h:aops[i]?=some x):aops.getD i default=x:=by
 obtain⟨hi,e⟩:=dR.1 h;simp[mQ,hi,e]
theorem AG{q:Bool}{ops:Array Oper}{an:Array Nat}{aops:Array aj}{F:Env->H->Prop}(hA:lU ops an=true)(hsz:aops.size=ops.size){i:Nat}{x:aj}(hx:aops[i]?=some x):∀(fuel:Nat) (listed:Array Bool) (ρ:Env) (σ:H) (past:List H),
  (∀j oj,ops[j]?=some oj->j≠i->listed.getD j true=false->(∀e∈oj.after,fD .any e=true->e.on≠i)->∃y,aops[j]?=some y/\iY x y=true)->
  (∀j,j<ops.size->j≠i->listed.getD j true=false->((aops.getD j default).bK q)=true->gD an j i=true)->
  jA ops listed->past.length=gT q aops listed->i∈eH .any ops listed->
  (((x.bK q)=true/\∃v σ1,fc P w0 σ x ρ v σ1/\ob q P w0 ops an aops F fuel (listed.setIfInBounds i true) (ρ.put x.dst v) σ1 (σ::past))\/
   ((x.bK q)=false/\∃v,dF P w0 σ x ρ v/\(∀τ∈past.take (past.length-gE q an aops i),dF P w0 τ x ρ v)/\ob q P w0 ops an aops F fuel (listed.setIfInBounds i true) (ρ.put x.dst v) σ past))->
  ob q P w0 ops an aops F (fuel+1) listed ρ σ past
 |0,listed,ρ,σ,past,_,_,_,_,hr,H=>by
  refine⟨fun h=>(by rw[h]at hr;cases hr),fun j hj=>?_⟩;by_cases hji:j=i
  ·subst hji;exact⟨x,hx,H⟩
  ·have hj':=iO hj hji;rcases H with⟨_,v,σ1,_,H⟩|⟨_,v,_,_,H⟩
   ·rw[H.1]at hj';cases hj'
   ·rw[H.1]at hj';cases hj'
 |fuel+1,listed,ρ,σ,past,hfree,halone,hcl,hlen,hr,H=>by
  refine⟨fun h=>(by rw[h]at hr;cases hr),fun j hj=>?_⟩;by_cases hji:j=i
  ·subst hji;exact⟨x,hx,H⟩
  ·obtain⟨hjun,oj,hoj,hall⟩:=kP.1 hj;have hjs:=(dR.1 hoj).1;obtain⟨hiun,oi,hoi,_⟩:=kP.1 hr;have his:=(dR.1 hoi).1;have hnot:∀e∈oj.after,fD .any e=true->e.on≠i:=fun e he hb heq=>pg hiun (heq▸hall e he hb);obtain⟨y,hy1,hap⟩:=hfree j oj hoj hji hjun hnot;obtain⟨p1,p2,p3⟩:=wS hap;have hyl:(y.bK q)=false:=by
    cases hyl:(y.bK q)with
    |false=>rfl
    |true=>
     have:=halone j hjs hji hjun (by rw[wU hy1];exact hyl);exact absurd (AF hA hcl hj his this) (pg hiun)
   have hfree':∀k ok,ops[k]?=some ok->k≠i->(listed.setIfInBounds j true).getD k true=false->(∀e∈ok.after,fD .any e=true->e.on≠i)->∃y,aops[k]?=some y/\iY x y=true:=fun k ok hk hki hun hno=>by
    refine hfree k ok hk hki ?_ hno;by_cases hjk:j=k
    ·subst hjk;exact hjun
    ·rw[lJ true hjk]at hun;exact hun
   have halone':∀k,k<ops.size->k≠i->(listed.setIfInBounds j true).getD k true=false->((aops.getD k default).bK q)=true->gD an k i=true:=fun k hk hki hun hl=>by
    refine halone k hk hki ?_ hl;by_cases hjk:j=k
    ·subst hjk;exact hjun
    ·rw[lJ true hjk]at hun;exact hun
   have hlen':past.length=gT q aops (listed.setIfInBounds j true):=by rw[wT (by rw[wU hy1];exact hyl)];exact hlen
   have hlo:=lo_le (q:=q) hA hsz hcl hj;refine⟨y,hy1,.inr ⟨hyl,?_⟩⟩;rcases H with⟨hxl,v,σ1,hy,H⟩|⟨hxl,v,hy,hpast,H⟩
   ·obtain⟨y',hy',hcase⟩:=H.2 j (iO hj hji);rw[hy1]at hy';injection hy' with hy';subst hy';rcases hcase with⟨hl,_⟩|⟨_,u,hu,hup,hcont⟩
    ·rw[hyl]at hl;cases hl
    ·have ht:(σ::past).take ((σ::past).length-gE q an aops j)=σ::past.take (past.length-gE q an aops j):=by
      rw[bo,show past.length+1-gE q an aops j=(past.length-gE q an aops j)+1 from by omega,ey]
     rw[ht]at hup;refine⟨u,(hup σ (by simp)).jz p1,fun τ hτ=>(hup τ (by simp[hτ])).jz p1,?_⟩;refine AG hA hsz hx fuel (listed.setIfInBounds j true) _ σ past hfree' halone' (hcl.set hj) hlen' (iO hr (di hji)) (.inl ⟨hxl,v,σ1,hy.put p3,?_⟩);rw[wi _ _ hji,put_comm (fun k hk e=>p2 k e hk)];exact hcont
   ·obtain⟨y',hy',hcase⟩:=H.2 j (iO hj hji);rw[hy1]at hy';injection hy' with hy';subst hy';rcases hcase with⟨hl,_⟩|⟨_,u,hu,hup,hcont⟩
    ·rw[hyl]at hl;cases hl
    ·refine⟨u,hu.jz p1,fun τ hτ=>(hup τ hτ).jz p1,?_⟩;refine AG hA hsz hx fuel (listed.setIfInBounds j true) _ σ past hfree' halone' (hcl.set hj) hlen' (iO hr (di hji)) (.inr ⟨hxl,v,hy.put p3,fun τ hτ=>(hpast τ hτ).put p3,?_⟩);rw[wi _ _ hji,put_comm (fun k hk e=>p2 k e hk)];exact hcont
theorem AH{q:Bool}{ops:Array Oper}{an:Array Nat}{aops:Array aj}{F:Env->H->Prop}(hA:lU ops an=true)(hsz:aops.size=ops.size):∀(l:List Nat) (listed:Array Bool) (ρ ρ':Env) (σ σ':H) (past past':List H),listed.size=ops.size->nY q ops an aops l listed=true->jA ops listed->past.length=gT q aops listed->
  ae P w0 (l.map fun k=>⟨aops.getD k default,((aops.getD k default).bK q),gE q an aops k⟩) ρ σ past ρ' σ' past'->F ρ' σ'->ob q P w0 ops an aops F l.length listed ρ σ past
 |[],listed,ρ,ρ',σ,σ',past,past',_,hB,_,_,hc,hF=>by
  cases hc;exact⟨by simpa[nY]using hB,hF⟩
 |i::l,listed,ρ,ρ',σ,σ',past,past',hls,hB,hcl,hlen,hc,hF=>by
  simp only[nY,bz]at hB;obtain⟨⟨⟨hr,hf⟩,hal⟩,hB'⟩:=hB;have hr':i∈eH .any ops listed:=by simpa using hr
  obtain⟨hiun,oi,hoi,_⟩:=kP.1 hr';have his:=(dR.1 hoi).1;have hx:aops[i]?=some (aops.getD i default):=by simp[mQ,show i<aops.size from by omega]
  have halone:∀j,j<ops.size->j≠i->listed.getD j true=false->((aops.getD j default).bK q)=true->gD an j i=true:=by
   intro j hj hne hun hl;unfold Aw at hal;rw[cL]at hal;have:=hal j (jW.2 hj);rw[hl,hun]at this;simpa[hne]using this
  refine AG hA hsz hx l.length listed ρ σ past (fun j oj hj hne hun hno=>ti hf hx hj hne hun hno) halone hcl hlen hr' ?_;simp only[cE]at hc;generalize hL:((aops.getD i default).bK q)=L at hc;cases hc with
  |bK hy hc=>
   refine .inl ⟨rfl,_,_,hy,AH hA hsz l _ _ ρ' _ σ' _ past' (by simpa using hls) hB' (hcl.set hr') ?_ hc hF⟩;rw[Gn hL (by omega) (by omega) hiun,bo,hlen]
  |quiet hy hp hc=>
   refine .inr ⟨rfl,_,hy,hp,AH hA hsz l _ _ ρ' _ σ' _ past' (by simpa using hls) hB' (hcl.set hr') ?_ hc hF⟩;rw[wT hL];exact hlen
theorem dG.agree{S S':H->Prop}{o:aj}{v:V}(h:∀k∈o.looks,ρ k=ρ' k)(y:dG P w0 S S' o ρ v):dG P w0 S S' o ρ' v:=by
 unfold aj.looks at h;simp only[cH]at h;have hw:bU ρ o.guard=bU ρ' o.guard:=AE fun d want e=>h d (.inr (by rw[e];simp));cases y with
 |skip hg hS=>exact .skip (by rw[<-hw];exact hg) hS
 |step hg hs=>exact .step (by rw[<-hw];exact hg) fun σ hσ=>by rw[<-AD fun k hk=>h k (.inl hk)];exact hs σ hσ
 |vec hg hi hx hy hc hs=>
  rename_i x y olds news;rw[hi]at h;simp only[bh.looks,cH]at h;have hx':x.ev ρ=x.ev ρ':=eR fun k hk=>h k (.inl (.inl hk));have hy':y.ev ρ=y.ev ρ':=eR fun k hk=>h k (.inl (.inr hk));exact .vec (by rw[<-hw];exact hg) hi (by rw[<-hx'];exact hx) (by rw[<-hy'];exact hy) hc hs
 |call hg hi hf hc=>
  rename_i f as fid caps;rw[hi]at h;simp only[bh.looks,cH]at h;have hf':f.ev ρ=f.ev ρ':=eR fun k hk=>h k (.inl (.inl hk));have hm:as.map (·.ev ρ)=as.map (·.ev ρ'):=td as fun k hk=>h k (.inl (.inr hk));exact .call (by rw[<-hw];exact hg) hi (by rw[<-hf'];exact hf) (by rw[<-hm];exact hc)
theorem dG.put{S S':H->Prop}{o:aj}{d:Option Nat}{u v:V}(h:∀e,d=some e->e∉o.looks)(y:dG P w0 S S' o ρ v):dG P w0 S S' o (ρ.put d u) v:=
 y.agree fun k hk=>(tf fun e=>h k e hk).symm
theorem dG.jz{S S':H->Prop}{o:aj}{d:Option Nat}{u v:V}(h:∀e,d=some e->e∉o.looks)(y:dG P w0 S S' o (ρ.put d u) v):dG P w0 S S' o ρ v:=
 y.agree fun k hk=>tf fun e=>h k e hk
def anyS(q:Bool)(P:Program)(w0:World)(ops:Array Oper)(an:Array Nat)(aops:Array aj)(F:Env->(H->Prop)->Prop):Nat->Array Bool->Env->(H->Prop)->List (H->Prop)->Prop
 |0,listed,ρ,σ,_=>eH .any ops listed=[]/\F ρ σ
 |fuel+1,listed,ρ,σ,past=>(eH .any ops listed=[]->F ρ σ)/\∀i∈eH .any ops listed,∃o,aops[i]?=some o/\
   (((o.bK q)=true/\∃v σ1,dG P w0 σ σ1 o ρ v/\anyS q P w0 ops an aops F fuel (listed.setIfInBounds i true) (ρ.put o.dst v) σ1 (σ::past))\/
    ((o.bK q)=false/\∃v,dG P w0 σ σ o ρ v/\(∀τ∈past.take (past.length-gE q an aops i),dG P w0 τ τ o ρ v)/\anyS q P w0 ops an aops F fuel (listed.setIfInBounds i true) (ρ.put o.dst v) σ past))
theorem AI{q:Bool}{ops:Array Oper}{an:Array Nat}{aops:Array aj}{F:Env->(H->Prop)->Prop}(hA:lU ops an=true)(hsz:aops.size=ops.size){i:Nat}{x:aj}(hx:aops[i]?=some x):∀(fuel:Nat) (listed:Array Bool) (ρ:Env) (σ:H->Prop) (past:List (H->Prop)),
  (∀j oj,ops[j]?=some oj->j≠i->listed.getD j true=false->(∀e∈oj.after,fD .any e=true->e.on≠i)->∃y,aops[j]?=some y/\iY x y=true)->
  (∀j,j<ops.size->j≠i->listed.getD j true=false->((aops.getD j default).bK q)=true->gD an j i=true)->
  jA ops listed->past.length=gT q aops listed->i∈eH .any ops listed->
  (((x.bK q)=true/\∃v σ1,dG P w0 σ σ1 x ρ v/\anyS q P w0 ops an aops F fuel (listed.setIfInBounds i true) (ρ.put x.dst v) σ1 (σ::past))\/
   ((x.bK q)=false/\∃v,dG P w0 σ σ x ρ v/\(∀τ∈past.take (past.length-gE q an aops i),dG P w0 τ τ x ρ v)/\anyS q P w0 ops an aops F fuel (listed.setIfInBounds i true) (ρ.put x.dst v) σ past))->
  anyS q P w0 ops an aops F (fuel+1) listed ρ σ past
 |0,listed,ρ,σ,past,_,_,_,_,hr,H=>by
  refine⟨fun h=>(by rw[h]at hr;cases hr),fun j hj=>?_⟩;by_cases hji:j=i
  ·subst hji;exact⟨x,hx,H⟩
  ·have hj':=iO hj hji;rcases H with⟨_,v,σ1,_,H⟩|⟨_,v,_,_,H⟩
   ·rw[H.1]at hj';cases hj'
   ·rw[H.1]at hj';cases hj'
 |fuel+1,listed,ρ,σ,past,hfree,halone,hcl,hlen,hr,H=>by
  refine⟨fun h=>(by rw[h]at hr;cases hr),fun j hj=>?_⟩;by_cases hji:j=i
  ·subst hji;exact⟨x,hx,H⟩
  ·obtain⟨hjun,oj,hoj,hall⟩:=kP.1 hj;have hjs:=(dR.1 hoj).1;obtain⟨hiun,oi,hoi,_⟩:=kP.1 hr;have his:=(dR.1 hoi).1;have hnot:∀e∈oj.after,fD .any e=true->e.on≠i:=fun e he hb heq=>pg hiun (heq▸hall e he hb);obtain⟨y,hy1,hap⟩:=hfree j oj hoj hji hjun hnot;obtain⟨p1,p2,p3⟩:=wS hap;have hyl:(y.bK q)=false:=by
    cases hyl:(y.bK q)with
    |false=>rfl
    |true=>
     have:=halone j hjs hji hjun (by rw[wU hy1];exact hyl);exact absurd (AF hA hcl hj his this) (pg hiun)
   have hfree':∀k ok,ops[k]?=some ok->k≠i->(listed.setIfInBounds j true).getD k true=false->(∀e∈ok.after,fD .any e=true->e.on≠i)->∃y,aops[k]?=some y/\iY x y=true:=fun k ok hk hki hun hno=>by
    refine hfree k ok hk hki ?_ hno;by_cases hjk:j=k
    ·subst hjk;exact hjun
    ·rw[lJ true hjk]at hun;exact hun
   have halone':∀k,k<ops.size->k≠i->(listed.setIfInBounds j true).getD k true=false->((aops.getD k default).bK q)=true->gD an k i=true:=fun k hk hki hun hl=>by
    refine halone k hk hki ?_ hl;by_cases hjk:j=k
    ·subst hjk;exact hjun
    ·rw[lJ true hjk]at hun;exact hun
   have hlen':past.length=gT q aops (listed.setIfInBounds j true):=by rw[wT (by rw[wU hy1];exact hyl)];exact hlen
   have hlo:=lo_le (q:=q) hA hsz hcl hj;refine⟨y,hy1,.inr ⟨hyl,?_⟩⟩;rcases H with⟨hxl,v,σ1,hy,H⟩|⟨hxl,v,hy,hpast,H⟩
   ·obtain⟨y',hy',hcase⟩:=H.2 j (iO hj hji);rw[hy1]at hy';injection hy' with hy';subst hy';rcases hcase with⟨hl,_⟩|⟨_,u,hu,hup,hcont⟩
    ·rw[hyl]at hl;cases hl
    ·have ht:(σ::past).take ((σ::past).length-gE q an aops j)=σ::past.take (past.length-gE q an aops j):=by
      rw[bo,show past.length+1-gE q an aops j=(past.length-gE q an aops j)+1 from by omega,ey]
     rw[ht]at hup;refine⟨u,(hup σ (by simp)).jz p1,fun τ hτ=>(hup τ (by simp[hτ])).jz p1,?_⟩;refine AI hA hsz hx fuel (listed.setIfInBounds j true) _ σ past hfree' halone' (hcl.set hj) hlen' (iO hr (di hji)) (.inl ⟨hxl,v,σ1,hy.put p3,?_⟩);rw[wi _ _ hji,put_comm (fun k hk e=>p2 k e hk)];exact hcont
   ·obtain⟨y',hy',hcase⟩:=H.2 j (iO hj hji);rw[hy1]at hy';injection hy' with hy';subst hy';rcases hcase with⟨hl,_⟩|⟨_,u,hu,hup,hcont⟩
    ·rw[hyl]at hl;cases hl
    ·refine⟨u,hu.jz p1,fun τ hτ=>(hup τ hτ).jz p1,?_⟩;refine AI hA hsz hx fuel (listed.setIfInBounds j true) _ σ past hfree' halone' (hcl.set hj) hlen' (iO hr (di hji)) (.inr ⟨hxl,v,hy.put p3,fun τ hτ=>(hpast τ hτ).put p3,?_⟩);rw[wi _ _ hji,put_comm (fun k hk e=>p2 k e hk)];exact hcont
theorem AJ{q:Bool}{ops:Array Oper}{an:Array Nat}{aops:Array aj}{F:Env->(H->Prop)->Prop}(hA:lU ops an=true)(hsz:aops.size=ops.size):∀(l:List Nat) (listed:Array Bool) (ρ ρ':Env) (σ σ':H->Prop) (past past':List (H->Prop)),listed.size=ops.size->nY q ops an aops l listed=true->jA ops listed->past.length=gT q aops listed->
  ng P w0 (l.map fun k=>⟨aops.getD k default,((aops.getD k default).bK q),gE q an aops k⟩) ρ σ past ρ' σ' past'->F ρ' σ'->anyS q P w0 ops an aops F l.length listed ρ σ past
 |[],listed,ρ,ρ',σ,σ',past,past',_,hB,_,_,hc,hF=>by
  cases hc;exact⟨by simpa[nY]using hB,hF⟩
 |i::l,listed,ρ,ρ',σ,σ',past,past',hls,hB,hcl,hlen,hc,hF=>by
  simp only[nY,bz]at hB;obtain⟨⟨⟨hr,hf⟩,hal⟩,hB'⟩:=hB;have hr':i∈eH .any ops listed:=by simpa using hr
  obtain⟨hiun,oi,hoi,_⟩:=kP.1 hr';have his:=(dR.1 hoi).1;have hx:aops[i]?=some (aops.getD i default):=by simp[mQ,show i<aops.size from by omega]
  have halone:∀j,j<ops.size->j≠i->listed.getD j true=false->((aops.getD j default).bK q)=true->gD an j i=true:=by
   intro j hj hne hun hl;unfold Aw at hal;rw[cL]at hal;have:=hal j (jW.2 hj);rw[hl,hun]at this;simpa[hne]using this
  refine AI hA hsz hx l.length listed ρ σ past (fun j oj hj hne hun hno=>ti hf hx hj hne hun hno) halone hcl hlen hr' ?_;simp only[cE]at hc;generalize hL:((aops.getD i default).bK q)=L at hc;cases hc with
  |bK hy hc=>
   refine .inl ⟨rfl,_,_,hy,AJ hA hsz l _ _ ρ' _ σ' _ past' (by simpa using hls) hB' (hcl.set hr') ?_ hc hF⟩;rw[Gn hL (by omega) (by omega) hiun,bo,hlen]
  |quiet hy hp hc=>
   refine .inr ⟨rfl,_,hy,hp,AJ hA hsz l _ _ ρ' _ σ' _ past' (by simpa using hls) hB' (hcl.set hr') ?_ hc hF⟩;rw[wT hL];exact hlen
theorem YG.put{l0:List aj}{S:(Nat->Bool)->H->Prop}{k:Nat}{o:aj}{d:Option Nat}{u v:V}(h:∀e,d=some e->e∉o.looks)(y:YG P w0 l0 S k o ρ v):YG P w0 l0 S k o (ρ.put d u) v:=fun L a b c=>(y L a b c).put h
theorem YG.jz{l0:List aj}{S:(Nat->Bool)->H->Prop}{k:Nat}{o:aj}{d:Option Nat}{u v:V}(h:∀e,d=some e->e∉o.looks)(y:YG P w0 l0 S k o (ρ.put d u) v):YG P w0 l0 S k o ρ v:=fun L a b c=>(y L a b c).jz h
def tj(P:Program)(w0:World)(l0:List aj)(S:(Nat->Bool)->H->Prop)(ops:Array Oper)(aops:Array aj)(F:Array Bool->Env->Prop):Nat->Array Bool->Env->Prop
 |0,listed,ρ=>eH .any ops listed=[]/\F listed ρ
 |fuel+1,listed,ρ=>(eH .any ops listed=[]->F listed ρ)/\∀i∈eH .any ops listed,∃o v,aops[i]?=some o/\YG P w0 l0 S i o ρ v/\tj P w0 l0 S ops aops F fuel (listed.setIfInBounds i true) (ρ.put o.dst v)
theorem Gp{l0:List aj}{S:(Nat->Bool)->H->Prop}{ops:Array Oper}{aops:Array aj}{F:Array Bool->Env->Prop}{i:Nat}{x:aj}{v:V}(hx:aops[i]?=some x):∀(fuel:Nat) (listed:Array Bool) (ρ:Env),
  (∀j oj,ops[j]?=some oj->j≠i->listed.getD j true=false->(∀e∈oj.after,fD .any e=true->e.on≠i)->∃y,aops[j]?=some y/\iY x y=true)->
  i∈eH .any ops listed->YG P w0 l0 S i x ρ v->tj P w0 l0 S ops aops F fuel (listed.setIfInBounds i true) (ρ.put x.dst v)->tj P w0 l0 S ops aops F (fuel+1) listed ρ
 |0,listed,ρ,_,hr,hy,H=>by
  refine⟨fun h=>(by rw[h]at hr;cases hr),fun j hj=>?_⟩;by_cases hji:j=i
  ·subst hji;exact⟨x,v,hx,hy,H⟩
  ·have:=iO hj hji;rw[H.1]at this;cases this
 |fuel+1,listed,ρ,hfree,hr,hy,H=>by
  refine⟨fun h=>(by rw[h]at hr;cases hr),fun j hj=>?_⟩;by_cases hji:j=i
  ·subst hji;exact⟨x,v,hx,hy,H⟩
  ·obtain⟨y,u,hy1,hy2,hy3⟩:=H.2 j (iO hj hji);obtain⟨hjun,oj,hoj,hall⟩:=kP.1 hj;have hnot:∀e∈oj.after,fD .any e=true->e.on≠i:=fun e he hb heq=>pg (kP.1 hr).1 (heq▸hall e he hb);obtain⟨y',hy',hap⟩:=hfree j oj hoj hji hjun hnot;rw[hy1]at hy';injection hy' with hy';subst hy';obtain⟨p1,p2,p3⟩:=wS hap;refine⟨y,u,hy1,hy2.jz p1,?_⟩;have hfree':∀k ok,ops[k]?=some ok->k≠i->(listed.setIfInBounds j true).getD k true=false->(∀e∈ok.after,fD .any e=true->e.on≠i)->∃y,aops[k]?=some y/\iY x y=true:=fun k ok hk hki hun hno=>by
    refine hfree k ok hk hki ?_ hno;by_cases hjk:j=k
    ·subst hjk;exact hjun
    ·rw[lJ true hjk]at hun;exact hun
   refine Gp hx fuel (listed.setIfInBounds j true) _ hfree' (iO hr (di hji)) (hy.put p3) ?_;rw[wi _ _ hji,put_comm (fun k hk e=>p2 k e hk)];exact hy3
theorem Gq{l0:List aj}{S:(Nat->Bool)->H->Prop}{ops:Array Oper}{aops:Array aj}{F:Array Bool->Env->Prop}:∀(l:List aj) (k:Nat) (listed:Array Bool) (ρ ρ':Env),(∀j,l[j]?=aops[k+j]?)->listed.size=aops.size->(∀j,j<k->listed.getD j false=true)->k+l.length=aops.size->kY ops aops l.length k listed=true->oa P w0 l0 S k l ρ ρ'->(∀listed':Array Bool,(∀j,j<aops.size->listed'.getD j false=true)->F listed' ρ')->
  tj P w0 l0 S ops aops F l.length listed ρ
 |[],k,listed,ρ,ρ',_,_,hd,hk,hB,hc,hF=>by
  cases hc;exact⟨by simpa[kY]using hB,hF listed fun j hj=>hd j (by simp at hk;omega)⟩
 |o::l,k,listed,ρ,ρ',hl,hls,hd,hk,hB,hc,hF=>by
  have h0:aops[k]?=some o:=by simpa using(hl 0).symm
  simp only[bo,kY,bz]at hB;obtain⟨⟨hr,hf⟩,hB'⟩:=hB;cases hc with
  |cons hy hc=>
   refine Gp h0 l.length listed ρ (fun j oj hj hne hun hno=>ti hf h0 hj hne hun hno) (by simpa using hr) hy
    (Gq l (k+1) _ _ ρ' (fun j=>by have:=hl (j+1);simpa[jk,Nat.add_comm 1 j]using this) (by simpa using hls) (fun j hj=>?_) (by simp at hk;omega) hB' hc hF)
   by_cases hjk:k=j
   ·subst hjk;have:k<listed.size:=by simp at hk;omega
    simp[ik,this]
   ·rw[lJ false hjk];exact hd j (by omega)
theorem Gr{ops:Array Oper}{aops:Array aj}(hsz:aops.size=ops.size):∀(fuel k:Nat) (listed:Array Bool),kY ops aops fuel k listed=true->(∀i,k<=i->i<ops.size->listed.getD i true=false)->fuel+k=ops.size->∀j i,k<=j->j<i->∀o,ops[i]?=some o->
  iY (aops.getD j default) (aops.getD i default)=true\/∃e∈o.after,fD .any e=true/\e.on=j
 |0,k,listed,_,_,hk,j,i,h1,h2,o,ho=>by
  have:=(dR.1 ho).1;omega
 |fuel+1,k,listed,hB,hun,hk,j,i,h1,h2,o,ho=>by
  have hi:=(dR.1 ho).1;simp only[kY,bz]at hB;obtain⟨⟨hr,hf⟩,hB'⟩:=hB;by_cases hjk:j=k
  ·subst hjk;by_cases hE:∃e∈o.after,fD .any e=true/\e.on=j
   ·exact .inr hE
   ·have hx:aops[j]?=some (aops.getD j default):=by simp[mQ,show j<aops.size from by omega]
    have hy:aops[i]?=some (aops.getD i default):=by simp[mQ,show i<aops.size from by omega]
    obtain⟨y,hy',hap⟩:=ti hf hx ho (by omega) (hun i (by omega) hi) (fun e he hb heq=>hE ⟨e,he,hb,heq⟩);rw[hy]at hy';injection hy' with hy';rw[hy'];exact .inl hap
  ·refine Gr hsz fuel (k+1) _ hB' (fun i' h3 h4=>?_) (by omega) j i (by omega) h2 o ho;rw[lJ true (by omega)];exact hun i' (by omega) h4
end
section
variable {P:Program} {w0 w w':World} {κ κ0:K} {σ σ':H} {a:Act} {ρ ρ':Env} {n n0:Nat} {Q:St->Prop} {s:St}
theorem AK{F:ai->bh}{x:Operand}{f:ai}{as:List ai}(hF:∀y,F y≠ .call f as)(h:du F x=some (.call f as)):False:=by
 obtain⟨y,_,e⟩:=eA h;exact hF y e.symm
theorem AL{F:ai->ai->bh}{x x':Operand}{f:ai}{as:List ai}(hF:∀y z,F y z≠ .call f as)(h:dY F x x'=some (.call f as)):False:=by
 obtain⟨y,z,_,_,e⟩:=ix h;exact hF y z e.symm
theorem PM{b:Builtin}{args:List Operand}{ats:List TypeId}{f:ai}{as:List ai}(h:lT P b args ats=some (.call f as)):False:=by
 unfold lT at h
 repeat' split at h
 all_goals first
  |(cases h;done)
  |exact AK (by intro y e;cases e) h
  |exact AL (by intro y z e;cases e) h
theorem PN{op:Op}{f:ai}{as:List ai}(h:be P op=some (.call f as)):∃f' args ats,op= .call {callee:=.value f',args,argTypes:=ats}/\bF f'=some f/\args.toList.mapM bF=some as:=by
 cases op with
 |call c=>
  obtain⟨callee,args,ats⟩:=c;cases callee with
  |value f'=>
   simp only[be]at h;split at h
   ·rename_i h1 h2;injection h with h;injection h with e1 e2;subst e1 e2;exact⟨f',args,ats,rfl,h1,h2⟩
   ·cases h
  |builtin b=>exact absurd h (fun h=>PM h)
  |invoke r m=>cases h
 |binOp op t x y t'=>
  exfalso;simp only[be,nW,sV]at h
  repeat' split at h
  all_goals first
   |(cases h;done)
   |exact AK (by intro y e;cases e) h
   |exact AL (by intro y z e;cases e) h
 |makeFunc fn first caps=>
  exfalso;obtain⟨first⟩:=first
  cases fn with
  |func g=>
   cases first with
   |nil=>
    simp only[be]at h;split at h
    ·injection h with h;cases h
    ·cases h
   |cons x l=>simp[be]at h
  |_=>simp[be]at h
 |makeSlice t l c=>
  obtain⟨_,_,_,_,e⟩:=Af (show jv P t l c=_ from h);cases e
 |_=>
  exfalso;simp only[be]at h
  repeat' split at h
  all_goals first
   |(cases h;done)
   |exact AK (by intro y e;cases e) h
   |exact AL (by intro y z e;cases e) h
theorem Fits.append{l r:List V}{xs ys:List Value}(h:Fits κ l xs)(k:Fits κ r ys):Fits κ (l++r) (xs++ys):=by
 refine⟨by rw[bt,bt,h.1,k.1],fun j hj=>?_⟩;rw[cc];by_cases hjl:j<l.length
 ·have:=h.2 j hjl;rw[cc]at this;rw[cF (by rw[h.1];exact hjl)];simpa[hjl]using this
 ·have hr:j-l.length<r.length:=by simp at hj;omega
  have:=k.2 (j-l.length) hr;rw[cc]at this;rw[cY (by rw[h.1];omega),h.1];simpa[dJ (show l.length<=j by omega)]using this
theorem Fits.args(he:b8 κ ρ a){xs:List Operand}{as:List ai}(h:xs.mapM bF=some as):Fits κ (as.map (·.ev ρ)) (xs.map a.eval):=by
 obtain⟨h1,h2⟩:=mapM_some h;refine⟨by simp[h1],fun j hj=>?_⟩;have hj1:j<as.length:=by simpa using hj
 have hj2:j<xs.length:=by omega
 rw[gQ (by simpa using hj2),dE,dE];exact bO he (h2 j hj2 hj1)
theorem RV.PO{f:FuncId}{caps:List V}{v:Value}(r:RV κ (.fn f caps) v):∃vs:List Value,v= .func (.func f) #[] vs.toArray/\Fits κ caps vs:=by
 cases r with|fn h h1=>exact⟨_,rfl,h,h1⟩
theorem tk{o:Oper}{f:ai}{as:List ai}{fid:FuncId}{caps:List V}(ag:be P o.op=some (.call f as))(hf:f.ev ρ= .fn fid caps)(he:b8 κ ρ a)(hen:Enters P fid):
  ∃vs:List Value,(execOp a.eval o).run P w= .ok (.enter fid vs.toArray) w/\Fits κ (as.map (·.ev ρ)++caps) vs:=by
 obtain⟨f',args,ats,ho,hx,hargs⟩:=PN ag;have hr:=bO he hx;rw[hf]at hr;obtain⟨cs,hv,hcs⟩:=hr.PO;refine⟨args.toList.map a.eval++cs,?_,(Fits.args he hargs).append hcs⟩;have e:(args.toList.map a.eval++cs).toArray=args.map a.eval++cs.toArray:=by apply nM;simp
 rw[e];have:=hen (args.map a.eval++cs.toArray) w;simp only[execOp,ho,resolve,hv,Deferred.ofValue,jj,jT,jU,invoke];rw[show(#[]:Array Value)++Array.map a.eval args=Array.map a.eval args from by simp];exact this
theorem fu{ops:Array Oper}{o:Oper}{g':Option (Nat×Bool)}{b:Bool}(hg:wP ops n o.guard=some g')(hw:bU ρ g'=some b)(he:b8 κ ρ a)(hs:a.tmps.size=n):Region.wanted o (yielded ops a.tmps)=b:=by
 unfold wP at hg;unfold Region.wanted;cases ho:o.guard with
 |none=>
  rw[ho]at hg;injection hg with hg;subst hg;simp only[bU]at hw;injection hw
 |some p=>
  obtain⟨j,want⟩:=p;rw[ho]at hg;simp only at hg;split at hg
  ·rename_i d hd;split at hg
   ·rename_i hlt;injection hg with hg;subst hg;have hr:=he d;have bY:a.tmps[d]?=some (a.tmps.getD d undef):=by
     have:d<a.tmps.size:=by rw[hs];assumption
     simp[this,mQ]
    simp only[bU]at hw;simp only[yielded,hd,Option.bind_some,bY];split at hw
    ·rename_i c hc;injection hw with hw;rw[hc]at hr;rw[hr.qR,<-hw];cases c<;>cases want<;>rfl
    ·rename_i hc;injection hw with hw;rw[hc]at hr;generalize a.tmps.getD d undef=u at hr;cases hr;rw[<-hw];rfl
    ·cases hw
   ·cases hg
  ·cases hg
theorem Rel.put(h:Rel w0 κ0 n κ ⟨ρ,σ⟩ a w){d:Option Nat}{v:V}{v':Value}(hd:tb n d=true)(hr:RV κ v v'):Rel w0 κ0 n κ ⟨ρ.put d v,σ⟩ (a.put d v') w:=by
 cases d with
 |none=>exact h
 |some d=>
  have hd':d<n:=by simpa[tb]using hd
  refine⟨h.cZ,fun k=>?_,by simpa[Act.put]using h.size,h.defers,h.le⟩;simp only[Env.put,Act.put];by_cases hk:k=d
  ·subst hk;rw[if_pos rfl];have:k<a.tmps.size:=by rw[h.size];exact hd'
   simpa[mQ,this]using hr
  ·rw[if_neg hk];have:=h.env k;simpa[ik,Array.getElem?_setIfInBounds_ne (di hk)]using this
theorem Rel.next(h:Rel w0 κ0 n κ ⟨ρ,σ⟩ a w){κ':K}{d:Option Nat}{v:V}{v':Value}(hd:tb n d=true)(hle:κ.le κ')(hrep:aB w0 κ' σ' w')(hr:RV κ' v v'):Rel w0 κ0 n κ' ⟨ρ.put d v,σ'⟩ (a.put d v') w':=by
 have:Rel w0 κ0 n κ' ⟨ρ,σ'⟩ a w':=⟨hrep,h.env.mono hle,h.size,h.defers,K.le_trans h.le hle⟩;exact this.put hd hr
def wV(P:Program)(w0:World)(n0:Nat)(Q:St->Prop)(κ0:K)(n:Nat)(k:List It):Exit->Act->World->Prop:=fun e a w=>
 ∃s κ,Rel w0 κ0 n κ s a w/\(match e with
  | .normal=>W P w0 n0 Q k s
  | .exit id=>∃k',iA id k=some k'/\W P w0 n0 Q k' s
  | .ret=>Q s
  |_=>False)
theorem tl{ops:Array Oper}{o:Oper}{x:aj}(h:tc P n ops o=some x):∃i g,(i= .bad\/be P o.op=some i)/\wP ops n o.guard=some g/\tb n o.dst=true/\x=⟨o.dst,i,g⟩:=by
 unfold tc at h;split at h
 ·rename_i g hg;split at h
  ·rename_i hd;injection h with h;refine⟨_,g,?_,hg,hd,h.symm⟩;cases hi:be P o.op with
   |none=>exact .inl rfl
   |some i=>exact .inr rfl
  ·cases h
 ·cases h
theorem PQ{op:Op}{neg:Bool}{x:ai}(h:be P op=some (.iw neg x)):∃t x' e t' y,op= .binOp (if neg then .neq else .eql) t x' y t'/\P.underlying t=some (.slice e)/\Ae y=true/\bF x'=some x:=by
 cases op with
 |binOp op t x' y t'=>
  simp only[be]at h;split at h
  case h_7 e hu=>
   split at h
   ·rename_i hy;unfold sV at h;split at h
    ·obtain⟨z,hz,hh⟩:=eA h;injection hh with h1 h2;subst h1 h2;exact⟨t,x',e,t',y,rfl,hu,hy,hz⟩
    ·obtain⟨z,hz,hh⟩:=eA h;injection hh with h1 h2;subst h1 h2;exact⟨t,x',e,t',y,rfl,hu,hy,hz⟩
    ·cases h
   ·cases h
  all_goals exfalso
  all_goals (try simp only[nW,du,dY]at h)
  all_goals repeat' split at h
  all_goals first|(cases h;done)|(injection h with h;cases h;done)
 |call c=>
  exfalso;obtain⟨callee,args,ats⟩:=c;cases callee with
  |value f'=>
   simp only[be]at h;split at h
   ·injection h with h;cases h
   ·cases h
  |builtin b=>
   simp only[be,lT,du,dY]at h
   repeat' split at h
   all_goals first|(cases h;done)|(injection h with h;cases h;done)
  |invoke r m=>cases h
 |makeFunc fn first caps=>
  exfalso;obtain⟨first⟩:=first
  cases fn with
  |func g=>
   cases first with
   |nil=>
    simp only[be]at h;split at h
    ·injection h with h;cases h
    ·cases h
   |cons x l=>simp[be]at h
  |_=>simp[be]at h
 |makeSlice t l c=>
  obtain⟨_,_,_,_,e⟩:=Af (show jv P t l c=_ from h);cases e
 |_=>
  exfalso;simp only[be,du,dY]at h
  repeat' split at h
  all_goals first|(cases h;done)|(injection h with h;cases h;done)
theorem PR{o:Oper}{neg:Bool}{x:ai}{r:List (List C)}(ag:be P o.op=some (.iw neg x))(hx:(x.ev ρ).rows=some r)(he:b8 κ ρ a):
  ∃b:Bool,(b=true->r=[])/\(execOp a.eval o).run P w= .ok (.value (.bool (if neg then !b else b))) w:=by
 obtain⟨t,x',e,t',y,ho,hu,hy,hx'⟩:=PQ ag;have hr:=(bO he hx').kX hx;obtain⟨s,A,cap,xs,hv,h0,h1,h2,h3,h4,h5⟩:=hr.ke;have hyv:y= .const (.slice none 0 0):=by
  unfold Ae at hy;split at hy
  ·rfl
  ·cases hy
 subst hyv;refine⟨A.isNone,fun hb=>?_,?_⟩
 ·cases hrr:r with
  |nil=>rfl
  |cons q l=>
   obtain⟨b,p,hA,_⟩:=h4 (by rw[hrr];simp);rw[hA]at hb;cases hb
 ·refine pb ho rfl hv (v:=.slice none 0 0) rfl ?_ ?_ (fun op=>⟨fun h=>by subst h;rfl,fun h=>by subst h;rfl⟩)
  ·unfold eqGuard;split<;>simp
  ·have:∀d,(gx (d+1) t (.slice A r.length cap) (.slice none 0 0)).run P w= .ok A.isNone w:=fun d=>by
    cases A with
    |none=>simp[gx,cr hu]
    |some p=>simp[gx,cr hu]
   exact this 9999
theorem wW{op:Op}{e size bytes:Nat}{x y:ai}(h:be P op=some (.app e size bytes x y)):∃t x' y' i z,op= .call {callee:=.builtin .append,args:=#[x',y'],argTypes:=#[t,t]}/\P.underlying t=some (.slice e)/\P.info? e=some i/\i.zero=some z/\z.cells.size=i.size/\size=i.size/\bytes=i.bytes/\bF x'=some x/\bF y'=some y:=by
 cases op with
 |binOp op t x' y t'=>
  exfalso;simp only[be]at h
  repeat' split at h
  all_goals (try simp only[nW,sV,du,dY]at h)
  all_goals repeat' split at h
  all_goals first|(cases h;done)|(injection h with h;cases h;done)
 |call c=>
  obtain⟨callee,args,ats⟩:=c;cases callee with
  |value f'=>
   exfalso;simp only[be]at h;split at h
   ·injection h with h;cases h
   ·cases h
  |builtin b=>
   simp only[be]at h;unfold lT at h;split at h
   case h_2 x0 y0 t t' h1 h2=>
    split at h
    ·rename_i htt;subst htt;split at h
     ·rename_i e' hu;split at h
      ·rename_i i hi;split at h
       ·rename_i z hz;split at h
        ·rename_i hs;unfold dY at h;split at h
         ·rename_i a b hx hy;injection h with h;injection h with e1 e2 e3 e4 e5;subst e1 e2 e3 e4 e5;have ha:args=#[x0,y0]:=by apply nM;exact h1
          have hb:ats=#[t,t]:=by apply nM;exact h2
          subst ha hb;exact⟨t,x0,y0,i,z,rfl,hu,hi,hz,hs.1,rfl,rfl,hx,hy⟩
         ·cases h
        ·cases h
       ·cases h
      ·cases h
     ·cases h
    ·exfalso;unfold dY at h
     repeat' split at h
     all_goals first|(cases h;done)|(injection h with h;cases h;done)
   all_goals exfalso
   all_goals (try simp only[du,dY]at h)
   all_goals repeat' split at h
   all_goals first|(cases h;done)|(injection h with h;cases h;done)
  |invoke r m=>cases h
 |makeFunc fn first caps=>
  exfalso;obtain⟨first⟩:=first
  cases fn with
  |func g=>
   cases first with
   |nil=>
    simp only[be]at h;split at h
    ·injection h with h;cases h
    ·cases h
   |cons x l=>simp[be]at h
  |_=>simp[be]at h
 |makeSlice t l c=>
  obtain⟨_,_,_,_,e⟩:=Af (show jv P t l c=_ from h);cases e
 |_=>
  exfalso;simp only[be,du,dY]at h
  repeat' split at h
  all_goals first|(cases h;done)|(injection h with h;cases h;done)
theorem Gs{ops:Array Oper}{o:Oper}{l:List Oper}{r:List aj}(h:iZ P n ops (o::l)=some r):∃x r',tc P n ops o=some x/\iZ P n ops l=some r'/\r=x::r':=by
 simp only[iZ]at h;split at h
 ·rename_i x r' hx hr;injection h with h;exact⟨x,r',hx,hr,h.symm⟩
 ·cases h
theorem qV(hn:κ0.n=n0){ops:Array Oper}{k:List It}:∀(l:List Oper) (r:List aj),iZ P n ops l=some r->∀{s:St} {κ:K} {a:Act} {w:World},W P w0 n0 Q (.ops r::k) s->Rel w0 κ0 n κ s a w->
  wpList P ops (wV P w0 n0 Q κ0 n k) l a w
 |[],r,h,s,κ,a,w,hW,hR=>by
  simp only[iZ]at h;injection h with h;subst h;obtain⟨t,hl,hW'⟩:=hW.PK;obtain⟨κ',hR'⟩:=hl w0 κ0 n κ a w hn hR;exact⟨t,κ',hR',hW'⟩
 |o::l,r,h,s,κ,a,w,hW,hR=>by
  obtain⟨x,r',hx,hr,rfl⟩:=Gs h;obtain⟨i,g,hi,hg,hd,rfl⟩:=tl hx;obtain⟨t,hl,hinv⟩:=hW.PJ;obtain⟨κ1,hR1⟩:=hl w0 κ0 n κ a w hn hR;obtain⟨ρ,σ⟩:=t;unfold wpList;cases hinv with
  |skip hg' h'=>
   have hw:=fu (o:=o) hg hg' hR1.env hR1.size;rw[hw];simp only[e9,if_false];exact qV hn l r' hr h' (hR1.put hd .void)
  |step hg' hs h'=>
   have hw:=fu (o:=o) hg hg' hR1.env hR1.size;rw[hw];simp only[if_true];refine .inl ?_;have hi:be P o.op=some i:=hi.resolve_left (fun e=>by rw[e]at hs;cases hs);obtain⟨κ',v',w',hrun,hle,hrep,hv⟩:=s9 hi hs hR1.cZ hR1.env;have hnext:=qV hn l r' hr h' (hR1.next hd hle hrep hv);unfold iP;rcases hrun with hrun|⟨hrun,rfl⟩
   ·rw[hrun];exact hnext
   ·rw[hrun];exact hnext
  |call hg' hi' hf hc h'=>
   have hw:=fu (o:=o) hg hg' hR1.env hR1.size;rw[hw];simp only[if_true];refine .inl ?_
   try simp only at hi'
   have hi:be P o.op=some i:=hi.resolve_left (fun e=>by rw[e]at hi';cases hi');subst hi';obtain⟨vs,hrun,hfit⟩:=tk (w:=w) hi hf hR1.env hc.enters;unfold iP;rw[hrun];refine(hc.run κ1 w vs hR1.cZ hfit).mono ?_;rintro e w' ⟨v,d,σ',κ',rfl,hRd,hle,hrep,hv⟩;exact qV hn l r' hr (h' d σ' hRd) (hR1.next hd hle hrep hv)
  |fork hg' hi' hx' h'=>
   have hw:=fu (o:=o) hg hg' hR1.env hR1.size;rw[hw];simp only[if_true];refine .inl ?_
   try simp only at hi'
   have hi:be P o.op=some i:=hi.resolve_left (fun e=>by rw[e]at hi';cases hi');subst hi';obtain⟨b,hb,hrun⟩:=PR (w:=w) hi hx' hR1.env;unfold iP;rw[hrun];exact qV hn l r' hr (h' b hb) (hR1.put hd (.c (.bool _)))
  |vec hg' hi' hx' hy' hc' h'=>
   have hw:=fu (o:=o) hg hg' hR1.env hR1.size;rw[hw];simp only[if_true];refine .inl ?_
   try simp only at hi'
   have hi:be P o.op=some i:=hi.resolve_left (fun e=>by rw[e]at hi';cases hi');subst hi';obtain⟨t,x1,y1,inf,z,q1,q2,q3,q4,q5,q6,q7,q8,q9⟩:=wW hi;subst q6 q7;obtain⟨κ',v',w',hrun,hle,hrep,hv⟩:=wM (w:=w) q1 q2 q3 q4 q5 q8 q9 hx' hy' hc'.1 hc'.2.1 hc'.2.2.1 hc'.2.2.2.1 hc'.2.2.2.2 hR1.cZ hR1.env;have hnext:=qV hn l r' hr h' (hR1.next hd hle hrep hv);unfold iP;rcases hrun with hrun|⟨hrun,rfl⟩
   ·rw[hrun];exact hnext
   ·rw[hrun];exact hnext
theorem oc{ops:Array Oper}:∀{l:List Oper} {r:List aj},iZ P n ops l=some r->∀i:Nat,(∀x:aj,r[i]?=some x->∃o,l[i]?=some o/\tc P n ops o=some x)/\r.length=l.length
 |[],r,h,i=>by simp only[iZ]at h;injection h with h;subst h;exact⟨fun x hx=>by simp at hx,rfl⟩
 |o::l,r,h,i=>by
  obtain⟨x,r',hx,hr,rfl⟩:=Gs h;have ih:=oc hr;refine⟨fun y hy=>?_,by simp[(ih 0).2]⟩;cases i with
  |zero=>simp at hy;subst hy;exact⟨o,rfl,hx⟩
  |succ i=>simp at hy;simpa using(ih i).1 y hy
theorem wX{ops:Array Oper}{aops:List aj}{F:Env->Prop}{Qc:Exit->Act->World->Prop}(ag:iZ P n ops ops.toList=some aops)
  (hF:∀ρ κ a w,F ρ->Rel w0 κ0 n κ ⟨ρ,σ⟩ a w->Qc .normal a w):∀(fuel:Nat) (listed:Array Bool) (ρ:Env) (κ:K) (a:Act) (w:World),Rel w0 κ0 n κ ⟨ρ,σ⟩ a w->th P w0 σ ops aops.toArray F fuel listed ρ->
  wpAny P .any ops Qc fuel listed a w
 |0,listed,ρ,κ,a,w,hR,h=>⟨h.1,hF ρ κ a w h.2 hR⟩
 |fuel+1,listed,ρ,κ,a,w,hR,h=>by
  refine⟨fun h0=>hF ρ κ a w (h.1 h0) hR,fun i hi=>?_⟩;obtain⟨x,v,hx,hy,hnext⟩:=h.2 i hi;obtain⟨o,ho,htro⟩:=(oc ag i).1 x (by simpa using hx);have ho':ops[i]?=some o:=by simpa using ho
  obtain⟨ins,g,hins,hg,hd,rfl⟩:=tl htro;unfold wpOp;simp only[ho'];cases hy with
  |skip hg'=>
   have hw:=fu (o:=o) hg hg' hR.env hR.size;rw[hw];simp only[e9,if_false];exact wX ag hF fuel _ _ κ _ w (hR.put hd .void) hnext
  |step hg' hs=>
   have hw:=fu (o:=o) hg hg' hR.env hR.size;rw[hw];simp only[if_true];refine .inl ?_;have hins:be P o.op=some ins:=hins.resolve_left (fun e=>by rw[e]at hs;cases hs);obtain⟨κ',v',w',hrun,hle,hrep,hv⟩:=s9 hins hs hR.cZ hR.env;have:=wX ag hF fuel _ _ κ' _ w' (hR.next hd hle hrep hv) hnext;unfold iP;rcases hrun with hrun|⟨hrun,rfl⟩
   ·rw[hrun];exact this
   ·rw[hrun];exact this
  |call hg' hi' hf hc=>
   have hw:=fu (o:=o) hg hg' hR.env hR.size;rw[hw];simp only[if_true];refine .inl ?_
   try simp only at hi'
   have hins:be P o.op=some ins:=hins.resolve_left (fun e=>by rw[e]at hi';cases hi');subst hi';obtain⟨vs,hrun,hfit⟩:=tk (w:=w) hins hf hR.env hc.enters;unfold iP;rw[hrun];refine(hc.run κ w vs hR.cZ hfit).mono ?_;rintro e w' ⟨v',d,σ',κ',rfl,⟨hd1,hs1⟩,hle,hrep,hv⟩;have hs1:=hs1.symm;subst hs1;subst hd1;exact wX ag hF fuel _ _ κ' _ w' (hR.next hd hle hrep hv) hnext
theorem tm{q:Bool}{ops:Array Oper}{an:Array Nat}{aops:List aj}{F:Env->H->Prop}{Qc:Exit->Act->World->Prop}(ag:iZ P n ops ops.toList=some aops)
  (hF:∀ρ σ κ a w,F ρ σ->Rel w0 κ0 n κ ⟨ρ,σ⟩ a w->Qc .normal a w):∀(fuel:Nat) (listed:Array Bool) (ρ:Env) (σ:H) (past:List H) (κ:K) (a:Act) (w:World),Rel w0 κ0 n κ ⟨ρ,σ⟩ a w->ob q P w0 ops an aops.toArray F fuel listed ρ σ past->
  wpAny P .any ops Qc fuel listed a w
 |0,listed,ρ,σ,past,κ,a,w,hR,h=>⟨h.1,hF ρ σ κ a w h.2 hR⟩
 |fuel+1,listed,ρ,σ,past,κ,a,w,hR,h=>by
  refine⟨fun h0=>hF ρ σ κ a w (h.1 h0) hR,fun i hi=>?_⟩;obtain⟨x,hx,hcase⟩:=h.2 i hi;have hcase:∃v σ1 past1,fc P w0 σ x ρ v σ1/\ob q P w0 ops an aops.toArray F fuel (listed.setIfInBounds i true) (ρ.put x.dst v) σ1 past1:=by
   rcases hcase with⟨_,v,σ1,hy,hn⟩|⟨_,v,hy,_,hn⟩
   ·exact⟨v,σ1,_,hy,hn⟩
   ·refine⟨v,σ,_,?_,hn⟩;cases hy with
    |skip hg=>exact .skip hg
    |step hg hs=>exact .step hg hs
    |call hg hi hf hc=>exact .call hg hi hf hc
  obtain⟨v,σ1,past1,hy,hnext⟩:=hcase;obtain⟨o,ho,htro⟩:=(oc ag i).1 x (by simpa using hx);have ho':ops[i]?=some o:=by simpa using ho
  obtain⟨ins,g,hins,hg,hd,rfl⟩:=tl htro;unfold wpOp;simp only[ho'];cases hy with
  |skip hg'=>
   have hw:=fu (o:=o) hg hg' hR.env hR.size;rw[hw];simp only[e9,if_false];exact tm ag hF fuel _ _ _ _ κ _ w (hR.put hd .void) hnext
  |step hg' hs=>
   have hw:=fu (o:=o) hg hg' hR.env hR.size;rw[hw];simp only[if_true];refine .inl ?_;have hins:be P o.op=some ins:=hins.resolve_left (fun e=>by rw[e]at hs;cases hs);obtain⟨κ',v',w',hrun,hle,hrep,hv⟩:=s9 hins hs hR.cZ hR.env;have:=tm ag hF fuel _ _ _ _ κ' _ w' (hR.next hd hle hrep hv) hnext;unfold iP;rcases hrun with hrun|⟨hrun,rfl⟩
   ·rw[hrun];exact this
   ·rw[hrun];exact this
  |call hg' hi' hf hc=>
   have hw:=fu (o:=o) hg hg' hR.env hR.size;rw[hw];simp only[if_true];refine .inl ?_
   try simp only at hi'
   have hins:be P o.op=some ins:=hins.resolve_left (fun e=>by rw[e]at hi';cases hi');subst hi';obtain⟨vs,hrun,hfit⟩:=tk (w:=w) hins hf hR.env hc.enters;unfold iP;rw[hrun];refine(hc.run κ w vs hR.cZ hfit).mono ?_;rintro e w' ⟨v',d,σ',κ',rfl,⟨hd1,hs1⟩,hle,hrep,hv⟩;subst hs1;subst hd1;exact tm ag hF fuel _ _ _ _ κ' _ w' (hR.next hd hle hrep hv) hnext
  |vec hg' hi' hx' hy' hc'=>
   have hw:=fu (o:=o) hg hg' hR.env hR.size;rw[hw];simp only[if_true];refine .inl ?_
   try simp only at hi'
   have hi:be P o.op=some ins:=hins.resolve_left (fun e=>by rw[e]at hi';cases hi');subst hi';obtain⟨t,x1,y1,inf,z,q1,q2,q3,q4,q5,q6,q7,q8,q9⟩:=wW hi;subst q6 q7;obtain⟨κ',v',w',hrun,hle,hrep,hv⟩:=wM (w:=w) q1 q2 q3 q4 q5 q8 q9 hx' hy' hc'.1 hc'.2.1 hc'.2.2.1 hc'.2.2.2.1 hc'.2.2.2.2 hR.cZ hR.env;have hnext:=tm ag hF fuel _ _ _ _ κ' _ w' (hR.next hd hle hrep hv) hnext;unfold iP;rcases hrun with hrun|⟨hrun,rfl⟩
   ·rw[hrun];exact hnext
   ·rw[hrun];exact hnext
theorem tn{q:Bool}{ops:Array Oper}{an:Array Nat}{aops:List aj}{F:Env->(H->Prop)->Prop}{Qc:Exit->Act->World->Prop}(ag:iZ P n ops ops.toList=some aops)
  (hF:∀ρ S σ κ a w,F ρ S->S σ->Rel w0 κ0 n κ ⟨ρ,σ⟩ a w->Qc .normal a w):∀(fuel:Nat) (listed:Array Bool) (ρ:Env) (S:H->Prop) (σ:H) (past:List (H->Prop)) (κ:K) (a:Act) (w:World),S σ->Rel w0 κ0 n κ ⟨ρ,σ⟩ a w->anyS q P w0 ops an aops.toArray F fuel listed ρ S past->
  wpAny P .any ops Qc fuel listed a w
 |0,listed,ρ,S,σ,past,κ,a,w,hσ,hR,h=>⟨h.1,hF ρ S σ κ a w h.2 hσ hR⟩
 |fuel+1,listed,ρ,S,σ,past,κ,a,w,hσ,hR,h=>by
  refine⟨fun h0=>hF ρ S σ κ a w (h.1 h0) hσ hR,fun i hi=>?_⟩;obtain⟨x,hx,hcase⟩:=h.2 i hi;have hcase:∃v S1 past1,dG P w0 S S1 x ρ v/\anyS q P w0 ops an aops.toArray F fuel (listed.setIfInBounds i true) (ρ.put x.dst v) S1 past1:=by
   rcases hcase with⟨_,v,S1,hy,hn⟩|⟨_,v,hy,_,hn⟩
   ·exact⟨v,S1,_,hy,hn⟩
   ·exact⟨v,S,_,hy,hn⟩
  obtain⟨v,S1,past1,hy,hnext⟩:=hcase;obtain⟨o,ho,htro⟩:=(oc ag i).1 x (by simpa using hx);have ho':ops[i]?=some o:=by simpa using ho
  obtain⟨ins,g,hins,hg,hd,rfl⟩:=tl htro;unfold wpOp;simp only[ho'];cases hy with
  |skip hg' hS=>
   have hw:=fu (o:=o) hg hg' hR.env hR.size;rw[hw];simp only[e9,if_false];exact tn ag hF fuel _ _ _ _ _ κ _ w (hS σ hσ) (hR.put hd .void) hnext
  |step hg' hs=>
   have hw:=fu (o:=o) hg hg' hR.env hR.size;rw[hw];simp only[if_true];refine .inl ?_;obtain⟨σ',hs,hσ'⟩:=hs σ hσ;have hins:be P o.op=some ins:=hins.resolve_left (fun e=>by rw[e]at hs;cases hs);obtain⟨κ',v',w',hrun,hle,hrep,hv⟩:=s9 hins hs hR.cZ hR.env;have:=tn ag hF fuel _ _ _ _ _ κ' _ w' hσ' (hR.next hd hle hrep hv) hnext;unfold iP;rcases hrun with hrun|⟨hrun,rfl⟩
   ·rw[hrun];exact this
   ·rw[hrun];exact this
  |call hg' hi' hf hc=>
   have hw:=fu (o:=o) hg hg' hR.env hR.size;rw[hw];simp only[if_true];refine .inl ?_
   try simp only at hi'
   have hins:be P o.op=some ins:=hins.resolve_left (fun e=>by rw[e]at hi';cases hi');subst hi';have hc:=hc σ hσ;obtain⟨vs,hrun,hfit⟩:=tk (w:=w) hins hf hR.env hc.enters;unfold iP;rw[hrun];refine(hc.run κ w vs hR.cZ hfit).mono ?_;rintro e w' ⟨v',d,σ',κ',rfl,⟨hd1,hs1⟩,hle,hrep,hv⟩;subst hd1;exact tn ag hF fuel _ _ _ _ _ κ' _ w' hs1 (hR.next hd hle hrep hv) hnext
  |vec hg' hi' hx' hy' hc' hs'=>
   have hw:=fu (o:=o) hg hg' hR.env hR.size;rw[hw];simp only[if_true];refine .inl ?_
   try simp only at hi'
   have hi:be P o.op=some ins:=hins.resolve_left (fun e=>by rw[e]at hi';cases hi');subst hi';obtain⟨t,x1,y1,inf,z,q1,q2,q3,q4,q5,q6,q7,q8,q9⟩:=wW hi;subst q6 q7;obtain⟨hN,hσ'⟩:=hs' σ hσ;subst hN;obtain⟨κ',v',w',hrun,hle,hrep,hv⟩:=wM (w:=w) q1 q2 q3 q4 q5 q8 q9 hx' hy' hc'.1 hc'.2.1 hc'.2.2.1 hc'.2.2.2.1 hc'.2.2.2.2 hR.cZ hR.env;have hnext:=tn ag hF fuel _ _ _ _ _ κ' _ w' hσ' (hR.next hd hle hrep hv) hnext;unfold iP;rcases hrun with hrun|⟨hrun,rfl⟩
   ·rw[hrun];exact hnext
   ·rw[hrun];exact hnext
abbrev kZ(listed:Array Bool):Nat->Bool:=fun j=>listed.getD j false
theorem tq{ops:Array Oper}{aops:List aj}{S:(Nat->Bool)->H->Prop}{F:Array Bool->Env->Prop}{Qc:Exit->Act->World->Prop}(ag:iZ P n ops ops.toList=some aops)
  (hE:∀i o,ops[i]?=some o->∀j∈pe aops i,∃e∈o.after,fD .any e=true/\e.on=j)
  (hF:∀listed ρ σ κ a w,F listed ρ->S (kZ listed) σ->Rel w0 κ0 n κ ⟨ρ,σ⟩ a w->Qc .normal a w):∀(fuel:Nat) (listed:Array Bool) (ρ:Env) (σ:H) (κ:K) (a:Act) (w:World),listed.size=ops.size->jA ops listed->S (kZ listed) σ->Rel w0 κ0 n κ ⟨ρ,σ⟩ a w->tj P w0 aops S ops aops.toArray F fuel listed ρ->
  wpAny P .any ops Qc fuel listed a w
 |0,listed,ρ,σ,κ,a,w,_,_,hσ,hR,h=>⟨h.1,hF listed ρ σ κ a w h.2 hσ hR⟩
 |fuel+1,listed,ρ,σ,κ,a,w,hls,hcl,hσ,hR,h=>by
  refine⟨fun h0=>hF listed ρ σ κ a w (h.1 h0) hσ hR,fun i hi=>?_⟩;obtain⟨x,v,hx,hyG,hnext⟩:=h.2 i hi;obtain⟨o,ho,htro⟩:=(oc ag i).1 x (by simpa using hx);have ho':ops[i]?=some o:=by simpa using ho
  obtain⟨hiun,oi,hoi,hall⟩:=kP.1 hi;have his:=(dR.1 ho').1;rw[ho']at hoi;injection hoi with hoi;subst hoi;have hlen:aops.length=ops.size:=by have:=(oc ag 0).2;simpa using this
  have hc1:Ay aops (kZ listed):=fun k hk hL j hj=>by
   obtain⟨e,he,hb,heq⟩:=hE k _ (zQ (by omega)) j hj;exact heq▸hcl k _ (zQ (by omega)) hL e he hb
  have hc2:kZ listed i=false:=by
   cases hq:kZ listed i with
   |false=>rfl
   |true=>exact absurd hq (pg hiun)
  have hc3:∀j∈pe aops i,kZ listed j=true:=fun j hj=>by
   obtain⟨e,he,hb,heq⟩:=hE i o ho' j hj;exact heq▸hall e he hb
  have hy:=hyG (kZ listed) hc1 hc2 hc3;have hLm:jx (kZ listed) i=kZ (listed.setIfInBounds i true):=by
   funext j;unfold jx kZ;by_cases hji:i=j
   ·subst hji;have:i<listed.size:=by omega
    simp[ik,this]
   ·rw[lJ false hji];have:(j==i)=false:=by simpa using fun e=>hji e.symm
    rw[this,sH]
  rw[hLm]at hy;have hls':(listed.setIfInBounds i true).size=ops.size:=by simpa using hls
  have hcl':=hcl.set hi;obtain⟨ins,g,hins,hg,hd,rfl⟩:=tl htro;unfold wpOp;simp only[ho'];cases hy with
  |skip hg' hS=>
   have hw:=fu (o:=o) hg hg' hR.env hR.size;rw[hw];simp only[e9,if_false];exact tq ag hE hF fuel _ _ _ κ _ w hls' hcl' (hS σ hσ) (hR.put hd .void) hnext
  |step hg' hs=>
   have hw:=fu (o:=o) hg hg' hR.env hR.size;rw[hw];simp only[if_true];refine .inl ?_;obtain⟨σ',hs,hσ'⟩:=hs σ hσ;have hins:be P o.op=some ins:=hins.resolve_left (fun e=>by rw[e]at hs;cases hs);obtain⟨κ',v',w',hrun,hle,hrep,hv⟩:=s9 hins hs hR.cZ hR.env;have:=tq ag hE hF fuel _ _ _ κ' _ w' hls' hcl' hσ' (hR.next hd hle hrep hv) hnext;unfold iP;rcases hrun with hrun|⟨hrun,rfl⟩
   ·rw[hrun];exact this
   ·rw[hrun];exact this
  |call hg' hi' hf hc=>
   have hw:=fu (o:=o) hg hg' hR.env hR.size;rw[hw];simp only[if_true];refine .inl ?_
   try simp only at hi'
   have hins:be P o.op=some ins:=hins.resolve_left (fun e=>by rw[e]at hi';cases hi');subst hi';have hc:=hc σ hσ;obtain⟨vs,hrun,hfit⟩:=tk (w:=w) hins hf hR.env hc.enters;unfold iP;rw[hrun];refine(hc.run κ w vs hR.cZ hfit).mono ?_;rintro e w' ⟨v',d,σ',κ',rfl,⟨hd1,hs1⟩,hle,hrep,hv⟩;subst hd1;exact tq ag hE hF fuel _ _ _ κ' _ w' hls' hcl' hs1 (hR.next hd hle hrep hv) hnext
  |vec hg' hi' hx' hy' hc' hs'=>
   have hw:=fu (o:=o) hg hg' hR.env hR.size;rw[hw];simp only[if_true];refine .inl ?_
   try simp only at hi'
   have hi:be P o.op=some ins:=hins.resolve_left (fun e=>by rw[e]at hi';cases hi');subst hi';obtain⟨t,x1,y1,inf,z,q1,q2,q3,q4,q5,q6,q7,q8,q9⟩:=wW hi;subst q6 q7;obtain⟨hN,hσ'⟩:=hs' σ hσ;subst hN;obtain⟨κ',v',w',hrun,hle,hrep,hv⟩:=wM (w:=w) q1 q2 q3 q4 q5 q8 q9 hx' hy' hc'.1 hc'.2.1 hc'.2.2.1 hc'.2.2.2.1 hc'.2.2.2.2 hR.cZ hR.env;have hnext:=tq ag hE hF fuel _ _ _ κ' _ w' hls' hcl' hσ' (hR.next hd hle hrep hv) hnext;unfold iP;rcases hrun with hrun|⟨hrun,rfl⟩
   ·rw[hrun];exact hnext
   ·rw[hrun];exact hnext
theorem PS{ops:Array Oper}{l:List aj}{Qc:Exit->Act->World->Prop}{S:(Nat->Bool)->H->Prop}(hl:iZ P n ops ops.toList=some l)(hlex:kY ops l.toArray ops.size 0 (fa ops.size false)=true)
  (h0:S (fun _=>false) σ) (hc:oa P w0 l S 0 l ρ ρ') (hF:∀L,(∀j,j<l.length->L j=true)->∀σ κ a w,S L σ->Rel w0 κ0 n κ ⟨ρ',σ⟩ a w->Qc .normal a w) (hR:Rel w0 κ0 n κ ⟨ρ,σ⟩ a w):
  wpAny P .any ops Qc ops.size (fa ops.size false) a w:=by
 have hlen:l.length=ops.size:=by have:=(oc hl 0).2;simpa using this
 have hfalse:∀j,(fa ops.size false).getD j false=false:=fun j=>by
  simp[ik,Oh];split<;>rfl
 have hE:∀i o,ops[i]?=some o->∀j∈pe l i,∃e∈o.after,fD .any e=true/\e.on=j:=fun i o ho j hj=>by
  unfold pe at hj;rw[List.mem_filter,jW]at hj;have:=Gr (aops:=l.toArray) (by simpa using hlen) ops.size 0 _ hlex (fun i _ hi=>by simp[ik,hi]) (by omega) j i (bx _) hj.1 o ho;rcases this with h|h
  ·have e1:l.toArray.getD j default=l.getD j default:=by simp[ik,cc]
   have e2:l.toArray.getD i default=l.getD i default:=by simp[ik,cc]
   rw[e1,e2]at h;rw[h]at hj;simp at hj
  ·exact h
 have hG:=Gq (P:=P) (w0:=w0) (l0:=l) (S:=S) (ops:=ops) (aops:=l.toArray) (F:=fun listed ρ=>ρ=ρ'/\∀j,j<l.length->listed.getD j false=true) l 0 (fa ops.size false) ρ ρ' (by simp) (by simp[hlen]) (fun j hj=>absurd hj (Nat.not_lt_zero _)) (by simp) (by rw[hlen];exact hlex) hc (fun listed' h=>⟨rfl,fun j hj=>h j (by simpa using hj)⟩);rw[hlen]at hG;refine tq hl hE (fun listed ρ σ κ a w e hσ hR=>?_) ops.size _ ρ σ κ a _ (by simp) (fun k o ho hk=>by rw[hfalse]at hk;cases hk) (by rw[show kZ (fa ops.size false)=(fun _=>false)from funext hfalse];exact h0) hR hG
 obtain⟨e1,e2⟩:=e;subst e1;exact hF _ (by simpa[hlen]using e2) σ κ a w hσ hR
theorem W.wY{k:List It}(h:W P w0 n0 Q (.code .bad::k) s):False:=by
 generalize hk:It.code .bad::k=ks at h;induction h with
 |fG hl _ ih=>exact ih hk
 |_=>cases hk
theorem Gt(q:Bool)(aops:Array aj)(m:Nat):gT q aops (fa m false)=0:=by
 unfold gT;rw[List.length_eq_zero_iff,List.filter_eq_nil_iff];intro x _;have:(fa m false).getD x false=false:=by
  rw[ik,Oh];split<;>rfl
 rw[this];simp
theorem lV(hn:κ0.n=n0)(hm:P.follows .mixedOrders=true):∀(c:Code) (x:AC),tr P n c=some x->∀{k:List It} {s:St} {κ:K} {a:Act} {w:World},W P w0 n0 Q (.code x::k) s->Rel w0 κ0 n κ s a w->c.wp P (wV P w0 n0 Q κ0 n k) a w
 | .skip,x,h,k,s,κ,a,w,hW,hR=>by
   simp only[tr]at h;injection h with h;subst h;obtain⟨t,hl,hW'⟩:=hW.Gg;obtain⟨κ',hR'⟩:=hl w0 κ0 n κ a w hn hR;exact wp_skip ⟨t,κ',hR',hW'⟩
 | .region id ops draw,x,h,k,s,κ,a,w,hW,hR=>by
   simp only[tr]at h;split at h
   ·rename_i l hl;cases draw
    ·simp only[e9,if_false]at h;injection h with h;subst h;obtain⟨t,hlw,hW'⟩:=hW.Py;obtain⟨κ',hR'⟩:=hlw w0 κ0 n κ a w hn hR;exact wp_region_list (qV hn ops.toList l hl hW' hR')
    ·simp only[if_true]at h;split at h
     ·rename_i hlex;injection h with h;subst h;obtain⟨t,hlw,hinv⟩:=hW.PA;obtain⟨κ',hR'⟩:=hlw w0 κ0 n κ a w hn hR;refine wp_region_any hm ?_;have hR2:Rel w0 κ0 n κ' ⟨t.ρ,t.σ⟩ a {w with drawn:=w.drawn+1}:=⟨hR'.cZ.drawn _,hR'.env,hR'.size,hR'.defers,hR'.le⟩;have hlen:l.length=ops.size:=by have:=(oc hl 0).2;simpa using this
      cases hinv with
      |gen h0 hc hW'=>
       exact PS hl hlex h0 hc (fun L hL σ κ a w hσ hR=>⟨⟨_,σ⟩,κ,hR,hW' L hL σ hσ⟩) hR2
      |Gh hne hS0 hc hW'=>
       rename_i ρ' S0 S hs;have main:∀q:Bool,nZ q ops l.toArray≠[]->ng P w0 (nZ q ops l.toArray) t.ρ S0 [] ρ' S hs->wpAny P .any ops (wV P w0 n0 Q κ0 n k) ops.size (fa ops.size false) a {w with drawn:=w.drawn+1}:=fun q hne hc=>by
        unfold nZ at hne hc;simp only at hne hc;split at hne
        ·rename_i hcond;rw[if_pos hcond]at hc;simp only[bz]at hcond;have hcl:jA ops (fa ops.size false):=fun k o ho hk=>by
          have:=(dR.1 ho).1;simp[this]at hk
         have hol:(ta q (pd ops) l.toArray).length=ops.size:=by simpa using hcond.2
         have:=AJ (q:=q) (P:=P) (w0:=w0) (ops:=ops) (an:=pd ops) (aops:=l.toArray) (F:=fun ρ σ=>ρ=ρ'/\σ=S) hcond.1.1 (by simpa using hlen) (ta q (pd ops) l.toArray) (fa ops.size false) t.ρ ρ' S0 S [] hs (by simp) hcond.1.2 hcl (Gt _ _ _).symm hc ⟨rfl,rfl⟩;rw[hol]at this;exact tn hl (fun ρ S1 σ κ a w e hσ hR=>⟨⟨ρ,σ⟩,κ,hR,by rw[e.1];exact hW' σ (by rw[<-e.2];exact hσ)⟩) ops.size _ t.ρ S0 t.σ [] κ' a _ hS0 hR2 this
        ·exact absurd rfl hne
       unfold Ax at hne hc;split at hc
       ·exact main false (by rename_i e;rw[e]at hne;exact hne) hc
       ·rename_i p hp;exact main true hp hc
      |one hc hW'=>
      rename_i ρ' σ';rcases hc with⟨hc,rfl⟩|⟨hne,hs,hc⟩
      ·have:=Gl (P:=P) (w0:=w0) (σ:=t.σ) (ops:=ops) (aops:=l.toArray) (F:=fun ρ=>ρ=ρ') l 0 (fa ops.size false) t.ρ ρ' (by simp) (by rw[hlen];exact hlex) hc rfl;rw[hlen]at this;exact wX hl (fun ρ κ a w e hR=>⟨⟨ρ,t.σ⟩,κ,hR,by rw[e];exact hW'⟩) ops.size _ t.ρ κ' a _ hR2 this
      ·have main:∀q:Bool,nZ q ops l.toArray≠[]->ae P w0 (nZ q ops l.toArray) t.ρ t.σ [] ρ' σ' hs->wpAny P .any ops (wV P w0 n0 Q κ0 n k) ops.size (fa ops.size false) a {w with drawn:=w.drawn+1}:=fun q hne hc=>by
        unfold nZ at hne hc;simp only at hne hc;split at hne
        ·rename_i hcond;rw[if_pos hcond]at hc;simp only[bz]at hcond;have hcl:jA ops (fa ops.size false):=fun k o ho hk=>by
          have:=(dR.1 ho).1;simp[this]at hk
         have hol:(ta q (pd ops) l.toArray).length=ops.size:=by simpa using hcond.2
         have:=AH (q:=q) (P:=P) (w0:=w0) (ops:=ops) (an:=pd ops) (aops:=l.toArray) (F:=fun ρ σ=>ρ=ρ'/\σ=σ') hcond.1.1 (by simpa using hlen) (ta q (pd ops) l.toArray) (fa ops.size false) t.ρ ρ' t.σ σ' [] hs (by simp) hcond.1.2 hcl (Gt _ _ _).symm hc ⟨rfl,rfl⟩;rw[hol]at this;exact tm hl (fun ρ σ κ a w e hR=>⟨⟨ρ,σ⟩,κ,hR,by rw[e.1,e.2];exact hW'⟩) ops.size _ t.ρ t.σ [] κ' a _ hR2 this
        ·exact absurd rfl hne
       unfold Ax at hne hc;split at hc
       ·exact main false (by rename_i e;rw[e]at hne;exact hne) hc
       ·rename_i p hp;exact main true hp hc
     ·injection h with h;subst h;exact(W.wY hW).elim
   ·cases h
 | .seq c d,x,h,k,s,κ,a,w,hW,hR=>by
   simp only[tr]at h;split at h
   ·rename_i x1 x2 h1 h2;injection h with h;subst h;obtain⟨t,hl,hW'⟩:=hW.PB;obtain⟨κ',hR'⟩:=hl w0 κ0 n κ a w hn hR;refine wp_seq (wp_mono (lV hn hm c x1 h1 hW' hR') ?_);rintro e a w ⟨s',κ2,hR2,hW2⟩;cases e with
    |normal=>exact lV hn hm d x2 h2 hW2 hR2
    |exit id=>exact⟨s',κ2,hR2,hW2⟩
    |ret=>exact⟨s',κ2,hR2,hW2⟩
    |goto l=>exact hW2.elim
    |panic c=>exact hW2.elim
    |outgrown=>exact hW2.elim
   ·cases h
 | .cond c y z,x,h,k,s,κ,a,w,hW,hR=>by
   simp only[tr]at h;split at h
   ·rename_i c' x1 x2 hc h1 h2;injection h with h;subst h;obtain⟨t,b,hl,hb,hy,hz⟩:=hW.PC;obtain⟨κ',hR'⟩:=hl w0 κ0 n κ a w hn hR;have hr:=bO hR'.env hc;rw[hb]at hr;refine wp_cond hr.qR ?_;cases b
    ·exact lV hn hm z x2 h2 (hz rfl) hR'
    ·exact lV hn hm y x1 h1 (hy rfl) hR'
   ·cases h
 | .block id c,x,h,k,s,κ,a,w,hW,hR=>by
   simp only[tr]at h;split at h
   ·rename_i x1 h1;injection h with h;subst h;obtain⟨t,hl,hW'⟩:=hW.PD;obtain⟨κ',hR'⟩:=hl w0 κ0 n κ a w hn hR;refine wp_block (wp_mono (lV hn hm c x1 h1 hW' hR') ?_);rintro e a w ⟨s',κ2,hR2,hW2⟩;cases e with
    |normal=>
     obtain⟨t2,hl2,hW3⟩:=W.PE hW2;obtain⟨κ3,hR3⟩:=hl2 w0 κ0 n κ2 a w hn hR2;exact⟨t2,κ3,hR3,hW3⟩
    |exit id'=>
     obtain⟨k',hp,hW3⟩:=hW2;simp only[iA]at hp;simp only[Exit.inBlock];by_cases he:id'=id
     ·subst he;rw[if_pos rfl]at hp⊢;injection hp with hp;subst hp;exact⟨s',κ2,hR2,hW3⟩
     ·rw[if_neg he];rw[if_neg (fun e=>he e.symm)]at hp;exact⟨s',κ2,hR2,k',hp,hW3⟩
    |ret=>exact⟨s',κ2,hR2,hW2⟩
    |goto l=>exact hW2.elim
    |panic c=>exact hW2.elim
    |outgrown=>exact hW2.elim
   ·cases h
 | .loop c,x,h,k,s,κ,a,w,hW,hR=>by
   simp only[tr]at h;split at h
   ·rename_i x1 h1;injection h with h;subst h;obtain⟨t,α,S,μ,x0,hl,hl0,hround⟩:=hW.PH;obtain⟨κ',hR'⟩:=(hl0.trans hl) w0 κ0 n κ a w hn hR;refine wp_loop_ghost (fun m a w=>∃y κ,μ y=m/\Rel w0 κ0 n κ (S y) a w) (μ x0) ⟨x0,κ',rfl,hR'⟩ ?_;rintro m a w ⟨y,κ2,rfl,hR2⟩;refine wp_mono (lV hn hm c x1 h1 (hround y) hR2) ?_;rintro e a w ⟨s',κ3,hR3,hW3⟩;cases e with
    |normal=>
     obtain⟨t3,hl3,z,hlt,hz⟩:=W.inv_inv hW3;obtain⟨κ4,hR4⟩:=(hz.trans hl3) w0 κ0 n κ3 a w hn hR3;exact⟨μ z,hlt,z,κ4,rfl,hR4⟩
    |exit id=>exact⟨s',κ3,hR3,hW3⟩
    |ret=>exact⟨s',κ3,hR3,hW3⟩
    |goto l=>exact hW3.elim
    |panic c=>exact hW3.elim
    |outgrown=>exact hW3.elim
   ·cases h
 | .exit id,x,h,k,s,κ,a,w,hW,hR=>by
   simp only[tr]at h;injection h with h;subst h;obtain⟨t,k',hl,hp,hW'⟩:=hW.PF;obtain⟨κ',hR'⟩:=hl w0 κ0 n κ a w hn hR;exact wp_exit ⟨t,κ',hR',k',hp,hW'⟩
 | .ret,x,h,k,s,κ,a,w,hW,hR=>by
   simp only[tr]at h;injection h with h;subst h;obtain⟨t,hl,hW'⟩:=hW.PG;obtain⟨κ',hR'⟩:=hl w0 κ0 n κ a w hn hR;exact wp_ret ⟨t,κ',hR',hW'⟩
 | .rangeFunc ..,x,h,k,s,κ,a,w,hW,hR=>by simp only[tr]at h;injection h with h;subst h;exact(W.wY hW).elim
 | .scope c,x,h,k,s,κ,a,w,hW,hR=>by
   simp only[tr]at h;refine wp_scope_straight (wp_mono (lV hn hm c x h hW hR) ?_);intro e a w hP;cases e with
   |normal=>exact hP
   |exit id=>exact hP
   |ret=>exact hP
   |goto l=>obtain⟨s',κ2,hR2,hW2⟩:=hP;exact hW2.elim
   |panic c=>exact hP
   |outgrown=>exact hP
 | .label _,x,h,k,s,κ,a,w,hW,hR=>by
   simp only[tr]at h;injection h with h;subst h;obtain⟨t,hl,hW'⟩:=hW.Gg;obtain⟨κ',hR'⟩:=hl w0 κ0 n κ a w hn hR;exact wp_label ⟨t,κ',hR',hW'⟩
 | .goto _,x,h,k,s,κ,a,w,hW,hR=>by simp only[tr]at h;injection h with h;subst h;exact(W.wY hW).elim
 | .refuse _,x,h,k,s,κ,a,w,hW,hR=>by simp only[tr]at h;injection h with h;subst h;exact(W.wY hW).elim
end
inductive aw where
 |tmp (t:Nat)
 |Gu (t:Nat)
 |bj (n t:Nat)
 deriving Inhabited
def jB(P:Program):List ResultVar->Option (List aw)
 |[]=>some []
 | .tmp t::l=>match jB P l with
   |some r=>some (.tmp t::r)
   |none=>none
 | .cell a t::l=>match P.underlying t,P.info? t,jB P l with
   |some d,some i,some r=>some ((if ju d then .bj i.size a else .Gu a)::r)
   |_,_,_=>none
def br(s:St):List aw->Option (List V)
 |[]=>some []
 | .tmp t::l=>match br s l with
   |some r=>some (s.ρ t::r)
   |none=>none
 | .Gu t::l=>match iV s.σ (s.ρ t),br s l with
   |some (cs,o),some r=>match cs[o]? with
    |some u=>some (u::r)
    |none=>none
   |_,_=>none
 | .bj n t::l=>match iV s.σ (s.ρ t),br s l with
   |some (cs,o),some r=>if o+n<=cs.length then some (.agg ((cs.drop o).take n)::r)else none
   |_,_=>none
def ak:List V->V
 |[v]=>v
 |vs=>.av vs
inductive ad.wk:ad->ad->Prop where
 |rfl (b:ad):ad.wk b b
 |cells {cs ds:List V} {tg:Option TypeId} (h:ds.length=cs.length) (h1:∀j (hj:j<cs.length) (hj':j<ds.length),V.wk cs[j] ds[j]) (h2:leaves ds=true):ad.wk (.cells cs tg) (.cells ds tg)
 |gone (b:ad):ad.wk b .gone
def H.wk(σ σ':H):Prop:=σ'.length=σ.length/\∀b (hb:b<σ.length) (hb':b<σ'.length),ad.wk σ[b] σ'[b]
theorem H.wZ(σ:H):H.wk σ σ:=⟨rfl,fun _ _ _=>.rfl _⟩
section
variable {P:Program} {w0 w w':World} {κ κ0:K} {σ σ':H} {a:Act} {ρ ρ':Env} {n n0:Nat} {Q:St->Prop} {s:St}
theorem aB.tu(h:aB w0 κ σ w)(hw:H.wk σ σ'):aB w0 κ σ' w:=by
 refine⟨by rw[hw.1];exact h.n,h.ext,h.mem,fun b hb=>?_,fun x y hx hy g hne=>?_,fun l o hr=>⟨(h.rest l o hr).1,(h.rest l o hr).2.1,fun z hz' e=>?_⟩,h.dt⟩
 rotate_right
 ·have hz:z<σ.length:=by rw[<-hw.1];exact hz'
  refine(h.rest l o hr).2.2 z hz ?_;have h1:=hw.2 z hz hz';generalize σ[z]=X at h1⊢;generalize σ'[z]=Y at h1 e;cases h1 with
  |rfl=>exact e
  |cells hl hc hlv=>exact e
  |gone=>cases e
 ·have hb':b<σ.length:=by rw[<-hw.1];exact hb
  have h1:=hw.2 b hb' hb;have h2:=h.cz b hb';generalize σ[b]=X at h1 h2;generalize σ'[b]=Y at h1;cases h1 with
  |rfl=>exact h2
  |cells hl hc hlv=>
   obtain⟨vs,t,k1,k2,k3⟩:=h2.row;refine⟨h2.fr,⟨vs,t,k1,by rw[hl];exact k2,fun j hj=>⟨?_,(k3 j (by omega)).2.wk (hc j (by omega) hj)⟩⟩,h2.own,h2.free,h2.ty⟩;unfold leaves at hlv;rw[cL]at hlv;exact hlv _ (List.getElem_mem hj)
  |gone=>trivial
 ·have hx':x<σ.length:=by rw[<-hw.1];exact hx
  have hy':y<σ.length:=by rw[<-hw.1];exact hy
  have key:∀z (hz:z<σ.length) (hz':z<σ'.length) g,(σ'[z]).bc κ z=some g->(σ[z]).bc κ z=some g:=fun z hz hz' g hg=>by
   have h1:=hw.2 z hz hz';generalize σ[z]=X at h1⊢;generalize σ'[z]=Y at h1 hg;cases h1 with
   |rfl=>exact hg
   |cells hl hc hlv=>exact hg
   |gone=>cases hg
  intro e1 e2;exact h.apart x y hx' hy' g hne (key x hx' hx g e1) (key y hy' hy g e2)
theorem Fits.cons{x:V}{l:List V}{v:Value}{xs:List Value}(h:RV κ x v)(k:Fits κ l xs):Fits κ (x::l) (v::xs):=
 ⟨by simp[k.1],fun j hj=>by
   cases j with
   |zero=>exact h
   |succ j=>simpa using k.2 j (by simpa using hj)⟩
theorem Fits.nil:Fits κ [] []:=⟨rfl,fun j hj=>by simp at hj⟩
theorem Fits.cons_inv{x:V}{l:List V}{xs:List Value}(h:Fits κ (x::l) xs):∃v ys,xs=v::ys/\RV κ x v/\Fits κ l ys:=by
 cases xs with
 |nil=>have:=h.1;simp at this
 |cons v ys=>exact⟨v,ys,rfl,h.2 0 (by simp),by have:=h.1;simpa using this,fun j hj=>h.2 (j+1) (Nat.succ_lt_succ hj)⟩
theorem Fits.kS{xs:List Value}(h:Fits κ [] xs):xs=[]:=List.eq_nil_of_length_eq_zero h.1
def tv(tmps:Array Value):ResultVar->Sem Value
 | .tmp t=>pure (tmps.getD t undef)
 | .cell a t=>do loadVar t (<-asAddr (tmps.getD a undef))
theorem Gv{x:V}{v:Value}{cs:List V}{o:Nat}(hrep:aB w0 κ σ w)(h:iV σ x=some (cs,o))(hv:RV κ x v):∃p,v= .pointer (some p):=by
 obtain⟨b,p,rfl,_⟩:=Ah hrep h hv;exact⟨_,rfl⟩
theorem w7(hR:Rel w0 κ0 n κ s a w):∀{l:List ResultVar} {r:List aw} {vs:List V},jB P l=some r->br s r=some vs->∃xs:List Value,(l.mapM (tv a.tmps)).run P w= .ok xs w/\Fits κ vs xs
 |[],r,vs,h,hv=>by
  simp only[jB]at h;injection h with h;subst h;simp only[br]at hv;injection hv with hv;subst hv;exact⟨[],by simp,Fits.nil⟩
 | .tmp t::l,r,vs,h,hv=>by
   simp only[jB]at h;split at h
   ·rename_i r' hr;injection h with h;subst h;simp only[br]at hv;split at hv
    ·rename_i vs' hvs;injection hv with hv;subst hv;obtain⟨xs,h1,h2⟩:=w7 hR hr hvs;exact⟨a.tmps.getD t undef::xs,by simp[zL,tv,h1],Fits.cons (hR.env t) h2⟩
    ·cases hv
   ·cases h
 | .cell q t::l,r,vs,h,hv=>by
   simp only[jB]at h;split at h
   ·rename_i d i r' hd hi hr;injection h with h;subst h;cases hg:ju d
    ·simp only[hg,e9,if_false,br]at hv;split at hv
     ·rename_i cs o vs' hc hvs;split at hv
      ·rename_i u hu;injection hv with hv;subst hv;obtain⟨xs,h1,h2⟩:=w7 hR hr hvs;obtain⟨v',k1,k2⟩:=FA (P:=P) hR.cZ hd hg hc (hR.env q) hu;obtain⟨p,hp⟩:=Gv hR.cZ hc (hR.env q);rw[hp]at k1;have k3:(loadVar t p).run P w= .ok v' w:=by simpa[v8,sG]using k1
       exact⟨v'::xs,by simp only[zL,tv,hp,asAddr,jj,jT,jU,k3,h1],Fits.cons k2 h2⟩
      ·cases hv
     ·cases hv
    ·simp only[hg,if_true,br]at hv;split at hv
     ·rename_i cs o vs' hc hvs;split at hv
      ·rename_i hle;injection hv with hv;subst hv;obtain⟨xs,h1,h2⟩:=w7 hR hr hvs;obtain⟨v',k1,k2⟩:=FB (P:=P) hR.cZ hd hg hi hc (hR.env q) hle;obtain⟨p,hp⟩:=Gv hR.cZ hc (hR.env q);rw[hp]at k1;have k3:(loadVar t p).run P w= .ok v' w:=by simpa[v8,sG]using k1
       exact⟨v'::xs,by simp only[zL,tv,hp,asAddr,jj,jT,jU,k3,h1],Fits.cons k2 h2⟩
      ·cases hv
     ·cases hv
   ·cases h
theorem AM{fn:Func}{r:List aw}{vs:List V}(hR:Rel w0 κ0 n κ s a w)(ag:jB P fn.results.toList=some r)(hv:br s r=some vs):∃v,(results fn a.tmps).run P w= .ok v w/\RV κ (ak vs) v:=by
 obtain⟨xs,h1,h2⟩:=w7 hR ag hv;have e:results fn a.tmps=(do let vs<-fn.results.mapM (tv a.tmps);pure (if h:vs.size=1 then vs[0]else .tuple vs)):=by
  unfold results;rfl
 rw[e,Array.mapM_eq_mapM_toList];refine⟨if h:xs.length=1 then xs[0]else .tuple xs.toArray,?_,?_⟩
 ·simp[h1]
 ·by_cases hl:xs.length=1
  ·rw[dif_pos hl];obtain⟨x,rfl⟩:∃x,vs=[x]:=by
    have:=h2.1
    match vs,this with
    |[x],_=>exact⟨x,rfl⟩
    |[],h=>simp at h;rw[h]at hl;simp at hl
    |x::y::l,h=>simp at h;omega
   have:=h2.2 0 (by simp);rw[gQ (by omega)]at this;exact this
  ·rw[dif_neg hl];have:ak vs= .av vs:=by
    match vs,h2.1 with
    |[x],h=>simp at h;exact absurd h hl
    |[],_=>rfl
    |x::y::l,_=>rfl
   rw[this];exact .av h2.1 h2.2
def Fin(r:List aw)(n0:Nat)(R:V->H->Prop)(s:St):Prop:=
 ∃vs d σ',br s r=some vs/\V.wk (ak vs) d/\V.low n0 d/\n0<=s.σ.length/\H.ok (s.σ.take n0)/\H.wk (s.σ.take n0) σ'/\R d σ'
def iB(args:List V):Env:=fun k=>args.getD k .void
theorem AN{args:List V}{vs:List Value}(h:Fits κ args vs)(m:Nat):b8 κ (iB args) {tmps:=vs.toArray++Array.replicate m undef,defers:=[]}:=by
 intro k;unfold iB;by_cases hk:k<args.length
 ·have hv:k<vs.length:=by rw[h.1];exact hk
  have:=h.2 k hk;rw[gQ hv]at this;have e1:args.getD k .void=args[k]:=by simp[lG,hk]
  have e2:(vs.toArray++fa m undef).getD k undef=vs[k]:=by simp[mQ,hv,show k<vs.length+m from by omega]
  rw[e1,e2];exact this
 ·have e1:args.getD k .void= .void:=by simp[lG,Nat.le_of_not_lt hk]
  have e2:(vs.toArray++fa m undef).getD k undef=undef:=by
   rw[ik,Array.getElem?_append_right (by simp[h.1];omega)];rw[Oh];split<;>rfl
  rw[e1,e2];exact .void
inductive C.Sz:C->Prop where
 |bool (b:Bool):C.Sz (.bool b)
 |int (k:IntKind) (n:Int):C.Sz (.int k n)
 |str (l:List UInt8) (h:l.length<=maxLen):C.Sz (.str l)
 |sl (rows:List (List C)) (h:rows.length<=maxLen) (h1:∀r∈rows,∀x∈r,C.Sz x):C.Sz (.sl rows)
 |ez:C.Sz .ez
 |ref (cs:List C) (o:Nat) (h:∀x∈cs,C.Sz x):C.Sz (.ref cs o)
 |iT:C.Sz .iT
 |err:C.Sz .err
theorem RC.sz{m:Mem}{x:C}{v:Value}(h:RC m x v):C.Sz x:=by
 induction h with
 |bool b=>exact .bool b
 |int k n=>exact .int k n
 |str l h=>exact .str l h
 |sl rows s A cap xs h0 h1 h2 h3 h4 h5 ih=>
  refine .sl rows (by omega) fun r hr x hx=>?_;obtain⟨i,hi,rfl⟩:=fU hr;obtain⟨j,hj,rfl⟩:=fU hx;exact ih i hi j hj
 |ez=>exact .ez
 |ref cs o b p xs h3 h4 h5 ih=>
  refine .ref cs o fun x hx=>?_;obtain⟨j,hj,rfl⟩:=fU hx;exact ih j hj
 |iT=>exact .iT
 |err=>exact .err
inductive V.Sz:V->Prop where
 |c (x:C) (h:C.Sz x):V.Sz (.c x)
 |agg (vs:List V) (h:∀x∈vs,V.Sz x):V.Sz (.agg vs)
 |aF (b:Nat) (rows:List (List C)) (h:C.Sz (.sl rows)):V.Sz (.aF b rows)
 |ab (rows:List (List C)) (h:C.Sz (.sl rows)):V.Sz (.ab rows)
 |fn (f:FuncId) (l:List V):V.Sz (.fn f l)
 |ptr (b o:Nat):V.Sz (.ptr b o)
 |void:V.Sz .void
 |any:V.Sz .any
 |cj:V.Sz .cj
 |mp (b:Nat):V.Sz (.mp b)
 |cy:V.Sz .cy
 |vec (b k:Nat):V.Sz (.vec b k)
 |av (vs:List V):V.Sz (.av vs)
theorem RV.sz{x:V}{v:Value}(h:RV κ x v):V.Sz x:=by
 induction h with
 |void=>exact .void
 |any v=>exact .any
 |c h=>exact .c _ h.sz
 |ptr=>exact .ptr _ _
 |aF h=>exact .aF _ _ h.sz
 |ab h=>exact .ab _ h.sz
 |fn=>exact .fn _ _
 |cj=>exact .cj
 |mp=>exact .mp _
 |cy=>exact .cy
 |vec=>exact .vec _ _
 |agg h h1 ih=>exact .agg _ fun x hx=>by obtain⟨j,hj,rfl⟩:=fU hx;exact ih j hj
 |av=>exact .av _
theorem Fits.sz{l:List V}{xs:List Value}(h:Fits κ l xs):∀x∈l,V.Sz x:=fun x hx=>by obtain⟨j,hj,rfl⟩:=fU hx;exact(h.2 j hj).sz
theorem DC.PT{f:FuncId}{fn:Func}{c:Code}{x:AC}{r:List aw}{args:List V}{R:V->H->Prop}(hm:P.follows .mixedOrders=true)(hf:P.funcs[f]?=some fn)(hb:fn.body=some c)(ag:tr P fn.ntmps c=some x)(dN:jB P fn.results.toList=some r)
  (hargs:args.length<=fn.ntmps) (hen:Enters P f) (hW:H.ok σ->(∀x∈args,V.Sz x)->W P w0 σ.length (Fin r σ.length R) [.code x] ⟨iB args,σ⟩):DC P w0 f args σ R:=by
 refine⟨hen,fun κ w vs hrep hfit=>?_⟩;refine calls_of_wp hf hb ?_;have hR:Rel w0 κ fn.ntmps κ ⟨iB args,σ⟩ {tmps:=vs.toArray++fa (fn.ntmps-vs.toArray.size) undef,defers:=[]} w:=
  ⟨hrep,AN hfit _,by simp[hfit.1];omega,rfl,K.le_refl κ⟩
 have hfin:∀s κ' a w,Rel w0 κ fn.ntmps κ' s a w->Fin r σ.length R s->a.defers=[]/\∃v,(results fn a.tmps).run P w= .ok v w/\∃v' d σ' κ'',Ending.returned v= .returned v'/\R d σ'/\κ.le κ''/\aB w0 κ'' σ' w/\RV κ'' d v':=by
  rintro s κ' a w hR' ⟨vs,d,σ',h1,h2,h3,h4,h5,h6,h7⟩;obtain⟨v,k1,k2⟩:=AM hR' dN h1;have hcut:=(hR'.cZ.cut σ.length h4 h5).tu h6;exact⟨hR'.defers,v,k1,v,d,σ',κ'.cut σ.length,rfl,h7,K.Ab hR'.le (by rw[hrep.n];exact aA _),hcut,(k2.wk h2).cut h3⟩
 refine wp_mono (lV (n0:=σ.length) hrep.n hm c x ag (hW hrep.ok hfit.sz) hR) ?_;rintro e a w' ⟨s,κ',hR',hs⟩;cases e with
 |normal=>
  obtain⟨t,hl,hq⟩:=W.AB hs;obtain⟨κ2,hR2⟩:=hl w0 κ fn.ntmps κ' a w' hrep.n hR';exact hfin t κ2 a w' hR2 hq
 |ret=>exact hfin s κ' a w' hR' hs
 |exit id=>obtain⟨k',hp,_⟩:=hs;cases hp
 |goto l=>exact hs.elim
 |panic ch=>exact hs.elim
 |outgrown=>exact hs.elim
theorem DC.Gw{f:FuncId}{args:List V}{d:V}(hen:Enters P f)(h:∀κ w vs,aB w0 κ σ w->Fits κ args vs->∃v,RV κ d v/\Calls P f vs.toArray w (fun e w'=>e= .returned v/\Below w.heap.size w w')):
  DC P w0 f args σ (fun d' σ'=>d'=d/\σ'=σ):=by
 refine⟨hen,fun κ w vs hrep hfit=>?_⟩;obtain⟨v,hv,hc⟩:=h κ w vs hrep hfit;exact hc.mono fun e w' ⟨he,hb⟩=>⟨v,d,σ,κ,he,⟨rfl,rfl⟩,K.le_refl κ,hrep.grow hb,hv⟩
def K.start(w:World):K:={m:=fun b o=>w.cell? ⟨b,o,none⟩,n:=0,pos:=fun _=>0,fr:=fun _=>none,sv:=fun _=>undef,sz:=fun _=>0}
theorem aB.start(w:World):aB w (K.start w) [] w:=
 ⟨rfl,Below.refl _ _,fun _ _ _ h=>h,fun b hb=>by simp at hb,fun a b ha=>by simp at ha,fun l o hr=>(by cases hr),bx _⟩
theorem DC.calls{f:FuncId}{args:List V}{R:V->H->Prop}(h:DC P w f args [] R){vs:List Value}(hf:Fits (K.start w) args vs):
  Calls P f vs.toArray w (fun e w'=>∃v d σ' κ',e= .returned v/\R d σ'/\RV κ' d v/\Below w.heap.size w w'):=
 (h.run (K.start w) w vs (aB.start w) hf).mono fun _ _ ⟨v,d,σ',κ',h1,h2,_,h4,h5⟩=>⟨v,d,σ',κ',h1,h2,h5,h4.ext⟩
end
def eK:Nat->List It->St->List It×St
 |0,k,s=>(k,s)
 |_+1,[],s=>([],s)
 |f+1,it::k,s=>match it with
  | .code c=>match c with
    | .skip=>eK f k s
    | .aG l=>eK f (.ops l::k) s
    | .seq a b=>eK f (.code a:: .code b::k) s
    | .block id c=>eK f (.code c:: .fF id::k) s
    | .exit id=>match iA id k with
      |some k'=>eK f k' s
      |none=>(.code (.exit id)::k,s)
    |c=>(.code c::k,s)
  | .fF _=>eK f k s
  | .ops []=>eK f k s
  | .ops (o::l)=>match bU s.ρ o.guard with
    |some true=>match step s.ρ s.σ o.ins with
     |some (v,σ')=>eK f (.ops l::k) ⟨s.ρ.put o.dst v,σ'⟩
     |none=>(.ops (o::l)::k,s)
    |some false=>eK f (.ops l::k) ⟨s.ρ.put o.dst .void,s.σ⟩
    |none=>(.ops (o::l)::k,s)
  |it=>(it::k,s)
section
variable {P:Program} {w0:World} {n0:Nat} {Q:St->Prop}
theorem W.eK(f:Nat):∀(k:List It) (s:St),W P w0 n0 Q (Lamb.eK f k s).1 (Lamb.eK f k s).2->W P w0 n0 Q k s:=by
 induction f with
 |zero=>intro k s h;exact h
 |succ f ih=>
  intro k s h;cases k with
  |nil=>exact h
  |cons it k=>
   cases it with
   |code c=>
    cases c with
    |skip=>exact .skip (ih _ _ h)
    |aG l=>exact .aG (ih _ _ h)
    |seq a b=>exact .seq (ih _ _ h)
    |block id c=>exact .block (ih _ _ h)
    |exit id=>
     simp only[Lamb.eK]at h;cases hp:iA id k with
     |none=>rw[hp]at h;exact h
     |some k'=>rw[hp]at h;exact .exit hp (ih _ _ h)
    |cond=>exact h
    |loop=>exact h
    |ret=>exact h
    |ft=>exact h
    |bad=>exact h
   |fF id=>exact .fF (ih _ _ h)
   |inv I=>exact h
   |ops l=>
    cases l with
    |nil=>exact .wQ (ih _ _ h)
    |cons o l=>
     simp only[Lamb.eK]at h;split at h
     ·rename_i hg;split at h
      ·rename_i v σ' hs;exact .jy hg hs (ih _ _ h)
      ·exact h
     ·rename_i hg;exact .AA hg (ih _ _ h)
     ·exact h
theorem W.test{c:ai}{x y:AC}{k:List It}{s:St}{t:Bool}(hc:c.ev s.ρ= .c (.bool t))(h1:t=true->W P w0 n0 Q (.code x::k) s)(h2:t=false->W P w0 n0 Q (.code y::k) s):W P w0 n0 Q (.code (.cond c x y)::k) s:=.cond hc h1 h2
theorem W.yes{c:ai}{x y:AC}{k:List It}{s:St}(hc:c.ev s.ρ= .c (.bool true))(h:W P w0 n0 Q (.code x::k) s):W P w0 n0 Q (.code (.cond c x y)::k) s:=.cond hc (fun _=>h) (fun e=>by cases e)
theorem W.no{c:ai}{x y:AC}{k:List It}{s:St}(hc:c.ev s.ρ= .c (.bool false))(h:W P w0 n0 Q (.code y::k) s):W P w0 n0 Q (.code (.cond c x y)::k) s:=.cond hc (fun e=>by cases e) (fun _=>h)
theorem W.call{d:Option Nat}{f:ai}{as:List ai}{g:Option (Nat×Bool)}{l:List aj}{k:List It}{s:St}{fid:FuncId}{caps:List V}{R:V->H->Prop}{args:List V}(hc:DC P w0 fid args s.σ R)(hg:bU s.ρ g=some true)(hf:f.ev s.ρ= .fn fid caps)
  (ha:as.map (·.ev s.ρ)++caps=args) (h:∀v σ',R v σ'->W P w0 n0 Q (.ops l::k) ⟨s.ρ.put d v,σ'⟩):W P w0 n0 Q (.ops (⟨d,.call f as,g⟩::l)::k) s:=
 .wR hg rfl hf (by rw[ha];exact hc) h
end
theorem tw(ρ:Env)(d:Nat)(v:V)(k:Nat):Env.put ρ (some d) v k=if k=d then v else ρ k:=rfl
theorem PU(ρ:Env)(v:V):Env.put ρ none v=ρ:=rfl
theorem PV(ρ:Env)(n:Nat):(ai.t n).ev ρ=ρ n:=rfl
theorem PW(ρ:Env)(v:V):(ai.k v).ev ρ=v:=rfl
theorem lO{P:Program}{f:FuncId}{fn:Func}{c:Code}(hf:P.funcs[f]?=some fn)(hname:(fn.name== "runtime.NumGoroutine")=false)(hb:fn.body=some c):Enters P f:=by
 intro args w;have h1:fn.name≠ "runtime.NumGoroutine":=by simpa using hname
 simp[callFunc,hf,h1,hb]
section
variable {P:Program} {w0:World} {n0:Nat}
theorem DC.PX{f:FuncId}{fn:Func}{x:AC}{r:List aw}{args:List V}{σ:H}{R:V->H->Prop}(hm:P.follows .mixedOrders=true)(hf:P.funcs[f]?=some fn)(hb:fn.body=some (fn.body.getD .skip))(ag:tr P fn.ntmps (fn.body.getD .skip)=some x)
  (dN:jB P fn.results.toList=some r) (hargs:args.length<=fn.ntmps) (hen:Enters P f) (hW:H.ok σ->(∀x∈args,V.Sz x)->W P w0 σ.length (Fin r σ.length R) [.code x] ⟨iB args,σ⟩):DC P w0 f args σ R:=
 DC.PT hm hf hb ag dN hargs hen hW
theorem PY(n:Nat)(x:C):V.low n (.c x)↔True:=⟨fun _=>trivial,fun _=>.c x⟩
theorem PZ(n:Nat):V.low n .void↔True:=⟨fun _=>trivial,fun _=>.void⟩
theorem P0(n:Nat):V.low n .any↔True:=⟨fun _=>trivial,fun _=>.any⟩
theorem P4(n:Nat)(r:List (List C)):V.low n (.ab r)↔True:=⟨fun _=>trivial,fun _=>.ab r⟩
theorem P5(n:Nat):V.low n .cj↔True:=⟨fun _=>trivial,fun _=>.cj⟩
theorem P6(n b o:Nat):V.low n (.ptr b o)↔b<n:=⟨fun h=>by cases h;assumption,fun h=>.ptr h⟩
theorem P7(n b:Nat)(r:List (List C)):V.low n (.aF b r)↔b<n:=⟨fun h=>by cases h;assumption,fun h=>.aF h⟩
theorem P8(n:Nat)(l:List V):V.low n (.agg l)↔∀x∈l,V.low n x:=⟨fun h=>by cases h;assumption,fun h=>.agg h⟩
theorem AO(n:Nat)(l:List V):V.low n (.av l)↔∀x∈l,V.low n x:=⟨fun h=>by cases h;assumption,fun h=>.av h⟩
theorem w8(n f:Nat)(l:List V):V.low n (.fn f l)↔∀x∈l,V.low n x:=⟨fun h=>by cases h;assumption,fun h=>.fn h⟩
def Same(d:V)(σ:H):V->H->Prop:=fun d' σ'=>d'=d/\σ'=σ
theorem Fin.same{r:List aw}{s:St}{σ:H}{vs:List V}{d:V}(hok:H.ok σ)(h:br s r=some vs)(hd:ak vs=d)(hl:V.low σ.length d)(hσ:∃τ,s.σ=σ++τ):Fin r σ.length (Same d σ) s:=by
 obtain⟨τ,hσ⟩:=hσ;have ht:s.σ.take σ.length=σ:=by rw[hσ];exact mT
 exact⟨vs,d,σ,h,by rw[hd];exact .rfl d,hl,by rw[hσ];simp,by rw[ht];exact hok,by rw[ht];exact H.wZ σ,rfl,rfl⟩
end
def bh.quiet:bh->Bool
 | .store ..| .app ..| .lR ..| .box ..| .kT| .kU ..| .j0 ..| .call ..=>false
 |_=>true
theorem quiet_step{ρ:Env}{σ σ':H}{i:bh}{v:V}(hq:i.quiet=true)(h:Lamb.step ρ σ i=some (v,σ')):σ'=σ:=by
 cases i<;>first|(cases hq;done)|skip
 all_goals simp only[Lamb.step]at h
 all_goals repeat' split at h
 all_goals first
  |(cases h;done)
  |(injection h with h;injection h with _ h;exact h.symm)
def bh.pure:bh->Bool
 | .store ..| .app ..| .lR ..| .box ..| .kT| .kU ..| .j0 ..| .look ..| .o5 ..| .call ..| .aU ..| .eJ ..=>false
 |_=>true
theorem P9{ρ:Env}{σ σ' τ:H}{i:bh}{v:V}(hq:i.pure=true)(h:Lamb.step ρ σ i=some (v,σ')):Lamb.step ρ τ i=some (v,τ):=by
 cases i<;>first|(cases hq;done)|skip
 all_goals (try simp only[Lamb.step]at h⊢)
 all_goals repeat' split at h
 all_goals first
  |(cases h;done)
  |(injection h with h;injection h with h _;subst h;first|(simp[*];done)|(simp[*];assumption))
def od(σ:H):List aj->Env->List aj×Env
 |[],ρ=>([],ρ)
 |o::l,ρ=>match bU ρ o.guard with
  |some true=>if o.ins.quiet then match Lamb.step ρ σ o.ins with
    |some (v,_)=>od σ l (ρ.put o.dst v)
    |none=>(o::l,ρ)
   else(o::l,ρ)
  |some false=>od σ l (ρ.put o.dst .void)
  |none=>(o::l,ρ)
section
variable {P:Program} {w0:World} {n0:Nat} {Q:St->Prop}
theorem Canon.eK{σ:H}{ρ':Env}:∀(l:List aj) (ρ:Env),Canon P w0 σ (od σ l ρ).1 (od σ l ρ).2 ρ'->Canon P w0 σ l ρ ρ'
 |[],ρ,h=>h
 |o::l,ρ,h=>by
  simp only[od]at h;split at h
  ·rename_i hg;split at h
   ·rename_i hq;split at h
    ·rename_i v σ' hs;have:=quiet_step hq hs;subst this;exact .cons (.step hg hs) (Canon.eK l _ h)
    ·exact h
   ·exact h
  ·rename_i hg;exact .cons (.skip hg) (Canon.eK l _ h)
  ·exact h
theorem Canon.call{σ:H}{ρ ρ':Env}{d:Option Nat}{f:ai}{as:List ai}{g:Option (Nat×Bool)}{l:List aj}{fid:FuncId}{caps args:List V}{v:V}(hc:DC P w0 fid args σ (Same v σ))(hg:bU ρ g=some true)(hf:f.ev ρ= .fn fid caps)
  (ha:as.map (·.ev ρ)++caps=args) (h:Canon P w0 σ l (ρ.put d v) ρ'):Canon P w0 σ (⟨d,.call f as,g⟩::l) ρ ρ':=
 .cons (.call hg rfl hf (by rw[ha];exact hc)) h
theorem ae.call{σ σ' σ1:H}{past past':List H}{ρ ρ':Env}{d:Option Nat}{f:ai}{as:List ai}{g:Option (Nat×Bool)}{lo:Nat}{l:List cA}{fid:FuncId}{caps args:List V}{v:V}(hc:DC P w0 fid args σ (Same v σ1))(hg:bU ρ g=some true)(hf:f.ev ρ= .fn fid caps)
  (ha:as.map (·.ev ρ)++caps=args) (h:ae P w0 l (ρ.put d v) σ1 (σ::past) ρ' σ' past'):ae P w0 (⟨⟨d,.call f as,g⟩,true,lo⟩::l) ρ σ past ρ' σ' past':=
 .bK (.call hg rfl hf (by rw[ha];exact hc)) h
theorem W.Gx{d:Option Nat}{f:ai}{as:List ai}{g:Option (Nat×Bool)}{l:List aj}{k:List It}{s:St}{fid:FuncId}{caps:List V}{args:List V}{v:V}{σ':H}(hc:DC P w0 fid args s.σ (Same v σ'))(hg:bU s.ρ g=some true)(hf:f.ev s.ρ= .fn fid caps)
  (ha:as.map (·.ev s.ρ)++caps=args) (h:W P w0 n0 Q (.ops l::k) ⟨s.ρ.put d v,σ'⟩):W P w0 n0 Q (.ops (⟨d,.call f as,g⟩::l)::k) s:=
 .wR (R:=Same v σ') hg rfl hf (by rw[ha];exact hc) (fun v' σ'' ⟨h1,h2⟩=>by subst h1;subst h2;exact h)
end
theorem eB(σ L:H):(σ++L)[σ.length]?=L[0]?:=by rw[cY (aA _),ck]
theorem bY(σ L:H)(k:Nat):(σ++L)[σ.length+k]?=L[k]?:=by rw[cY (by omega)];congr 1;omega
theorem Qa{σ:H}(L:H){r:Nat}(h:r<σ.length):(σ++L)[r]?=σ[r]?:=cF h
theorem qW(σ L:H)(x:ad):(σ++L).set σ.length x=σ++L.set 0 x:=by rw[iQ _ _ (aA _),ck]
theorem de(σ L:H)(k:Nat)(x:ad):(σ++L).set (σ.length+k) x=σ++L.set k x:=by rw[iQ _ _ (by omega)];congr 2;omega
theorem Qb{σ:H}(L:H){r:Nat}(x:ad)(h:r<σ.length):(σ++L).set r x=σ.set r x++L:=List.set_append_left _ _ h
theorem Qd(σ:H){r:Nat}(x y:ad):(σ.set r x).set r y=σ.set r y:=List.set_set ..
theorem Gy{σ:H}{r:Nat}(x:ad)(h:r<σ.length):(σ.set r x)[r]?=some x:=by simp[h]
theorem Qe{x:C}:V.Sz (.c x)↔C.Sz x:=⟨fun h=>by cases h;assumption,fun h=>.c x h⟩
theorem Gz{l:List V}:V.Sz (.agg l)↔∀x∈l,V.Sz x:=⟨fun h=>by cases h;assumption,fun h=>.agg l h⟩
theorem Qf{r:List (List C)}:C.Sz (.sl r)↔r.length<=maxLen/\∀q∈r,∀x∈q,C.Sz x:=⟨fun h=>by cases h;exact⟨by assumption,by assumption⟩,fun h=>.sl r h.1 h.2⟩
def base:Env:=fun _=>.any
def jC(ρ' ρ:Env):Prop:=∀k,V.wk (ρ k) (ρ' k)
theorem jC.base(ρ:Env):jC Lamb.base ρ:=fun k=>.any _
theorem jC.put{ρ' ρ:Env}{d:Nat}{v:V}(h:jC ρ' ρ)(hv:V.wk (ρ d) v):jC (ρ'.put (some d) v) ρ:=by
 intro k;simp only[tw];by_cases hk:k=d
 ·subst hk;rw[if_pos rfl];exact hv
 ·rw[if_neg hk];exact h k
def aZ(n:Nat)(ρ:Env):Prop:=∀k,V.low n (ρ k)
theorem aZ.base(n:Nat):aZ n Lamb.base:=fun k=>.any
theorem aZ.put{n:Nat}{ρ:Env}{d:Nat}{v:V}(h:aZ n ρ)(hv:V.low n v):aZ n (ρ.put (some d) v):=by
 intro k;simp only[tw];by_cases hk:k=d
 ·subst hk;rw[if_pos rfl];exact hv
 ·rw[if_neg hk];exact h k
theorem aq.env{n0:Nat}{ρ' ρ:Env}{σ:H}(h:jC ρ' ρ):aq n0 ⟨ρ',σ⟩ ⟨ρ,σ⟩:=fun w0 κ0 n κ a w _ hR=>
 ⟨κ,hR.cZ,fun k=>(hR.env k).wk (h k),hR.size,hR.defers,hR.le⟩
theorem aq.cut{n0:Nat}{ρ' ρ:Env}{σ σ':H}(h:jC ρ' ρ)(hn:n0<=σ'.length)(hlen:σ'.length<=σ.length)(hok:H.ok (σ.take σ'.length))(hw:H.wk (σ.take σ'.length) σ')(hl:aZ σ'.length ρ'):aq n0 ⟨ρ',σ'⟩ ⟨ρ,σ⟩:=fun w0 κ0 n κ a w hκ hR=>
 ⟨κ.cut σ'.length,(hR.cZ.cut σ'.length hlen hok).tu hw,fun k=>((hR.env k).wk (h k)).cut (hl k),hR.size,hR.defers,K.Ab hR.le (by omega)⟩
theorem aq.drop{n0:Nat}{ρ' ρ:Env}{σ τ:H}(h:jC ρ' ρ)(hn:n0<=σ.length)(hok:H.ok σ)(hl:aZ σ.length ρ'):aq n0 ⟨ρ',σ⟩ ⟨ρ,σ++τ⟩:=
 aq.cut h hn (by simp) (by rw[mT];exact hok) (by rw[mT];exact H.wZ σ) hl
theorem H.Qg{σ τ:H}(h:H.ok σ)(k:∀b∈τ,∀cs tg,b= .cells cs tg->∀x∈cs,V.low (σ++τ).length x):H.ok (σ++τ):=by
 intro b hb cs tg hc x hx;rcases cH.1 hb with hb|hb
 ·exact V.wA (by simp) (h b hb cs tg hc x hx)
 ·exact k b hb cs tg hc x hx
section
variable {P:Program} {w0:World} {n0:Nat} {Q:St->Prop}
theorem W.bA{c:AC}{k:List It}{s:St}{α:Type}(p:α->Prop)(S:α->St)(μ:α->Nat)(x0:α)(hp:p x0)(h0:aq n0 (S x0) s)(h:∀x,p x->W P w0 n0 Q (.code c:: .inv (fun s'=>∃y,p y/\μ y<μ x/\aq n0 (S y) s')::k) (S x)):W P w0 n0 Q (.code (.loop c)::k) s:=by
 refine .loop (α:={x:α//p x}) (fun x=>S x.1) (fun x=>μ x.1) ⟨x0,hp⟩ h0 (fun x=>?_);have:=h x.1 x.2;have e:(fun s'=>∃y,p y/\μ y<μ x.1/\aq n0 (S y) s')=(fun s'=>∃y:{x:α//p x},μ y.1<μ x.1/\aq n0 (S y.1) s'):=by
  funext s';apply propext;exact⟨fun⟨y,h1,h2⟩=>⟨⟨y,h1⟩,h2⟩,fun⟨y,h⟩=>⟨y.1,y.2,h⟩⟩
 rw[e]at this;exact this
end
theorem bD{n:Int}(h:-9223372036854775808<=n)(h':n<=9223372036854775807):IntKind.i64.wrap n=n:=by
 unfold IntKind.wrap IntKind.bits IntKind.signed;simp;omega
def rowsOf(size:Nat):Nat->List C->List (List C)
 |0,_=>[]
 |k+1,cs=>cs.take size::rowsOf size k (cs.drop size)
theorem w9(size:Nat):∀(k:Nat) (cs:List C),(rowsOf size k cs).length=k
 |0,_=>rfl
 |k+1,cs=>by simp[rowsOf,w9 size k]
theorem tx(size:Nat):∀(k:Nat) (cs:List C) (i:Nat) (hi:i<(rowsOf size k cs).length),(rowsOf size k cs)[i]=(cs.drop (i*size)).take size
 |0,_,i,hi=>by simp[rowsOf]at hi
 |k+1,cs,0,_=>by simp[rowsOf]
 |k+1,cs,i+1,hi=>by
  simp only[rowsOf,List.getElem_cons_succ];rw[tx size k (cs.drop size) i,List.drop_drop,show size+i*size=(i+1)*size from by rw[fi];omega]
theorem ph{size:Nat}:∀{rows:List (List C)},(∀r∈rows,r.length=size)->rowsOf size rows.length rows.flatten=rows
 |[],_=>rfl
 |r::l,h=>by
  have hr:=h r (by simp);simp only[bo,rowsOf,List.flatten_cons];rw[List.take_append_of_le_length (by omega),fj (by omega),List.drop_append_of_le_length (by omega),List.drop_of_length_le (by omega),List.nil_append,ph (fun q hq=>h q (by simp[hq]))]
theorem aB.jD{w0 w:World}{κ:K}{σ:H}(h:aB w0 κ σ w){b e size:Nat}{cs:List C}(hb:σ[b]?=some (.vec e size cs)):∃κ',κ.le κ'/\aB w0 κ' (σ.set b .gone) w/\
  ∀k v,k*size<=cs.length->RV κ' (.vec b k) v->RC κ'.m (.sl (rowsOf size k cs)) v:=by
 obtain⟨hlt,hb'⟩:=aK.1 hb;have hblk:=h.cz b hlt;rw[hb']at hblk;obtain⟨vs,n,cap,k0,k1,k2,k3,k4,k5,k6⟩:=hblk.row;have hle:κ.le (κ.froze (κ.pos b) vs.toList):=K.Ai hblk.free;refine⟨κ.froze (κ.pos b) vs.toList,hle,(h.FH b).froze hblk.free (fun p v hv=>?_) (fun j hj=>?_),fun k v hk hv=>?_⟩
 ·have hv':vs[p]?=some v:=by simpa using hv
  simp[World.cell?,k1,hv']
 ·have hj':j<σ.length:=by simpa using hj
  by_cases hjb:j=b
  ·subst hjb;rw[List.getElem_set_self];exact fun e=>by cases e
  ·rw[List.getElem_set_ne (di hjb)];intro e;exact h.apart j b hj' hlt _ hjb e (by rw[hb'];rfl)
 ·cases hv with
  |vec r1 r2 r3 r4 r5 r6=>
   rename_i n' cap';have hle2:cs.length<=vs.size:=by rw[k2,k5];exact iN _ k3
   have hlen:(vs.toList.take (k*size)).length=k*size:=by simp;omega
   have hrl:=w9 size k cs;have hrow:∀i (hi:i<(rowsOf size k cs).length),(rowsOf size k cs)[i].length=size:=fun i hi=>by
    have:(i+1)*size<=k*size:=iN _ (by omega);rw[fi]at this;rw[tx];simp;omega
   have:=RC.sl (m:=(κ.froze (κ.pos b) vs.toList).m) (rowsOf size k cs) size (some ⟨κ.pos b,0,none⟩) cap' (vs.toList.take (k*size)) (fun r hr=>by
    obtain⟨i,hi,rfl⟩:=fU hr;exact hrow i hi) (by omega) r6 (by rw[hlen,hrl]) (fun _=>⟨κ.pos b,0,rfl,fun j hj=>by
     show(if κ.pos b=κ.pos b then _ else _)=_;rw[if_pos rfl,Nat.zero_add,lH,if_pos (by omega)]⟩) (fun i hi j hj=>by
    have hij:i*size+j<k*size:=mul_lt (by omega) (by rw[<-hrow i hi];exact hj);have h6:=(k6 (i*size+j) (by omega)).mono hle.m;have e1:(rowsOf size k cs)[i][j]=cs[i*size+j]'(by omega):=by
     have:=tx size k cs i hi;simp only[this,List.getElem_take,List.getElem_drop]
    rw[e1,cc,lH,if_pos hij];simpa[ik]using h6)
   rw[hrl]at this;exact this
theorem aq.jD{n0:Nat}{ρ:Env}{σ:H}{b e size k d:Nat}{cs:List C}(hb:σ[b]?=some (.vec e size cs))(hk:k*size<=cs.length)(hρ:ρ d= .vec b k):
  aq n0 ⟨ρ.put (some d) (.c (.sl (rowsOf size k cs))),σ.set b .gone⟩ ⟨ρ,σ⟩:=fun w0 κ0 n κ a w hκ hR=>by
 obtain⟨κ',h1,h2,h3⟩:=aB.jD hR.cZ hb;refine⟨κ',h2,fun j=>?_,hR.size,hR.defers,K.le_trans hR.le h1⟩;show RV κ' (Env.put ρ (some d) _ j) _;rw[tw];by_cases hj:j=d
 ·subst hj;rw[if_pos rfl];have hv:=hR.env j;rw[show(⟨ρ,σ⟩:St).ρ j=ρ j from rfl,hρ]at hv;exact .c (h3 k _ hk (hv.mono h1))
 ·rw[if_neg hj];exact(hR.env j).mono h1
theorem W.jD{P:Program}{w0:World}{n0:Nat}{Q:St->Prop}{kk:List It}{ρ:Env}{σ:H}{b e size k:Nat}{cs:List C}(d:Nat)(hρ:ρ d= .vec b k)(hb:σ[b]?=some (.vec e size cs))(hk:k*size<=cs.length)
 (h:W P w0 n0 Q kk ⟨ρ.put (some d) (.c (.sl (rowsOf size k cs))),σ.set b .gone⟩):W P w0 n0 Q kk ⟨ρ,σ⟩:=.fG (aq.jD hb hk hρ) h
theorem xa{x y:V}{l r:List V}(h:V.wk x y)(k:V.wk (.agg l) (.agg r)):V.wk (.agg (x::l)) (.agg (y::r)):=by
 have hk:r.length=l.length/\∀j (hj:j<l.length) (hj':j<r.length),V.wk l[j] r[j]:=by
  cases k with
  |rfl=>exact⟨rfl,fun j hj hj'=>.rfl _⟩
  |agg h1 h2=>exact⟨h1,h2⟩
 refine .agg (by simp[hk.1]) fun j hj hj'=>?_;cases j with
 |zero=>exact h
 |succ j=>exact hk.2 j (nQ hj) (nQ hj')
theorem Qh{x y:V}{l r:List V}(h:V.wk x y)(k:V.wk (.av l) (.av r)):V.wk (.av (x::l)) (.av (y::r)):=by
 have hk:r.length=l.length/\∀j (hj:j<l.length) (hj':j<r.length),V.wk l[j] r[j]:=by
  cases k with
  |rfl=>exact⟨rfl,fun j hj hj'=>.rfl _⟩
  |av h1 h2=>exact⟨h1,h2⟩
 refine .av (by simp[hk.1]) fun j hj hj'=>?_;cases j with
 |zero=>exact h
 |succ j=>exact hk.2 j (nQ hj) (nQ hj')
def okB(n:Nat):List ad->Prop
 |[]=>True
 | .cells cs _::l=>(∀x∈cs,V.low n x)/\okB n l
 | .spare ..::l=>okB n l
 | .mp _::l=>okB n l
 | .vec ..::l=>okB n l
 | .gone::l=>okB n l
theorem qX{n:Nat}:∀{l:List ad},okB n l->∀b∈l,∀cs tg,b= .cells cs tg->∀x∈cs,V.low n x
 |[],_,b,hb,_,_,_,_,_=>by cases hb
 | .cells cs _::l,h,b,hb,cs',tg',hc,x,hx=>by
   rcases cD.1 hb with rfl|hb
   ·injection hc with hc;subst hc;exact h.1 x hx
   ·exact qX h.2 b hb cs' tg' hc x hx
 | .spare ..::l,h,b,hb,cs',tg',hc,x,hx=>by
   rcases cD.1 hb with rfl|hb
   ·cases hc
   ·exact qX (l:=l) h b hb cs' tg' hc x hx
 | .mp _::l,h,b,hb,cs',tg',hc,x,hx=>by
   rcases cD.1 hb with rfl|hb
   ·cases hc
   ·exact qX (l:=l) h b hb cs' tg' hc x hx
 | .vec ..::l,h,b,hb,cs',tg',hc,x,hx=>by
   rcases cD.1 hb with rfl|hb
   ·cases hc
   ·exact qX (l:=l) h b hb cs' tg' hc x hx
 | .gone::l,h,b,hb,cs',tg',hc,x,hx=>by
   rcases cD.1 hb with rfl|hb
   ·cases hc
   ·exact qX (l:=l) h b hb cs' tg' hc x hx
theorem H.Qi{σ τ:H}(h:H.ok σ)(k:okB (σ.length+τ.length) τ):H.ok (σ++τ):=
 H.Qg h fun b hb cs tg hc x hx=>by rw[bt];exact qX k b hb cs tg hc x hx
def bu:List ad->List ad->Prop
 |[],[]=>True
 |x::l,y::r=>ad.wk x y/\bu l r
 |_,_=>False
theorem GA:∀{l r:List ad},bu l r->l.length=r.length/\∀j (hj:j<l.length) (hj':j<r.length),ad.wk l[j] r[j]
 |[],[],_=>⟨rfl,fun j hj=>by simp at hj⟩
 |x::l,y::r,h=>by
  obtain⟨h1,h2⟩:=GA h.2;refine⟨by simp[h1],fun j hj hj'=>?_⟩;cases j with
  |zero=>exact h.1
  |succ j=>exact h2 j (nQ hj) (nQ hj')
 |[],_::_,h=>h.elim
 |_::_,[],h=>h.elim
theorem aq.eS{n0:Nat}{ρ' ρ:Env}{σ L L':H}(hσ:H.ok σ)(h:jC ρ' ρ)(hn:n0<=σ.length+L'.length)(hlen:L'.length<=L.length)(hok:okB (σ.length+L'.length) (L.take L'.length))(hw:bu (L.take L'.length) L')(hl:aZ (σ.length+L'.length) ρ'):
  aq n0 ⟨ρ',σ++L'⟩ ⟨ρ,σ++L⟩:=by
 have ht:(σ++L).take (σ++L').length=σ++L.take L'.length:=by rw[bt,List.take_append,fj (by omega)];congr 2;omega
 have hlt:(L.take L'.length).length=L'.length:=by simp[hlen]
 refine aq.cut h (by simpa using hn) (by simpa using hlen) (by rw[ht];exact H.Qi hσ (by rw[hlt];exact hok)) ?_ (by simpa using hl);rw[ht];obtain⟨h1,h2⟩:=GA hw;refine⟨by simp[h1],fun j hj hj'=>?_⟩;rcases dS j σ.length with hjs|hjs
 ·rw[cC hjs,cC hjs];exact .rfl _
 ·rw[dJ hjs,dJ hjs];exact h2 _ (by simp at hj;simp;omega) (by simp at hj';omega)
theorem Fin.gen{r:List aw}{s:St}{σ' τ:H}{vs:List V}{d:V}{n0:Nat}{R:V->H->Prop}(hok:H.ok σ')(hn:σ'.length=n0)(h:br s r=some vs)(hd:V.wk (ak vs) d)(hl:V.low n0 d)(hσ:s.σ=σ'++τ)(hR:R d σ'):Fin r n0 R s:=by
 subst hn;have ht:s.σ.take σ'.length=σ':=by rw[hσ];exact mT
 exact⟨vs,d,σ',h,hd,hl,by rw[hσ];simp,by rw[ht];exact hok,by rw[ht];exact H.wZ σ',hR⟩
theorem Fin.lW{r:List aw}{s:St}{σ' τ:H}{vs:List V}{d:V}{n0:Nat}(hok:H.ok σ')(hn:σ'.length=n0)(h:br s r=some vs)(hd:V.wk (ak vs) d)(hl:V.low n0 d)(hσ:s.σ=σ'++τ):Fin r n0 (Same d σ') s:=
 Fin.gen hok hn h hd hl hσ ⟨rfl,rfl⟩
theorem ad.eT{cs ds:List V}{tg:Option TypeId}(h:V.wk (.agg cs) (.agg ds))(hl:leaves ds=true):ad.wk (.cells cs tg) (.cells ds tg):=by
 cases h with
 |rfl=>exact .rfl _
 |agg h1 h2=>exact .cells h1 h2 hl
theorem AP(σ L:H)(b:Nat)(x:ad):(σ.set b x++L)[σ.length]?=L[0]?:=by
 have:=eB (σ.set b x) L;rwa [bC]at this
theorem AQ(σ L:H)(b:Nat)(x:ad)(k:Nat):(σ.set b x++L)[σ.length+k]?=L[k]?:=by
 have:=bY (σ.set b x) L k;rwa [bC]at this
theorem AR(σ L:H)(b:Nat)(x y:ad):(σ.set b x++L).set σ.length y=σ.set b x++L.set 0 y:=by
 have:=qW (σ.set b x) L y;rwa [bC]at this
theorem iz(σ L:H)(b:Nat)(x y:ad)(k:Nat):(σ.set b x++L).set (σ.length+k) y=σ.set b x++L.set k y:=by
 have:=de (σ.set b x) L k y;rwa [bC]at this
theorem hG{σ:H}{b:Nat}{x:ad}(hb:σ[b]?=some x)(L:H):(σ++L)[b]?=some x:=(Qa L (aK.1 hb).1).trans hb
theorem hS{σ:H}{b:Nat}{x:ad}(hb:σ[b]?=some x)(y:ad)(L:H):(σ++L).set b y=σ.set b y++L:=Qb L y (aK.1 hb).1
theorem pj{σ:H}{b:Nat}{x:ad}(hb:σ[b]?=some x):σ.set b x=σ:=by
 obtain⟨h,rfl⟩:=aK.1 hb;exact List.set_getElem_self h
def fv(K:List cA->Env->H->List H->Prop):List cA->Env->H->List H->Prop
 |[],ρ,σ,past=>K [] ρ σ past
 |⟨o,b,lo⟩::l,ρ,σ,past=>match bU ρ o.guard with
  |some true=>match b with
   |true=>match Lamb.step ρ σ o.ins with
    |some (v,σ1)=>fv K l (ρ.put o.dst v) σ1 (σ::past)
    |none=>K (⟨o,true,lo⟩::l) ρ σ past
   |false=>match o.ins.quiet with
    |true=>match Lamb.step ρ σ o.ins with
     |some (v,_)=>(∀τ∈past.take (past.length-lo),Lamb.step ρ τ o.ins=some (v,τ))/\fv K l (ρ.put o.dst v) σ past
     |none=>K (⟨o,false,lo⟩::l) ρ σ past
    |false=>K (⟨o,false,lo⟩::l) ρ σ past
  |some false=>match b with
   |true=>fv K l (ρ.put o.dst .void) σ (σ::past)
   |false=>fv K l (ρ.put o.dst .void) σ past
  |none=>K (⟨o,b,lo⟩::l) ρ σ past
section
variable {P:Program} {w0:World}
theorem ae.fv{ρ':Env}{σ':H}{past':List H}:∀(l:List cA) (ρ:Env) (σ:H) (past:List H),Lamb.fv (fun l ρ σ past=>ae P w0 l ρ σ past ρ' σ' past') l ρ σ past->ae P w0 l ρ σ past ρ' σ' past'
 |[],ρ,σ,past,h=>h
 |⟨o,b,lo⟩::l,ρ,σ,past,h=>by
  simp only[Lamb.fv]at h;split at h
  ·rename_i hg;split at h
   ·split at h
    ·rename_i v σ1 hs;exact .bK (.step hg hs) (ae.fv l _ _ _ h)
    ·exact h
   ·split at h
    ·rename_i hq;split at h
     ·rename_i v σ1 hs;have hσ:=quiet_step hq hs;subst hσ;exact .quiet (.step hg hs) (fun τ hτ=>.step hg (h.1 τ hτ)) (ae.fv l _ _ _ h.2)
     ·exact h
    ·exact h
  ·rename_i hg;split at h
   ·exact .bK (.skip hg) (ae.fv l _ _ _ h)
   ·exact .quiet (.skip hg) (fun τ _=>.skip hg) (ae.fv l _ _ _ h)
  ·exact h
theorem ae.pn{σ σ':H}{past past':List H}{ρ ρ':Env}{d:Option Nat}{f:ai}{as:List ai}{g:Option (Nat×Bool)}{lo:Nat}{l:List cA}{fid:FuncId}{caps args:List V}{v:V}(hc:∀τ,DC P w0 fid args τ (Same v τ))(hg:bU ρ g=some true)(hf:f.ev ρ= .fn fid caps)
  (ha:as.map (·.ev ρ)++caps=args) (h:ae P w0 l (ρ.put d v) σ past ρ' σ' past'):ae P w0 (⟨⟨d,.call f as,g⟩,false,lo⟩::l) ρ σ past ρ' σ' past':=
 .quiet (.call hg rfl hf (by rw[ha];exact hc σ)) (fun τ _=>.call hg rfl hf (by rw[ha];exact hc τ)) h
end
end Go.Lamb
