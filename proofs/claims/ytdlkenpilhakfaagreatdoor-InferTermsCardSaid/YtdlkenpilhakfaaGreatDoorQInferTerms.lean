/-
 InferTerms holds: for every input the statement's function returns true;package-level variables hold what the program's text lays (the card ties them).
-/
import Derived.Test.YtdlkenpilhakfaaGreatDoorQE
import Derived.Test.YtdlkenpilhakfaaGreatDoorCards
import Derived.Test.YtdlkenpilhakfaaGreatDoorTie
import Derived.Deep.DeepWitnessRowRef
import Derived.Lib.LaidU8
import Derived.Stop.LaidErr
import Derived.Lay
set_option linter.unusedSimpArgs false
set_option linter.unusedVariables false
set_option maxHeartbeats 8000000
set_option maxRecDepth 20000
set_option linter.defProp false
set_option linter.unnecessarySimpa false
set_option linter.constructorNameAsVariable false
open Bool renaming and_eq_true->bM,false_or->tX,true_or->rT,and_eq_true_iff->dL
open Go renaming trodAll_cons_mk->Qu
open Go.DataW renaming trod->xy
open Go.IntKind renaming i64->aE
open Go.Lib.laidMet renaming reads->QI
open Go.OpenSpec renaming ofChange->Gy
open Go.Proofs.Tryz renaming checked->Qv,f3->nA
open Go.Proofs.YtdlkenpilhakfaaGreatDoor.Rows renaming inferTermsRow->xc,inferTermsSpec->tQ
open Go.Proofs.YtdlkenpilhakfaaGreatDoor.Tryz renaming pinned->xd
open Int renaming toNat_natCast->jX
open List renaming cons_ne_nil->aF,flatten_cons->dS,flatten_nil->kO,getD_eq_getElem?_getD->cx,getElem?_append_left->cr,getElem?_eq_getElem->aN,getElem?_eq_some_iff->aI,getElem?_set_ne->bA,getElem?_set_self->bW,getElem_append_left->cM,getElem_mem->bg,getElem_of_mem->eH,length_append->bC,length_cons->bG,length_map->bY,length_nil->dU,length_pos_iff->iX,length_set->bz,length_take->dE,map->gV,map_append->dF,map_cons->ck,map_nil->cP,mem_cons_self->aZ,mem_map->eU,take->dj,take_length->jA,take_of_length_le->dT,take_succ_eq_append_getElem->eW,take_zero->ey,append_nil->cd,drop_eq_getElem_cons->gg,drop_of_length_le->p7,getElem_cons_succ->ml,getElem_cons_zero->di,getElem_map->eI,headD_cons->oX,mem_cons->cD,mem_cons_of_mem->bH,nil_append->dK,zipWith->gj,forall_mem_cons->tY,getElem?_eq_none->rV,not_mem_nil->iZ
open Nat renaming le_refl->aA,le_trans->bf,zero_add->eJ,zero_le->be,mul_add->iC,mul_one->eK,not_lt_zero->fe
open Option renaming getD_none->qa,map_none->mf,map_some->fc
open Option.some renaming inj->xe
open Go.Proofs.Tryz
namespace Go.Proofs.YtdlkenpilhakfaaGreatDoor
open Go.RowKit Go.Lamb
section
attribute [local go_sem] aa.v aa.aG aO aQ aL aH aM
def aa6(w0:World)(p:aa)(w:cY p<=1000000)(σ:H):DC prog w0 46 [p.v] σ (Same (.au [.c (aM (eC p).1),(eC p).2.v]) σ):=by
 refine Wb.go rfl (fun h r=>?_);apply bl;simp only[go_sem,c46];refine W.own 4 34 4 rfl ?_;apply bl;simp only[go_sem];refine W.aY (α:=List aa×aa) (fun x=>(x.1++(eC x.2).1,(eC x.2).2)=eC p/\x.1.length+cY x.2<=cY p) (fun x=>⟨(((base.put (some 1) (.ptr σ.length 0)).put (some 3) (.ptr (σ.length+1) 0)).put (some 4) (.aC (σ.length+2) (x.1.map aa.cs))),σ++[.cells x.2.v.af,.cells [I 0,S [],I 0,.ae []],.spare 34 4 x.1.length]⟩) (fun x=>cY x.2) ([],p) ⟨rfl,by simp⟩ ?_ (fun x t=>?_)
 ·exact wV
 ·obtain⟨e,q⟩:=x;obtain⟨hp,hd⟩:=t;simp only at hp hd;apply bl;simp only[go_sem];cases g:cX q
  ·(refine db (AH w0 q _) ?_;simp only[go_sem,g]);refine wN ?_;simp only[go_sem];rw[yo g,List.append_nil]at hp;(apply W.aD (aF _ _);case hc=>((apply ab.aj;simp only[go_sem]);exact ab.nil));apply bl;simp only[go_sem];rw[<-hp];exact wF h
  ·obtain⟨a,b,hl⟩:=Cp g;rw[Cr g hl]at hp;have u:cY b<cY q:=yl (by rw[hl];simp);have i:(e.length+1)*56<=140737488355328:=by omega
   have j:e.length+1<=140737488355328:=by omega
   (refine db (AH w0 q _) ?_;simp only[go_sem,g]);refine wY ?_;simp only[go_sem,hl,i,j];refine .inv ⟨(e++[a],b),⟨by rw[<-hp];simp,by simp;omega⟩,by simp only;omega,?_⟩;simp only[go_sem,dF];exact wV
section
variable {n0 p:Nat} {σ τ:H} {g:Sg} {f:az} {y3 y4 y5:V}
def aa7(w0:World)(h:aS n0 σ p g f y3 y4 y5)(hn:n0<=σ.length)(hl:f.live=true)(hs:f.sub.length<=999999){m i:Int}(t:aE.wrap (m+i)=(f.sub.length:Int)):
  ∃τ,aS n0 τ p g f.fresh (.vec σ.length (f.sub.length+1)) y4 y5/\Kept n0 p σ τ/\∀{N:Nat} {Q:St->Prop} {k:List It} {e:List cE} {c:Env},c 0= .ptr p 0->c 6=I m->c 7=I i->W prog w0 N Q k ⟨wy c p m i σ.length f.sub.length y3,τ⟩->W prog w0 N Q (.code (.ff AM e)::k) ⟨c,σ⟩:=by
 have U:(f.sub++[aJ f.sub.length]).length=f.sub.length+1:=by simp
 have X:f.fresh={f with sub:=f.sub++[aJ f.sub.length],live:=f.live}:=rfl;rcases h.sub hl with⟨j,rfl⟩|⟨b,F,rfl,E,_⟩
 ·have u:=h.vX (σ1:=σ) hn rfl (fun _=>.inl rfl) (f.sub++[aJ f.sub.length]) (by simp) f.live;rw[U]at u;refine⟨_,by rw[X];exact u.1,u.2,fun{N Q k e c} h0 G J A=>?_⟩;have Y:(f.sub.length:Int)=0:=by rw[j];rfl
  refine W.ux (fun L x=>x=er 34 σ σ p _ none f.sub.length [] (L 10) (L 12) (L 15)) (by simp[er]) (O5 σ σ p f.sub.length (by omega) _ none h.here h.here rfl (.ae []) rfl [] (by rw[j];rfl) m i t (fun c τ h=>by simp only[Lamb.step,ah.ev,h,Y];rfl) (fun c o hg M O P=>?_) c h0 G J) ?_
  ·have R:f.sub.length=0:=by rw[j];rfl
   rw[R];refine dt.vec (olds:=[]) (news:=[cO]) (by rw[hg];rfl) M O (by show(c 30).rows=_;rw[P];rfl) ⟨by simp,by simp,by simp[cO],by simp,by simp⟩ (fun x r=>?_);subst r;exact⟨by simp,by simp⟩
  ·intro L w x r;rw[w 10 (by decide),w 12 (by decide),w 15 (by decide)]at r;subst r;have:aK (f.sub++[aJ f.sub.length])=[]++jr f.sub.length:=by rw[EA,j];rfl
   rw[this]at A;exact A
 ·have u:=h.vX (σ1:=σ.set b .gone) hn (bz ..) (fun Z=>by
   by_cases e:Z=b
   ·subst e;exact .inr ⟨F,_,E⟩
   ·exact .inl (bA (Ne.symm e))) (f.sub++[aJ f.sub.length]) (by simp) f.live
  rw[U]at u;refine⟨_,by rw[X];exact u.1,u.2,fun{N Q k e c} h0 G J A=>?_⟩;have hbl:=(aI.1 E).1;have D:=gC f.sub;have T:(σ.set b .gone)[p]?=some (bh g f (.vec b f.sub.length) y4 y5):=oe h.here (by rw[E];intro e;cases e);refine W.ux (fun L x=>x=er 34 σ (σ.set b .gone) p _ none f.sub.length (aK f.sub) (L 10) (L 12) (L 15)) (by simp[er]) (O5 σ (σ.set b .gone) p f.sub.length (by omega) _ none h.here T (bz ..) (.vec b f.sub.length) rfl (aK f.sub) (gC _) m i t (fun c τ h=>by simp only[Lamb.step,ah.ev,h]) (fun c o hg M O P=>?_) c h0 G J) ?_
  ·refine dt.step (by rw[hg];rfl) (fun x r=>?_);subst r;rw[M];have h3:(V.ae [cO]).rows=some [cO]:=rfl;refine⟨_,?_,rfl⟩;simp only[Lamb.step,ah.ev,O,P,h3,mA,E];have q1:(aK f.sub).take (f.sub.length*4)=aK f.sub:=by rw[<-D];exact jA
   rw[if_pos ⟨trivial,trivial,Nat.le_of_eq D.symm,by simp,by simp[cO],by simp;omega,by simp;omega⟩,q1];simp
  ·intro L w x r;rw[w 10 (by decide),w 12 (by decide),w 15 (by decide)]at r;subst r;have:aK (f.sub++[aJ f.sub.length])=aK f.sub++jr f.sub.length:=by rw[EA];rfl
   rw[this]at A;exact A
def O6(w0:World)(h:aS n0 σ p g f y3 y4 y5)(hn:n0<=σ.length)(hl:f.live=true)(t:aa)(hv:bZ t=true)(ht:aw t<=10000)(hs:f.sub.length+aw t<=999999):
  ∃τ R,DC prog w0 39 [.ptr p 0,t.v] σ (Same (f.ca t).v τ)/\aS n0 τ p g (f.renew t) R y4 y5/\Kept n0 p σ τ:=by
 obtain⟨n1,n2,n3,n4⟩:=rj hv (by omega);have hN:=fun σ=>OM w0 t (by omega) σ;have hS:=fun σ=>aak w0 f.sub.length (bT t) (by omega) σ;have T:=fun σ=>aa1 w0 (bT t) σ;have hE:(b8 (gA f.sub.length) () (bT t)).1=f.ca t:=rfl;rw[hE]at hS;obtain⟨j,w⟩:∃j:Nat,bS 0 (bT t)=(j:Int):=⟨(bS 0 (bT t)).toNat,by omega⟩;have r:f.renew t=f.more j:=by unfold az.renew;rw[w,jX]
 rw[w]at T n4;rw[r];have hp:=fun L=>hG h.here L;unfold bh at hp;have A:=h.lt;have F:=h.app [.cells t.v.af,.cells [I 0,S [],I 0,.ae []],.cells (bT t).v.af];have G:=(Kept.refl n0 p σ).app hn [.cells t.v.af,.cells [I 0,S [],I 0,.ae []],.cells (bT t).v.af];obtain⟨c,c0,cG,cS⟩:=OT (α:=H×V) (fun i x=>aS n0 x.1 p g (f.more i) x.2 y4 y5/\Kept n0 p (σ++[.cells t.v.af,.cells [I 0,S [],I 0,.ae []],.cells (bT t).v.af]) x.1)
  (fun i x x'=>∀{N:Nat} {Q:St->Prop} {k:List It} {e:List cE} {E:Env},E 0= .ptr p 0->E 6=I (f.sub.length:Int)->E 7=I (i:Int)->W prog w0 N Q k ⟨wy E p f.sub.length i x.1.length (f.more i).sub.length x.2,x'.1⟩->W prog w0 N Q (.code (.ff AM e)::k) ⟨E,x.1⟩) j (_,y3) ⟨F,.refl _ _ _⟩ (fun i x D U=>by
    obtain⟨m1,m2,m3,m4,m5⟩:=f.pI i;have msub:=f.oh i;obtain⟨X,c2,c3,hW⟩:=aa7 w0 (m:=(f.sub.length:Int)) (i:=(i:Int)) U.1 (bf hn (G.trans U.2).len) (by rw[m5];exact hl) (by omega) (by rw[a7]<;>omega);exact⟨(X,_),fun{N Q k e E}=>hW,c2,U.2.trans c3⟩)
 have J:∀i,i<=j->(c i).1[σ.length+1]?=some (.cells [I 0,S [],I 0,.ae []]):=fun i D=>(cG i D).2.cells _ _ _ (by omega) (Go.Lamb.bx _ _ 1);have Y:∀i,i<=j->(c i).1[σ.length+2]?=some (.cells (bT t).v.af):=fun i D=>(cG i D).2.cells _ _ _ (by omega) (Go.Lamb.bx _ _ 2);obtain⟨M,O⟩:=cG j (aA _);refine⟨_,_,?_,M.box (J j (aA _)) (by omega) (.cells (f.ca t).v.af),(G.trans O).set (.cells (f.ca t).v.af) (a:=σ.length+1) (by omega) (.inr (.inl (by omega)))⟩;have P:=h.sub hl;refine k39.cl rfl (fun hok hsz=>?_)
 clear M O F;generalize f.ca t=u at*
 generalize bT t=s at*
 clear hE r n1 n2 n3 w;rcases P with⟨Z,rfl⟩|⟨b,hb0,rfl,hb,_⟩
 all_goals
  apply bl;simp only[go_sem,OW];(refine db (hN _) ?_;simp only[go_sem,hp]);refine W.aY (fun i=>i<=j) (fun i=>⟨(((((base.put (some 0) (.ptr p 0)).put (some 4) (.ptr (σ.length+1) 0)).put (some 5) (.ptr (σ.length+2) 0)).put (some 6) (I (f.sub.length:Int))).put (some 7) (I (i:Int))),(c i).1⟩) (fun i=>j-i) 0 (be _) ?_ (fun i D=>?_)
  ·try
    have hz:(f.sub.length:Int)=0:=by rw[Z];rfl
    rw[hz]
   rw[c0];exact wV
  have x4:=J i D;have x5:=Y i D;by_cases A:i<j
  ·have z:(i:Int)<(j:Int):=by omega
   have hw:aE.wrap ((i:Int)+1)=((i+1:Nat):Int):=by rw[a7]<;>omega
   apply bl;simp only[go_sem,x5];(refine db (T _) ?_;simp only[go_sem,z]);refine wY ?_;simp only[go_sem];refine cS i A rfl rfl rfl ?_;apply bl;simp only[go_sem,wy,hw];refine .inv ⟨i+1,A,by omega,?_⟩;exact wV
  ·obtain rfl:i=j:=by omega
   have z:¬((i:Int)<(i:Int)):=by omega
   have l1:σ.length+1<(c i).1.length:=(aI.1 x4).1;have s1:∀B,((c i).1.set (σ.length+1) B)[σ.length+1]?=some B:=fun B=>bW l1;apply bl;simp only[go_sem,x5];(refine db (T _) ?_;simp only[go_sem,z]);refine wN ?_;simp only[go_sem,x5];(refine db (hS _) ?_;simp only[go_sem,x4,s1]);exact W.ret ⟨_,_,(by simp only[aX,OX,s1,go_sem];rfl),.rfl _,rfl,rfl⟩
end
end
end Go.Proofs.YtdlkenpilhakfaaGreatDoor
namespace Go.Lamb
open Go Go.RowKit
def AC.tI:AC->AC
 | .seq _ (.seq _ r)=>r
 |x=>x
end Go.Lamb
namespace Go.Proofs.YtdlkenpilhakfaaGreatDoor
open Go.RowKit Go.Lamb
section
def iU(n0 p:Nat)(g:Sg)(σ:H)(m:aa×aa×az):V->H->Prop:=fun d τ=>∃a b:aa,d= .au [a.v,b.v]/\(m.2.2.e=0->a=m.1/\b=m.2.1)/\(∃y3 y4 y5,aS n0 τ p g m.2.2 y3 y4 y5)/\Kept n0 p σ τ
section
variable {n0 p:Nat} {σ E:H} {g:Sg} {f f':az} {y3 y4 y5 z3 z4 z5:V}
def oz{N:Nat}(h:aS n0 E p g f' z3 z4 z5)(k:Kept n0 p σ E)(i:N=σ.length)(hn:n0<=σ.length)(j:p<σ.length){c4 c5:List V}(b:E[N+1]?=some (.cells c4))(c:E[N+2]?=some (.cells c5)):
  (∀A,(E.set (N+1) A)[N+2]?=some (.cells c5))/\(∀A B,((E.set (N+1) A).set (N+2) B)[N+2]?=some B)/\(∀A B,((E.set (N+1) A).set (N+2) B)[N+1]?=some A)/\(∀A B,aS n0 ((E.set (N+1) A).set (N+2) B) p g f' z3 z4 z5)/\∀A B,Kept n0 p σ ((E.set (N+1) A).set (N+2) B):=by
 subst i;have r:=(aI.1 b).1;have t:=(aI.1 c).1;have e:=fun A=>(bA (l:=E) (a:=A) (by omega:σ.length+1≠σ.length+2)).trans c;exact⟨e,fun A B=>bW (by rw[bz];exact t),fun A B=>by rw[bA (by omega)];exact bW r,
  fun A B=>(h.box b (by omega) A).box (e A) (by omega) B,fun A B=>(k.set A (a:=σ.length+1) (by omega) (.inr (.inl (by omega)))).set B (a:=σ.length+2) (by omega) (.inr (.inl (by omega)))⟩
def aa8{l:List av}{i:Nat}(b:i<l.length)(J:List C):(bX l++J)[i*5]?=some (.str l[i].name):=by
 have h:=nh l;rw[cr (by omega)];exact ED b
attribute [local go_sem] aa.v aa.aG aO aQ aL aH aM
def aa9(w0:World)(h:aS n0 σ p g f y3 y4 y5)(hn:n0<=σ.length)(hbl:f.bound.length<=1000000)(t:al)
  (i:cZ t.name 0 f.bound=-1->H.ok σ->W prog w0 σ.length (sJ ox (iU n0 p g σ (gP g f t))) [.code (AC.tI ow)] ⟨((((base.put (some 0) (.ptr p 0)).put (some 3) (.ptr σ.length 0)).put (some 4) (.ptr (σ.length+1) 0)).put (some 5) (.ptr (σ.length+2) 0)),σ++[.cells t.v.af,.cells [I 0,S [],I 0,.ae []],.cells [I 0,S [],I 0,.ae []]]⟩):
  DC prog w0 83 [.ptr p 0,t.v] σ (iU n0 p g σ (gP g f t)):=by
 refine k83.cl rfl (fun Q hsz=>?_);replace i:=fun e=>i e Q;have hp:=fun L=>hG h.here L;unfold bh at hp;have hlt:=h.lt;rcases h.dn with⟨h0,rfl⟩|⟨b,J,hb0,rfl,hb⟩
 ·have z:¬((-1:Int)>=0):=by decide
  have hw:aE.wrap (0-1)=-1:=by decide
  replace i:=i (by rw[h0];rfl);apply bl;simp only[go_sem,ow,hp,hw];refine W.aY (α:=Unit) (fun _=>True) (fun _=>⟨(((((base.put (some 0) (.ptr p 0)).put (some 3) (.ptr σ.length 0)).put (some 4) (.ptr (σ.length+1) 0)).put (some 5) (.ptr (σ.length+2) 0)).put (some 6) (I (-1))),σ++[.cells t.v.af,.cells [I 0,S [],I 0,.ae []],.cells [I 0,S [],I 0,.ae []]]⟩) (fun _=>0) () trivial ?_ (fun _ _=>?_)
  ·exact wV
  apply bl;simp only[go_sem,z];refine W.no rfl ?_;refine W.cp 1 _ _ ?_;simp only[go_sem];refine .ek ?_ i;exact wV
 ·have D:aE.wrap ((f.bound.length:Int)-1)=(f.bound.length:Int)-1:=by rw[a7]<;>omega
  have r:=fun L=>hG hb L;have E:=fun L=>h.app L;have u:=fun L=>(Kept.refl n0 p σ).app hn L;have hnl:=nh f.bound;apply bl;simp only[go_sem,ow,hp,D];refine W.aY (fun k=>k<=f.bound.length/\∀j,k<=j->∀w:j<f.bound.length,(f.bound[j].name==t.name)=false) (fun k=>⟨(((((base.put (some 0) (.ptr p 0)).put (some 3) (.ptr σ.length 0)).put (some 4) (.ptr (σ.length+1) 0)).put (some 5) (.ptr (σ.length+2) 0)).put (some 6) (I ((k:Int)-1))),σ++[.cells t.v.af,.cells [I 0,S [],I 0,.ae []],.cells [I 0,S [],I 0,.ae []]]⟩) (fun k=>k) f.bound.length ⟨aA _,fun j Y h2=>absurd h2 (by omega)⟩ ?_ (fun k R=>?_)
  ·exact wV
  obtain⟨R,c⟩:=R;cases k with
  |zero=>
   have z:¬((((0:Nat):Int))-1>=0):=by omega
   replace i:=i (vW _ _ _ (fun x hx=>by obtain⟨j,w,e⟩:=eH hx;rw[<-e];exact c j (be _) w));apply bl;simp only[go_sem,z];refine W.no rfl ?_;refine W.cp 1 _ _ ?_;simp only[go_sem];refine .ek ?_ i;exact wV
  |succ k=>
   have e1:(((k+1:Nat):Int))-1=(k:Int):=by omega
   have O:k<f.bound.length:=R;have Z:(k:Int)>=0:=by omega
   have g1:(0:Int)<=(k:Int):=by omega
   have T:(k:Int)<(f.bound.length:Int):=by omega
   have hw:aE.wrap ((k:Int)-1)=(k:Int)-1:=by rw[a7]<;>omega
   have U:aE.wrap ((f.bound.length:Int)-1-(k:Int))=(f.bound.length:Int)-1-(k:Int):=by rw[a7]<;>omega
   have F:=aa8 O J;have G:=NY O J;have M:k*5+1+4<=(bX f.bound).length+J.length:=by omega
   rw[e1];cases P:(f.bound[k].name==t.name)
   ·have A:∀j,k<=j->∀w:j<f.bound.length,(f.bound[j].name==t.name)=false:=fun j Y w=>by
     by_cases X:j=k
     ·subst X;exact P
     ·exact c j (by omega) w
    clear c;generalize f.bound[k]=x at*
    apply bl;simp only[go_sem,Z];refine wY ?_;simp only[go_sem];apply W.aD (aF _ _)
    case hc=>
     (apply ab.aj;simp only[go_sem,hp,g1,T,r,F,P]);exact ab.nil
    apply bl;simp only[go_sem];refine wN ?_;simp only[go_sem,hw];refine .inv ⟨k,⟨by omega,A⟩,by omega,?_⟩;exact wV
   ·have N:cZ t.name 0 f.bound=(k:Int):=by
     rw[Am _ _ 0 k O P (fun j Y w=>c j (by omega) w),eJ]
    have hM:gP g f t=ri f (k:Int):=by unfold gP;rw[N,if_pos (by omega)]
    have dI:(f.bound.getD k .none).ty=f.bound[k].ty:=by rw[cx,aN O];rfl
    rw[hM];unfold ri;rw[jX,dI];clear c i hM dI N;generalize f.bound[k]=x at*
    apply bl;simp only[go_sem,Z];refine wY ?_;simp only[go_sem];apply W.aD (aF _ _)
    case hc=>
     (apply ab.aj;simp only[go_sem,hp,g1,T,r,F,P]);exact ab.nil
    apply bl;simp only[go_sem];refine wY ?_;simp only[go_sem];apply W.aD (aF _ _)
    case hc=>
     (apply ab.aj;simp only[go_sem,hp,D,U,g1,T,r,G,M,bY]);exact ab.nil
    apply bl;simp only[go_sem];exact W.ret ⟨_,_,(by simp only[aX,ox,go_sem];rfl),aR,.mk 3 [] ((f.bound.length:Int)-1-(k:Int)) [],x.ty,rfl,fun _=>⟨rfl,rfl⟩,⟨_,_,_,E _⟩,u _⟩
end
section
variable {n0 p:Nat} {σ E:H} {g:Sg} {f f':az} {y3 y4 y5 z3 z4 z5:V}
attribute [local go_sem] aa.v aa.aG aO aQ aL aH aM
def O7(w0:World){b:Nat}(hA:aS n0 E p g f y3 y4 (.aC b (f.vars.map av.cs)))(hb0:n0<=b)(hb:E[b]?=some (.spare 50 5 f.vars.length))(Y:Kept n0 p σ E)(hn:n0<=σ.length)(Q:p<σ.length)(hl:f.live=true)(hs:f.sub.length<=999999)(hvl:f.vars.length<=1000000)(t:al)(Z:t.k=1)
  (hU:∀i (hi:i<f.vars.length),∀j (J:j<f.vars.length),i<j->f.vars[i].name≠f.vars[j].name) (T:E[σ.length]?=some (.cells t.v.af)) (x4:E[σ.length+1]?=some (.cells [I 0,S [],I 0,.ae []])) (x5:E[σ.length+2]?=some (.cells [I 0,S [],I 0,.ae []])):
  W prog w0 σ.length (sJ ox (iU n0 p g σ (jM f t))) [.code (AC.tI ow)] ⟨((((base.put (some 0) (.ptr p 0)).put (some 3) (.ptr σ.length 0)).put (some 4) (.ptr (σ.length+1) 0)).put (some 5) (.ptr (σ.length+2) 0)),E⟩:=by
 have hp:=hA.here;unfold bh at hp;have k1:(t.k==1)=true:=by simp[Z]
 have c:(f.vars.map av.cs).length=f.vars.length:=bY _;simp only[al.v,V.af]at T;apply bl;simp only[go_sem,AC.tI,ow,T,k1];refine wY ?_;simp only[go_sem];refine W.aY (fun i=>i<=f.vars.length/\∀j,j<i->∀J:j<f.vars.length,(f.vars[j].name==t.name)=false) (fun i=>⟨(((((base.put (some 0) (.ptr p 0)).put (some 3) (.ptr σ.length 0)).put (some 4) (.ptr (σ.length+1) 0)).put (some 5) (.ptr (σ.length+2) 0)).put (some 7) (I (i:Int))),E⟩) (fun i=>f.vars.length-i) 0 ⟨be _,fun j h _=>absurd h (Nat.not_lt_zero _)⟩ ?_ (fun i hi=>?_)
 ·exact wV
 obtain⟨hi,u⟩:=hi;by_cases w:i<f.vars.length
 ·have z:(i:Int)<(f.vars.length:Int):=by omega
  have g1:(0:Int)<=(i:Int):=by omega
  have hw:aE.wrap ((i:Int)+1)=((i+1:Nat):Int):=by rw[a7]<;>omega
  have F:=rm w;cases U:(f.vars[i].name==t.name)
  ·have M:∀j,j<i+1->∀J:j<f.vars.length,(f.vars[j].name==t.name)=false:=fun j Z J=>by
    by_cases hjk:j=i
    ·subst hjk;exact U
    ·exact u j (by omega) J
   clear u hU;generalize f.vars[i]=x at*;generalize f.vars.map av.cs=R at*
   apply bl;simp only[go_sem,hp,c,z];refine wY ?_;simp only[go_sem];apply W.aD (aF _ _)
   case hc=>
    (apply ab.aj;simp only[go_sem,hp,c,T,g1,z,F,U]);exact ab.nil
   apply bl;simp only[go_sem];refine wN ?_;simp only[go_sem,hw];refine .inv ⟨i+1,⟨w,M⟩,by omega,?_⟩;exact wV
  ·have L:cZ t.name 0 f.vars=(i:Int):=by
    rw[Am _ _ 0 i w U (fun j Z J=>by
     cases hjq:(f.vars[j].name==t.name)
     ·rfl
     ·exact absurd ((beq_iff_eq.1 U).trans (beq_iff_eq.1 hjq).symm) (hU i w j J Z)),eJ]
   have dI:(f.vars.getD i .none).ty=f.vars[i].ty:=by rw[cx,aN w];rfl
   obtain⟨s5,s4,s3,f1,f2⟩:=oz hA Y rfl hn Q x4 x5;unfold jM;rw[L,if_neg (by omega),jX,dI];clear u hU dI L;generalize f.vars[i]=x at*;generalize f.vars.map av.cs=R at*
   have sp:=fun A=>(bA (l:=E) (a:=A) (by omega:σ.length+1≠p)).trans hp;apply bl;simp only[go_sem,hp,c,z];refine wY ?_;simp only[go_sem];apply W.aD (aF _ _)
   case hc=>
    (apply ab.aj;simp only[go_sem,hp,c,T,g1,z,F,U]);exact ab.nil
   apply bl;simp only[go_sem];refine wY ?_;simp only[go_sem];apply W.aD (aF _ _)
   case hc=>
    (apply ab.aj;simp only[go_sem,hp,sp,c,x4,s5,g1,z,F]);exact ab.nil
   apply bl;simp only[go_sem];exact W.ret ⟨_,_,(by simp only[aX,ox,s3,s4,go_sem];rfl),aR,.mk 4 [] (i:Int) [],x.ty,rfl,fun _=>⟨rfl,rfl⟩,⟨_,_,_,f1 _ _⟩,f2 _ _⟩
 ·obtain rfl:i=f.vars.length:=by omega
  have z:¬((f.vars.length:Nat):Int)<((f.vars.length:Nat):Int):=by omega
  have L:cZ t.name 0 f.vars=-1:=vW _ _ _ (fun x hx=>by obtain⟨j,J,e⟩:=eH hx;rw[<-e];exact u j J J);clear u hU;obtain⟨τ,c1,c2,c3⟩:=Aq FG w0 hA (bf hn Y.len) hl hs;have hn2:=bf (bf hn Y.len) c3.len;unfold jM;rw[L,if_pos (by decide)];have hvf:f.fresh.vars=f.vars:=rfl;have hbt:τ[b]?=some (.spare 50 5 f.vars.length):=by
   rcases c2.var with⟨_,e⟩|⟨b',_,e,hb'⟩
   ·cases e
   ·injection e with e;subst e;exact hb'
  obtain⟨A,N⟩:∃A,τ++[ad.cells (aJ f.sub.length).v.af]=A:=⟨_,rfl⟩;have d2:=c2.app [ad.cells (aJ f.sub.length).v.af];have d3:=(Kept.refl n0 p τ).app hn2 [ad.cells (aJ f.sub.length).v.af];have d8:(τ++[ad.cells (aJ f.sub.length).v.af])[τ.length]?=some (ad.cells (aJ f.sub.length).v.af):=Go.Lamb.cQ _ _;have X:(τ++[ad.cells (aJ f.sub.length).v.af])[b]?=some (.spare 50 5 f.vars.length):=hG hbt _;rw[N]at d2 d3 d8 X;have O:=d2.here;unfold bh at O;have hdl:=d2.lt;have hbp:b≠p:=by rintro rfl;rw[O]at X;cases X
  obtain⟨r1,r2⟩:=d2.N0 (f:=f.fresh) hb0 X ⟨t.name,aJ f.sub.length⟩;rw[hvf]at r1 r2;generalize hz3:(V.vec E.length (f.sub.length+1))=w3 at*;obtain⟨D,hD⟩:∃D,((A.set b (ad.spare 50 5 (f.vars.length+1))).set p (bh g (f.fresh.gO ⟨t.name,aJ f.sub.length⟩) w3 y4 (.aC b (f.vars.map av.cs++[(av.mk t.name (aJ f.sub.length)).cs]))))=D:=⟨_,rfl⟩;rw[hD]at r1 r2;have G:=(c3.trans d3).trans r2;have l5:=(aI.1 x5).1;have a3:=(c3.trans d3).cells _ _ _ (by omega) T;have a4:=G.cells _ _ _ (by omega) x4;have a5:=G.cells _ _ _ (by omega) x5
  have hEτ:=c3.len;have a8:=r2.cells _ _ _ (by omega) d8;obtain⟨s5,s4,s3,f1,f2⟩:=oz r1 (Y.trans G) rfl hn Q a4 a5;have P:=r1.here;unfold bh at P;have sp:=fun B=>(bA (l:=D) (a:=B) (by omega:σ.length+1≠p)).trans P;have s8:=fun B=>(bA (l:=D) (a:=B) (by omega:σ.length+1≠τ.length)).trans a8;have hr5:(∀r∈f.vars.map av.cs,r.length=5)=True:=eq_true (pH f.vars);have b1:(f.vars.length+1)*72<=140737488355328:=by omega
  have b2:f.vars.length+1<=140737488355328:=by omega
  have b3:f.vars.length<=140737488355327:=by omega
  have hw:aE.wrap (((f.vars.length+1:Nat):Int)-1)=(f.vars.length:Int):=by rw[a7]<;>omega
  have hsp:∀B,(A.set b B)[p]?=A[p]?:=fun B=>bA hbp;simp only[aJ,aa.v,V.af]at c1 d8 N;generalize hR:f.vars.map av.cs=R at*
  apply bl;simp only[go_sem,hp,c,z];refine wN ?_;simp only[go_sem];(refine db (c1) ?_;simp only[go_sem]);refine W.heap N ?_;apply W.aD (aF _ _)
  case hc=>
   (apply ab.aj;simp only[go_sem,O,a3,d8,X,c,hr5,b1,b2,b3,hsp,true_or]);exact ab.nil
  refine W.heap hD ?_;apply bl;simp only[go_sem];apply W.aD (aF _ _)
  case hc=>
   (apply ab.aj;simp only[go_sem,P,sp,hw,c,a4,a8,s8,s5,aJ]);exact ab.nil
  apply bl;simp only[go_sem];exact W.ret ⟨_,_,(by simp only[aX,ox,s3,s4,go_sem];rfl),aR,.mk 4 [] (f.vars.length:Int) [],aJ f.sub.length,rfl,fun _=>⟨rfl,rfl⟩,⟨_,_,_,f1 _ _⟩,f2 _ _⟩
end
section
variable {n0 p:Nat} {σ E:H} {g:Sg} {f f':az} {y3 y4 y5 z3 z4 z5:V}
attribute [local go_sem] aa.v aa.aG aO aQ aL aH aM
def aba(w0:World)(hA:aS n0 E p g f y3 y4 y5)(T:Kept n0 p σ E)(hn:n0<=σ.length)(L:p<σ.length)(hl:f.live=true)(t:al)(h1:t.k≠1)(U:∀u,jt g t.name=some u->aw u<=10000/\f.sub.length+aw u<=999999)
  (i:E[σ.length]?=some (.cells t.v.af)) (x4:E[σ.length+1]?=some (.cells [I 0,S [],I 0,.ae []])) (x5:E[σ.length+2]?=some (.cells [I 0,S [],I 0,.ae []])):
  W prog w0 σ.length (sJ ox (iU n0 p g σ (rh g f t))) [.code (AC.tI ow)] ⟨((((base.put (some 0) (.ptr p 0)).put (some 3) (.ptr σ.length 0)).put (some 4) (.ptr (σ.length+1) 0)).put (some 5) (.ptr (σ.length+2) 0)),E⟩:=by
 have hp:=hA.here;unfold bh at hp;have k1:(t.k==1)=false:=by simp[h1]
 have M:=bf hn T.len;have N:=fun σ=>W4 w0 g t.name σ;simp only[Sg.v]at N;obtain⟨u,ok,j⟩:∃(u:aa) (ok:Bool),mY (mU g.types t.name)= .au [u.v,B ok]/\(ok=true->bZ u=true->jt g t.name=some u)/\(¬(ok=true/\bZ u=true)->jt g t.name=none):=by
  unfold mY jt;cases mU g.types t.name with
  |none=>exact⟨aa.none,false,rfl,fun e=>(by cases e),fun _=>rfl⟩
  |some x=>exact⟨x.ty,true,rfl,fun _ r=>by dsimp only;rw[if_pos r],fun h=>by dsimp only;rw[if_neg (fun e=>h ⟨rfl,e⟩)]⟩
 obtain⟨j,w,F⟩:=j;rw[j]at N;have Q:=fun σ=>DO w0 u σ;have G:=hA.app [.cells u.v.af];have b:=(Kept.refl n0 p E).app M [.cells u.v.af];have a3:=b.cells _ _ _ (by have:=(aI.1 i).1;omega) i;have a4:=b.cells _ _ _ (by omega) x4;have a5:=b.cells _ _ _ (by omega) x5;have J:(E++[ad.cells u.v.af])[E.length]?=some (ad.cells u.v.af):=Go.Lamb.cQ _ _;obtain⟨D,O⟩:∃D,E++[ad.cells u.v.af]=D:=⟨_,rfl⟩;rw[O]at G b a3 a4 a5 J;have X:=bf M b.len;have hEl:=(aI.1 x5).1;simp only[al.v,V.af]at i a3
 by_cases c:ok=true/\bZ u=true
 ·obtain⟨c,r⟩:=c;have hc:=w c r;obtain⟨Y,Z⟩:=U u hc;obtain⟨τ,w3,n1,n2,R⟩:=O6 w0 G X hl u r Y Z;have P:=R.cells _ _ _ (by omega) a4;have b5:=R.cells _ _ _ (by omega) a5;have b3:=R.cells _ _ _ (by omega) a3;obtain⟨s5,s4,s3,f1,f2⟩:=oz n2 ((T.trans b).trans R) rfl hn L P b5;have s0:=fun A=>(bA (l:=τ) (a:=A) (by omega:σ.length+1≠σ.length)).trans b3;unfold rh;rw[hc];dsimp only
  rw[r]at Q;rw[c]at N;simp only[aa.v,V.af]at n1 J O;generalize f.ca u=v at*;clear w F U;apply bl;simp only[go_sem,AC.tI,ow,i,k1];refine wN ?_;simp only[go_sem];apply W.aD (aF _ _)
  case hc=>
   (apply ab.aj;simp only[go_sem,hp,i,hG hp,hG i]);(apply ab.nO (fun τ=>N τ);(case hg=>rfl);(case hf=>rfl);(case ha=>first|rfl|simp));(apply ab.aj;simp only[go_sem]);exact ab.nil
  apply bl;simp only[go_sem];refine W.heap O ?_;apply bl;simp only[go_sem,J];(refine db (Q _) ?_;simp only[go_sem]);refine wN ?_;simp only[go_sem];apply W.aD (aF _ _)
  case hc=>
   (apply ab.aj;simp only[go_sem,a3,J]);(apply ab.call (n1)<;>try rfl);(apply ab.aj;simp only[go_sem,a3,b3,P,s5,s0]);exact ab.nil
  apply bl;simp only[go_sem];exact W.ret ⟨_,_,(by simp only[aX,ox,s3,s4,go_sem];rfl),aR,.mk 0 t.name 0 [],v,rfl,fun _=>⟨rfl,rfl⟩,⟨_,_,_,f1 _ _⟩,f2 _ _⟩
 ·have hc:=F c;unfold rh;rw[hc];dsimp only
  have hfe:(f.fail 120 t.pos).e≠0:=by
   unfold az.fail;split
   ·show(120:Int)≠0;decide
   ·assumption
  have hcs:ok=false\/(ok=true/\bZ u=false):=by cases ok<;>simp_all
  have hFl:=FN w0 G 120 t.pos;simp only[aa.v,V.af]at J O;clear w F U c;rcases hcs with rfl|⟨rfl,r⟩
  all_goals
   try rw[r]at Q
   apply bl;simp only[go_sem,AC.tI,ow,i,k1];refine wN ?_;simp only[go_sem];apply W.aD (aF _ _)
   case hc=>
    (apply ab.aj;simp only[go_sem,hp,i,hG hp,hG i]);(apply ab.nO (fun τ=>N τ);(case hg=>rfl);(case hf=>rfl);(case ha=>first|rfl|simp));(apply ab.aj;simp only[go_sem]);exact ab.nil
   apply bl;simp only[go_sem];refine W.heap O ?_;apply bl;simp only[go_sem,J];(refine db (Q _) ?_;simp only[go_sem]);refine wY ?_;simp only[go_sem,a3];(refine W.call (hFl) rfl rfl (by first|rfl|simp) ?_);rintro d τ ⟨rfl,c2,c3⟩;have P:=c3.cells _ _ _ (by omega) a4;have b5:=c3.cells _ _ _ (by omega) a5;obtain⟨s5,s4,s3,f1,f2⟩:=oz c2 ((T.trans b).trans c3) rfl hn L P b5;apply bl;simp only[go_sem,P,s5];exact W.ret ⟨_,_,(by simp only[aX,ox,s3,s4,go_sem];rfl),aR,.none,.none,rfl,fun e=>absurd e hfe,⟨_,_,_,f1 _ _⟩,f2 _ _⟩
def abb{W:Nat}(w0:World)(Q:∀x∈g.types,aw x.ty<=W)(R:W<=10000)(h:aS n0 σ p g f y3 y4 y5)(hn:n0<=σ.length)(hl:f.live=true)(Z:f.sub.length+(W+1)<=999000)(G:f.bound.length<=1000000)(w:f.vars.length<=1000000)(O:∀i (hi:i<f.vars.length),∀j (hj:j<f.vars.length),i<j->f.vars[i].name≠f.vars[j].name)(t:al):
  DC prog w0 83 [.ptr p 0,t.v] σ (iU n0 p g σ (gP g f t)):=by
 refine aa9 w0 h hn G t (fun J T=>?_);have e:=h.app [.cells t.v.af,.cells [I 0,S [],I 0,.ae []],.cells [I 0,S [],I 0,.ae []]];have D:=(Kept.refl n0 p σ).app hn [.cells t.v.af,.cells [I 0,S [],I 0,.ae []],.cells [I 0,S [],I 0,.ae []]];have L:(σ++[ad.cells t.v.af,.cells [I 0,S [],I 0,.ae []],.cells [I 0,S [],I 0,.ae []]])[σ.length]?=some (.cells t.v.af):=Go.Lamb.cQ _ _;have M:(σ++[ad.cells t.v.af,.cells [I 0,S [],I 0,.ae []],.cells [I 0,S [],I 0,.ae []]])[σ.length+1]?=some (.cells [I 0,S [],I 0,.ae []]):=Go.Lamb.bx _ _ 1
 have F:(σ++[ad.cells t.v.af,.cells [I 0,S [],I 0,.ae []],.cells [I 0,S [],I 0,.ae []]])[σ.length+2]?=some (.cells [I 0,S [],I 0,.ae []]):=Go.Lamb.bx _ _ 2;generalize σ++[ad.cells t.v.af,.cells [I 0,S [],I 0,.ae []],.cells [I 0,S [],I 0,.ae []]]=E at*
 have r:=bf hn D.len;unfold gP;rw[J,if_neg (by decide)];by_cases A:t.k=1
 ·rw[if_pos A];rcases e.var with⟨h0,rfl⟩|⟨b,N,rfl,U⟩
  ·have P:=(e.app [ad.spare 50 5 0]).put (f':=f) (z3:=y3) (z4:=y4) (z5:=.aC E.length []) (e.app _).sub (e.app _).dn (.inr ⟨E.length,r,by rw[h0];rfl,by rw[h0];exact Go.Lamb.cQ _ _⟩);have c:=((Kept.refl n0 p E).app r [ad.spare 50 5 0]).trans P.2;have l5:=(aI.1 F).1;refine Go.Lamb.W.nR p 5 50 5 e.here rfl ?_;have X:V.aC E.length []= .aC E.length (f.vars.map av.cs):=by rw[h0,cP]
   refine O7 w0 (b:=E.length) (y3:=y3) (y4:=y4) ?_ r ?_ (D.trans c) hn h.lt hl (by omega) w t A O (c.cells _ _ _ (by have:=h.lt;omega) L) (c.cells _ _ _ (by have:=h.lt;omega) M) (c.cells _ _ _ (by have:=h.lt;omega) F)
   ·rw[<-X];exact P.1
   ·rw[h0];have:p≠E.length:=by have:=e.lt;omega
    rw[bA this];exact Go.Lamb.cQ _ _
  ·exact O7 w0 e N U D hn h.lt hl (by omega) w t A O L M F
 ·rw[if_neg A];refine aba w0 e D hn h.lt hl t A (fun u hc=>?_) L M F;have hu:aw u<=W:=by
   unfold jt at hc;split at hc
   ·rename_i x Y;split at hc
    ·injection hc with hc;subst hc;exact Q x (List.mem_of_find?_eq_some Y)
    ·cases hc
   ·cases hc
  exact⟨by omega,by omega⟩
end
def O8:AC:=rsq [oB 2 0,oB 3 1,oF 4] (.seq (rif [.f 7 0 2,.l 8 7,.f 9 0 3,.l 10 9,oI 11 .neq 8 10,.m 12 11,yX 13 1 2 12,yT 14 13 12,yX 15 1 3 12,yT 16 15 12,yB 17 .neq 14 16 12,oP 18 12 zT 17,.m 19 18,yX 20 2 2 19,yT 21 20 19,yX 22 2 3 19,yT 23 22 19,yB 24 .neq 21 23 19,oP 25 19 zT 24,.m 26 25,yX 27 3 2 26,yT 28 27 26,.z 29 (.eM 28) 26,yX 30 3 3 26,yT 31 30 26,.z 32 (.eM 31) 26,yB 33 .neq 29 32 26,oP 34 26 zT 33] 34 (rsq [oF 4] .ret) .skip) (.seq (rsq [oK 5 0] (forL 0 1 [.m 35 5,.f 36 3 2,.l 37 36,oL 38 37,oI 39 .lss 35 38] 39 (.seq (drg [.f 42 3 2,.l 43 42,.m 44 5,oJ 45 4 43 44,.d 46 4 45,.f 47 3 3,.l 48 47,.m 49 5,oJ 50 4 48 49,.d 51 4 50,.k 52 11 [46,51],.m 6 52] [0,1,2,3,4,5,6,7,8,9,110,211]) (rif [.m 53 6,oU 54 .not 53] 54 (rsq [oF 4] .ret) .skip)) [.m 40 5,oI 41 .add 40 (zK 1),.m 5 41])) (rsq [oV 4] .ret)))
abbrev r11:List ak:=[.tmp 4]
def k11:aq prog 11 2 Tryz.f11 O8 r11:=.auto func11
def FO:AC:=rsq [oB 1 0,oK 2 0] (rsq [oK 3 1] (rsq [.d 6 4 1,.k 7 93 [6],.m 4 7] (.seq (rsq [oK 5 0] (forL 0 1 [.m 8 5,.f 9 3 1,.l 10 9,oL 11 10,oI 12 .lss 8 11,.m 13 12,yV 14 4 13,oP 15 13 14 zF] 15 (.ax [.m 18 3,.f 19 3 1,.l 20 19,.m 21 5,oJ 22 4 20 21,.d 23 4 22,.k 24 43 [23],oI 25 .add 18 24,.m 3 25]) [.m 16 5,oI 17 .add 16 (zK 1),.m 5 17])) (rsq [.m 26 3,.m 2 26] .ret))))
abbrev r43:List ak:=[.tmp 2]
def k43:aq prog 43 1 Tryz.f43 FO r43:=.auto func43
def c93:AC:=rsq [oB 1 0,oF 2] (rsq [.f 3 0 1,.l 4 3,oI 5 .eql 4 (zK 5),.m 6 5,yX 7 0 1 6,yT 8 7 6,yB 9 .eql 8 (zK 6) 6,oP 10 6 zT 9,.m 2 10] .ret)
abbrev r93:List ak:=[.tmp 2]
def k93:aq prog 93 1 Tryz.f93 c93 r93:=.auto func93
def FP:AC:=rsq [oB 2 0,oK 4 0] (.seq (rif [.f 5 0 2,.l 6 5,oI 7 .eql 6 (zK 5)] 7 (rsq [.m 8 1,oI 9 .add 8 (zK 1),.m 4 9] .ret) .skip) (rsq [.m 10 1,.m 4 10] .ret))
abbrev abi:List ak:=[.tmp 4]
def abj:aq prog 242 2 Tryz.f242 FP abi:=.auto func242
def wz:AC:=rsq [oB 2 0,oA 4 zS4] (.seq (rif [.m 6 1,oL 7 6,oI 8 .eql 7 (zK 0)] 8 (rsq [.d 9 4 2,.s 4 4 9] .ret) .skip) (rsq [oN 5] (.seq (rif [.f 10 0 2,.l 11 10,oI 12 .eql 11 (zK 6),.m 13 12,yF 14 3 2 13,yL 15 14 13,yM 16 15 13,yI 17 .gtr 16 (zK 0) 13,oP 18 13 17 zF] 18 (.ax [.m 19 5,.f 20 3 2,.l 21 20,oQ 22 41 4 56 19 21,.m 5 22]) (.ax [.m 23 5,.d 24 4 2,oS 25 4 [24],oQ 26 41 4 56 23 25,.m 5 26])) (rsq [.m 27 5,.m 28 1,oQ 29 41 4 56 27 28,.m 5 29] (rsq [.m 30 5,oD 31 zS4 [(0,1,(zK 6)),(3,1,30)],.s 4 4 31] .ret)))))
abbrev AN:List ak:=[.aW 4 4]
def k86:aq prog 86 2 Tryz.f86 wz AN:=.auto func86
def tJ:AC:=rsq [oB 2 0,oA 4 zS4] (.seq (rif [.f 5 0 2,.l 6 5,oI 7 .eql 6 (zK 6),.m 8 7,yV 9 1 8,yM 10 9 8,yI 11 .gtr 10 (zK 1) 8,oP 12 8 11 zF,.m 13 12,yV 14 1 13,yJ 15 4 14 (zK 0) 13,yF 16 0 15 13,yL 17 16 13,yI 18 .eql 17 (zK 6) 13,oP 19 13 18 zF,.m 20 19,yF 21 3 2 20,yL 22 21 20,yJ 23 4 22 (zK 0) 20,yF 24 0 23 20,yL 25 24 20,yI 26 .neq 25 (zK 6) 20,oP 27 20 26 zF] 27 (.seq (drg [.m 28 1,oJ 29 4 28 (zK 0),.d 30 4 29,.m 31 1,.o 32 (.gk 4 31 (some (zK 1)) none none),.k 33 86 [30,32],.s 4 4 33] [0,1,2,3,4,105,306]) .ret) .skip) (rsq [.f 34 0 2,.l 35 34,.f 36 1 2,.l 37 36,.f 38 2 2,.l 39 38,.m 40 1,oD 41 zS4 [(0,1,35),(1,1,37),(2,1,39),(3,1,40)],.s 4 4 41] .ret))
abbrev abl:List ak:=[.aW 4 4]
def abm:aq prog 243 2 Tryz.f243 tJ abl:=.auto func243
def wA:AC:=rsq [oB 4 0,oA 8 zS4] (.seq (rif [.f 12 0 4,.l 13 12,oI 14 .eql 13 (zK 3),.m 15 14,yF 16 2 4 15,yL 17 16 15,yV 18 3 15,yV 19 1 15,yI 20 .add 18 19 15,yI 21 .geq 17 20 15,oP 22 15 21 zF] 22 (rsq [.f 23 0 4,.l 24 23,.f 25 1 4,.l 26 25,.f 27 2 4,.l 28 27,.m 29 2,oI 30 .add 28 29,.f 31 3 4,.l 32 31,oD 33 zS4 [(0,1,24),(1,1,26),(2,1,30),(3,1,32)],.s 4 8 33] .ret) .skip) (rsq [.d 34 4 4,.k 35 93 [34],.m 9 35] (.seq (rif [.m 36 9,oU 37 .not 36] 37 (rsq [.d 38 4 4,.s 4 8 38] .ret) .skip) (rsq [oN 10] (.seq (rsq [oK 11 0] (forL 0 1 [.m 39 11,.f 40 3 4,.l 41 40,oL 42 41,oI 43 .lss 39 42] 43 (drg [.m 46 10,.f 47 3 4,.l 48 47,.m 49 11,oJ 50 4 48 49,.d 51 4 50,.m 52 1,.m 53 2,.d 54 4 4,.m 55 3,.k 56 242 [54,55],.k 57 199 [51,52,53,56],oS 58 4 [57],oQ 59 41 4 56 46 58,.m 10 59] [8,9,110,1,2,3,4,5,6,7,311,0,412,513,614]) [.m 44 11,oI 45 .add 44 (zK 1),.m 11 45])) (rsq [.d 60 4 4,.m 61 10,.k 62 243 [60,61],.s 4 8 62] .ret))))))
abbrev abn:List ak:=[.aW 4 8]
def abo:aq prog 199 4 Tryz.f199 wA abn:=.auto func199
def O9:AC:=rsq [oB 3 0,oA 6 zS4] (rsq [.d 7 4 3,.m 8 1,.m 9 2,.k 10 199 [7,8,9,(zK 0)],.s 4 6 10] .ret)
abbrev abp:List ak:=[.aW 4 6]
def abq:aq prog 142 3 Tryz.f142 O9 abp:=.auto func142
attribute [local go_sem] aa.v aa.aG aO aQ aL aH aM vF.cs
def abr(w0:World)(p:aa):∀(σ:H),DC prog w0 11 [p.v,p.v] σ (Same (B true) σ):=by
 refine aa.ind (P:=fun p=>∀(σ:H),DC prog w0 11 [p.v,p.v] σ (Same (B true) σ)) (fun p j σ=>?_) p;refine k11.go rfl (fun g h=>?_);have c:=mX h (aZ ..);apply bl;simp only[go_sem,O8,bne_self_eq_false'];refine wN ?_;simp only[go_sem];refine W.aY (fun i=>i<=p.l.length) (fun i=>⟨((((base.put (some 2) (.ptr σ.length 0)).put (some 3) (.ptr (σ.length+1) 0)).put (some 4) (B false)).put (some 5) (I (i:Nat))),σ++[.cells p.v.af,.cells p.v.af]⟩) (fun i=>p.l.length-i) 0 (be _) ?_ (fun i t=>?_)
 ·exact wV
 by_cases b:i<p.l.length
 ·have e:((i:Int)<(p.l.length:Int)):=by omega
  have r:p.l[i]?=some p.l[i]:=aN b;have hw:aE.wrap ((i:Int)+1)=((i+1:Nat):Int):=cF b c;have hS:=fun σ=>j p.l[i] (bg b) σ;generalize p.l[i]=u at*
  apply bl;simp only[go_sem,e];refine wY ?_;simp only[go_sem];apply W.aD (aF _ _)
  case hc=>
   (apply ab.aj;simp only[go_sem,e,bu,r]);(apply ab.call (hS _)<;>try rfl);(apply ab.aj;simp only[go_sem]);exact ab.nil
  apply bl;simp only[go_sem];refine wN ?_;simp only[go_sem,hw];refine .inv ⟨i+1,b,by omega,?_⟩;exact wV
 have e:¬((i:Int)<(p.l.length:Int)):=by omega
 apply bl;simp only[go_sem,e];refine wN ?_;simp only[go_sem];exact wF g
end
section
attribute [local go_sem] aa.v aa.aG aO aQ aL aH aM
def FQ(w0:World)(t:aa)(σ:H):DC prog w0 93 [t.v] σ (Same (B (t.k==5||t.k==6)) σ):=by
 refine k93.go rfl (fun b c=>?_);cases k5:(t.k==5)
 ·apply bl;simp only[go_sem,c93,k5];exact wF b
 ·apply bl;simp only[go_sem,c93,k5];exact wF b
def Pa(w0:World)(t:aa)(k:Nat)(g:k<=4000000000)(σ:H):DC prog w0 242 [t.v,I (k:Int)] σ (Same (I ((if t.k=5 then k+1 else k:Nat):Int)) σ):=by
 refine abj.go rfl (fun c e=>?_);have hw:aE.wrap ((k:Int)+1)=((k+1:Nat):Int):=by rw[a7]<;>omega
 by_cases b:t.k=5
 ·have k5:(t.k==5)=true:=by simp[b]
  rw[if_pos b];clear b;apply bl;simp only[go_sem,FP,k5];refine wY ?_;simp only[go_sem,hw];exact wF c
 ·have k5:(t.k==5)=false:=by simp[b]
  rw[if_neg b];clear b;apply bl;simp only[go_sem,FP,k5];refine wN ?_;simp only[go_sem];exact wF c
def AO(w0:World)(f:aa)(xs:List aa)(hn:f.l.length+xs.length<=2000000000000)(σ:H):DC prog w0 86 [f.v,.c (.sl (xs.map aa.cs))] σ (Same (bP f xs).v σ):=by
 refine k86.go rfl (fun i J=>?_);by_cases h0:xs=[]
 ·have e:bP f xs=f:=by unfold bP;rw[if_pos h0]
  rw[e];subst h0;apply bl;simp only[go_sem,wz];refine wY ?_;simp only[go_sem];exact wF i
 have hl:0<xs.length:=iX.2 h0;have r:((xs.length:Int)==0)=false:=by simp;omega
 have e:bP f xs= .mk 6 [] 0 ((if f.k=6/\f.l≠[]then f.l else[f])++xs):=by unfold bP;rw[if_neg h0]
 rw[e];clear e;have b:=eq_true (fX xs);have g:=eq_true (fX f.l);have t:f.l.length*56<=140737488355328:=by omega
 have u:f.l.length<=140737488355328:=by omega
 have w:(f.l.length+xs.length)*56<=140737488355328:=by omega
 have A:f.l.length+xs.length<=140737488355328:=by omega
 have D:(1+xs.length)*56<=140737488355328:=by omega
 have E:1+xs.length<=140737488355328:=by omega
 have F:(f.l++xs).map aa.cs=f.l.map aa.cs++xs.map aa.cs:=dF;have p:([f]++xs).map aa.cs=[.int .i64 f.k,.str f.name,.int .i64 f.n,.sl (f.l.map aa.cs)]::xs.map aa.cs:=by rw[List.cons_append,List.nil_append,ck,aa.aG]
 by_cases j:f.k=6
 ·have k6:(f.k==6)=true:=by simp[j]
  by_cases hf:f.l=[]
  ·rw[if_neg (fun h=>h.2 hf)];have G:¬((f.l.length:Int)>0):=by rw[hf];simp
   clear j hf;apply bl;simp only[go_sem,wz,r];refine wN ?_;simp only[go_sem,k6,G];refine wN ?_;simp only[go_sem,b,g,t,u,w,A,D,E,true_or];(refine W.fs (i) (by simp only[AN,go_sem,p];rfl) ?_ (hl:=by(first|exact .c _|(simp only[go_sem,p];done)));simp only[aT,p];try exact V.wk.rfl _)
   all_goals (all_goals exact aR)
  ·rw[if_pos ⟨j,hf⟩];have hp:0<f.l.length:=iX.2 hf;have G:((f.l.length:Int)>0):=by omega
   clear j hf;apply bl;simp only[go_sem,wz,r];refine wN ?_;simp only[go_sem,k6,G];refine wY ?_;simp only[go_sem,b,g,t,u,w,A,D,E,true_or];(refine W.fs (i) (by simp only[AN,go_sem,F];rfl) ?_ (hl:=by(first|exact .c _|(simp only[go_sem,F];done)));simp only[aT,F];try exact V.wk.rfl _)
   all_goals (all_goals exact aR)
 ·have k6:(f.k==6)=false:=by simp[j]
  rw[if_neg (fun h=>j h.1)];clear j;apply bl;simp only[go_sem,wz,r];refine wN ?_;simp only[go_sem,k6];refine wN ?_;simp only[go_sem,b,g,t,u,w,A,D,E,true_or];(refine W.fs (i) (by simp only[AN,go_sem,p];rfl) ?_ (hl:=by(first|exact .c _|(simp only[go_sem,p];done)));simp only[aT,p];try exact V.wk.rfl _)
  all_goals (all_goals exact aR)
def Pb(w0:World)(t:aa)(o:List aa)(Q:o.length<=900000000000)(R:∀u∈o,u.l.length<=900000000000)(G:1<o.length->t.l≠[])(σ:H):DC prog w0 243 [t.v,.c (.sl (o.map aa.cs))] σ (Same (dC t o).v σ):=by
 refine abm.go rfl (fun e T=>?_);obtain⟨z,g⟩:∃z,z=dC t o:=⟨_,rfl⟩;rw[<-g];by_cases r:t.k=6
 ·have k6:(t.k==6)=true:=by simp[r]
  by_cases c1:1<o.length
  ·obtain⟨w,i,rfl⟩:∃a l,o=a::l:=by
    cases o with
    |nil=>simp at c1
    |cons a l=>exact⟨a,l,rfl⟩
   obtain⟨t0,t1,hl⟩:∃a l,t.l=a::l:=by
    have:=G c1;cases h:t.l with
    |nil=>exact absurd h this
    |cons a l=>exact⟨a,l,rfl⟩
   have M:t.l[0]?=some t0:=by rw[hl];rfl
   have j:(t.l.headD .none)=t0:=by rw[hl];rfl
   have J:((i.length+1:Nat):Int)>1:=by simp at c1;omega
   have A:(0:Int)<((i.length+1:Nat):Int):=by omega
   have p:(0:Int)<(t.l.length:Int):=by rw[hl,bG];omega
   by_cases E:w.k=6
   ·have L:(w.k==6)=true:=by simp[E]
    by_cases c3:t0.k=6
    ·have N:(t0.k==6)=true:=by simp[c3]
     have b:z= .mk t.k t.name t.n (w::i):=by
      rw[g,dC,if_neg (fun h=>h.2.2.2 (by rw[j];exact c3))]
     subst b;clear c3 E r j g hl G;apply bl;simp only[go_sem,tJ,k6,J,L,N,M,bu,bne,A,p];refine wN ?_;simp only[go_sem];exact wF e
    ·have N:(t0.k==6)=false:=by simp[c3]
     have b:z=bP w i:=by
      rw[g,dC,if_pos ⟨r,c1,E,by rw[j];exact c3⟩];rfl
     have U:=R w (aZ ..);have P:=fun σ=>AO w0 w i (by simp at Q;omega) σ;rw[<-b]at P;have D:=eq_true (fX (w::i));rw[ck,aa.aG]at D;have F:(1:Int)<=((i.length+1:Nat):Int):=by omega
     have O:dj i.length (gV aa.cs i)=gV aa.cs i:=dT (by simp);clear c3 E r j g hl G b;apply bl;simp only[go_sem,tJ,k6,J,L,N,M,bu,bne,A,p];refine wY ?_;simp only[go_sem];apply W.aD (aF _ _)
     case hc=>
      (apply ab.aj;simp only[go_sem,D,F,A,O,bu,Nat.add_sub_cancel]);(apply ab.call (P _)<;>try rfl);(apply ab.aj;simp only[go_sem]);exact ab.nil
     apply bl;simp only[go_sem];exact wF e
   ·have L:(w.k==6)=false:=by simp[E]
    have b:z= .mk t.k t.name t.n (w::i):=by
     rw[g,dC,if_neg (fun h=>E h.2.2.1)]
    subst b;clear E r j g hl G;apply bl;simp only[go_sem,tJ,k6,J,L,M,bu,bne,A,p];refine wN ?_;simp only[go_sem];exact wF e
  ·have J:¬((o.length:Int)>1):=by omega
   have b:z= .mk t.k t.name t.n o:=by
    rw[g,dC,if_neg (fun h=>c1 h.2.1)]
   subst b;clear c1 r g G;apply bl;simp only[go_sem,tJ,k6,J];refine wN ?_;simp only[go_sem];exact wF e
 ·have k6:(t.k==6)=false:=by simp[r]
  have b:z= .mk t.k t.name t.n o:=by
   rw[g,dC,if_neg (fun h=>r h.1)]
  subst b;clear r g G;apply bl;simp only[go_sem,tJ,k6];refine wN ?_;simp only[go_sem];exact wF e
def abt(w0:World)(a b:Int)(ha:0<=a)(ha':a<=100000)(hb:-1152921504606846976<=b)(hb':b<=1152921504606846976)(t:aa):bD 2305843009213693952 t=true->∀(k:Nat),k+ao t<=1000000000->∀σ,DC prog w0 199 [t.v,I a,I b,I (k:Int)] σ (Same (bq (bU a b) (k:Int) t).v σ):=by
 refine aa.ind (P:=fun t=>bD 2305843009213693952 t=true->∀(k:Nat),k+ao t<=1000000000->∀σ,DC prog w0 199 [t.v,I a,I b,I (k:Int)] σ (Same (bq (bU a b) (k:Int) t).v σ)) (fun t G J k hk σ=>?_) t;refine abo.go rfl (fun g hsz=>?_);have hp:=pD t;have L:aE.wrap ((k:Int)+a)=(k:Int)+a:=by rw[a7]<;>omega
 have j:=fun σ=>FQ w0 t σ;by_cases c:t.k≠5/\t.k≠6
 ·have k5:(t.k==5)=false:=by simp[c.1]
  have k6:(t.k==6)=false:=by simp[c.2]
  rw[iQ,if_neg c.1,if_neg c.2];rw[k5,k6]at j;by_cases w:t.k=3
  ·have k3:(t.k==3)=true:=by simp[w]
   have hnn:=nY J (by omega);by_cases r:t.n>=(k:Int)+a
   ·have X:aE.wrap (t.n+b)=t.n+b:=by rw[a7]<;>omega
    have e:bU a b t (k:Int)= .mk t.k t.name (t.n+b) t.l:=by unfold bU;rw[if_pos ⟨w,r⟩]
    rw[e];clear c w G;apply bl;simp only[go_sem,wA,k3,L,r];refine wY ?_;simp only[go_sem,X];exact wF g
   ·have e:bU a b t (k:Int)=t:=by unfold bU;rw[if_neg (fun h=>r h.2)]
    rw[e];clear c w G;apply bl;simp only[go_sem,wA,k3,L,r];refine wN ?_;simp only[go_sem];(refine db (j _) ?_;simp only[go_sem]);refine wY ?_;simp only[go_sem];exact wF g
  ·have k3:(t.k==3)=false:=by simp[w]
   have e:bU a b t (k:Int)=t:=by unfold bU;rw[if_neg (fun h=>w h.1)]
   rw[e];clear c w G;apply bl;simp only[go_sem,wA,k3];refine wN ?_;simp only[go_sem];(refine db (j _) ?_;simp only[go_sem]);refine wY ?_;simp only[go_sem];exact wF g
 have p:t.k=5\/t.k=6:=by omega
 have Y:(t.k==5||t.k==6)=true:=by rcases p with h|h<;>simp[h]
 rw[Y]at j;have k3:(t.k==3)=false:=by rcases p with h|h<;>simp[h]
 obtain⟨B,M⟩:∃B:Nat,B=(if t.k=5 then k+1 else k):=⟨_,rfl⟩;have hBk:B<=k+1:=by rw[M];split<;>omega
 have N:=fun σ=>Pa w0 t k (by omega) σ;rw[<-M]at N;have O:bq (bU a b) (k:Int) t=dC t (t.l.map (bq (bU a b) (B:Int))):=by
  rw[iQ];rcases p with h|h
  ·rw[if_pos h,M,if_pos h];rfl
  ·rw[if_neg (by omega),if_pos h,M,if_neg (by omega)]
 rw[O];obtain⟨o,Q⟩:∃o,o=t.l.map (bq (bU a b) (B:Int)):=⟨_,rfl⟩;have R:o.length=t.l.length:=by rw[Q,bY]
 have hlen:=eR t;have D:∀i (Z:i<t.l.length) (hi':i<o.length) σ,DC prog w0 199 [t.l[i].v,I a,I b,I (B:Int)] σ (Same o[i].v σ):=fun i Z hi' σ=>by
  have hm:=bg Z;have:=fz hm;have e:o[i]=bq (bU a b) (B:Int) t.l[i]:=by simp[Q]
  rw[e];exact G _ hm (fW J _ hm) B (by omega) σ
 have T:∀u∈o,u.l.length<=1000000000:=fun u U=>by
  rw[Q]at U;obtain⟨v,hv,rfl⟩:=eU.1 U;have E:=zO a b v B;have h2:=eR (bq (bU a b) (B:Int) v);have w:=fz hv;omega
 have hW:=fun σ=>Pb w0 t o (by omega) (fun u U=>bf (T u U) (by decide)) (fun h e=>by rw[e,dU]at R;omega) σ;rw[<-Q];clear Q M O G;generalize dC t o=z at*
 apply bl;simp only[go_sem,wA,k3];refine wN ?_;simp only[go_sem];(refine db (j _) ?_;simp only[go_sem]);refine wN ?_;simp only[go_sem];refine W.own 10 41 4 rfl ?_;apply bl;simp only[go_sem];refine W.aY (fun i=>i<=t.l.length) (fun i=>⟨(((((((base.put (some 1) (I a)).put (some 2) (I b)).put (some 3) (I (k:Int))).put (some 4) (.ptr σ.length 0)).put (some 8) (.ptr (σ.length+1) 0)).put (some 10) (.aC (σ.length+2) ((o.take i).map aa.cs))).put (some 11) (I (i:Int))),σ++[.cells t.v.af,.cells [I 0,S [],I 0,.ae []],.spare 41 4 i]⟩) (fun i=>t.l.length-i) 0 (be _) ?_ (fun i Z=>?_)
 ·exact wV
 by_cases F:i<t.l.length
 ·have A:i<o.length:=by omega
  have E:(i:Int)<(t.l.length:Int):=by omega
  have h0:(0:Int)<=(i:Int):=by omega
  have hx:t.l[i]?=some t.l[i]:=aN F;have hw:aE.wrap ((i:Int)+1)=((i+1:Nat):Int):=by rw[a7]<;>omega
  have hb1:(i+1)*56<=140737488355328:=by omega
  have hb2:i<=140737488355327:=by omega
  have hti:(o.take i).length=i:=by rw[dE];omega
  have hts:(o.take (i+1)).map aa.cs=(o.take i).map aa.cs++[[.int .i64 o[i].k,.str o[i].name,.int .i64 o[i].n,.sl (o[i].l.map aa.cs)]]:=by
   rw[eW A,dF,ck,cP,aa.aG]
  have hki:=fun σ=>D i F A σ;generalize o[i]=y at*;generalize t.l[i]=x at*
  apply bl;simp only[go_sem,E];refine wY ?_;simp only[go_sem];apply W.aD (aF _ _)
  case hc=>
   (apply ab.aj;simp only[go_sem,E,h0,hx]);(apply ab.call (N _)<;>try rfl);(apply ab.aj;simp only[go_sem,E,h0,hx]);(apply ab.call (hki _)<;>try rfl);(apply ab.aj;simp only[go_sem,E,h0,hx,hb1,hb2,hti]);exact ab.nil
  apply bl;simp only[go_sem,hw];refine .inv ⟨i+1,F,by omega,?_⟩;simp only[go_sem,hts];exact wQ g
 obtain rfl:i=t.l.length:=by omega
 have E:¬((t.l.length:Nat):Int)<((t.l.length:Nat):Int):=by omega
 have hta:o.take t.l.length=o:=by rw[<-R,jA]
 rw[hta];apply bl;simp only[go_sem,E];refine wN ?_;simp only[go_sem];(refine W.fV (hW _) ?_;simp only[go_sem]);exact wF g
def Pc(w0:World)(t:aa)(a b:Int)(ha:0<=a)(c:a<=100000)(j:-1152921504606846976<=b)(g:b<=1152921504606846976)(h:bD 2305843009213693952 t=true)(hn:ao t<=1000000000)(σ:H):DC prog w0 142 [t.v,I a,I b] σ (Same (iR a b t).v σ):=by
 refine abq.go rfl (fun i p=>?_);have hS:=fun σ=>abt w0 a b ha c j g t h 0 (by omega) σ;have e:(((0:Nat):Int))=0:=rfl;rw[e]at hS;have r:iR a b t=bq (bU a b) 0 t:=rfl;rw[r];generalize bq (bU a b) 0 t=z at*
 apply bl;simp only[go_sem,O9];(refine db (hS _) ?_;simp only[go_sem]);exact wF i
def c198:AC:=rsq [oB 2 0,oK 4 0] (.seq (rif [.f 7 0 2,.l 8 7,oI 9 .eql 8 (zK 3),.m 10 9,yF 11 2 2 10,yL 12 11 10,yV 13 1 10,yI 14 .eql 12 13 10,oP 15 10 14 zF] 15 (rsq [oK 4 1] .ret) .skip) (rsq [oK 5 0] (.seq (rsq [oK 6 0] (forL 0 1 [.m 16 6,.f 17 3 2,.l 18 17,oL 19 18,oI 20 .lss 16 19] 20 (rif [.f 23 0 2,.l 24 23,oI 25 .eql 24 (zK 5)] 25 (.ax [.m 26 5,.f 27 3 2,.l 28 27,.m 29 6,oJ 30 4 28 29,.d 31 4 30,.m 32 1,oI 33 .add 32 (zK 1),.k 34 198 [31,33],oI 35 .add 26 34,.m 5 35]) (.ax [.m 36 5,.f 37 3 2,.l 38 37,.m 39 6,oJ 40 4 38 39,.d 41 4 40,.m 42 1,.k 43 198 [41,42],oI 44 .add 36 43,.m 5 44])) [.m 21 6,oI 22 .add 21 (zK 1),.m 6 22])) (rsq [.m 45 5,.m 4 45] .ret))))
abbrev abu:List ak:=[.tmp 4]
def abv:aq prog 198 2 Tryz.f198 c198 abu:=.auto func198
def FR:AC:=rsq [oB 1 0,oF 2] (rsq [.f 3 0 1,.l 4 3,oI 5 .eql 4 (zK 6),.m 6 5,yF 7 3 1 6,yL 8 7 6,yJ 9 4 8 (zK 0) 6,yF 10 0 9 6,yL 11 10 6,yI 12 .eql 11 (zK 5) 6,oP 13 6 12 zF,.m 2 13] .ret)
abbrev abw:List ak:=[.tmp 2]
def abx:aq prog 195 1 Tryz.f195 FR abw:=.auto func195
def Pd:AC:=rsq [oB 2 0,oB 3 1,oF 4] (.seq (drg [.d 5 4 2,.k 6 43 [5],.d 7 4 2,.k 8 198 [7,(zK 0)],.d 9 4 3,.k 10 43 [9],oI 11 .mul 8 10,oI 12 .add 6 11,oI 13 .leq 12 (zK 4096),.m 4 13] [0,101,2,303,4,505,606,607,608,609]) .ret)
abbrev aby:List ak:=[.tmp 4]
def abz:aq prog 240 2 Tryz.f240 Pd aby:=.auto func240
def c196:AC:=rsq [oB 1 0,oA 2 zS4,oF 3] (rsq [.f 6 3 1,.l 7 6,oJ 8 4 7 (zK 0),.f 9 3 8,.l 10 9,oJ 11 4 10 (zK 0),.d 12 4 11,oA 4 zS4,.s 4 4 12] (.seq (drg [.d 13 4 4,.f 14 3 1,.l 15 14,oJ 16 4 15 (zK 1),.d 17 4 16,.k 18 240 [13,17],.m 5 18] [0,1,2,3,4,105,206]) (.seq (rif [.m 19 5,oU 20 .not 19] 20 (rsq [oD 21 zS4 [],.s 4 2 21,oF 3] .ret) .skip) (.seq (drg [.d 22 4 4,.f 23 3 1,.l 24 23,oJ 25 4 24 (zK 1),.d 26 4 25,.k 27 241 [22,(zK 0),26],.f 28 3 1,.l 29 28,.o 30 (.gk 4 29 (some (zK 2)) none none),.k 31 86 [27,30],.s 4 2 31,oV 3] [0,1,2,3,4,105,6,7,8,309,510,611]) .ret))))
abbrev abA:List ak:=[.aW 4 2,.tmp 3]
def abB:aq prog 196 1 Tryz.f196 c196 abA:=.auto func196
def Pe:AC:=rsq [oB 3 0,oB 5 2,oA 6 zS4] (rsq [oN 7] (rsq [.m 8 7,.f 9 3 3,.l 10 9,oQ 11 41 4 56 8 10,.m 7 11] (rsq [.m 12 7,.m 13 1,.d 14 4 5,oJ 15 4 12 13,.s 4 15 14] (.seq (rif [.f 16 0 3,.l 17 16,oI 18 .eql 17 (zK 6),.m 19 18,yV 20 1 19,yI 21 .eql 20 (zK 0) 19,oP 22 19 21 zF] 22 (.seq (drg [.d 23 4 5,.m 24 7,.o 25 (.gk 4 24 (some (zK 1)) none none),.k 26 86 [23,25],.s 4 6 26] [0,1,2,103,304]) .ret) .skip) (rsq [.f 27 0 3,.l 28 27,.m 29 7,oD 30 zS4 [(0,1,28),(3,1,29)],.s 4 6 30] .ret)))))
abbrev abC:List ak:=[.aW 4 6]
def abD:aq prog 197 3 Tryz.f197 Pe abC:=.auto func197
def AP:AC:=rsq [oB 2 0,oA 4 zS4,oK 5 0] (.seq (rif [.d 11 4 2,.k 12 195 [11]] 12 (rsq [.d 14 4 2,.k 15 196 [14],.m 13 15,.x 16 13 0,.x 17 13 1,oA 6 zS4,.s 4 6 16,.m 7 17] (.seq (rif [.m 18 7,oU 19 .not 18] 19 (rsq [oD 20 zS4 [],.s 4 4 20,oK 5 2] .ret) .skip) (rsq [.d 21 4 6,.s 4 4 21,oK 5 1] .ret))) .skip) (.seq (rif [.m 22 1,.m 23 22,yF 24 0 2 23,yL 25 24 23,yI 26 .neq 25 (zK 5) 23,oP 27 23 26 zF] 27 (rsq [.d 28 4 2,.s 4 4 28,oK 5 0] .ret) .skip) (.seq (rsq [oK 8 0] (forL 0 1 [.m 29 8,.f 30 3 2,.l 31 30,oL 32 31,oI 33 .lss 29 32] 33 (rsq [.f 37 3 2,.l 38 37,.m 39 8,oJ 40 4 38 39,.d 41 4 40,.m 42 1,.k 43 140 [41,42],.m 36 43,.x 44 36 0,.x 45 36 1,oA 9 zS4,.s 4 9 44,.m 10 45] (.seq (rif [.m 46 10,oI 47 .eql 46 (zK 2)] 47 (rsq [oD 48 zS4 [],.s 4 4 48,oK 5 2] .ret) .skip) (rif [.m 49 10,oI 50 .eql 49 (zK 1)] 50 (rsq [.d 51 4 2,.m 52 8,.d 53 4 9,.k 54 197 [51,52,53],.s 4 4 54,oK 5 1] .ret) .skip))) [.m 34 8,oI 35 .add 34 (zK 1),.m 8 35])) (rsq [.d 55 4 2,.s 4 4 55,oK 5 0] .ret))))
abbrev abE:List ak:=[.aW 4 4,.tmp 5]
def abF:aq prog 140 2 Tryz.f140 AP abE:=.auto func140
def c91:AC:=rsq [oB 3 0,oA 6 zS4,oK 7 0,oK 8 0] (.block 0 (.loop (.block 1 (rsq [.d 12 4 3,.m 13 2,.k 14 140 [12,13],.m 11 14,.x 15 11 0,.x 16 11 1,oA 9 zS4,.s 4 9 15,.m 10 16] (.seq (rif [.m 17 10,oI 18 .eql 17 (zK 0)] 18 (rsq [.d 19 4 3,.m 20 1,.s 4 6 19,.m 7 20,oK 8 0] .ret) .skip) (.seq (rif [.m 21 10,oI 22 .eql 21 (zK 2),.m 23 22,yW 24 1 23,yB 25 .leq 24 (zK 0) 23,oP 26 23 zT 25] 26 (rsq [oD 27 zS4 [],.s 4 6 27,oK 7 0,oK 8 80] .ret) .skip) (rsq [.d 28 4 9,.s 4 3 28] (.ax [.m 29 1,oI 30 .sub 29 (zK 1),.m 1 30]))))))))
abbrev r91:List ak:=[.aW 4 6,.tmp 7,.tmp 8]
def k91:aq prog 91 3 Tryz.f91 c91 r91:=.auto func91
def c141:AC:=rsq [oB 2 0,oF 4] (rsq [.d 5 4 2,.m 6 1,.k 7 198 [5,6],oI 8 .gtr 7 (zK 0),.m 4 8] .ret)
abbrev abI:List ak:=[.tmp 4]
def abJ:aq prog 141 2 Tryz.f141 c141 abI:=.auto func141
def Pf:AC:=rsq [oB 1 0,oA 2 zS4] (rsq [oN 3] (.seq (rsq [oK 4 0] (forL 0 1 [.m 10 4,.f 11 3 1,.l 12 11,oL 13 12,oI 14 .lss 10 13] 14 (.ax [.m 17 3,.f 18 3 1,.l 19 18,.m 20 4,oJ 21 4 19 20,.d 22 4 21,.k 23 92 [22],oS 24 4 [23],oQ 25 41 4 56 17 24,.m 3 25]) [.m 15 4,oI 16 .add 15 (zK 1),.m 4 16])) (.seq (rif [.f 26 0 1,.l 27 26,oI 28 .eql 27 (zK 6)] 28 (.seq (drg [.m 29 3,oJ 30 4 29 (zK 0),.d 31 4 30,.m 32 3,.o 33 (.gk 4 32 (some (zK 1)) none none),.k 34 86 [31,33],.s 4 2 34] [0,1,2,3,4,105,306]) .ret) .skip) (.seq (rif [.f 35 0 1,.l 36 35,oI 37 .neq 36 (zK 5)] 37 (rsq [.d 38 4 1,.s 4 2 38] .ret) .skip) (rsq [.m 39 3,oJ 40 4 39 (zK 0),.d 41 4 40,oA 5 zS4,.s 4 5 41] (rsq [.m 42 3,oD 43 zS4 [(0,1,(zK 5)),(3,1,42)],oA 6 zS4,.s 4 6 43] (.seq (rif [.f 44 0 5,.l 45 44,oI 46 .neq 45 (zK 6)] 46 (rsq [.d 47 4 6,.s 4 2 47] .ret) .skip) (rsq [.f 48 3 5,.l 49 48,oL 50 49,oI 51 .sub 50 (zK 1),.m 7 51] (.seq (rif [.f 52 3 5,.l 53 52,.m 54 7,oJ 55 4 53 54,.f 56 0 55,.l 57 56,oI 58 .neq 57 (zK 3),.m 59 58,yX 60 3 5 59,yT 61 60 59,yW 62 7 59,.z 63 (.dm 4 61 62) 59,yX 64 2 63 59,yT 65 64 59,yB 66 .neq 65 (zK 0) 59,oP 67 59 zT 66] 67 (rsq [.d 68 4 6,.s 4 2 68] .ret) .skip) (rsq [.f 69 3 5,.l 70 69,oJ 71 4 70 (zK 0),.d 72 4 71,oA 8 zS4,.s 4 8 72] (.seq (rif [.m 73 7,oI 74 .gtr 73 (zK 1)] 74 (.ax [.f 75 3 5,.l 76 75,.m 77 7,.o 78 (.gk 4 76 none (some 77) none),oD 79 zS4 [(0,1,(zK 6)),(3,1,78)],.s 4 8 79]) .skip) (rsq [.d 80 4 8,.k 81 141 [80,(zK 0)],.m 9 81] (.seq (rif [.m 82 9] 82 (rsq [.d 83 4 6,.s 4 2 83] .ret) .skip) (rsq [.d 84 4 8,.k 85 142 [84,(zK 0),(zK (-1))],.s 4 2 85] .ret))))))))))))))
abbrev r92:List ak:=[.aW 4 2]
def k92:aq prog 92 1 Tryz.f92 Pf r92:=.auto func92
def FT:AC:=rsq [oB 2 0,oA 4 zS4,oK 5 0,oK 6 0] (rsq [.d 11 4 2,.m 12 1,.k 13 91 [11,12,zF],.m 10 13,.x 14 10 0,.x 15 10 1,.x 16 10 2,oA 7 zS4,.s 4 7 14,.m 8 15,.m 9 16] (.seq (rif [.m 17 9,oI 18 .neq 17 (zK 0)] 18 (rsq [oD 19 zS4 [],.m 20 9,.s 4 4 19,oK 5 0,.m 6 20] .ret) .skip) (rsq [.d 21 4 7,.k 22 92 [21],.m 23 8,.s 4 4 22,.m 5 23,oK 6 0] .ret)))
abbrev r42:List ak:=[.aW 4 4,.tmp 5,.tmp 6]
def k42:aq prog 42 2 Tryz.f42 FT r42:=.auto func42
def c85:AC:=rsq [oB 3 1,oA 4 zS4] (.seq (rsq [oK 5 0] (forL 0 1 [.m 6 5,.m 7 0,oI 8 .lss 6 7] 8 (.ax [.d 11 4 3,oS 12 4 [11],oD 13 zS4 [(0,1,(zK 5)),(3,1,12)],.s 4 3 13]) [.m 9 5,oI 10 .add 9 (zK 1),.m 5 10])) (rsq [.d 14 4 3,.s 4 4 14] .ret))
abbrev r85:List ak:=[.aW 4 4]
def k85:aq prog 85 2 Tryz.f85 c85 r85:=.auto func85
def Pg:AC:=rsq [oB 3 0,oB 5 2,oA 6 zS4] (rsq [.d 7 4 3,.m 8 1,.d 9 4 5,.k 10 264 [7,8,9,(zK 0)],.s 4 6 10] .ret)
abbrev abQ:List ak:=[.aW 4 6]
def abR:aq prog 241 3 Tryz.f241 Pg abQ:=.auto func241
def tK:AC:=rsq [oB 4 0,oB 6 2,oA 8 zS4] (.seq (rif [.f 12 0 4,.l 13 12,oI 14 .eql 13 (zK 3)] 14 (.seq (rif [.f 15 2 4,.l 16 15,.m 17 3,.m 18 1,oI 19 .add 17 18,oI 20 .eql 16 19] 20 (rsq [.d 21 4 6,.m 22 3,.k 23 142 [21,(zK 0),22],.s 4 8 23] .ret) .skip) (.seq (rif [.f 24 2 4,.l 25 24,.m 26 3,.m 27 1,oI 28 .add 26 27,oI 29 .gtr 25 28] 29 (rsq [.f 30 0 4,.l 31 30,.f 32 1 4,.l 33 32,.f 34 2 4,.l 35 34,oI 36 .sub 35 (zK 1),.f 37 3 4,.l 38 37,oD 39 zS4 [(0,1,31),(1,1,33),(2,1,36),(3,1,38)],.s 4 8 39] .ret) .skip) (rsq [.d 40 4 4,.s 4 8 40] .ret))) .skip) (rsq [.d 41 4 4,.k 42 93 [41],.m 9 42] (.seq (rif [.m 43 9,oU 44 .not 43] 44 (rsq [.d 45 4 4,.s 4 8 45] .ret) .skip) (rsq [oN 10] (.seq (rsq [oK 11 0] (forL 0 1 [.m 46 11,.f 47 3 4,.l 48 47,oL 49 48,oI 50 .lss 46 49] 50 (drg [.m 53 10,.f 54 3 4,.l 55 54,.m 56 11,oJ 57 4 55 56,.d 58 4 57,.m 59 1,.d 60 4 6,.d 61 4 4,.m 62 3,.k 63 242 [61,62],.k 64 264 [58,59,60,63],oS 65 4 [64],oQ 66 41 4 56 53 65,.m 10 66] [8,9,110,1,2,3,4,5,6,7,311,0,412,513,614]) [.m 51 11,oI 52 .add 51 (zK 1),.m 11 52])) (rsq [.d 67 4 4,.m 68 10,.k 69 243 [67,68],.s 4 8 69] .ret))))))
abbrev abS:List ak:=[.aW 4 8]
def abT:aq prog 264 4 Tryz.f264 tK abS:=.auto func264
def FU(w0:World)(t:aa):ao t<=1000000000000->∀(σ:H),DC prog w0 43 [t.v] σ (Same (I (cn t:Nat)) σ):=by
 refine aa.ind (P:=fun t=>ao t<=1000000000000->∀(σ:H),DC prog w0 43 [t.v] σ (Same (I (cn t:Nat)) σ)) (fun t F hn σ=>?_) t;refine k43.go rfl (fun p G=>?_);have g:=fun σ=>FQ w0 t σ;have D:t.l.length<=1000000000000:=bf (eR t) hn;have u:bj t.l<=1000000000000:=by rw[ef]at hn;omega
 rw[Au];by_cases r:t.k=5\/t.k=6
 ·have w:(t.k==5||t.k==6)=true:=by rcases r with h|h<;>simp[h]
  rw[if_pos r];rw[w]at g;apply bl;simp only[go_sem,FO];(refine db (g _) ?_;simp only[go_sem]);refine W.aY (fun i=>i<=t.l.length) (fun i=>⟨((((base.put (some 1) (.ptr σ.length 0)).put (some 3) (I ((1+dJ (t.l.take i):Nat):Int))).put (some 4) (B true)).put (some 5) (I (i:Int))),σ++[.cells t.v.af]⟩) (fun i=>t.l.length-i) 0 (be _) ?_ (fun i Q=>?_)
  ·simp only[ey,dJ];exact wV
  by_cases b:i<t.l.length
  ·have j:(i:Int)<(t.l.length:Int):=by omega
   have J:t.l[i]?=some t.l[i]:=aN b;have c:=bg b;have hS:=fun σ=>F t.l[i] c (bf (sV c) u) σ;have L:=N6 b;have M:=N7 t.l i;have E:=rn t.l[i];have N:=sV c;have hw:=cF b (by omega:t.l.length<=9223372036854775807);have O:aE.wrap (((1+dJ (t.l.take i):Nat):Int)+((cn t.l[i]:Nat):Int))=((1+dJ (t.l.take (i+1)):Nat):Int):=by rw[a7]<;>omega
   apply bl;simp only[go_sem,j];refine wY ?_;simp only[go_sem,j,bu,J];(refine db (hS _) ?_;simp only[go_sem,O,hw]);refine .inv ⟨i+1,b,by omega,?_⟩;exact wV
  ·have j:¬((i:Int)<(t.l.length:Int)):=by omega
   have e:t.l.take i=t.l:=dT (by omega);apply bl;simp only[go_sem,j];refine wN ?_;simp only[go_sem];rw[e];exact wF p
 ·have w:(t.k==5||t.k==6)=false:=by simp;omega
  rw[if_neg r];rw[w]at g;have A:0<t.l.length\/t.l.length=0:=by omega
  apply bl;simp only[go_sem,FO];(refine db (g _) ?_;simp only[go_sem]);refine W.aY (α:=Unit) (fun _=>True) (fun _=>⟨((((base.put (some 1) (.ptr σ.length 0)).put (some 3) (I 1)).put (some 4) (B false)).put (some 5) (I 0)),σ++[.cells t.v.af]⟩) (fun _=>0) () trivial ?_ (fun _ _=>?_)
  ·exact wV
  rcases A with h|h
  ·have j:(0:Int)<(t.l.length:Int):=by omega
   apply bl;simp only[go_sem,j];refine wN ?_;simp only[go_sem];exact wF p
  ·have j:¬(0:Int)<(t.l.length:Int):=by omega
   apply bl;simp only[go_sem,j];refine wN ?_;simp only[go_sem];exact wF p
def abU(w0:World)(i:Int)(hi:0<=i)(hi':i<=100000)(s:aa)(hsn:bD 2305843009213693952 s=true)(gF:ao s<=100000000)(t:aa):bD 2305843009213693952 t=true->ao s*ao t<=900000000000->∀(k:Nat),k+ao t<=1000000000->∀σ,DC prog w0 264 [t.v,I i,s.v,I (k:Int)] σ (Same (bq (cB i s) (k:Int) t).v σ):=by
 refine aa.ind (P:=fun t=>bD 2305843009213693952 t=true->ao s*ao t<=900000000000->∀(k:Nat),k+ao t<=1000000000->∀σ,DC prog w0 264 [t.v,I i,s.v,I (k:Int)] σ (Same (bq (cB i s) (k:Int) t).v σ)) (fun t M N hm k hk σ=>?_) t;refine abT.go rfl (fun g hsz=>?_);have hp:=pD t;have hps:=pD s;have b:aE.wrap ((k:Int)+i)=(k:Int)+i:=by rw[a7]<;>omega
 have r:=fun σ=>FQ w0 t σ;by_cases c:t.k≠5/\t.k≠6
 ·have k5:(t.k==5)=false:=by simp[c.1]
  have k6:(t.k==6)=false:=by simp[c.2]
  rw[iQ,if_neg c.1,if_neg c.2];rw[k5,k6]at r;by_cases D:t.k=3
  ·have k3:(t.k==3)=true:=by simp[D]
   have hnn:=nY N (by omega);by_cases F:t.n=(k:Int)+i
   ·have w:(t.n==(k:Int)+i)=true:=by simp[F]
    have hS:=fun σ=>Pc w0 s 0 (k:Int) (by decide) (by decide) (by omega) (by omega) hsn (by omega) σ;have e:cB i s t (k:Int)=iR 0 k s:=by
     unfold cB;rw[if_neg (by rintro(h|h)<;>omega),if_pos F]
    rw[e];generalize iR 0 k s=z at*;clear c D M F;apply bl;simp only[go_sem,tK,k3,b];refine wY ?_;simp only[go_sem,b,w];refine wY ?_;simp only[go_sem];(refine db (hS _) ?_;simp only[go_sem]);exact wF g
   have w:(t.n==(k:Int)+i)=false:=by simp[F]
   by_cases O:t.n>(k:Int)+i
   ·have hw2:aE.wrap (t.n-1)=t.n-1:=by rw[a7]<;>omega
    have e:cB i s t (k:Int)= .mk t.k t.name (t.n-1) t.l:=by
     unfold cB;rw[if_neg (by rintro(h|h)<;>omega),if_neg F]
    rw[e];clear c D M F;apply bl;simp only[go_sem,tK,k3,b];refine wY ?_;simp only[go_sem,b,w];refine wN ?_;simp only[go_sem,b,O];refine wY ?_;simp only[go_sem,hw2];exact wF g
   ·have e:cB i s t (k:Int)=t:=by
     unfold cB;rw[if_pos (.inr (by omega))]
    rw[e];clear c D M F;apply bl;simp only[go_sem,tK,k3,b];refine wY ?_;simp only[go_sem,b,w];refine wN ?_;simp only[go_sem,b,O];refine wN ?_;simp only[go_sem];exact wF g
  ·have k3:(t.k==3)=false:=by simp[D]
   have e:cB i s t (k:Int)=t:=by unfold cB;rw[if_pos (.inl D)]
   rw[e];clear c D M;apply bl;simp only[go_sem,tK,k3];refine wN ?_;simp only[go_sem];(refine db (r _) ?_;simp only[go_sem]);refine wY ?_;simp only[go_sem];exact wF g
 have p:t.k=5\/t.k=6:=by omega
 have hin:(t.k==5||t.k==6)=true:=by rcases p with h|h<;>simp[h]
 rw[hin]at r;have k3:(t.k==3)=false:=by rcases p with h|h<;>simp[h]
 obtain⟨B,Q⟩:∃B:Nat,B=(if t.k=5 then k+1 else k):=⟨_,rfl⟩;have hBk:B<=k+1:=by rw[Q];split<;>omega
 have R:=fun σ=>Pa w0 t k (by omega) σ;rw[<-Q]at R;have T:bq (cB i s) (k:Int) t=dC t (t.l.map (bq (cB i s) (B:Int))):=by
  rw[iQ];rcases p with h|h
  ·rw[if_pos h,Q,if_pos h];rfl
  ·rw[if_neg (by omega),if_pos h,Q,if_neg (by omega)]
 rw[T];obtain⟨o,U⟩:∃o,o=t.l.map (bq (cB i s) (B:Int)):=⟨_,rfl⟩;have X:o.length=t.l.length:=by rw[U,bY]
 have hlen:=eR t;have Y:∀v∈t.l,ao s*ao v<=900000000000:=fun v hv=>bf (Nat.mul_le_mul_left _ (by have:=fz hv;omega)) hm;have G:∀j (hj:j<t.l.length) (hj':j<o.length) σ,DC prog w0 264 [t.l[j].v,I i,s.v,I (B:Int)] σ (Same o[j].v σ):=fun j hj hj' σ=>by
  have A:=bg hj;have:=fz A;have e:o[j]=bq (cB i s) (B:Int) t.l[j]:=by simp[U]
  rw[e];exact M _ A (fW N _ A) (Y _ A) B (by omega) σ
 have Z:∀u∈o,u.l.length<=900000000000:=fun u hu=>by
  rw[U]at hu;obtain⟨v,hv,rfl⟩:=eU.1 hu;have J:=D0 i s v B;have h2:=eR (bq (cB i s) (B:Int) v);have D:=Y v hv;omega
 have hW:=fun σ=>Pb w0 t o (by omega) Z (fun h e=>by rw[e,dU]at X;omega) σ;rw[<-U];clear U Q T M;generalize dC t o=z at*
 apply bl;simp only[go_sem,tK,k3];refine wN ?_;simp only[go_sem];(refine db (r _) ?_;simp only[go_sem]);refine wN ?_;simp only[go_sem];refine W.own 10 41 4 rfl ?_;apply bl;simp only[go_sem];refine W.aY (fun j=>j<=t.l.length) (fun j=>⟨(((((((base.put (some 1) (I i)).put (some 3) (I (k:Int))).put (some 4) (.ptr σ.length 0)).put (some 6) (.ptr (σ.length+1) 0)).put (some 8) (.ptr (σ.length+2) 0)).put (some 10) (.aC (σ.length+3) ((o.take j).map aa.cs))).put (some 11) (I (j:Int))),σ++[.cells t.v.af,.cells s.v.af,.cells [I 0,S [],I 0,.ae []],.spare 41 4 j]⟩) (fun j=>t.l.length-j) 0 (be _) ?_ (fun j hj=>?_)
 ·exact wV
 by_cases L:j<t.l.length
 ·have E:j<o.length:=by omega
  have J:(j:Int)<(t.l.length:Int):=by omega
  have h0:(0:Int)<=(j:Int):=by omega
  have hx:t.l[j]?=some t.l[j]:=aN L;have hw:aE.wrap ((j:Int)+1)=((j+1:Nat):Int):=by rw[a7]<;>omega
  have hb1:(j+1)*56<=140737488355328:=by omega
  have hb2:j<=140737488355327:=by omega
  have hti:(o.take j).length=j:=by rw[dE];omega
  have hts:(o.take (j+1)).map aa.cs=(o.take j).map aa.cs++[[.int .i64 o[j].k,.str o[j].name,.int .i64 o[j].n,.sl (o[j].l.map aa.cs)]]:=by
   rw[eW E,dF,ck,cP,aa.aG]
  have hki:=fun σ=>G j L E σ;generalize o[j]=y at*;generalize t.l[j]=x at*
  apply bl;simp only[go_sem,J];refine wY ?_;simp only[go_sem];apply W.aD (aF _ _)
  case hc=>
   (apply ab.aj;simp only[go_sem,J,h0,hx]);(apply ab.call (R _)<;>try rfl);(apply ab.aj;simp only[go_sem,J,h0,hx]);(apply ab.call (hki _)<;>try rfl);(apply ab.aj;simp only[go_sem,J,h0,hx,hb1,hb2,hti]);exact ab.nil
  apply bl;simp only[go_sem,hw];refine .inv ⟨j+1,L,by omega,?_⟩;simp only[go_sem,hts];exact wQ g
 obtain rfl:j=t.l.length:=by omega
 have J:¬((t.l.length:Nat):Int)<((t.l.length:Nat):Int):=by omega
 have hta:o.take t.l.length=o:=by rw[<-X,jA]
 rw[hta];apply bl;simp only[go_sem,J];refine wN ?_;simp only[go_sem];(refine W.fV (hW _) ?_;simp only[go_sem]);exact wF g
def abV(w0:World)(s:aa)(b:bD 2305843009213693952 s=true)(gF:ao s<=100000000)(t:aa)(c:bD 2305843009213693952 t=true)(h:ao s*ao t<=900000000000)(p:ao t<=1000000000)(σ:H):DC prog w0 241 [t.v,I 0,s.v] σ (Same (kC 0 s t).v σ):=by
 refine abR.go rfl (fun g i=>?_);have hS:=fun σ=>abU w0 0 (by decide) (by decide) s b gF t c h 0 (by omega) σ;have e:(((0:Nat):Int))=0:=rfl;rw[e]at hS;have j:kC 0 s t=bq (cB 0 s) 0 t:=rfl;rw[j];generalize bq (cB 0 s) 0 t=z at*
 apply bl;simp only[go_sem,Pg];(refine db (hS _) ?_;simp only[go_sem]);exact wF g
def abW(w0:World)(t:aa)(σ:H):DC prog w0 85 [I 1,t.v] σ (Same (bk t).v σ):=by
 refine k85.go rfl (fun b c=>?_);have z:(0:Int)<1:=by decide
 have hw:aE.wrap 1=1:=by decide
 have e:¬(1:Int)<1:=by decide
 apply bl;simp only[go_sem,c85];refine W.aY (α:=Bool) (fun _=>True) (fun o=>match o with
  |false=>⟨((((base.put (some 0) (I 1)).put (some 3) (.ptr σ.length 0)).put (some 4) (.ptr (σ.length+1) 0)).put (some 5) (I 0)),σ++[.cells t.v.af,.cells [I 0,S [],I 0,.ae []]]⟩
  |true=>⟨((((base.put (some 0) (I 1)).put (some 3) (.ptr σ.length 0)).put (some 4) (.ptr (σ.length+1) 0)).put (some 5) (I 1)),σ++[.cells (bk t).v.af,.cells [I 0,S [],I 0,.ae []]]⟩) (fun o=>match o with|false=>1|true=>0) false trivial ?_ (fun o _=>?_)
 ·dsimp only
  exact wV
 cases o with
 |false=>
  dsimp only
  apply bl;simp only[go_sem,z];refine wY ?_;simp only[go_sem,hw];refine .inv ⟨true,by dsimp only;omega,?_⟩;dsimp only
  simp only[go_sem,bk];exact wQ b
 |true=>
  dsimp only
  apply bl;simp only[go_sem,e];refine wN ?_;simp only[go_sem];exact wF b
def abX(w0:World)(t:aa)(h:t.k=6->t.l≠[])(σ:H):DC prog w0 195 [t.v] σ (Same (B (dD t)) σ):=by
 refine abx.go rfl (fun b e=>?_);unfold dD;by_cases c:t.k=6
 ·have k6:(t.k==6)=true:=by simp[c]
  obtain⟨x,l,hl⟩:∃x l,t.l=x::l:=by
   cases hl:t.l with
   |nil=>exact absurd hl (h c)
   |cons x l=>exact⟨x,l,rfl⟩
  have z:(0:Int)<((l.length+1:Nat):Int):=by omega
  rw[hl,List.headD_cons];clear c h;apply bl;simp only[go_sem,FR,k6,hl,z];exact wF b
 ·have k6:(t.k==6)=false:=by simp[c]
  clear c h;apply bl;simp only[go_sem,FR,k6];exact wF b
def Ph(w0:World)(t:aa):ao t<=1000000000000->∀(i:Nat),i+ao t<=2000000000000->∀(σ:H),DC prog w0 198 [t.v,I (i:Int)] σ (Same (I (bV (i:Int) t:Nat)) σ):=by
 refine aa.ind (P:=fun t=>ao t<=1000000000000->∀(i:Nat),i+ao t<=2000000000000->∀(σ:H),DC prog w0 198 [t.v,I (i:Int)] σ (Same (I (bV (i:Int) t:Nat)) σ)) (fun t M hn i hi σ=>?_) t;refine abv.go rfl (fun r R=>?_);have T:=ef t;have N:t.l.length<=1000000000000:=bf (eR t) hn;rw[v8];by_cases h:t.k=3/\t.n=(i:Int)
 ·rw[if_pos h];have k3:(t.k==3)=true:=by simp[h.1]
  have F:(t.n==(i:Int))=true:=by simp[h.2]
  clear h;apply bl;simp only[go_sem,c198,k3,F];refine wY ?_;simp only[go_sem];exact wF r
 rw[if_neg h];obtain⟨j,O,c⟩:∃j:Nat,(j:Int)=(if t.k=5 then(i:Int)+1 else(i:Int))/\j=(if t.k=5 then i+1 else i):=⟨_,by split<;>omega,rfl⟩;have U:j<=i+1:=by rw[c];split<;>omega
 have u:bj t.l<=1000000000000:=by omega
 have X:∀x (D:x<t.l.length) σ,DC prog w0 198 [t.l[x].v,I (j:Int)] σ (Same (I (bV (j:Int) t.l[x]:Nat)) σ):=fun x D σ=>by
  have hm:=fz (bg D);exact M _ (bg D) (by omega) j (by omega) σ
 have G:aE.wrap ((i:Int)+1)=((i+1:Nat):Int):=by rw[a7]<;>omega
 rw[<-O];have g:∀x,cH (j:Int) (t.l.take x)<=1000000000000:=fun x=>bf (EW _ _ _) u;have J:(t.k==3)=false\/((t.k==3)=true/\(t.n==(i:Int))=false):=by
  by_cases L:t.k=3
  ·exact .inr ⟨by simp[L],by have:t.n≠(i:Int):=fun e=>h ⟨L,e⟩;simpa using this⟩
  ·exact .inl (by simp[L])
 clear h M O;rcases J with k3|⟨k3,F⟩
 all_goals
  first|(apply bl;simp only[go_sem,c198,k3,F])|(apply bl;simp only[go_sem,c198,k3])
  refine wN ?_;simp only[go_sem];refine W.aY (fun x=>x<=t.l.length) (fun x=>⟨(((((base.put (some 1) (I (i:Int))).put (some 2) (.ptr σ.length 0)).put (some 4) (I 0)).put (some 5) (I (cH (j:Int) (t.l.take x):Nat))).put (some 6) (I (x:Int))),σ++[.cells t.v.af]⟩) (fun x=>t.l.length-x) 0 (be _) ?_ (fun x D=>?_)
  ·simp only[ey,cH];exact wV
  by_cases b:x<t.l.length
  ·have p:(x:Int)<(t.l.length:Int):=by omega
   have w:t.l[x]?=some t.l[x]:=aN b;have A:=fun σ=>X x b σ;have Y:=Av (j:Int) b;have Z:=g x;have hl3:=g (x+1);have hw:=cF b (by omega:t.l.length<=9223372036854775807);have Q:aE.wrap (((cH (j:Int) (t.l.take x):Nat):Int)+((bV (j:Int) t.l[x]:Nat):Int))=((cH (j:Int) (t.l.take (x+1)):Nat):Int):=by rw[a7]<;>omega
   by_cases E:t.k=5
   ·have k5:(t.k==5)=true:=by simp[E]
    rw[if_pos E]at c;subst c;apply bl;simp only[go_sem,p];refine wY ?_;simp only[go_sem,k5];refine wY ?_;simp only[go_sem,p,bu,w,G];(refine db (A _) ?_;simp only[go_sem,Q,hw]);refine .inv ⟨x+1,b,by omega,?_⟩;exact wV
   ·have k5:(t.k==5)=false:=by simp[E]
    rw[if_neg E]at c;subst c;apply bl;simp only[go_sem,p];refine wY ?_;simp only[go_sem,k5];refine wN ?_;simp only[go_sem,p,bu,w];(refine db (A _) ?_;simp only[go_sem,Q,hw]);refine .inv ⟨x+1,b,by omega,?_⟩;exact wV
  ·have p:¬((x:Int)<(t.l.length:Int)):=by omega
   have e:t.l.take x=t.l:=dT (by omega);apply bl;simp only[go_sem,p];refine wN ?_;simp only[go_sem];rw[e];exact wF r
def abY(w0:World)(b a:aa)(w:ao b<=10000000)(ha:ao a<=10000000)(σ:H):DC prog w0 240 [b.v,a.v] σ (Same (B (decide (cn b+bV 0 b*cn a<=4096))) σ):=by
 refine abz.go rfl (fun c j=>?_);have p:=fun σ=>FU w0 b (by omega) σ;have i:=fun σ=>Ph w0 b (by omega) 0 (by omega) σ;have r:=fun σ=>FU w0 a (by omega) σ;have A:=rn b;have D:=EV b 0;have E:=rn a;have t:(((0:Nat):Int))=0:=rfl;rw[t]at i;generalize cn b=x at*
 generalize bV 0 b=y at*
 generalize cn a=z at*
 have u:y*z<=10000000*10000000:=Nat.mul_le_mul (by omega) (by omega);have e:aE.wrap ((y:Int)*(z:Int))=((y*z:Nat):Int):=by
  rw[<-Int.natCast_mul];generalize y*z=q at*;rw[a7]<;>omega
 have g:aE.wrap ((x:Int)+((y*z:Nat):Int))=((x+y*z:Nat):Int):=by
  generalize y*z=q at*;rw[a7]<;>omega
 have hd:decide (((x+y*z:Nat):Int)<=4096)=decide (x+y*z<=4096):=by
  generalize x+y*z=q;by_cases h:q<=4096
  ·rw[decide_eq_true h,decide_eq_true (by omega)]
  ·rw[decide_eq_false h,decide_eq_false (by omega)]
 rw[<-hd];clear hd u;apply bl;simp only[go_sem,Pd];apply W.aD (aF _ _)
 case hc=>
  (apply ab.aj;simp only[go_sem]);(apply ab.call (p _)<;>try rfl);(apply ab.aj;simp only[go_sem]);(apply ab.call (i _)<;>try rfl);(apply ab.aj;simp only[go_sem]);(apply ab.call (r _)<;>try rfl);(apply ab.aj;simp only[go_sem,e,g]);exact ab.nil
 apply bl;simp only[go_sem];exact wF c
def wB:Option aa->V
 |none=>.au [aa.none.v,B false]
 |some u=>.au [u.v,B true]
def abZ(w0:World)(b a:aa)(r:List aa)(w:ao b<=10000000)(ha:ao a<=10000000)(O:r.length<=10000000)(A:aP b=true)(D:bD 2305843009213693952 b=true)(E:bD 2305843009213693952 a=true)(σ:H):
  DC prog w0 196 [(eG b a r).v] σ (Same (wB ((jO b a).map fun u=>bP u r)) σ):=by
 refine abB.go rfl (fun c F=>?_);have h:=fun σ=>abY w0 b a w ha σ;have z0:(0:Int)<((r.length+1+1:Nat):Int):=by omega
 have i:(1:Int)<((r.length+1+1:Nat):Int):=by omega
 have G:(2:Int)<=((r.length+1+1:Nat):Int):=by omega
 unfold jO;by_cases hc:cn b+bV 0 b*cn a>4096
 ·rw[if_pos hc];rw[decide_eq_false (by omega)]at h;apply bl;simp only[go_sem,c196,rv,wo,wq,rA,jP,jQ,jR,iT,z0];apply W.aD (aF _ _)
  case hc=>
   (apply ab.aj;simp only[go_sem,i]);(apply ab.call (h _)<;>try rfl);(apply ab.aj;simp only[go_sem]);exact ab.nil
  apply bl;simp only[go_sem];refine wY ?_;simp only[go_sem,wB,aa.none,Option.map_none];exact wF c
 ·rw[if_neg hc];rw[decide_eq_true (by omega)]at h;have J:=wa b A;have t:ao a*ao b<=900000000000:=bf (Nat.mul_le_mul ha (by omega:ao b<=4096)) (by decide);have hS:=fun σ=>abV w0 a E (by omega) b D t (by omega) σ;have j:(kC 0 a b).l.length<=900000000000:=by
   have P:=eR (kC 0 a b);have L:=D0 0 a b 0;have e:kC 0 a b=bq (cB 0 a) ((0:Nat):Int) b:=rfl;rw[<-e]at L;omega
  have M:=fun σ=>AO w0 (kC 0 a b) r (by omega) σ;have g:=eq_true (fX r);have p:dj r.length (r.map aa.cs)=r.map aa.cs:=dT (by rw[bY];omega);clear j t;generalize kC 0 a b=s at*
  have N:(Option.map (fun u=>bP u r) (some s))=some (bP s r):=rfl;rw[N];generalize bP s r=q at*
  apply bl;simp only[go_sem,c196,rv,wo,wq,rA,jP,jQ,jR,iT,z0];apply W.aD (aF _ _)
  case hc=>
   (apply ab.aj;simp only[go_sem,i]);(apply ab.call (h _)<;>try rfl);(apply ab.aj;simp only[go_sem]);exact ab.nil
  apply bl;simp only[go_sem];refine wN ?_;simp only[go_sem];apply W.aD (aF _ _)
  case hc=>
   (apply ab.aj;simp only[go_sem,i]);(apply ab.call (hS _)<;>try rfl);(apply ab.aj;simp only[go_sem,G,g,p]);(apply ab.ph (M _);(case hg=>rfl);(case hf=>rfl);(case ha=>rfl);(case hw=>((exact aR))));(apply ab.aj;simp only[go_sem]);exact ab.nil
  apply bl;simp only[go_sem,wB];exact wF c
end
end Go.Proofs.YtdlkenpilhakfaaGreatDoor
namespace Go.Proofs.YtdlkenpilhakfaaGreatDoor
open Go Go.RowKit Go.Lamb
def nl(l:List av):Prop:=∀i (b:i<l.length),∀j (c:j<l.length),i<j->l[i].name≠l[j].name
def Pj(b:cb):∀(l:List av) (i:Nat),cZ b i l<0->∀x∈l,(x.name==b)=false
 |[],_,_,x,hx=>by cases hx
 |y::l,i,h,x,hx=>by
  unfold cZ at h;split at h
  ·exact absurd h (by have:=Int.natCast_nonneg ‹Nat›;exact Int.not_lt.2 this)
  ·rename_i n hn;rcases List.mem_cons.1 hx with rfl|hx
   ·cases c:(x.name==b)
    ·rfl
    ·rw[c]at h;exact absurd h (Int.not_lt.2 (Int.natCast_nonneg i))
   ·exact Pj b l (i+1) (by rw[hn];exact Int.negSucc_lt_zero _) x hx
def ab0{l:List av}(h:nl l)(x:av)(r:∀y∈l,(y.name==x.name)=false):nl (l++[x]):=by
 intro i t j u g;rw[bC,List.length_singleton]at t u;have b:i<l.length:=by omega
 rw[cM b];by_cases c:j<l.length
 ·rw[cM c];exact h i b j c g
 ·rw[List.getElem_append_right (by omega)];have p:j-l.length=0:=by omega
  simp only[p,List.getElem_cons_zero];intro e;have:=r _ (bg b);rw[e]at this;simp at this
def ab1(g:Sg)(t:al):∀f:az,nl f.vars->nl (bI g t f).2.2.vars:=by
 refine al.ind (P:=fun t=>∀f:az,nl f.vars->nl (bI g t f).2.2.vars) (fun t i f h=>?_) t;rcases NO g t f with⟨_,e⟩|⟨_,_,e⟩|⟨_,p,n,b,pos,rfl,e⟩|⟨_,p,n,a,b,pos,rfl,e⟩|⟨_,_,e⟩
 ·rw[e];exact h
 ·rw[e];exact h
 ·rw[e];exact i b (by simp[al.l]) _ h
 ·rw[e];have c:=i b (by simp[al.l]) _ (i a (by simp[al.l]) f h);generalize bI g b (bI g a f).2.2=q at c;unfold lW;split
  ·exact c
  ·dsimp only
   split
   ·exact c
   ·rw[(Ar _ 121 pos).2.2];exact c
 ·rw[e];unfold gP;split
  ·exact h
  ·split
   ·unfold jM;split
    ·rename_i j;exact ab0 h _ (Pj _ _ _ j)
    ·exact h
   ·unfold rh;split
    ·rename_i u _;have:=(f.pI (bS 0 (bT u)).toNat).2.1;show nl (f.more _).vars;rw[this];exact h
    ·show nl (f.fail _ _).vars;rw[(Ar _ 120 t.pos).2.2];exact h
def Pk(v u:aa):(aa.arr v u).v= .agg [.c (.int .i64 2),.c (.str []),.c (.int .i64 0),.c (.sl [[.int .i64 v.k,.str v.name,.int .i64 v.n,.sl (v.l.map aa.cs)],[.int .i64 u.k,.str u.name,.int .i64 u.n,.sl (u.l.map aa.cs)]])]:=by
 simp only[aa.arr,aa.v,aO,aQ,aL,aH,ck,cP,aa.aG,aM,I,S]
section
variable {n0 p:Nat} {σ E:H} {g:Sg} {f f':az} {y3 y4 y5 z3 z4 z5:V}
attribute [local go_sem] aa.v aa.aG aO aQ aL aH aM
def ab2(w0:World)(h:aS n0 σ p g f y3 y4 y5)(hn:n0<=σ.length)(he:f.e=0)(hl:f.live=true)(hs:f.sub.length<=999999)(hbl:f.bound.length<=1000000)(i:cb)(n:Int)(b:al)(pos:Int)(r:aa×aa×az)
  (N:r.2.2.bound=f.bound++[⟨i,aJ f.sub.length⟩])
  (Y:∀{E:H} {z3 z4 z5:V},aS n0 E p g (f.fresh.push ⟨i,aJ f.sub.length⟩) z3 z4 z5->n0<=E.length->DC prog w0 37 [.ptr p 0,b.v] E (iU n0 p g E r)):
  DC prog w0 37 [.ptr p 0,(al.mk 4 i n [b] pos).v] σ (iU n0 p g σ (og (aJ f.sub.length) r)):=by
 refine wx.cl rfl (fun hok hsz=>?_);have hlt:=h.lt;have hp:=fun L=>hG h.here L;unfold bh at hp;have k0:(f.e !=0)=false:=by simp[he]
 have hA0:=h.app [.cells (al.mk 4 i n [b] pos).v.af,.cells [I 0,S [],I 0,.ae []],.cells [I 0,S [],I 0,.ae []]];have O:=(Kept.refl n0 p σ).app hn [.cells (al.mk 4 i n [b] pos).v.af,.cells [I 0,S [],I 0,.ae []],.cells [I 0,S [],I 0,.ae []]];obtain⟨τ,c1,c2,c3⟩:=Aq FG w0 hA0 (bf hn O.len) hl hs;have j:n0<=τ.length:=bf (bf hn O.len) c3.len;have Z:τ[σ.length]?=some (.cells (al.mk 4 i n [b] pos).v.af):=c3.cells _ _ _ (by omega) (Go.Lamb.cQ _ _);have hx4:τ[σ.length+1]?=some (.cells [I 0,S [],I 0,.ae []]):=c3.cells _ _ _ (by omega) (Go.Lamb.bx _ _ 1)
 have hx5:τ[σ.length+2]?=some (.cells [I 0,S [],I 0,.ae []]):=c3.cells _ _ _ (by omega) (Go.Lamb.bx _ _ 2);have l3:=(aI.1 hx5).1;have hpt:=c2.lt;generalize hz3:(V.vec (σ++[ad.cells (al.mk 4 i n [b] pos).v.af,ad.cells [I 0,S [],I 0,.ae []],ad.cells [I 0,S [],I 0,.ae []]]).length (f.sub.length+1))=z3 at*
 have P:f.fresh.bound=f.bound:=rfl;generalize aJ f.sub.length=v at*
 simp only[aa.v,al.v,V.af,qq,qs,qt,qu,pos_mk,ck,cP,al.aG]at c1 Z;obtain⟨Q,R⟩:∃E,(τ++[ad.cells v.v.af])=E:=⟨_,rfl⟩;have T:=c2.app [ad.cells v.v.af];have q2:=(Kept.refl n0 p τ).app j [ad.cells v.v.af];have x6:(τ++[ad.cells v.v.af])[τ.length]?=some (ad.cells v.v.af):=Go.Lamb.cQ _ _;have hE1l:(τ++[ad.cells v.v.af]).length=τ.length+1:=by simp
 rw[R]at T q2 x6 hE1l;have x3:=q2.cells _ _ _ (by omega) Z;have x4:=q2.cells _ _ _ (by omega) hx4;have x5:=q2.cells _ _ _ (by omega) hx5;have j:n0<=Q.length:=by omega
 have F:=T.here;have hq:=fun L=>hG T.here L;unfold bh at F hq;simp only[aa.v,V.af]at x6;apply bl;simp only[go_sem,c37,hp,k0];refine wN ?_;simp only[go_sem];refine wN ?_;simp only[go_sem];refine wN ?_;simp only[go_sem];refine wN ?_;simp only[go_sem];refine wY ?_;simp only[go_sem];(refine db (c1) ?_;simp only[go_sem]);refine W.heap R ?_;rcases T.dn with⟨h0,hy⟩|⟨b0,J,G,hy,hb⟩
 case' inl=>
  subst hy;rw[P]at h0;obtain⟨X,w⟩:=N1 T j h0 ⟨i,v⟩;obtain⟨E2,u⟩:∃E,((Q++[ad.vec 50 5 (av.mk i v).cs]).set p (bh g (f.fresh.push ⟨i,v⟩) z3 (.vec Q.length 1) y5))=E:=⟨_,rfl⟩;rw[u]at X w;apply W.aD (aF _ _)
  case hc=>
   iterate 9 (apply ab.quiet (dN.step rfl (by(simp only[go_sem,F,x3,x6]);rfl));case hp=>(intro τ hτ;simp at hτ))
   apply ab.bL
   case h=>exact fh.vec (x:=.t 46) (y:=.t 51) (e:=50) (size:=5) (bytes:=72) (olds:=[]) (news:=[(av.mk i v).cs]) rfl rfl rfl rfl ⟨by simp,(fun r hr=>by cases hr),(fun r hr=>by simp at hr;subst hr;rfl),by simp,by simp⟩
   (apply ab.aj;simp only[go_sem,dS,kO,av.cs,hq]);exact ab.nil
  refine W.heap u ?_
 case' inr=>
  rw[P]at hy hb;subst hy;have hbp:b0≠p:=by rintro rfl;rw[F]at hb;cases hb
  obtain⟨X,w⟩:=N2 (f:=f.fresh) T j G hb ⟨i,v⟩;rw[P]at X w;obtain⟨E2,u⟩:∃E,((Q.set b0 .gone++[ad.vec 50 5 (bX f.bound++(av.mk i v).cs)]).set p (bh g (f.fresh.push ⟨i,v⟩) z3 (.vec Q.length (f.bound.length+1)) y5))=E:=⟨_,rfl⟩;rw[u]at X w;have hnl:=nh f.bound;have hle:f.bound.length*5<=(bX f.bound).length+J.length:=by omega
  have U:dj (f.bound.length*5) (bX f.bound++J)=bX f.bound:=by rw[<-hnl];exact List.take_left
  have b1:(f.bound.length+1)*72<=140737488355328:=by omega
  have b2:f.bound.length+1<=140737488355328:=by omega
  have b3:f.bound.length<=140737488355327:=by omega
  have hsp:∀L,(Q.set b0 .gone++L)[p]?=Q[p]?:=fun L=>by rw[cr (by rw[bz];exact T.lt),bA hbp]
  apply W.aD (aF _ _)
  case hc=>
   (apply ab.aj;simp only[go_sem,F,x3,x6,hb,hle,U,b1,b2,b3,hsp,dS,kO,av.cs,ne_eq,not_false_eq_true]);exact ab.nil
  refine W.heap u ?_
 all_goals
  have e3:=w.cells _ _ _ (by omega) x3;have e4:=w.cells _ _ _ (by omega) x4;have e5:=w.cells _ _ _ (by omega) x5;have e6:=w.cells _ _ _ (by omega) x6;have hE0:=X.here;unfold bh at hE0;have hR:=Y X (bf j w.len);clear u R;apply bl;simp only[go_sem,e3,hE0];(refine W.call (hR) rfl rfl (by first|rfl|simp) ?_);rintro d c ⟨M,ty,rfl,hval,⟨w3,w4,w5,d2⟩,d3⟩;have k3:=d3.cells _ _ _ (by omega) e3;have k4:=d3.cells _ _ _ (by omega) e4;have k5:=d3.cells _ _ _ (by omega) e5;have k6:=d3.cells _ _ _ (by omega) e6
  have hn2:n0<=c.length:=bf (bf j w.len) d3.len;have l6:=(aI.1 k6).1;obtain⟨E3,hE3⟩:∃E,(c++[ad.cells M.v.af,ad.cells ty.v.af])=E:=⟨_,rfl⟩;have d4:=d2.app [ad.cells M.v.af,ad.cells ty.v.af];have d5:=(Kept.refl n0 p c).app hn2 [ad.cells M.v.af,ad.cells ty.v.af];have j7:(c++[ad.cells M.v.af,ad.cells ty.v.af])[c.length]?=some (ad.cells M.v.af):=Go.Lamb.cQ _ _;have j8:(c++[ad.cells M.v.af,ad.cells ty.v.af])[c.length+1]?=some (ad.cells ty.v.af):=Go.Lamb.bx _ _ 1;rw[hE3]at d4 d5 j7 j8;have D:=d4.here
  unfold bh at D;have hE3l:=(aI.1 j8).1;rcases d4.dn with⟨G,_⟩|⟨b3,J3,hbn,hw4,hb3⟩
  ·rw[N]at G;simp at G
  subst hw4;have hbl1:r.2.2.bound.length=f.bound.length+1:=by rw[N,bC];rfl
  obtain⟨p1,p2⟩:=EN d4 N hbn hb3;obtain⟨E4,hE4⟩:∃E,(E3.set p (bh g r.2.2.pop w3 (.vec b3 f.bound.length) w5))=E:=⟨_,rfl⟩;rw[hE4]at p1 p2;rw[hbl1]at D;have m3:=d5.trans p2;have t4:=m3.cells _ _ _ (by omega) k4;have t5:=m3.cells _ _ _ (by omega) k5;have t6:=m3.cells _ _ _ (by omega) k6;have t7:=p2.cells _ _ _ (by omega) j7;have t8:=p2.cells _ _ _ (by omega) j8;have hw1:aE.wrap ((f.bound.length:Int)+1-1)=(f.bound.length:Int):=by rw[a7]<;>omega
  have hw2:aE.wrap (((f.bound.length+1:Nat):Int)-1)=(f.bound.length:Int):=by rw[a7]<;>omega
  have g1:(0:Int)<=(f.bound.length:Int):=by omega
  have g2:f.bound.length<=f.bound.length+1:=by omega
  have g3:(f.bound.length:Int)<=((f.bound.length+1:Nat):Int):=by omega
  have hL:=fun σ=>abW w0 M σ;obtain⟨s5,s4,s3,f1,f2⟩:=oz p1 (((((((O.trans c3).trans q2).trans w).trans d3).trans d5).trans p2)) rfl hn hlt t4 t5;have l4:=(aI.1 t4).1;have s6:=fun A=>(bA (l:=E4) (a:=A) (by omega:σ.length+1≠τ.length)).trans t6;have s8:=fun A=>(bA (l:=E4) (a:=A) (by omega:σ.length+1≠c.length+1)).trans t8;simp only[aa.v,V.af]at t7 t8 s8;apply bl;simp only[go_sem];refine W.heap hE3 ?_;apply W.aD (aF _ _)
  case hc=>
   (apply ab.aj;simp only[go_sem,D,hw1,hw2,g1,g2,g3]);exact ab.nil
  refine W.heap hE4 ?_;apply bl;simp only[go_sem];apply W.aD (aF _ _)
  case hc=>
   (apply ab.aj;simp only[go_sem,t7]);(apply ab.call (hL _)<;>try rfl);(apply ab.aj;simp only[go_sem,t4,t5,t6,t8,s5,s6,s8]);exact ab.nil
  apply bl;simp only[go_sem];exact W.ret ⟨_,_,(by simp only[aX,pV,s3,s4,go_sem];rfl),(by rw[Pk];exact aR),bk M,aa.arr v ty,rfl,fun e=>by obtain⟨h1,h2⟩:=hval e;rw[h1,h2];exact⟨rfl,rfl⟩,⟨_,_,_,f1 _ _⟩,f2 _ _⟩
end
section
variable {n0 p:Nat} {σ E:H} {g:Sg} {f f':az} {y3 y4 y5 z3 z4 z5:V}
attribute [local go_sem] aa.v aa.aG aO aQ aL aH aM
def ab3(w0:World)(h:aS n0 σ p g f y3 y4 y5)(hn:n0<=σ.length)(he:f.e=0)(nm:cb)(n:Int)(a b:al)(pos:Int)(r q:aa×aa×az)(hrq:q.2.2.e=0->r.2.2.e=0)
  (hra:∀{E:H} {z3 z4 z5:V},aS n0 E p g f z3 z4 z5->n0<=E.length->DC prog w0 37 [.ptr p 0,a.v] E (iU n0 p g E r))
  (hrb:∀{E:H} {z3 z4 z5:V},aS n0 E p g r.2.2 z3 z4 z5->n0<=E.length->DC prog w0 37 [.ptr p 0,b.v] E (iU n0 p g E q))
  (hq:q.2.2.e=0->q.2.2.live=true/\q.2.2.sub.length<=999999/\bO 100000 q.2.2.fresh.sub/\de q.2.2.fresh.sub.length 100000 (r.2.1,.arr q.2.1 (aJ q.2.2.sub.length))) (hrl:r.1.l.length<=100000000):
  DC prog w0 37 [.ptr p 0,(al.mk 3 nm n [a,b] pos).v] σ (iU n0 p g σ (lW pos r q)):=by
 refine wx.cl rfl (fun hok hsz=>?_);have R:=h.lt;have hp:=fun L=>hG h.here L;unfold bh at hp;have k0:(f.e !=0)=false:=by simp[he]
 have hA0:=h.app [.cells (al.mk 3 nm n [a,b] pos).v.af,.cells [I 0,S [],I 0,.ae []],.cells [I 0,S [],I 0,.ae []]];have w:=(Kept.refl n0 p σ).app hn [.cells (al.mk 3 nm n [a,b] pos).v.af,.cells [I 0,S [],I 0,.ae []],.cells [I 0,S [],I 0,.ae []]];have hR1:=hra hA0 (bf hn w.len);have x3:(σ++[ad.cells (al.mk 3 nm n [a,b] pos).v.af,.cells [I 0,S [],I 0,.ae []],.cells [I 0,S [],I 0,.ae []]])[σ.length]?=some (.cells (al.mk 3 nm n [a,b] pos).v.af):=Go.Lamb.cQ _ _;simp only[aa.v,al.v,V.af,qq,qs,qt,qu,pos_mk,ck,cP,al.aG]at hR1 x3 w
 apply bl;simp only[go_sem,c37,hp,k0];refine wN ?_;simp only[go_sem];refine wN ?_;simp only[go_sem];refine wN ?_;simp only[go_sem];refine wN ?_;simp only[go_sem];refine wN ?_;simp only[go_sem];(refine W.call (hR1) rfl rfl (by first|rfl|simp) ?_);rintro d c ⟨F,G,rfl,hva,⟨u3,u4,u5,c2⟩,c3⟩;have hn1:n0<=c.length:=bf (bf hn w.len) c3.len;have a3:=c3.cells _ _ _ (by omega) x3;have a4:c[σ.length+1]?=some (.cells [I 0,S [],I 0,.ae []]):=c3.cells _ _ _ (by omega) (Go.Lamb.bx _ _ 1);have a5:c[σ.length+2]?=some (.cells [I 0,S [],I 0,.ae []]):=c3.cells _ _ _ (by omega) (Go.Lamb.bx _ _ 2)
 have l3:=(aI.1 a5).1;have hpt1:=c2.lt;obtain⟨E1,T⟩:∃E,(c++[ad.cells F.v.af,ad.cells G.v.af])=E:=⟨_,rfl⟩;have d4:=c2.app [ad.cells F.v.af,ad.cells G.v.af];have d5:=(Kept.refl n0 p c).app hn1 [ad.cells F.v.af,ad.cells G.v.af];have b6:(c++[ad.cells F.v.af,ad.cells G.v.af])[c.length]?=some (ad.cells F.v.af):=Go.Lamb.cQ _ _;have b7:(c++[ad.cells F.v.af,ad.cells G.v.af])[c.length+1]?=some (ad.cells G.v.af):=Go.Lamb.bx _ _ 1;rw[T]at d4 d5 b6 b7;have b3:=d5.cells _ _ _ (by omega) a3
 have hn2:n0<=E1.length:=bf hn1 d5.len;have hR2:=hrb d4 hn2;simp only[aa.v,al.v,V.af,qq,qs,qt,qu,pos_mk,ck,cP,al.aG]at hR2;have a3L:=fun L=>hG a3 L;apply bl;simp only[go_sem,a3L];refine W.heap T ?_;clear T;(refine W.call (hR2) rfl rfl (by first|rfl|simp) ?_);rintro d j ⟨J,M,rfl,hvb,⟨v3,v4,v5,e2⟩,U⟩;have hn3:n0<=j.length:=bf hn2 U.len;have hK2:=(w.trans c3).trans (d5.trans U);have g3:=U.cells _ _ _ (by omega) b3;have g6:=U.cells _ _ _ (by omega) b6;have g7:=U.cells _ _ _ (by omega) b7
 have l7:=(aI.1 g7).1;have hpt2:=e2.lt;obtain⟨E2,X⟩:∃E,(j++[ad.cells J.v.af,ad.cells M.v.af])=E:=⟨_,rfl⟩;have e4:=e2.app [ad.cells J.v.af,ad.cells M.v.af];have N:=(Kept.refl n0 p j).app hn3 [ad.cells J.v.af,ad.cells M.v.af];have i8:(j++[ad.cells J.v.af,ad.cells M.v.af])[j.length]?=some (ad.cells J.v.af):=Go.Lamb.cQ _ _;have i9:(j++[ad.cells J.v.af,ad.cells M.v.af])[j.length+1]?=some (ad.cells M.v.af):=Go.Lamb.bx _ _ 1;rw[X]at e4 N i8 i9;have O:=hK2.trans N;have Y:n0<=E2.length:=bf hn3 N.len
 have i4:=((d5.trans U).trans N).cells _ _ _ (by omega) a4;have i5:=((d5.trans U).trans N).cells _ _ _ (by omega) a5;have i3:=N.cells _ _ _ (by omega) g3;have i6:=N.cells _ _ _ (by omega) g6;have i7:=N.cells _ _ _ (by omega) g7;have l9:=(aI.1 i9).1;have u:=fun L=>hG e2.here L;unfold bh at u;unfold lW;by_cases i:q.2.2.e=0
 ·rw[if_neg (not_not_intro i)];have k1:(q.2.2.e !=0)=false:=by simp[i]
  obtain⟨q1,q2,q3,q4⟩:=hq i;obtain⟨h1,h2⟩:=hva (hrq i);obtain⟨h3,h4⟩:=hvb i;rw[<-h2,<-h4]at q4;rw[<-h1]at hrl;rw[<-h1,<-h2,<-h3,<-h4];clear hva hvb hq hrq hra hrb h1 h2 h3 h4;obtain⟨t,m1,m2,m3⟩:=Aq FG w0 e4 Y q1 q2;have hn5:n0<=t.length:=bf Y m3.len;generalize hz3:(V.vec E2.length (q.2.2.sub.length+1))=z3 at*
  have hql:q.2.2.fresh.sub.length=q.2.2.sub.length+1:=q.2.2.nk;have hfl:q.2.2.fresh.live=true:=q1;generalize hV:aJ q.2.2.sub.length=v at*;obtain⟨E3,hE3⟩:∃E,(t++[ad.cells v.v.af])=E:=⟨_,rfl⟩;have m4:=m2.app [ad.cells v.v.af];have P:=m3.trans ((Kept.refl n0 p t).app hn5 [ad.cells v.v.af]);have D:(t++[ad.cells v.v.af])[t.length]?=some (ad.cells v.v.af):=Go.Lamb.cQ _ _;rw[hE3]at m4 P D;have j7:=fun L=>hG (m3.cells _ _ _ (by omega) i7) L;have j9:=fun L=>hG (m3.cells _ _ _ (by omega) i9) L;have l10:=(aI.1 D).1
  have hn6:n0<=E3.length:=bf Y P.len;have lE:=m3.len;obtain⟨τ4,w3,o1,o2,Z⟩:=O4 w0 m4 hn6 hfl (by omega) q3 q4;have hAp:=fun σ=>AO w0 F [J] (by simp only[bG,dU];omega) σ;simp only[ck,cP,aa.aG]at hAp;have x3:=(P.trans Z).cells _ _ _ (by omega) i3;have x4:=(P.trans Z).cells _ _ _ (by omega) i4;have x5:=(P.trans Z).cells _ _ _ (by omega) i5;have x6:=(P.trans Z).cells _ _ _ (by omega) i6;have x8:=(P.trans Z).cells _ _ _ (by omega) i8;have x10:=Z.cells _ _ _ (by omega) D;have Q:=O.trans (P.trans Z)
  rw[Pk]at o1;simp only[aa.v,V.af]at m1 o1 j7 j9 D x6 x8 x10;apply bl;simp only[go_sem,u,k1];refine W.heap X ?_;refine W.no rfl ?_;apply bl;simp only[go_sem];(refine db (m1) ?_;simp only[go_sem,j7,j9]);refine W.heap hE3 ?_;(refine W.fV (o1) ?_;simp only[go_sem]);cases hob:q.2.2.fresh.ix G (.arr M v)
  ·rw[if_neg (by simp)];have hF:=FN w0 o2 121 pos;have hfe:((q.2.2.fresh.one G (.arr M v)).fail 121 pos).e≠0:=by
    unfold az.fail;split
    ·show(121:Int)≠0;decide
    ·assumption
   apply bl;simp only[go_sem];refine wY ?_;simp only[go_sem,x3];(refine W.call (hF) rfl rfl (by first|rfl|simp) ?_);rintro d τ5 ⟨rfl,p2,p3⟩;have t4:=p3.cells _ _ _ (by omega) x4;have t5:=p3.cells _ _ _ (by omega) x5;obtain⟨s5,s4,s3,f1,f2⟩:=oz p2 (Q.trans p3) rfl hn R t4 t5;apply bl;simp only[go_sem,t4,s5];exact W.ret ⟨_,_,(by simp only[aX,pV,s3,s4,go_sem];rfl),aR,.none,.none,rfl,fun e=>absurd e hfe,⟨_,_,_,f1 _ _⟩,f2 _ _⟩
  ·rw[if_pos rfl];obtain⟨s5,s4,s3,f1,f2⟩:=oz o2 Q rfl hn R x4 x5;have s10:=fun A=>(bA (l:=τ4) (a:=A) (by omega:σ.length+1≠t.length)).trans x10;generalize bP F [J]=z at*
   apply bl;simp only[go_sem];refine wN ?_;simp only[go_sem];apply W.aD (aF _ _)
   case hc=>
    (apply ab.aj;simp only[go_sem,x6,x8]);(apply ab.ph (hAp _);(case hg=>rfl);(case hf=>rfl);(case ha=>rfl);(case hw=>((exact aR))));(apply ab.aj;simp only[go_sem,x4,x10,s10,s5]);exact ab.nil
   apply bl;simp only[go_sem];exact W.ret ⟨_,_,(by simp only[aX,pV,s3,s4,go_sem];rfl),aR,z,v,rfl,fun _=>⟨rfl,rfl⟩,⟨_,_,_,f1 _ _⟩,f2 _ _⟩
 ·rw[if_pos i];have k1:(q.2.2.e !=0)=true:=by simp[i]
  obtain⟨s5,s4,s3,f1,f2⟩:=oz e4 O rfl hn R i4 i5;apply bl;simp only[go_sem,u,k1];refine W.heap X ?_;refine W.yes rfl ?_;apply bl;simp only[go_sem,i4,s5];exact W.ret ⟨_,_,(by simp only[aX,pV,s3,s4,go_sem];rfl),aR,.none,.none,rfl,fun e=>absurd e i,⟨_,_,_,f1 _ _⟩,f2 _ _⟩

end
section
variable {g:Sg} {W:Nat}
attribute [local go_sem] aa.v aa.aG aO aQ aL aH aM
theorem ab4(w0:World){n0 p:Nat}{σ:H}{f:az}{y3 y4 b:V}(h:aS n0 σ p g f y3 y4 b)(hn:n0<=σ.length)(c:f.e≠0)(t:al):
  DC prog w0 37 [.ptr p 0,t.v] σ (iU n0 p g σ (.none,.none,f)):=by
 refine wx.cl rfl (fun i j=>?_);have hp:=fun L=>hG h.here L;unfold bh at hp;have k0:(f.e !=0)=true:=by simp[c]
 apply bl;simp only[go_sem,c37,hp,k0];refine wY ?_;simp only[go_sem];exact W.ret ⟨_,_,(by simp only[aX,pV,go_sem];rfl),aR,.none,.none,rfl,fun _=>⟨rfl,rfl⟩,⟨_,_,_,h.app _⟩,(Kept.refl n0 p σ).app hn _⟩
theorem ab5(w0:World){n0 p:Nat}{σ:H}{f:az}{y3 y4 b:V}(h:aS n0 σ p g f y3 y4 b)(hn:n0<=σ.length)(c:f.e=0)(t:al)(i:t.k=2):
  DC prog w0 37 [.ptr p 0,t.v] σ (iU n0 p g σ (.mk 2 [] t.n [],.mk 0 [105,110,116] 0 [],f)):=by
 refine wx.cl rfl (fun j r=>?_);have hp:=fun L=>hG h.here L;unfold bh at hp;have k0:(f.e !=0)=false:=by simp[c]
 have u:(t.k==2)=true:=by simp[i]
 apply bl;simp only[go_sem,c37,hp,k0];refine wN ?_;simp only[go_sem,u];refine wY ?_;simp only[go_sem];exact W.ret ⟨_,_,(by simp only[aX,pV,go_sem];rfl),aR,.mk 2 [] t.n [],.mk 0 [105,110,116] 0 [],rfl,fun _=>⟨rfl,rfl⟩,⟨_,_,_,h.app _⟩,(Kept.refl n0 p σ).app hn _⟩
theorem ab6(w0:World){n0 p:Nat}{σ:H}{f:az}{y3 y4 A:V}(h:aS n0 σ p g f y3 y4 A)(hn:n0<=σ.length)(D:f.e=0)(t:al)(m:aa×aa×az)(F:t.k=0\/t.k=1)
  (hc:∀{E:H} {z3 z4 z5:V},aS n0 E p g f z3 z4 z5->n0<=E.length->DC prog w0 83 [.ptr p 0,t.v] E (iU n0 p g E m)):
  DC prog w0 37 [.ptr p 0,t.v] σ (iU n0 p g σ m):=by
 refine wx.cl rfl (fun G J=>?_);have hp:=fun L=>hG h.here L;unfold bh at hp;have i:=h.lt;have k0:(f.e !=0)=false:=by simp[D]
 have r:(t.k==2)=false:=by simp;omega
 have j:=h.app [.cells t.v.af,.cells [I 0,S [],I 0,.ae []],.cells [I 0,S [],I 0,.ae []]];have c:=(Kept.refl n0 p σ).app hn [.cells t.v.af,.cells [I 0,S [],I 0,.ae []],.cells [I 0,S [],I 0,.ae []]];have u:=hc j (bf hn c.len);simp only[al.v,aa.v,V.af]at u;rcases F with h0|h1
 case' inl=>
  have k3:(t.k==0)=true:=by simp[h0]
  clear h0;apply bl;simp only[go_sem,c37,hp,k0];refine wN ?_;simp only[go_sem,r];refine wN ?_;simp only[go_sem,k3];refine wY ?_;simp only[go_sem]
 case' inr=>
  have k3:(t.k==0)=false:=by simp[h1]
  have k4:(t.k==1)=true:=by simp[h1]
  clear h1;apply bl;simp only[go_sem,c37,hp,k0];refine wN ?_;simp only[go_sem,r];refine wN ?_;simp only[go_sem,k3];refine wN ?_;simp only[go_sem,k4]
 all_goals
  refine wY ?_;simp only[go_sem];(refine W.call (u) rfl rfl (by first|rfl|simp) ?_);rintro d w ⟨a,b,rfl,M,⟨Q,R,T,d2⟩,d3⟩;have t4:w[σ.length+1]?=some (.cells [I 0,S [],I 0,.ae []]):=d3.cells _ _ _ (by omega) (Go.Lamb.bx _ _ 1);have t5:w[σ.length+2]?=some (.cells [I 0,S [],I 0,.ae []]):=d3.cells _ _ _ (by omega) (Go.Lamb.bx _ _ 2);obtain⟨N,O,P,f1,f2⟩:=oz d2 (c.trans d3) rfl hn i t4 t5;apply bl;simp only[go_sem,t4,N];exact W.ret ⟨_,_,(by simp only[aX,pV,P,O,go_sem];rfl),aR,a,b,rfl,M,⟨_,_,_,f1 _ _⟩,f2 _ _⟩
theorem ab7(w0:World)(X:∀x∈g.types,aw x.ty<=W)(D:1<=W)(u:W<=10000)(t:al):∀{n0 p:Nat} {σ:H} {f:az} {y3 y4 Y:V},aS n0 σ p g f y3 y4 Y->n0<=σ.length->cU f->nl f.vars->bn t<=20000->f.sub.length+(W+1)*bn t<=999000->f.bound.length+bn t<=1000000->f.vars.length+bn t<=1000000->0<=ba t->
  DC prog w0 37 [.ptr p 0,t.v] σ (iU n0 p g σ (bI g t f)):=by
 refine al.ind (P:=fun t=>∀{n0 p:Nat} {σ:H} {f:az} {y3 y4 Y:V},aS n0 σ p g f y3 y4 Y->n0<=σ.length->cU f->nl f.vars->bn t<=20000->f.sub.length+(W+1)*bn t<=999000->f.bound.length+bn t<=1000000->f.vars.length+bn t<=1000000->0<=ba t->
  DC prog w0 37 [.ptr p 0,t.v] σ (iU n0 p g σ (bI g t f))) (fun t ih {n0 p σ f y3 y4 Y} h hn j w L Z M N hsz=>?_) t
 have hp1:1<=bn t:=by rw[nV];omega
 have hW1':(W+1)*1<=(W+1)*bn t:=Nat.mul_le_mul_left _ hp1;by_cases i:f.e=0
 ·rcases Of hsz with hk|⟨r,n,b,pos,rfl,hb⟩|⟨r,n,a,b,pos,rfl,ha,hb⟩
  ·by_cases h2:t.k=2
   ·rw[EF g t f i h2];exact ab5 w0 h hn i t h2
   ·rw[NJ g t f i h2 (by omega) (by omega)];exact ab6 w0 h hn i t _ (by omega) (fun F G=>abb w0 X u F G (j.live i) (by omega) (by omega) (by omega) w t)
  ·have J:bn (.mk 4 r n [b] pos)=1+bn b:=by rw[bn,cz,cz];omega
   rw[J]at L Z M N;rw[iC,eK]at Z;have hl:=f.nk;have hi:f.sub.length<f.fresh.sub.length:=by omega
   have O:=(j.fresh (by omega)).push hi r;have hbb:(f.fresh.push ⟨r,aJ f.sub.length⟩).bound.length=f.bound.length+1:=by show(f.bound++[_]).length=_;rw[bC];rfl
   have A:=pM X D u b _ O (by omega) (by show f.fresh.sub.length+_<=_;omega);have Q:∀{E:H} {z3 z4 z5:V},aS n0 E p g (f.fresh.push ⟨r,aJ f.sub.length⟩) z3 z4 z5->n0<=E.length->_:=fun F G=>ih b (by simp[al.l]) F G O w (by omega) (by show f.fresh.sub.length+_<=_;omega) (by omega) (by show f.vars.length+_<=_;omega) hb;rw[EG g r n b pos f i];exact ab2 w0 h hn i (j.live i) (by omega) (by omega) r n b pos _ A.bound Q
  ·have J:bn (.mk 3 r n [a,b] pos)=1+bn a+bn b:=by rw[bn,cz,cz,cz];omega
   rw[J]at L Z M N;rw[iC,iC,eK]at Z;have A:=pM X D u a f j (by omega) (by omega);have hrl:=A.len;have R:=pM X D u b _ A.ok (by omega) (by omega);have T:=ab1 g a f w;have hra:∀{E:H} {z3 z4 z5:V},aS n0 E p g f z3 z4 z5->n0<=E.length->_:=fun F G=>ih a (by simp[al.l]) F G j w (by omega) (by omega) (by omega) (by omega) ha;have hrb:∀{E:H} {z3 z4 z5:V},aS n0 E p g (bI g a f).2.2 z3 z4 z5->n0<=E.length->_:=fun F G=>ih b (by simp[al.l]) F G A.ok T (by omega) (by omega) (by rw[A.bound];omega) (by have:=A.vars;omega) hb
   have U:(bI g b (bI g a f).2.2).2.2.e=0->(bI g a f).2.2.e=0:=fun c=>by
    by_cases h0:(bI g a f).2.2.e=0
    ·exact h0
    ·rw[tw g b _ h0]at c;exact absurd c h0
   rw[EH g r n a b pos f i];refine ab3 w0 h hn i r n a b pos _ _ U hra hrb (fun c=>?_) ?_
   ·obtain⟨t1,t2⟩:=A.ty (U c);obtain⟨t3,t4⟩:=R.ty c;have hl:=(bI g b (bI g a f).2.2).2.2.nk;have hge:=R.ge;have hql:=R.len;exact⟨R.ok.live c,by omega,EE (by decide) (by omega) R.ok.right,t1.mono (by omega),At (t3.mono (by omega)) (ij (by omega) (by omega) (by omega)),by show aw (bI g a f).2.1<=_;omega,by show aw (.arr _ _)<=_;rw[vY,om];omega⟩
   ·have h1:=eR (bI g a f).1;have h2:=A.nodes;omega
 ·rw[tw g t f i];exact ab4 w0 h hn i t
end
def Pl(t:aa):Option aa:=match t.l with
 |f::a::r=>(jO (f.l.headD .none) a).map fun u=>bP u r
 |_=>none
mutual
def cC:aa->Option (Option aa)
 | .mk k b n l=>if dD (.mk k b n l)=true then some (Pl (.mk k b n l))else(dh l).map fun o=>o.map fun r=>.mk k [] 0 r
def dh:List aa->Option (Option (List aa))
 |[]=>none
 |x::l=>match cC x with
  |some o=>some (o.map fun y=>y::l)
  |none=>(dh l).map fun o=>o.map fun r=>x::r
end
theorem oC(t:aa):cC t=if dD t=true then some (Pl t)else(dh t.l).map fun o=>o.map fun r=>.mk t.k [] 0 r:=by cases t;rw[cC];rfl
def dX:Nat->aa->Option (aa×Nat)
 |0,t=>match cC t with
  |none=>some (t,0)
  |some _=>none
 |n+1,t=>match cC t with
  |none=>some (t,n+1)
  |some none=>none
  |some (some u)=>dX n u
theorem rG{t:aa}(h:cC t=none)(n:Nat):dX n t=some (t,n):=by cases n<;>rw[dX,h]
theorem rH{t:aa}(h:cC t=some none)(n:Nat):dX n t=none:=by cases n<;>rw[dX,h]
theorem rI{t:aa}{o:Option aa}(h:cC t=some o):dX 0 t=none:=by rw[dX,h]
theorem rJ{t u:aa}(h:cC t=some (some u))(n:Nat):dX (n+1) t=dX n u:=by rw[dX,h]
theorem Pm:∀(n:Nat) {t y:aa} {m:Nat},dX n t=some (y,m)->cC y=none
 |n,t,y,m,h=>by
  rcases b:cC t with _|_|u
  ·rw[rG b]at h;injection h with h;injection h with h _;rw[<-h];exact b
  ·rw[rH b]at h;cases h
  ·cases n with
   |zero=>rw[rI b]at h;cases h
   |succ n=>rw[rJ b]at h;exact Pm n h
theorem FV(b:aa):cC (bk b)=(cC b).map fun o=>o.map bk:=by
 rw[oC,if_neg (by simp[dD,bk,aO])];show(dh [b]).map _=_;rw[dh];rcases cC b with _|_|u
 ·rw[dh];rfl
 ·rfl
 ·rfl
theorem AQ:∀(n:Nat) (b:aa),dX n (bk b)=(dX n b).map fun p=>(bk p.1,p.2)
 |n,b=>by
  rcases c:cC b with _|_|u
  ·rw[rG c,rG (by rw[FV,c];rfl)];rfl
  ·rw[rH c,rH (by rw[FV,c];rfl)];rfl
  ·have h:cC (bk b)=some (some (bk u)):=by rw[FV,c];rfl
   cases n with
   |zero=>rw[rI c,rI h];rfl
   |succ n=>rw[rJ c,rJ h];exact AQ n u
theorem FW(l:List aa):∀(p:List aa),(∀x∈p,cC x=none)->dh (p++l)=(dh l).map fun o=>o.map fun r=>p++r
 |[],_=>by rw[dK];rcases dh l with _|_|r<;>rfl
 |x::p,h=>by
  rw[List.cons_append,dh,h x (aZ ..),FW l p (fun y b=>h y (bH _ b))];rcases dh l with _|_|r<;>rfl
theorem Pn{p l:List aa}(hp:∀x∈p,cC x=none)(x:aa)(b:dD (.mk 6 [] 0 (p++x::l))=false){o:Option aa}(h:cC x=some o):cC (.mk 6 [] 0 (p++x::l))=some (o.map fun y=>.mk 6 [] 0 (p++y::l)):=by
 rw[oC,if_neg (by rw[b];decide)];show(dh (p++x::l)).map _=_;rw[FW _ _ hp,dh,h];cases o<;>rfl
theorem FX{p l:List aa}(hp:∀x∈p,cC x=none)(c:∀y,dD (.mk 6 [] 0 (p++y::l))=false):∀(n:Nat) (x:aa),dX n (.mk 6 [] 0 (p++x::l))=(dX n x).bind fun q=>dX q.2 (.mk 6 [] 0 (p++q.1::l))
 |n,x=>by
  rcases b:cC x with _|_|u
  ·rw[rG b];rfl
  ·rw[rH b,rH (Pn hp x (c x) b)];rfl
  ·have h:=Pn hp x (c x) b;cases n with
   |zero=>rw[rI b,rI h];rfl
   |succ n=>rw[rJ b,rJ h];exact FX hp c n u
theorem wC(b a:aa)(r:List aa):cC (eG b a r)=some ((jO b a).map fun u=>bP u r):=by rw[oC,if_pos (by rfl)];rfl
theorem FY{n m:Nat}{t:aa}{o:Option aa}(h:e9 n t o m):dX n t=o.bind fun u=>dX m u:=by
 induction h with
 |tB=>exact rI (wC ..)
 |mZ h=>exact rH (by rw[wC,h];rfl) _
 |step h k b=>rw[rJ (by rw[wC,h];rfl)];exact b
 |stop h c=>rfl
 |lam k b=>
  rw[AQ,b];rename_i o;cases o with
  |none=>rfl
  |some u=>exact(AQ _ u).symm
theorem AR{l:List aa}(h:(l.headD .none).k≠5):dD (.mk 6 [] 0 l)=false:=by
 unfold dD;rw[aH,Bool.and_eq_false_iff];exact .inr (by simpa using h)
theorem ab8{n q:Nat}{t:aa}{o:Option aa}(h:dV n t o q):n<=100000->cf n t->dX n t=o.map fun u=>(u,q):=by
 refine dV.rec (motive_1:=fun n t o q _=>n<=100000->cf n t->dX n t=o.map fun u=>(u,q))
  (motive_2:=fun n l o q _=>n<=100000->(∀x∈l,cf n x)->∀p:List aa,(∀x∈p,cC x=none)->((p≠[]/\(p.headD .none).k≠5)\/(p=[]/\∀h,l.head?=some h->h.k≠5/\h.k≠6))->dX n (.mk 6 [] 0 (p++l))=o.map fun r=>(.mk 6 [] 0 (p++r),q)) ?_ ?_ ?_ ?_ ?_ ?_ h
 ·intro n m t h _ _;rw[FY h];rfl
 ·intro n m q t b o h k G hf O;obtain⟨j,i⟩:=pN h hf O;rw[FY h];show dX m (bk b)=_;rw[AQ,G (by omega) (i _ rfl).1.body];cases o<;>rfl
 ·intro n m q t u o h P k G hf O;obtain⟨j,i⟩:=pN h hf O;have Q:=(i _ rfl).1;rw[FY h];show dX m u=_;by_cases w:u.k=6
  ·obtain⟨F,A,a,b,l,hl,ha⟩:=fD Q.nr.1 w;have J:=Oa h u rfl P;have R:a.k≠5:=by
    unfold dD at J;rw[hl,oX,w]at J;simpa using J
   have:=G (by omega) (fun x D=>Q.dA P D) [] (fun x D=>by cases D) (.inr ⟨rfl,fun h' N=>by rw[hl]at N;injection N with N;rw[<-N];exact⟨R,ha⟩⟩);rw[dK]at this;have e:aa.mk 6 [] 0 u.l=u:=by
    cases u;simp only[aO,aQ,aL,aH]at w F A⊢;rw[w,F,A]
   rw[e]at this;rw[this,w,F,A];cases o<;>rfl
  ·have hl:=oa Q.nr.1 P w;rw[hl]at k;cases k with
   |nil=>
    have Y:cC u=none:=by
     rw[oC,if_neg (by unfold dD;simp[w]),hl,dh];rfl
    rw[rG Y];cases u with
    |mk a b c d=>simp only[aH]at hl;subst hl;rfl
 ·intro n _ _ p hp hc;rw[cd];rw[fc,cd];refine rG ?_ n;have J:dD (.mk 6 [] 0 p)=false:=by
   rcases hc with⟨_,h⟩|⟨h,_⟩
   ·exact AR h
   ·subst h;exact AR (by decide)
  rw[oC,if_neg (by rw[J];decide)];have:=FW [] p hp;rw[cd,dh]at this;show(dh p).map _=_;rw[this];rfl
 ·intro n m x l h G hf L p hp hc;rcases hc with⟨j,i⟩|⟨j,i⟩
  ·rw[FX hp (fun y=>AR (by cases p with|nil=>exact absurd rfl j|cons z p=>exact i)),G hf (L x (aZ ..))];rfl
  ·obtain⟨g1,T⟩:=i x rfl;have:=(EZ (L x (aZ ..)).nr.1 h g1 T).1;cases this
 ·intro n m q x y l o h k U X hf L p hp hc;have D:=L x (aZ ..);have Z:=(rq h hf D).1;have F:=U hf D;have hy:cC y=none:=Pm n F;have g:=X (by omega) (fun z E=>(L z (bH _ E)).down Z) (p++[y]) (fun z E=>by
   rcases List.mem_append.1 E with E|E
   ·exact hp z E
   ·rw[List.mem_singleton.1 E];exact hy)
  rw[List.append_assoc]at g;have M:dX m (.mk 6 [] 0 (p++([y]++l)))=o.map (fun r=>(aa.mk 6 [] 0 (p++[y]++r),q))->dX m (.mk 6 [] 0 (p++y::l))=(o.map fun l=>y::l).map fun r=>(aa.mk 6 [] 0 (p++r),q):=fun h=>by
   have e:p++y::l=p++([y]++l):=rfl;rw[e,h];cases o with
   |none=>rfl
   |some r=>simp
  rcases hc with⟨j,i⟩|⟨j,i⟩
  ·rw[FX hp (fun z=>AR (by cases p with|nil=>exact absurd rfl j|cons z p=>exact i)),F];exact M (g (.inl ⟨by simp,by cases p with|nil=>exact absurd rfl j|cons z p=>exact i⟩))
  ·obtain⟨g1,T⟩:=i x rfl;obtain⟨A,e3⟩:=EZ D.nr.1 h g1 T;injection A with A;subst A e3 j;exact M (g (.inl ⟨by simp,g1⟩))
theorem ab9{m:Int}(Q:0<=m)(hm:m<=4611686018427000000)(t:aa):∀u,Nr m t->cC t=some (some u)->Nr (m+4096) u/\ao u<=ao t+4096:=by
 refine aa.ind (P:=fun t=>∀u,Nr m t->cC t=some (some u)->Nr (m+4096) u/\ao u<=ao t+4096) (fun t ih u hn h=>?_) t;have p:=(Nr.jN _ _ hn).2;cases D:dD t
 ·rw[oC,if_neg (by rw[D];decide)]at h;obtain⟨r,hl,R⟩:∃r,dh t.l=some (some r)/\u= .mk t.k [] 0 r:=by
   rcases e:dh t.l with _|_|r
   ·rw[e]at h;cases h
   ·rw[e]at h;cases h
   ·rw[e]at h;injection h with h;injection h with h;exact⟨r,rfl,h.symm⟩
  have key:∀(l:List aa) (r:List aa),(∀x∈l,x∈t.l)->dh l=some (some r)->r.length=l.length/\(∀y∈r,Nr (m+4096) y)/\bj r<=bj l+4096:=by
   intro l;induction l with
   |nil=>intro r _ h;rw[dh]at h;cases h
   |cons x l T=>
    intro r e h;have U:=e x (aZ ..);have g:∀y∈l,Nr (m+4096) y:=fun y hy=>(p y (e y (bH _ hy))).more (by omega);rw[dh]at h;rcases i:cC x with _|_|y
    ·rw[i]at h;rcases j:dh l with _|_|X
     ·rw[j]at h;cases h
     ·rw[j]at h;cases h
     ·rw[j]at h;injection h with h;injection h with h;obtain⟨a,b,c⟩:=T X (fun y hy=>e y (bH _ hy)) j;subst h;refine⟨by rw[bG,bG,a],fun y hy=>?_,by rw[bj,bj];omega⟩;rcases cD.1 hy with hy|hy
      ·rw[hy];exact(p x U).more (by omega)
      ·exact b y hy
    ·rw[i]at h;cases h
    ·rw[i]at h;injection h with h;injection h with h;obtain⟨a,b⟩:=ih x U y (p x U) i;subst h;refine⟨rfl,fun z E=>?_,by rw[bj,bj];omega⟩;rcases cD.1 E with E|E
     ·rw[E];exact a
     ·exact g z E
  obtain⟨N,A,k3⟩:=key t.l r (fun _ h=>h) hl;subst R;have F:ao (aa.mk t.k [] 0 r)<=ao t+4096:=by rw[iu,ef t];omega
  refine⟨⟨?_,ir (.inr (by rw[aL];omega)) (fun y hy=>(A y hy).2)⟩,F⟩;by_cases Y:t.k=5
  ·obtain⟨_,_,b,hb⟩:=nZ hn.1 Y;rw[hb]at N
   match r,N,A with
   |[y],_,A=>rw[Y];exact qT (A y (aZ ..)).1
  ·by_cases O:t.k=6
   ·obtain⟨_,_,a,b,l,g,ha⟩:=fD hn.1 O;have Z:a.k≠5:=by
     unfold dD at D;rw[g,oX,O]at D;simpa using D
    have hsa:cC a=none:=by
     rw[oC,if_neg (by unfold dD;simp[ha]),oa (p a (by rw[g];simp)).1 Z ha,dh];rfl
    rw[g,dh,hsa]at hl;rcases e:dh (b::l)with _|_|X
    ·rw[e]at hl;cases hl
    ·rw[e]at hl;cases hl
    ·rw[e]at hl;injection hl with hl;injection hl with hl;rw[g]at N;subst hl
     match X,N,A with
     |y::r'',_,A=>rw[O];exact vz ha (fun v hv=>(A v hv).1)
   ·rw[oa hn.1 Y O,dh]at hl;cases hl
 ·obtain⟨b,a,r,rfl⟩:=Aw hn.1 D;rw[wC]at h;injection h with h;cases hc:jO b a with
  |none=>rw[hc]at h;cases h
  |some v=>
   rw[hc]at h;injection h with h;have hlm:Nr m (bk b):=p _ (aZ ..);have G:=(Nr.jN _ _ hlm).2 b (by unfold bk;simp[aH]);have J:=p a (bH _ (aZ ..));have L:=fun u R=>p u (bH _ (bH _ R));unfold jO at hc;split at hc
   ·cases hc
   ·rename_i e;injection hc with hc;rw[wa b G.1,wa a J.1]at e;have hv4:ao v<=4096:=by
     rw[<-hc];exact bf (N8 a b) (by omega)
    have M:Nr (m+4096) v:=by
     rw[<-hc];exact N9 Q hm J G (by omega)
    have F:=Ax v r;have hbt:ao (eG b a r)=1+(ao (bk b)+(ao a+bj r)):=by unfold eG;rw[iu,bj,bj]
    subst h;exact⟨⟨sW M.1 (fun w hw=>(L w hw).1),qV (by omega) M.2 (fun w hw=>((L w hw).more (by omega)).2)⟩,by show ao (bP v r)<=_;omega⟩
end Go.Proofs.YtdlkenpilhakfaaGreatDoor
namespace Go.Proofs.YtdlkenpilhakfaaGreatDoor
open Go.RowKit Go.Lamb
section
attribute [local go_sem] aa.v aa.aG aO aQ aL aH aM
theorem FZ:∀(l:List aa) (i:Nat) (b:i<l.length) (o:Option aa),(∀j (c:j<l.length),j<i->cC l[j]=none)->cC l[i]=some o->dh l=some (o.map fun y=>l.set i y)
 |[],i,b,_,_,_=>absurd b (fe _)
 |x::l,0,_,o,_,h=>by
  rw[di]at h;rw[dh,h];cases o<;>rfl
 |x::l,i+1,b,o,e,h=>by
  have h0:=e 0 (by simp) (by omega);rw[di]at h0;rw[ml]at h;rw[dh,h0,FZ l i (by simpa using b) o (fun j c g=>by have:=e (j+1) (by simpa using c) (by omega);rwa [ml]at this) h];cases o<;>rfl
theorem Po:∀(l:List aa),(∀j (b:j<l.length),cC l[j]=none)->dh l=none
 |[],_=>by rw[dh]
 |x::l,h=>by
  have h0:=h 0 (by simp);rw[di]at h0;rw[dh,h0,Po l (fun j b=>by have:=h (j+1) (by simpa using b);rwa [ml]at this)];rfl
theorem aca(w0:World)(t u:aa)(i:Nat)(F:i<t.l.length)(L:t.k≠6\/i≠0)(hn:t.l.length<=1000000000)(σ:H):DC prog w0 197 [t.v,I (i:Int),u.v] σ (Same (aa.mk t.k [] 0 (t.l.set i u)).v σ):=by
 refine abD.go rfl (fun G N=>?_);have c:=vH F u;have j:i*4+4<=t.l.length*4:=by omega
 have p:=gC t.l;have h0:(0:Int)<=(i:Int):=by omega
 have M:(i:Int)<(t.l.length:Int):=by omega
 have w:(t.l.map aa.cs).flatten=aK t.l:=rfl;have A:(t.l.map aa.cs).length=t.l.length:=bY _;have D:=Aj (t.l.set i u);rw[bz]at D;have E:=gC (t.l.set i u);rw[bz]at E;(refine W.cp 15 _ _ ?_;simp only[Pe,go_sem]);refine W.nN (olds:=[]) (news:=t.l.map aa.cs) rfl rfl rfl rfl ⟨by simp;intro h;rw[h]at F;simp at F,(fun r O=>by cases O),fX t.l,by simp;omega,by simp;omega⟩ ?_;have g:(t.k==6)=false\/((t.k==6)=true/\((i:Int)==0)=false):=by
  by_cases J:t.k=6
  ·have P:i≠0:=L.resolve_left (fun h=>h J);exact .inr ⟨by simp[J],by simp;omega⟩
  ·exact .inl (by simp[J])
 clear L;generalize aK (t.l.set i u)=Q at*
 generalize aK t.l=T at*
 rcases g with k6|⟨k6,R⟩
 all_goals
  first|(apply bl;simp only[go_sem,dK,w,A,h0,M,j,p,c,k6,R])|(apply bl;simp only[go_sem,dK,w,A,h0,M,j,p,c,k6])
  refine W.no rfl ?_;refine W.jj (b:=σ.length+3) (e:=41) (size:=4) (k:=t.l.length) (cs:=Q) 7 rfl (bx _ _ 3) (Nat.le_of_eq E.symm) ?_;rw[D];apply bl;simp only[go_sem];exact wF G
def jw(t:aa):Option (Option aa)->V
 |none=>.au [t.v,I 0]
 |some none=>.au [aa.none.v,I 2]
 |some (some u)=>.au [u.v,I 1]
theorem acb(w0:World){m:Int}(hm:m<=2305843009213693952)(t:aa):Nr m t->ao t<=10000000->∀(σ:H),DC prog w0 140 [t.v,B false] σ (Same (jw t (cC t)) σ):=by
 refine aa.ind (P:=fun t=>Nr m t->ao t<=10000000->∀(σ:H),DC prog w0 140 [t.v,B false] σ (Same (jw t (cC t)) σ)) (fun t ih hn D σ=>?_) t;refine abF.go rfl (fun g hsz=>?_);have M:t.k=6->t.l≠[]:=fun E=>by
  obtain⟨_,_,a,b,l,hl,_⟩:=fD hn.1 E;rw[hl];simp
 have N:=fun σ=>abX w0 t M σ;have O:=(Nr.jN _ _ hn).2;cases F:dD t
 ·rw[F]at N;have U:t.k=6->∀(h:0<t.l.length),cC t.l[0]=none:=fun E h=>by
   obtain⟨_,_,a,b,l,hl,ha⟩:=fD hn.1 E;have X:a.k≠5:=by
    unfold dD at F;rw[hl,oX,E]at F;simpa using F
   have e:t.l[0]=a:=by simp[hl]
   rw[e,oC,if_neg (by unfold dD;simp[ha]),oa (O a (by rw[hl];simp)).1 X ha,dh];rfl
  have w:bj t.l<=10000000:=by rw[ef]at D;omega
  have hlen:t.l.length<=10000000:=bf (eR t) D;have hK:∀i (G:i<t.l.length) σ,DC prog w0 140 [t.l[i].v,B false] σ (Same (jw t.l[i] (cC t.l[i])) σ):=fun i G σ=>ih _ (bg G) (O _ (bg G)) (bf (sV (bg G)) w) σ;have Q:cC t=(dh t.l).map fun o=>o.map fun r=>.mk t.k [] 0 r:=by rw[oC,if_neg (by rw[F];decide)]
  rw[Q];clear Q ih hn O M w D;apply bl;simp only[go_sem,AP];(refine db (N _) ?_;simp only[go_sem]);refine wN ?_;simp only[go_sem];refine wN ?_;simp only[go_sem];refine W.aY (fun i=>i<=t.l.length/\∀j (R:j<t.l.length),j<i->cC t.l[j]=none) (fun i=>⟨(((((base.put (some 1) (B false)).put (some 2) (.ptr σ.length 0)).put (some 4) (.ptr (σ.length+1) 0)).put (some 5) (I 0)).put (some 8) (I (i:Int))),σ++[.cells t.v.af,.cells [I 0,S [],I 0,.ae []]]⟩) (fun i=>t.l.length-i) 0 ⟨be _,fun j _ h=>absurd h (fe _)⟩ ?_ (fun i G=>?_)
  ·exact wV
  obtain⟨G,J⟩:=G;by_cases c:i<t.l.length
  ·have A:(i:Int)<(t.l.length:Int):=by omega
   have Y:t.l[i]?=some t.l[i]:=aN c;have hw:=cF c (by omega:t.l.length<=9223372036854775807);have L:=fun σ=>hK i c σ;rcases p:cC t.l[i]with _|_|u
   ·rw[p]at L;have Z:∀j (R:j<t.l.length),j<i+1->cC t.l[j]=none:=fun j R h=>by
     by_cases hji:j=i
     ·subst hji;exact p
     ·exact J j R (by omega)
    clear p;generalize t.l[i]=x at*
    apply bl;simp only[go_sem,A];refine wY ?_;simp only[go_sem,A,bu,Y];(refine db (L _) ?_;simp only[go_sem,jw]);refine wN ?_;simp only[go_sem];refine wN ?_;simp only[go_sem,hw];refine .inv ⟨i+1,⟨c,Z⟩,by omega,?_⟩;exact wQ g
   ·rw[p]at L;have e:=FZ t.l i c _ J p;rw[e];clear p J e;generalize t.l[i]=x at*
    apply bl;simp only[go_sem,A];refine wY ?_;simp only[go_sem,A,bu,Y];(refine db (L _) ?_;simp only[go_sem,jw,aa.none]);refine wY ?_;simp only[go_sem,jw,aa.none,mf,fc];exact wF g
   ·rw[p]at L;have e:=FZ t.l i c _ J p;have hP:=fun σ=>aca w0 t u i c (by
     by_cases E:t.k=6
     ·refine .inr fun h=>?_;subst h;rw[U E c]at p;cases p
     ·exact .inl E) (by omega) σ
    rw[e,fc,fc,fc];clear p J e;generalize aa.mk t.k [] 0 (t.l.set i u)=q at*;generalize t.l[i]=x at*
    apply bl;simp only[go_sem,A];refine wY ?_;simp only[go_sem,A,bu,Y];(refine db (L _) ?_;simp only[go_sem,jw]);refine wN ?_;simp only[go_sem];refine wY ?_;simp only[go_sem];(refine db (hP _) ?_;simp only[go_sem,jw]);exact wF g
  ·have A:¬((i:Int)<(t.l.length:Int)):=by omega
   rw[Po t.l (fun j R=>J j R (by omega)),mf];apply bl;simp only[go_sem,A];refine wN ?_;simp only[go_sem,jw];exact wF g
 ·obtain⟨b,a,r,rfl⟩:=Aw hn.1 F;rw[F]at N;have hbt:ao (eG b a r)=1+(ao (bk b)+(ao a+bj r)):=by unfold eG;rw[iu,bj,bj]
  have hln:=kF b;have hrl:=sY r;have hlm:Nr m (bk b):=O _ (aZ ..);have T:=(Nr.jN _ _ hlm).2 b (by unfold bk;simp[aH]);have har:=O a (bH _ (aZ ..));have hC:=fun σ=>abZ w0 b a r (by omega) (by omega) (by omega) T.1 (lh hm _ T.2) (lh hm _ har.2) σ;rw[wC];generalize (jO b a).map (fun u=>bP u r)=z at*
  cases z with
  |none=>
   apply bl;simp only[go_sem,AP];(refine db (N _) ?_;simp only[go_sem]);refine wY ?_;simp only[go_sem];(refine db (hC _) ?_;simp only[go_sem,wB,aa.none]);refine wY ?_;simp only[go_sem,jw,aa.none];exact wF g
  |some u=>
   apply bl;simp only[go_sem,AP];(refine db (N _) ?_;simp only[go_sem]);refine wY ?_;simp only[go_sem];(refine db (hC _) ?_;simp only[go_sem,wB]);refine wN ?_;simp only[go_sem,jw];exact wF g
def l8:Option (aa×Nat)->V
 |none=>.au [aa.none.v,I 0,I 80]
 |some (u,n)=>.au [u.v,I (n:Int),I 0]
theorem acd(w0:World)(n:Nat)(hn:n<=100000)(t:aa)(j:Nr (2199023255552-8192*(n:Int)) t)(p:ao t+4097*n<=10000000)(σ:H):DC prog w0 91 [t.v,I (n:Int),B false] σ (Same (l8 (dX n t)) σ):=by
 refine k91.go rfl (fun c A=>?_);apply bl;simp only[go_sem,c91];refine W.aY (α:=Nat×aa) (fun x=>x.1<=100000/\Nr (2199023255552-8192*(x.1:Int)) x.2/\ao x.2+4097*x.1<=10000000/\dX x.1 x.2=dX n t) (fun x=>⟨((((((base.put (some 1) (I (x.1:Int))).put (some 2) (B false)).put (some 3) (.ptr σ.length 0)).put (some 6) (.ptr (σ.length+1) 0)).put (some 7) (I 0)).put (some 8) (I 0)),σ++[.cells x.2.v.af,.cells [I 0,S [],I 0,.ae []]]⟩) (fun x=>x.1) (n,t) ⟨hn,j,p,rfl⟩ ?_ (fun x D=>?_)
 ·exact wV
 obtain⟨k,x⟩:=x;obtain⟨E,h,r,g⟩:=D;dsimp only at E h r g⊢;have i:=fun σ=>acb w0 (m:=2199023255552-8192*(k:Int)) (by omega) x h (by omega) σ;rcases b:cC x with _|_|u
 ·rw[b]at i;rw[<-g,rG b];clear b g r h j p;apply bl;simp only[go_sem];(refine db (i _) ?_;simp only[go_sem,jw]);refine wY ?_;simp only[go_sem,l8];exact wF c
 ·rw[b]at i;rw[<-g,rH b];clear b g r h j p;apply bl;simp only[go_sem];(refine db (i _) ?_;simp only[go_sem,jw,aa.none]);refine wN ?_;simp only[go_sem];refine wY ?_;simp only[go_sem,l8,aa.none];exact wF c
 ·rw[b]at i;cases k with
  |zero=>
   rw[<-g,rI b];clear b g r h j p;apply bl;simp only[go_sem];(refine db (i _) ?_;simp only[go_sem,jw]);refine wN ?_;simp only[go_sem];refine wY ?_;simp only[go_sem,l8,aa.none];exact wF c
  |succ k=>
   obtain⟨w,G⟩:=ab9 (by omega) (by omega) x u h b;have e:=rJ b k;have z:¬(((k+1:Nat):Int)<=0):=by omega
   have hw:aE.wrap (((k+1:Nat):Int)-1)=((k:Nat):Int):=by rw[a7]<;>omega
   have F:Nr (2199023255552-8192*(k:Int)) u:=w.more (by omega);rw[e]at g;clear b h j p w e;apply bl;simp only[go_sem];(refine db (i _) ?_;simp only[go_sem,jw]);refine wN ?_;simp only[go_sem,z];refine wN ?_;simp only[go_sem,hw];refine .inv ⟨(k,u),⟨by dsimp only;omega,F,by dsimp only;omega,g⟩,by dsimp only;omega,?_⟩;exact wQ c
theorem ace(w0:World)(t:aa)(hn:ao t<=1000000000000)(σ:H):DC prog w0 141 [t.v,I 0] σ (Same (B (!(bV 0 t==0))) σ):=by
 refine abJ.go rfl (fun b g=>?_);have c:=fun σ=>Ph w0 t hn 0 (by omega) σ;have e:(((0:Nat):Int))=0:=rfl;rw[e]at c;generalize bV 0 t=q at*
 by_cases h:q=0
 ·subst h;have z:¬((((0:Nat):Int))>0):=by omega
  apply bl;simp only[go_sem,c141];(refine db (c _) ?_;simp only[go_sem,z]);exact wF b
 ·have z:((q:Int)>0):=by omega
  have i:(q==0)=false:=by simp[h]
  rw[i];apply bl;simp only[go_sem,c141];(refine db (c _) ?_;simp only[go_sem,z]);exact wF b
theorem acf{u:aa}(e:aP u=true)(g:u.k=6):∃a b l,u.l=a::b::l/\((l=[]/\fa u=a)\/(l≠[]/\fa u= .mk 6 [] 0 (u.l.take (u.l.length-1)))):=by
 obtain⟨_,_,a,b,l,hl,ha⟩:=fD e g;refine⟨a,b,l,hl,?_⟩;unfold fa;cases l with
 |nil=>exact .inl ⟨rfl,by rw[hl];rfl⟩
 |cons c l=>
  refine .inr ⟨by simp,?_⟩;rw[hl];simp only[oX,bG,Nat.add_sub_cancel,List.take_succ_cons,List.drop_succ_cons,List.drop_zero];rw[qU,if_neg (fun h=>ha h.1)];rfl
theorem acg(w0:World)(t:aa):aP t=true->bD 2305843009213693952 t=true->ao t<=1000000000->∀(σ:H),DC prog w0 92 [t.v] σ (Same (bw t).v σ):=by
 refine aa.ind (P:=fun t=>aP t=true->bD 2305843009213693952 t=true->ao t<=1000000000->∀(σ:H),DC prog w0 92 [t.v] σ (Same (bw t).v σ)) (fun t ih hv X hn σ=>?_) t;refine k92.go rfl (fun j hsz=>?_);obtain⟨o,G⟩:∃o,o=t.l.map bw:=⟨_,rfl⟩;have hol:o.length=t.l.length:=by rw[G,bY]
 have hlen:=eR t;have J:∀i (hi:i<t.l.length) (hi':i<o.length) σ,DC prog w0 92 [t.l[i].v] σ (Same o[i].v σ):=fun i hi hi' σ=>by
  have hm:=bg hi;have:=fz hm;have e:o[i]=bw t.l[i]:=by simp[G]
  rw[e];exact ih _ hm (fA hv _ hm) (fW X _ hm) (by omega) σ
 rw[Fq,<-G];clear ih;apply bl;simp only[go_sem,Pf];refine W.own 3 41 4 rfl ?_;apply bl;simp only[go_sem];refine W.aY (fun i=>i<=t.l.length) (fun i=>⟨((((base.put (some 1) (.ptr σ.length 0)).put (some 2) (.ptr (σ.length+1) 0)).put (some 3) (.aC (σ.length+2) ((o.take i).map aa.cs))).put (some 4) (I (i:Int))),σ++[.cells t.v.af,.cells [I 0,S [],I 0,.ae []],.spare 41 4 i]⟩) (fun i=>t.l.length-i) 0 (be _) ?_ (fun i hi=>?_)
 ·exact wV
 by_cases D:i<t.l.length
 ·have T:i<o.length:=by omega
  have L:(i:Int)<(t.l.length:Int):=by omega
  have h0:(0:Int)<=(i:Int):=by omega
  have hx:t.l[i]?=some t.l[i]:=aN D;have hw:aE.wrap ((i:Int)+1)=((i+1:Nat):Int):=by rw[a7]<;>omega
  have hb1:(i+1)*56<=140737488355328:=by omega
  have hb2:i<=140737488355327:=by omega
  have hti:(o.take i).length=i:=by rw[dE];omega
  have hts:(o.take (i+1)).map aa.cs=(o.take i).map aa.cs++[[.int .i64 o[i].k,.str o[i].name,.int .i64 o[i].n,.sl (o[i].l.map aa.cs)]]:=by
   rw[eW T,dF,ck,cP,aa.aG]
  have hki:=fun σ=>J i D T σ;clear G;generalize o[i]=y at*;generalize t.l[i]=x at*
  apply bl;simp only[go_sem,L];refine wY ?_;simp only[go_sem,L,h0,hx];(refine db (hki _) ?_;simp only[go_sem,hb1,hb2,hti,hw]);refine .inv ⟨i+1,D,by omega,?_⟩;simp only[go_sem,hts];exact wQ j
 obtain rfl:i=t.l.length:=by omega
 have L:¬((t.l.length:Nat):Int)<((t.l.length:Nat):Int):=by omega
 have hta:o.take t.l.length=o:=by rw[<-hol,jA]
 rw[hta];clear J hi D hta;by_cases h6:t.k=6
 ·have k6:(t.k==6)=true:=by simp[h6]
  rw[if_neg (by omega),if_pos h6];obtain⟨_,_,a,b,l,hl,_⟩:=fD hv h6;rw[hl,ck]at G;have hsa:=tF (M:=2305843009213693952) (by omega) a (fA hv a (by rw[hl];simp)) (fW X a (by rw[hl];simp));have hka:=eR (bw a);have hna:=fz (t:=t) (u:=a) (by rw[hl];simp);obtain⟨r,hr⟩:∃r,r=(b::l).map bw:=⟨_,rfl⟩;rw[<-hr]at G;have hrl:r.length+1=t.l.length:=by rw[hr,hl];simp
  have hA:=fun σ=>AO w0 (bw a) r (by omega) σ;have hE:AF o=bP (bw a) r:=by rw[G];rfl
  rw[hE,G];clear hE G hr hol hsa;generalize hZ:bP (bw a) r=z at*;generalize bw a=s at*
  have z0:(0:Int)<((r.length+1:Nat):Int):=by omega
  have z1:(1:Int)<=((r.length+1:Nat):Int):=by omega
  have A:=eq_true (fX r);have O:dj r.length (r.map aa.cs)=r.map aa.cs:=List.take_of_length_le (by rw[bY];omega);apply bl;simp only[go_sem,L];refine wN ?_;simp only[go_sem,k6];refine wY ?_;simp only[go_sem];apply W.aD (aF _ _)
  case hc=>
   (apply ab.aj;simp only[go_sem,z0,z1,A,O]);(apply ab.ph (hA _);(case hg=>rfl);(case hf=>rfl);(case ha=>rfl);(case hw=>((exact aR))));(apply ab.aj;simp only[go_sem]);exact ab.nil
  apply bl;simp only[go_sem];exact wF j
 have k6:(t.k==6)=false:=by simp[h6]
 by_cases h5:t.k=5
 ·have k5:(t.k==5)=true:=by simp[h5]
  rw[if_pos h5];obtain⟨_,_,b,hb⟩:=nZ hv h5;have Q:b∈t.l:=by rw[hb];simp
  obtain⟨q1,q2,q3⟩:=tF (M:=2305843009213693952) (by omega) b (fA hv b Q) (fW X b Q);have hbn:=fz Q;rw[hb,ck,cP]at G;subst G;have hbl:t.l.length=1:=by rw[hb];rfl
  show W _ _ _ (Fin _ _ (Same ((fb (bw b)).getD (bk (bw b))).v σ)) _ _;have hu9:ao (bw b)<=1000000000:=by omega
  generalize bw b=u at*;clear Q hbn hb hbl;by_cases u6:u.k=6
  ·have Y:(u.k==6)=true:=by simp[u6]
   obtain⟨x,y,l,Z,p⟩:=acf q1 u6;have hun:=eR u;obtain⟨n,c⟩:∃n,u.l.length=n+1:=⟨l.length+1,by rw[Z];rfl⟩;have D:n<u.l.length:=by omega
   have hw:aE.wrap (((n+1:Nat):Int)-1)=(n:Int):=by rw[a7]<;>omega
   have z0:(0:Int)<((n+1:Nat):Int):=by omega
   have U:(0:Int)<=(n:Int):=by omega
   have E:(n:Int)<((n+1:Nat):Int):=by omega
   have R:u.l[0]?=some x:=by rw[Z];rfl
   have g:u.l[n]?=some (dQ u):=by
    unfold dQ;rw[c,List.getD_eq_getElem?_getD,Nat.add_sub_cancel,aN D];rfl
   by_cases hc:(dQ u).k=3/\(dQ u).n=0
   ·have c3:((dQ u).k==3)=true:=by simp[hc.1]
    have c0:((dQ u).n==0)=true:=by simp[hc.2]
    obtain⟨r1,r2,r3,_⟩:=Ft (M:=2305843009213693952) (by decide) u6 q1 q2;have N:=fun σ=>ace w0 (fa u) (by omega) σ;have hD:fb u=if bV 0 (fa u)=0 then some (iR 0 (-1) (fa u))else none:=by unfold fb;rw[if_pos ⟨u6,hc.1,hc.2⟩]
    have F:=fun σ=>Pc w0 (fa u) 0 (-1) (by decide) (by decide) (by decide) (by decide) r2 (by omega) σ;have hnl:u.l.length-1=n:=by omega
    rw[hnl]at p;rw[hD];have hlg:l.length+1=n:=by rw[Z]at c;simpa using c
    have O:dj n (u.l.map aa.cs)=(u.l.take n).map aa.cs:=by rw[List.map_take]
    have zle:(n:Int)<=((n+1:Nat):Int):=by omega
    have A:=eq_true (fX u.l);clear hD hc;generalize dQ u=w at*
    by_cases hz:bV 0 (fa u)=0
    ·rw[if_pos hz,Option.getD_some];rw[hz]at N;clear hz;rcases p with⟨rfl,e⟩|⟨hl0,e⟩
     ·rw[e]at N F⊢;have zg:¬(n:Int)>1:=by simp at hlg;omega
      clear e r1 r2 r3;generalize iR 0 (-1) x=z at*
      apply bl;simp only[go_sem,L];refine wN ?_;simp only[go_sem,k6];refine wN ?_;simp only[go_sem,bne,k5];refine wN ?_;simp only[go_sem,bne,Y];refine wN ?_;simp only[go_sem,c,hw,z0,U,E,g,bne,c3,c0];refine wN ?_;simp only[go_sem,c,z0,R,zg];refine wN ?_;simp only[go_sem];(refine db (N _) ?_;simp only[go_sem]);refine wN ?_;simp only[go_sem];(refine db (F _) ?_;simp only[go_sem]);exact wF j
     ·rw[e]at N F⊢;have zg:(n:Int)>1:=by
       have:0<l.length:=iX.2 hl0;omega
      clear e r1 r2 r3;generalize hq:iR 0 (-1) (.mk 6 [] 0 (u.l.take n))=z at*
      apply bl;simp only[go_sem,L];refine wN ?_;simp only[go_sem,k6];refine wN ?_;simp only[go_sem,bne,k5];refine wN ?_;simp only[go_sem,bne,Y];refine wN ?_;simp only[go_sem,c,hw,z0,U,E,g,bne,c3,c0];refine wN ?_;simp only[go_sem,c,z0,R,zg];refine wY ?_;simp only[go_sem,c,U,zle,A,O];(refine W.fV (N _) ?_;simp only[go_sem]);refine wN ?_;simp only[go_sem];(refine W.fV (F _) ?_;simp only[go_sem]);exact wF j
    ·rw[if_neg hz,qa];have hz':(bV 0 (fa u)==0)=false:=by simp[hz]
     rw[hz']at N;clear hz hz';rcases p with⟨rfl,e⟩|⟨hl0,e⟩
     ·rw[e]at N;have zg:¬(n:Int)>1:=by simp at hlg;omega
      clear e r1 r2 r3 F;simp only[bk];apply bl;simp only[go_sem,L];refine wN ?_;simp only[go_sem,k6];refine wN ?_;simp only[go_sem,bne,k5];refine wN ?_;simp only[go_sem,bne,Y];refine wN ?_;simp only[go_sem,c,hw,z0,U,E,g,bne,c3,c0];refine wN ?_;simp only[go_sem,c,z0,R,zg];refine wN ?_;simp only[go_sem];(refine db (N _) ?_;simp only[go_sem]);refine wY ?_;simp only[go_sem];exact wF j
     ·rw[e]at N;have zg:(n:Int)>1:=by
       have:0<l.length:=iX.2 hl0;omega
      clear e r1 r2 r3 F;simp only[bk];apply bl;simp only[go_sem,L];refine wN ?_;simp only[go_sem,k6];refine wN ?_;simp only[go_sem,bne,k5];refine wN ?_;simp only[go_sem,bne,Y];refine wN ?_;simp only[go_sem,c,hw,z0,U,E,g,bne,c3,c0];refine wN ?_;simp only[go_sem,c,z0,R,zg];refine wY ?_;simp only[go_sem,c,U,zle,A,O];(refine W.fV (N _) ?_;simp only[go_sem]);refine wY ?_;simp only[go_sem];exact wF j
   ·have hD:fb u=none:=by unfold fb;rw[if_neg (fun h=>hc ⟨h.2.1,h.2.2⟩)]
    rw[hD,qa];have hcc:((dQ u).k==3)=false\/(((dQ u).k==3)=true/\((dQ u).n==0)=false):=by
     by_cases g3:(dQ u).k=3
     ·exact .inr ⟨by simp[g3],by have:(dQ u).n≠0:=fun h=>hc ⟨g3,h⟩;simpa using this⟩
     ·exact .inl (by simp[g3])
    clear hD hc;generalize dQ u=w at*;simp only[bk];rcases hcc with c3|⟨c3,c0⟩
    all_goals
     apply bl;simp only[go_sem,L];refine wN ?_;simp only[go_sem,k6];refine wN ?_;simp only[go_sem,bne,k5];refine wN ?_;simp only[go_sem,bne,Y];refine W.no rfl ?_
     first|(apply bl;simp only[go_sem,c,hw,z0,U,E,g,bne,c3,c0])|(apply bl;simp only[go_sem,c,hw,z0,U,E,g,bne,c3])
     refine wY ?_;simp only[go_sem];exact wF j
  ·have Y:(u.k==6)=false:=by simp[u6]
   have hD:fb u=none:=by unfold fb;rw[if_neg (fun h=>u6 h.1)]
   rw[hD,qa];simp only[bk];apply bl;simp only[go_sem,L];refine wN ?_;simp only[go_sem,k6];refine wN ?_;simp only[go_sem,bne,k5];refine wN ?_;simp only[go_sem,bne,Y];refine wY ?_;simp only[go_sem];exact wF j
 ·have k5:(t.k==5)=false:=by simp[h5]
  rw[if_neg h5,if_neg h6];apply bl;simp only[go_sem,L];refine wN ?_;simp only[go_sem,k6];refine wN ?_;simp only[go_sem,bne,k5];refine wY ?_;simp only[go_sem];exact wF j
theorem ach(w0:World)(n:Nat)(hn:n<=100000)(t:aa)(c:cf n t)(e:ao t+4097*n<=10000000){o:Option aa}{q:Nat}(h:dV n t o q)(σ:H):DC prog w0 42 [t.v,I (n:Int)] σ (Same (l8 (o.map fun u=>(bw u,q))) σ):=by
 have g:=fun σ=>acd w0 n hn t c.nr e σ;rw[ab8 h hn c]at g;refine k42.go rfl (fun b j=>?_);cases o with
 |none=>
  apply bl;simp only[go_sem,FT];(refine db (g _) ?_;simp only[go_sem,l8,aa.none,mf]);refine wY ?_;simp only[go_sem,l8,aa.none,mf];exact wF b
 |some u=>
  obtain⟨r,i⟩:=rq h hn c;obtain⟨k3,k4⟩:=i u rfl;have hS:=fun σ=>acg w0 u k3.1 (lh (by omega) _ k3.2) (by omega) σ;clear i k3 k4;generalize p:bw u=z at*
  apply bl;simp only[go_sem,FT];(refine db (g _) ?_;simp only[go_sem,l8,fc]);refine wN ?_;simp only[go_sem];(refine db (hS _) ?_;simp only[go_sem,l8,fc,p]);exact wF b
end
end Go.Proofs.YtdlkenpilhakfaaGreatDoor
namespace Go.Lamb
open Go Go.RowKit
def AC.rest:AC->AC
 | .seq _ r=>r
 |x=>x
end Go.Lamb
namespace Go.Proofs.YtdlkenpilhakfaaGreatDoor
open Go.RowKit Go.Lamb
section
attribute [local go_sem] aa.v aa.aG aO aQ aL aH aM
theorem aci(w0:World){g:Sg}{p:al}{want:aa}(r:bn p<=2000)(hb:ba p<0\/4096<ba p\/bZ want=false)(σ:H):DC prog w0 10 [g.v,p.v,want.v] σ (Same (iy (.none,[],1,0)) σ):=by
 refine OZ.go rfl (fun c t=>?_);have b:=fun σ=>O2 w0 p (by omega) σ;have e:=fun σ=>DO w0 want σ;unfold iy;by_cases h:0<=ba p
 ·rw[decide_eq_true h]at b;have i:=fun σ=>O3 w0 p (by omega) h σ;cases j:bZ want
  ·rw[j]at e;apply bl;simp only[go_sem,kH,Sg.v];(refine db (b _) ?_;simp only[go_sem]);(refine db (e _) ?_;simp only[go_sem]);refine wY ?_;simp only[go_sem,aa.none];exact wF c
  ·have u:ba p>4096:=by
    rcases hb with hb|hb|hb
    ·omega
    ·exact hb
    ·rw[j]at hb;cases hb
   rw[j]at e;apply bl;simp only[go_sem,kH,Sg.v];(refine db (b _) ?_;simp only[go_sem]);(refine db (e _) ?_;simp only[go_sem]);(refine db (i _) ?_;simp only[go_sem,u]);refine wY ?_;simp only[go_sem,aa.none];exact wF c
 ·rw[decide_eq_false h]at b;apply bl;simp only[go_sem,kH,Sg.v];(refine db (b _) ?_;simp only[go_sem]);(refine db (e _) ?_;simp only[go_sem]);refine wY ?_;simp only[go_sem,aa.none];exact wF c
def Pq:AC:=AC.rest (AC.rest (AC.rest (AC.rest (AC.rest (AC.rest (AC.rest (AC.rest (AC.rest (AC.rest (AC.rest (AC.rest kH)))))))))))
theorem Pr:∀l:List aa,(∀x∈l,bZ x=true)->bZ (du l oT)=true
 |[],_=>by decide
 |x::l,h=>by
  show bZ (.arr x (du l oT))=true;rw[iL];simp[aa.arr,iK,aO,aQ,aL,aH,h x (aZ ..),Pr l (fun u b=>h u (bH _ b))]
theorem Ps(w0:World){σ E:H}{g:Sg}{f:az}{y3 y4:V}{c:aa}{Z b:Nat}(hok:H.ok σ)(hA:aS σ.length E (σ.length+4) g f y3 y4 (.aC b (f.vars.map av.cs)))(hK:Kept σ.length (σ.length+4) σ E)(e6:E[σ.length+3]?=some (.cells [I 0,S [],I 0,.ae []]))(P:E[Z]?=some (.cells c.v.af))(hbc:σ.length+5<=Z)
  (hR:bO 100000 f.sub) (hvl:f.vars.length<=2000) {lr:Int} (D:gD f.sub (f.vars.map (·.ty)) 4096 lr) {w:List aa} (j:fY f.sub (f.vars.map (·.ty)) w) (p:∀t∈f.vars.map (·.ty),ay f.sub.length t/\aw t<=100000) (O:f.vars≠[]->f.live=true):
  W prog w0 σ.length (Fin oy σ.length (Same (iy (if lr<0 then(.none,[],122,0)else(c,gj dW f.vars (dp w),0,0))) σ)) [.code Pq] ⟨(((base.put (some 6) (.ptr (σ.length+3) 0)).put (some 12) (.ptr (σ.length+4) 0)).put (some 17) (.ptr Z 0)),E⟩:=by
 unfold iy;have hp:=hA.here;unfold bh at hp;have M:=fun L=>hG hp L;have l17:=(aI.1 P).1;have F:(f.vars.map av.cs).length=f.vars.length:=bY _;have hml:(f.vars.map (·.ty)).length=f.vars.length:=bY _;have R:w.length=f.vars.length:=j.len.trans hml;simp only[aa.v,V.af]at P;apply bl;simp only[go_sem,Pq,AC.rest,kH];refine W.aY (α:=Nat×Int) (fun x=>x.1<=f.vars.length/\x.2<=4096/\-1<=x.2/\gD f.sub ((f.vars.map (·.ty)).drop x.1) x.2 lr) (fun x=>⟨(((((base.put (some 6) (.ptr (σ.length+3) 0)).put (some 12) (.ptr (σ.length+4) 0)).put (some 17) (.ptr Z 0)).put (some 20) (I x.2)).put (some 21) (I (x.1:Int))),E⟩) (fun x=>f.vars.length-x.1) (0,4096) ⟨be _,Int.le_refl _,by decide,D⟩ ?_ (fun x hx=>?_)
 ·exact wV
 obtain⟨i,m⟩:=x;obtain⟨x1,x2,x3,x4⟩:=hx;dsimp only at x1 x2 x3 x4⊢;by_cases h:i<f.vars.length
 ·have z:(i:Int)<(f.vars.length:Int):=by omega
  have g1:(0:Int)<=(i:Int):=by omega
  have hw:aE.wrap ((i:Int)+1)=((i+1:Nat):Int):=by rw[a7]<;>omega
  have G:=rm h;have T:=O (fun e=>by rw[e]at h;cases h);rw[gg (by omega),eI]at x4;cases x4 with
  |@cons _ _ _ m' _ a1 a2=>
   have ht:=p f.vars[i].ty (List.mem_map.2 ⟨_,bg h,rfl⟩);have hL:=aa4 w0 hR (by decide) 4097 f.vars[i].ty m m' (by omega) x3 (by omega) a1 ht.1 ht.2 (hA.sub T);have hle:=wc a1;have hge:=we a1 x3;generalize f.vars[i]=x at*;simp only[aa.v]at hL;apply bl;simp only[go_sem,hp,F,z];refine wY ?_;simp only[go_sem];apply W.aD (aF _ _)
   case hc=>
    (apply ab.aj;simp only[go_sem,hp,F,g1,z,G]);(apply ab.call (hL)<;>try rfl);(apply ab.aj;simp only[go_sem]);exact ab.nil
   apply bl;simp only[go_sem,hw];refine .inv ⟨(i+1,m'),⟨h,by show m'<=4096;omega,hge,a2⟩,by show f.vars.length-(i+1)<f.vars.length-i;omega,?_⟩;exact wV
 ·obtain rfl:i=f.vars.length:=by omega
  have z:¬((f.vars.length:Nat):Int)<((f.vars.length:Nat):Int):=by omega
  rw[p7 (by omega)]at x4;cases x4;apply bl;simp only[go_sem,hp,F,z];refine W.no rfl ?_;by_cases N:lr<0
  ·rw[if_pos N];have l6:=(aI.1 e6).1;have s6:∀A,(E.set (σ.length+3) A)[σ.length+3]?=some A:=fun A=>bW l6;obtain⟨L,hL⟩:=ou (hK.set (.cells [I 0,S [],I 0,.ae []] none) (a:=σ.length+3) (by omega) (.inr (.inl (by omega))));apply bl;simp only[go_sem,N];refine wY ?_;simp only[go_sem,e6];refine W.fs hok (by simp only[aX,oy,s6,go_sem];rfl) ?_ (hσ:=hL);simp only[aT];exact aR
  rw[if_neg N];obtain⟨r1,r2⟩:=Ay hR j D (by omega) (fun x hx=>(p x hx).1);have han:=Fm w;have U:=fun σ=>aa2 w0 oT w (by omega) σ;have X:=fun σ=>OM w0 (du w oT) (by omega) σ;have hnd:=(rj (Pr w (fun x hx=>(r2 x hx).valid)) (by omega)).2.1;have hP:=fun σ=>aa6 w0 (bT (du w oT)) (bf (yu _) (by omega)) σ;have hpl:(dp w).length=f.vars.length:=(Ou w).trans R;have hpe:(eC (bT (du w oT))).1=dp w:=rfl;rw[hpe]at hP;generalize hN:dp w=Q at*
  have hzl:(gj dW f.vars Q).length=f.vars.length:=by rw[List.length_zipWith];omega
  clear hpe hN;apply bl;simp only[go_sem,N];refine wN ?_;simp only[go_sem];refine W.own 22 34 4 rfl ?_;apply bl;simp only[go_sem];refine W.aY (fun i=>i<=f.vars.length) (fun i=>⟨(((((base.put (some 6) (.ptr (σ.length+3) 0)).put (some 12) (.ptr (σ.length+4) 0)).put (some 17) (.ptr Z 0)).put (some 22) (.aC E.length ((w.take i).map aa.cs))).put (some 23) (I (i:Int))),E++[.spare 34 4 i]⟩) (fun i=>f.vars.length-i) 0 (be _) ?_ (fun i hi=>?_)
  ·exact wV
  by_cases h:i<f.vars.length
  ·have z:(i:Int)<(f.vars.length:Int):=by omega
   have g1:(0:Int)<=(i:Int):=by omega
   have hw:aE.wrap ((i:Int)+1)=((i+1:Nat):Int):=by rw[a7]<;>omega
   have G:=rm h;have T:=O (fun e=>by rw[e]at h;cases h);have hiw:i<w.length:=by rw[R];exact h
   have hF:=FF w0 hR (by decide) j p i (by rw[hml];exact h) hiw (E++[.spare 34 4 i]) ((hA.app [.spare 34 4 i]).sub T);rw[eI]at hF;have J:(w.take (i+1)).map aa.cs=(w.take i).map aa.cs++[w[i].cs]:=by
    rw[eW hiw,dF];rfl
   have Y:(w.take i).length=i:=by rw[dE];omega
   have b1:(i+1)*56<=140737488355328:=by omega
   have b2:i+1<=140737488355328:=by omega
   clear D j p r1 r2 han U X hnd hP;generalize f.vars[i]=x at*;generalize w[i]=u at*;rw[aa.aG]at J;simp only[aa.v]at hF;apply bl;simp only[go_sem,M,F,z];refine wY ?_;simp only[go_sem];apply W.aD (aF _ _)
   case hc=>
    (apply ab.aj;simp only[go_sem,M,F,g1,z,G]);(apply ab.call (hF)<;>try rfl);(apply ab.aj;simp only[go_sem,Y,b1,b2,true_or]);exact ab.nil
   apply bl;simp only[go_sem,hw];refine .inv ⟨i+1,h,by omega,?_⟩;rw[J];exact wV
  ·obtain rfl:i=f.vars.length:=by omega
   have J:w.take f.vars.length=w:=by rw[<-R,jA]
   rw[J];simp only[aM,oT]at U X hP;generalize hA1:du w (aa.mk 0 [111] 0 [])=ar at*;generalize (eC (bT ar)).2=rt at*;generalize bT ar=nt at*;clear D j p r1 r2 han hnd;apply bl;simp only[go_sem,M,F,z];refine wN ?_;simp only[go_sem];(refine W.fV (U _) ?_;simp only[go_sem]);(refine db (X _) ?_;simp only[go_sem]);(refine db (hP _) ?_;simp only[go_sem]);refine W.own 26 50 5 rfl ?_;apply bl;simp only[go_sem];refine W.aY (fun i=>i<=f.vars.length) (fun i=>⟨((((((base.put (some 6) (.ptr (σ.length+3) 0)).put (some 12) (.ptr (σ.length+4) 0)).put (some 17) (.ptr Z 0)).put (some 24) (.c (.sl (Q.map aa.cs)))).put (some 26) (.aC (E.length+2) (((gj dW f.vars Q).take i).map av.cs))).put (some 27) (I (i:Int))),E++[.spare 34 4 f.vars.length,.cells rt.v.af,.spare 50 5 i]⟩) (fun i=>f.vars.length-i) 0 (be _) ?_ (fun i hi=>?_)
   ·exact wV
   by_cases h:i<f.vars.length
   ·have z:(i:Int)<(f.vars.length:Int):=by omega
    have g1:(0:Int)<=(i:Int):=by omega
    have hw:aE.wrap ((i:Int)+1)=((i+1:Nat):Int):=by rw[a7]<;>omega
    have G:=rm h;have hiQ:i<Q.length:=by omega
    have zQ:(i:Int)<(Q.length:Int):=by omega
    have hxQ:Q[i]?=some Q[i]:=aN hiQ;have J:((gj dW f.vars Q).take (i+1)).map av.cs=((gj dW f.vars Q).take i).map av.cs++[(dW f.vars[i] Q[i]).cs]:=by
     rw[eW (by omega),dF,List.getElem_zipWith];rfl
    have Y:((gj dW f.vars Q).take i).length=i:=by rw[dE];omega
    have hr5:(∀r∈((gj dW f.vars Q).take i).map av.cs,r.length=5)=True:=eq_true (pH _);have b1:(i+1)*72<=140737488355328:=by omega
    have b2:i+1<=140737488355328:=by omega
    generalize f.vars[i]=x at*;generalize Q[i]=u at*
    apply bl;simp only[go_sem,M,F,z];refine wY ?_;simp only[go_sem];apply W.aD (aF _ _)
    case hc=>
     (apply ab.aj;simp only[go_sem,M,F,g1,z,G,zQ,hxQ,Y,hr5,b1,b2,true_or]);exact ab.nil
    apply bl;simp only[go_sem,hw];refine .inv ⟨i+1,h,by omega,?_⟩;rw[J];simp only[go_sem,dW,av.cs];exact wV
   ·obtain rfl:i=f.vars.length:=by omega
    have J:(gj dW f.vars Q).take f.vars.length=gj dW f.vars Q:=by rw[<-hzl,jA]
    rw[J];have l6:=(aI.1 e6).1;have e17L:=fun L=>hG P L;have e6L:=fun L=>hG e6 L;have s6:∀A L,((E++L).set (σ.length+3) A)[σ.length+3]?=some A:=fun A L=>bW (by rw[bC];omega);obtain⟨L,hL⟩:=ou ((hK.app (aA _) [.spare 34 4 f.vars.length,.cells rt.v.af,.spare 50 5 f.vars.length]).set (.cells c.v.af none) (a:=σ.length+3) (by omega) (.inr (.inl (by omega))));apply bl;simp only[go_sem,M,F,z];refine wN ?_;simp only[go_sem,e17L,e6L];refine W.fs hok (by simp only[aX,oy,s6,go_sem];rfl) ?_ (hσ:=hL);simp only[aT];exact aR
def tL:AC:=AC.rest (AC.rest (AC.rest (AC.rest (AC.rest (AC.rest (AC.rest kH))))))
theorem F0(w0:World){σ E:H}{g:Sg}{f:az}{y3 y4 y5:V}{t tm:aa}{bt:Nat}(w:H.ok σ)(hA:aS σ.length E (σ.length+4) g f y3 y4 y5)(hK:Kept σ.length (σ.length+4) σ E)(e6:E[σ.length+3]?=some (.cells [I 0,S [],I 0,.ae []]))(e13:E[bt]?=some (.cells t.v.af))(hbt:σ.length+5<=bt)
  (U:f.e=0->t=tm/\bO 100000 f.sub/\f.sub.length<=1000000/\f.vars.length<=2000/\(∀x∈f.vars,∃i:Nat,i<f.sub.length/\x.ty=aJ i)/\(f.sub≠[]->f.live=true)/\ao tm<=4096/\(aP tm=true->Nr (2199023255552-8192*((1000:Nat):Int)) tm)):
  W prog w0 σ.length (Fin oy σ.length (Same (iy (jS f tm)) σ)) [.code tL] ⟨(((base.put (some 6) (.ptr (σ.length+3) 0)).put (some 12) (.ptr (σ.length+4) 0)).put (some 13) (.ptr bt 0)),E⟩:=by
 have hp:=hA.here;unfold bh at hp;have l6:=(aI.1 e6).1;have s6:∀A,(E.set (σ.length+3) A)[σ.length+3]?=some A:=fun A=>bW l6;have s6L:∀A L,((E++L).set (σ.length+3) A)[σ.length+3]?=some A:=fun A L=>bW (by rw[bC];omega);have e6L:=fun L=>hG e6 L;have hsp:∃M,E.set (σ.length+3) (.cells [I 0,S [],I 0,.ae []] none)=σ++M:=ou (hK.set _ (a:=σ.length+3) (by omega) (.inr (.inl (by omega))));have Q:∀L,∃M,(E++L).set (σ.length+3) (.cells [I 0,S [],I 0,.ae []] none)=σ++M:=fun L=>ou ((hK.app (aA _) L).set _ (a:=σ.length+3) (by omega) (.inr (.inl (by omega))))
 have j:=e13;simp only[aa.v,V.af]at j;by_cases h0:f.e=0
 ·obtain⟨rfl,hR,hs,hvl,R,hlv,hnd,hnr⟩:=U h0;have k2:(f.e !=0)=false:=by rw[h0];rfl
  have F:=fun σ=>Xl w0 t σ;have X:jS f t=if aP t=true then rB f (ru t)else(.none,[],122,0):=by
   unfold jS;rw[if_neg (fun h=>h h0)]
  rw[X];cases Y:aP t
  ·rw[if_neg (by decide)];rw[Y]at F;unfold iy;apply bl;simp only[go_sem,tL,AC.rest,kH,hp,k2];refine wN ?_;simp only[go_sem,j];(refine db (F _) ?_;simp only[go_sem]);refine wY ?_;simp only[go_sem,e6];obtain⟨M,Z⟩:=hsp;refine W.fs w (by simp only[aX,oy,s6,go_sem];rfl) ?_ (hσ:=Z);simp only[aT];exact aR
  ·rw[if_pos rfl];rw[Y]at F;have hnr1:=hnr Y;have hbi:cf 1000 t:=.tA hnr1 (by omega);obtain⟨q,hq⟩:=Oe (Oc 1000 (by decide) t hbi);have p:=fun σ=>ach w0 1000 (by decide) t hbi (by omega) hq σ;obtain⟨kq1,kq2⟩:=rq hq (by decide) hbi;have e1000:((1000:Nat):Int)=1000:=rfl;rw[e1000]at p;cases hno:ru t with
   |none=>
    rw[hno]at p;simp only[l8,mf,aa.v,aa.none,aO,aQ,aL,aH,cP]at p;simp only[rB,iy];apply bl;simp only[go_sem,tL,AC.rest,kH,hp,k2];refine wN ?_;simp only[go_sem,j];(refine db (F _) ?_;simp only[go_sem]);refine wN ?_;simp only[go_sem,j];(refine db (p _) ?_;simp only[go_sem,bne]);refine wY ?_;simp only[go_sem,e6L];obtain⟨M,Z⟩:=Q [.cells [I 0,S [],I 0,.c (.sl [])]];refine W.fs w (by simp only[aX,oy,s6L,go_sem];rfl) ?_ (hσ:=Z);simp only[aT];exact aR
   |some u=>
    rw[hno]at p;obtain⟨kn1,kn2⟩:=kq2 u hno;obtain⟨so1,so2,so3⟩:=tF (M:=2199023255552) (by decide) u kn1.1 (lh (by omega) u kn1.2);have hSz:=fun σ=>FU w0 (bw u) (by omega) σ;simp only[l8,fc]at p;simp only[rB];generalize bw u=c at*
    by_cases hz:(((cn c:Nat):Int)>4096)
    ·rw[if_pos (.inl (by omega))];unfold iy;apply bl;simp only[go_sem,tL,AC.rest,kH,hp,k2];refine wN ?_;simp only[go_sem,j];(refine db (F _) ?_;simp only[go_sem]);refine wN ?_;simp only[go_sem,j];(refine db (p _) ?_;simp only[go_sem,bne]);(refine db (hSz _) ?_;simp only[go_sem,hz]);refine wY ?_;simp only[go_sem,e6L];obtain⟨M,Z⟩:=Q [.cells c.v.af];refine W.fs w (by simp only[aX,oy,s6L,go_sem];rfl) ?_ (hσ:=Z);simp only[aT];exact aR
    ·have hcd:(if 4096<cn c\/pO f.sub (f.vars.map (·.ty)) 4096<0 then((.none,[],122,0):aa×List av×Int×Int)else(c,tD f,0,0))=(if pO f.sub (f.vars.map (·.ty)) 4096<0 then(.none,[],122,0)else(c,gj dW f.vars (dp (wb f.sub (f.vars.map (·.ty)))),0,0)):=by
      by_cases O:pO f.sub (f.vars.map (·.ty)) 4096<0
      ·rw[if_pos (.inr O),if_pos O]
      ·rw[if_neg (fun h=>h.elim (fun h=>hz (by omega)) O),if_neg O];rfl
     rw[hcd];obtain⟨G,J,N⟩:=OH hR R hs;have T:f.vars≠[]->f.live=true:=fun hne=>by
      obtain⟨x,hx⟩:=List.exists_mem_of_ne_nil _ hne;obtain⟨i,hi,_⟩:=R x hx;exact hlv (fun e=>by rw[e]at hi;cases hi)
     have r:=hA.app [.cells c.v.af];have P:=hK.app (aA _) [.cells c.v.af];have e62:=hG e6 [.cells c.v.af];have e17:(E++[ad.cells c.v.af])[E.length]?=some (.cells c.v.af):=Go.Lamb.cQ _ _;have hEl:=hA.lt;apply bl;simp only[go_sem,tL,AC.rest,kH,hp,k2];refine wN ?_;simp only[go_sem,j];(refine db (F _) ?_;simp only[go_sem]);refine wN ?_;simp only[go_sem,j];(refine db (p _) ?_;simp only[go_sem,bne]);(refine db (hSz _) ?_;simp only[go_sem,hz]);refine W.no rfl ?_;refine W.cp 1 _ _ ?_
     simp only[go_sem];obtain⟨D,hD⟩:∃D,E++[ad.cells c.v.af]=D:=⟨_,rfl⟩;rw[hD]at r P e62 e17;simp only[aa.v,V.af]at hD;refine W.heap hD ?_;rcases r.var with⟨hv0,rfl⟩|⟨b,_,rfl,_⟩
     ·have hnD:σ.length<=D.length:=by have:=P.len;omega
      have hP:=(r.app [ad.spare 50 5 0]).put (f':=f) (z3:=y3) (z4:=y4) (z5:=.aC D.length []) (r.app _).sub (r.app _).dn (.inr ⟨D.length,hnD,by rw[hv0];rfl,by rw[hv0];exact Go.Lamb.cQ _ _⟩);have hKE:=((Kept.refl σ.length (σ.length+4) D).app hnD [ad.spare 50 5 0]).trans hP.2;have e0:V.aC D.length []= .aC D.length (f.vars.map av.cs):=by rw[hv0,cP]
      refine W.nR (σ.length+4) 5 50 5 r.here rfl ?_;refine .ek ?_ (Ps w0 (b:=D.length) (y3:=y3) (y4:=y4) w (by rw[<-e0];exact hP.1) (P.trans hKE) (hKE.cells _ _ _ (by omega) e62) (hKE.cells _ _ _ (by omega) e17) (by omega) hR hvl G J N T);exact wV
     ·refine .ek ?_ (Ps w0 w r P e62 e17 (by omega) hR hvl G J N T);exact wV
 ·have k2:(f.e !=0)=true:=by simp[h0]
  have hdn:jS f tm=(.none,[],f.e,f.pos):=by unfold jS;rw[if_pos h0]
  rw[hdn];unfold iy;have sP:=fun A=>(List.getElem?_set_ne (l:=E) (a:=A) (by omega:σ.length+3≠σ.length+4)).trans hp;apply bl;simp only[go_sem,tL,AC.rest,kH,hp,k2];refine wY ?_;simp only[go_sem];apply W.aD (aF _ _)
  case hc=>
   (apply ab.aj;simp only[go_sem,hp,e6,sP]);exact ab.nil
  apply bl;simp only[go_sem];obtain⟨M,Z⟩:=hsp;refine W.fs w (by simp only[aX,oy,s6,go_sem];rfl) ?_ (hσ:=Z);simp only[aT];exact aR
theorem acj(w0:World){g:Sg}{Wd:Nat}(hW:∀x∈g.types,aw x.ty<=Wd)(Z:1<=Wd)(hW2:Wd<=10000){p:al}{want:aa}(hnp:bn p<=2000)(hwp:(Wd+1)*bn p<=900000)(hnw:aw want<=10000)(h1:0<=ba p)(h2:¬ba p>4096)(hv:bZ want=true)(σ:H):
  DC prog w0 10 [g.v,p.v,want.v] σ (Same (iy (jS (ju p want (bI g p eS)) (bI g p eS).1)) σ):=by
 refine OZ.go rfl (fun J hsz=>?_);have hSh:=fun σ=>O2 w0 p (by omega) σ;rw[decide_eq_true h1]at hSh;have hSz:=fun σ=>O3 w0 p (by omega) h1 σ;have hV:=fun σ=>DO w0 want σ;rw[hv]at hV;have j:=pM hW Z hW2 p eS AG (by omega) (by show 0+_<=_;omega);have hA1:aS σ.length (σ++[.cells [.c (jL g.kinds),.c (fy g.types),.c (mP g.ops)],.cells p.v.af,.cells want.v.af,.cells [I 0,S [],I 0,.ae []],bh g eS (.ae []) (.ae []) (.ae [])]) (σ.length+4) g eS (.ae []) (.ae []) (.ae []):=⟨Go.Lamb.bx _ _ 4,by omega,fun _=>.inl ⟨rfl,rfl⟩,.inl ⟨rfl,rfl⟩,.inl ⟨rfl,rfl⟩⟩
 have hT:=ab7 w0 hW Z hW2 p hA1 (by rw[bC];omega) AG (fun i hi=>absurd hi (fe _)) (by omega) (by show 0+_<=_;omega) (by show 0+_<=_;omega) (by show 0+_<=_;omega) h1;have hwo:=fun h0=>OG (want:=want) j (by show 0+_<=_;omega) (by omega) hv hnw h0;generalize hr:bI g p eS=r at*
 have hK0:=(Kept.refl σ.length (σ.length+4) σ).app (aA _) [.cells [.c (jL g.kinds),.c (fy g.types),.c (mP g.ops)],.cells p.v.af,.cells want.v.af,.cells [I 0,S [],I 0,.ae []],bh g eS (.ae []) (.ae []) (.ae [])];simp only[bh,al.v,aa.v,V.af,eS]at hT hK0;apply bl;simp only[go_sem,kH,Sg.v];(refine db (hSh _) ?_;simp only[go_sem]);(refine db (hV _) ?_;simp only[go_sem]);(refine db (hSz _) ?_;simp only[go_sem,h2]);refine wN ?_;simp only[go_sem];(refine W.call (hT) rfl rfl (by first|rfl|simp) ?_)
 rintro d b ⟨w,A,rfl,hva,⟨u3,u4,u5,c2⟩,c3⟩;have M:σ.length+5<=b.length:=by have:=c3.len;simpa using this
 have a4:b[σ.length+1]?=some (.cells p.v.af):=c3.cells _ _ _ (by omega) (Go.Lamb.bx _ _ 1);have a5:b[σ.length+2]?=some (.cells want.v.af):=c3.cells _ _ _ (by omega) (Go.Lamb.bx _ _ 2);have a6:b[σ.length+3]?=some (.cells [I 0,S [],I 0,.ae []]):=c3.cells _ _ _ (by omega) (Go.Lamb.bx _ _ 3);obtain⟨E1,N⟩:∃X,(b++[ad.cells w.v.af,ad.cells A.v.af])=X:=⟨_,rfl⟩;have d1:=c2.app [ad.cells w.v.af,ad.cells A.v.af];have d2:=(hK0.trans c3).app (aA _) [ad.cells w.v.af,ad.cells A.v.af];have O:(b++[ad.cells w.v.af,ad.cells A.v.af])[b.length]?=some (ad.cells w.v.af):=Go.Lamb.cQ _ _
 have h:(b++[ad.cells w.v.af,ad.cells A.v.af])[b.length+1]?=some (ad.cells A.v.af):=Go.Lamb.bx _ _ 1;have b4:=hG a4 [ad.cells w.v.af,ad.cells A.v.af];have b5:=hG a5 [ad.cells w.v.af,ad.cells A.v.af];have b6:=hG a6 [ad.cells w.v.af,ad.cells A.v.af];rw[N]at d1 d2 O h b4 b5 b6;have l14:=(aI.1 h).1;have F:σ.length<=E1.length:=by omega
 have P:=fun L=>hG c2.here L;unfold bh at P;have D:ao r.1<=4096:=by have:=j.nodes;omega
 have Q:aP r.1=true->Nr (2199023255552-8192*((1000:Nat):Int)) r.1:=fun hvt=>⟨hvt,j.NM _ (by show((0:Nat):Int)+_<=_;omega) (by show((0:Nat):Int)+_<=_;omega)⟩;by_cases h0:r.2.2.e=0
 ·obtain⟨w1,w2,w3,w4,w5,w6⟩:=hwo h0;obtain⟨hv1,hv2⟩:=hva h0;have R:=j.ok.live h0;obtain⟨τ2,v3,m1,m2,Y⟩:=O6 w0 d1 F R want hv hnw (by have:=j.len;show _<=_;have e:eS.sub.length=0:=rfl;omega);have hn2:=bf F Y.len;obtain⟨τ3,v3',o1,o2,o3⟩:=O4 w0 m2 hn2 w3 w4 w1.right w6;have k2:(r.2.2.e==0)=true:=by simp[h0]
  have f4:=o3.cells _ _ _ (by omega) (Y.cells _ _ _ (by omega) b4);have f6:=o3.cells _ _ _ (by omega) (Y.cells _ _ _ (by omega) b6);have f13:=o3.cells _ _ _ (by omega) (Y.cells _ _ _ (by omega) O);have t:=Y.cells _ _ _ (by omega) h;have G:=(d2.trans Y).trans o3;rw[hv2]at h t;rw[hv1]at f13;simp only[aa.v,V.af]at m1 o1 b5 h t;apply bl;simp only[go_sem,P,k2];refine W.heap N ?_;refine W.yes rfl ?_;apply bl;simp only[go_sem];apply W.aD (aF _ _)
  case hc=>
   (apply ab.aj;simp only[go_sem,b5,h]);(apply ab.call (m1)<;>try rfl);(apply ab.aj;simp only[go_sem,h,t]);(apply ab.call (o1)<;>try rfl);(apply ab.aj;simp only[go_sem]);exact ab.nil
  cases T:(r.2.2.renew want).ix r.2.1 (r.2.2.ca want)
  ·have u:ju p want r=((r.2.2.renew want).one r.2.1 (r.2.2.ca want)).fail 121 p.pos:=by unfold ju;rw[if_pos h0,if_neg (by rw[T];decide)]
   have hF:=FN w0 o2 121 p.pos;simp only[al.v,V.af]at f4;apply bl;simp only[go_sem];refine wY ?_;simp only[go_sem,f4];(refine W.call (hF) rfl rfl (by first|rfl|simp) ?_);rintro d τ4 ⟨rfl,p2,p3⟩;have hfe:(((r.2.2.renew want).one r.2.1 (r.2.2.ca want)).fail 121 p.pos).e≠0:=by unfold az.fail;rw[if_pos (show((r.2.2.renew want).one _ _).e=0 from w2)];show(121:Int)≠0;decide
   rw[u];have e6:=p3.cells _ _ _ (by omega) f6;have e13:=p3.cells _ _ _ (by omega) f13;refine W.cp 1 _ _ ?_;simp only[go_sem];refine .ek ?_ (F0 w0 J p2 (G.trans p3) e6 e13 M (fun e=>absurd e hfe));exact wV
  ·have u:ju p want r=(r.2.2.renew want).one r.2.1 (r.2.2.ca want):=by unfold ju;rw[if_pos h0,if_pos T]
   rw[u];obtain⟨x1,x2,x3⟩:=rf w1.right w4 w6;have hR2:bO 100000 ((r.2.2.renew want).one r.2.1 (r.2.2.ca want)).sub:=x2;have hsl2:((r.2.2.renew want).one r.2.1 (r.2.2.ca want)).sub.length<=1000000:=by show(dw _ _ _).2.length<=_;omega
   have U:∀x∈((r.2.2.renew want).one r.2.1 (r.2.2.ca want)).vars,∃i:Nat,i<((r.2.2.renew want).one r.2.1 (r.2.2.ca want)).sub.length/\x.ty=aJ i:=fun x hx=>by
    obtain⟨i,hi,e⟩:=w1.var x hx;exact⟨i,by show i<(dw _ _ _).2.length;omega,e⟩
   have E:((r.2.2.renew want).one r.2.1 (r.2.2.ca want)).sub≠[]->((r.2.2.renew want).one r.2.1 (r.2.2.ca want)).live=true:=fun hne=>by
    have hne':(r.2.2.renew want).sub≠[]:=fun e=>hne (List.eq_nil_of_length_eq_zero (by show(dw _ _ _).2.length=0;rw[x3,e];rfl));show((r.2.2.renew want).live&&(((dw (r.2.2.renew want).sub r.2.1 (r.2.2.ca want)).1==0)&&!(r.2.2.renew want).sub.isEmpty))=true;have hb':((dw (r.2.2.renew want).sub r.2.1 (r.2.2.ca want)).1==0)=true:=T;rw[w3,hb'];cases hf:(r.2.2.renew want).sub with
    |nil=>exact absurd hf hne'
    |cons x l=>rfl
   have hvl2:((r.2.2.renew want).one r.2.1 (r.2.2.ca want)).vars.length<=2000:=by
    show(r.2.2.renew want).vars.length<=_;rw[w5];have:=j.vars;have e:eS.vars.length=0:=rfl;omega
   apply bl;simp only[go_sem];refine W.no rfl ?_;refine W.cp 1 _ _ ?_;simp only[go_sem];refine .ek ?_ (F0 w0 J o2 G f6 f13 M (fun _=>⟨rfl,hR2,hsl2,hvl2,U,E,D,Q⟩));exact wV
 ·have u:ju p want r=r.2.2:=by unfold ju;rw[if_neg h0]
  rw[u];have k1:(r.2.2.e==0)=false:=by simp[h0]
  apply bl;simp only[go_sem,P,k1];refine W.heap N ?_;refine W.no rfl ?_;refine W.cp 1 _ _ ?_;simp only[go_sem];refine .ek ?_ (F0 w0 J d1 d2 b6 O M (fun e=>absurd e h0));exact wV
theorem ack(w0:World){g:Sg}{Wd:Nat}(u:∀x∈g.types,aw x.ty<=Wd)(e:1<=Wd)(i:Wd<=10000){p:al}{want:aa}(c:bn p<=2000)(j:(Wd+1)*bn p<=900000)(r:aw want<=10000)(σ:H):
  DC prog w0 10 [g.v,p.v,want.v] σ (Same (iy (wu g p want)) σ):=by
 unfold wu;by_cases b:ba p<0\/4096<ba p\/bZ want=false
 ·rw[if_pos b];exact aci w0 c b σ
 ·rw[if_neg b];have A:¬ba p<0:=fun h=>b (.inl h);have w:¬ba p>4096:=fun h=>b (.inr (.inl h));have t:bZ want=true:=by
   cases t:bZ want
   ·exact absurd (.inr (.inr t)) b
   ·rfl
  exact acj w0 u e i c j r (by omega) w t σ
def c7:AC:=rsq [oB 2 0,oB 3 1,oF 4] (.seq (rif [.f 7 1 2,.l 8 7,oL 9 8,oI 10 .gtr 9 (zK 60),.m 11 10,yX 12 0 2 11,yT 13 12 11,.z 14 (.eM 13) 11,yB 15 .gtr 14 (zK 60) 11,oP 16 11 zT 15] 16 (rsq [oV 4] .ret) .skip) (.seq (rsq [oK 5 0] (forL 0 1 [.m 17 5,.f 18 1 2,.l 19 18,oL 20 19,oI 21 .lss 17 20] 21 (rsq [.f 24 1 2,.l 25 24,.m 26 5,oJ 27 5 25 26,.f 28 1 27,.d 29 4 28,.k 30 8 [29,(zK 15)],.m 6 30] (rif [.m 31 6] 31 (rsq [oV 4] .ret) .skip)) [.m 22 5,oI 23 .add 22 (zK 1),.m 5 23])) (rsq [.d 32 5 3,.k 33 21 [32,(zK 60)],.m 4 33] .ret)))
abbrev r7:List ak:=[.tmp 4]
theorem k7:aq prog 7 2 Tryz.f7 c7 r7:=.auto func7
def c3:AC:=rsq [oB 3 0,oB 4 1,oB 5 2,oF 6] (rsq [.k 20 6 [],.m 7 20] (.seq (rif [.m 21 7,oU 22 .not 21] 22 (rsq [oF 6] .ret) .skip) (rsq [.d 23 3 3,.d 24 5 4,.k 25 7 [23,24],.m 8 25] (rsq [.d 26 4 5,.k 27 8 [26,(zK 15)],.m 9 27] (.seq (rif [.m 28 8,.m 29 28,yW 30 9 29,oP 31 29 zT 30] 31 (rsq [.m 32 7,.m 6 32] .ret) .skip) (rsq [.d 34 3 3,.d 35 5 4,.d 36 4 5,.k 37 9 [34,35,36],.m 33 37,.x 38 33 0,.x 39 33 1,.x 40 33 2,.x 41 33 3,oA 10 zS4,.s 4 10 38,.m 11 39,.m 12 40,.m 13 41] (rsq [.d 43 3 3,.d 44 5 4,.d 45 4 5,.k 46 10 [43,44,45],.m 42 46,.x 47 42 0,.x 48 42 1,.x 49 42 2,.x 50 42 3,oA 14 zS4,.s 4 14 47,.m 15 48,.m 16 49,.m 17 50] (rsq [.d 51 4 10,.d 52 4 14,.k 53 11 [51,52],.m 18 53] (rsq [.m 54 11,.m 55 15,.k 56 12 [54,55],.m 19 56] (rsq [.m 57 7,.m 58 57,yV 59 18 58,oP 60 58 59 zF,.m 61 60,yV 62 19 61,oP 63 61 62 zF,.m 64 63,yV 65 12 64,yV 66 16 64,yI 67 .eql 65 66 64,oP 68 64 67 zF,.m 69 68,yV 70 13 69,yV 71 17 69,yI 72 .eql 70 71 69,oP 73 69 72 zF,.m 6 73] .ret))))))))))
abbrev r3:List ak:=[.tmp 6]
theorem k3:aq prog 3 3 Tryz.f3 c3 r3:=.auto func3
def c6:AC:=rsq [oF 0] (rsq [.k 23 19 [(.k (.c (.str [116,121,112,101,32,102,32,105,110,116,32,45,62,32,111,46])))],oA 1 [.ae [],.ae [],.ae []],.s 3 1 23] (rsq [.f 25 2 1,.l 26 25,.k 27 20 [26,(.k (.c (.str [112,105,32,120,92,32,102,32,120])))],.m 24 27,.x 28 24 0,.x 29 24 1,.x 30 24 2,oA 2 [zI,zC,zI,.ae [],zI],.s 5 2 28,.m 3 29,.m 4 30] (rsq [.d 32 3 1,.d 33 5 2,.k 34 17 [32,33],.m 31 34,.x 35 31 0,.x 36 31 1,.x 37 31 2,.x 38 31 3,oA 5 zS4,.s 4 5 35,.m 6 36,.m 7 37,.m 8 38] (rsq [.f 40 2 1,.l 41 40,.k 42 20 [41,(.k (.c (.str [102,32,102])))],.m 39 42,.x 43 39 0,.x 44 39 1,.x 45 39 2,oA 9 [zI,zC,zI,.ae [],zI],.s 5 9 43,.m 10 44,.m 11 45] (rsq [.d 47 3 1,.d 48 5 9,.k 49 17 [47,48],.m 46 49,.x 50 46 0,.x 51 46 1,.x 52 46 2,.x 53 46 3,oA 12 zS4,.s 4 12 50,.m 13 51,.m 14 52,.m 15 53] (rsq [.f 55 2 1,.l 56 55,.k 57 20 [56,(.k (.c (.str [88,32,61,32,89,32,44,32,102,32,88])))],.m 54 57,.x 58 54 0,.x 59 54 1,.x 60 54 2,oA 16 [zI,zC,zI,.ae [],zI],.s 5 16 58,.m 17 59,.m 18 60] (rsq [.d 62 3 1,.d 63 5 16,.k 64 17 [62,63],.m 61 64,.x 65 61 0,.x 66 61 1,.x 67 61 2,.x 68 61 3,oA 19 zS4,.s 4 19 65,.m 20 66,.m 21 67,.m 22 68] (.seq (rif [.m 69 20,oL 70 69,oI 71 .neq 70 (zK 2),.m 72 71,yX 73 3 5 72,yT 74 73 72,.z 75 (.eM 74) 72,yB 76 .neq 75 (zK 2) 72,oP 77 72 zT 76] 77 (rsq [oF 0] .ret) .skip) (rsq [.f 78 3 5,.l 79 78,oJ 80 4 79 (zK 0),.f 81 1 80,.l 82 81,oI 83 .eql 82 (.k (.c (.str [112,105]))),.m 84 83,yF 85 3 5 84,yL 86 85 84,yJ 87 4 86 (zK 1) 84,yF 88 1 87 84,yL 89 88 84,yI 90 .eql 89 (.k (.c (.str [102]))) 84,oP 91 84 90 zF,.m 92 91,yV 93 6 92,yM 94 93 92,yI 95 .eql 94 (zK 0) 92,oP 96 92 95 zF,.m 97 96,yV 98 7 97,yI 99 .eql 98 (zK 0) 97,oP 100 97 99 zF,.m 101 100,yV 102 14 101,yI 103 .eql 102 (zK 121) 101,oP 104 101 103 zF,.m 105 104,yV 106 15 105,yI 107 .eql 106 (zK 0) 105,oP 108 105 107 zF,.m 109 108,yV 110 21 109,yI 111 .eql 110 (zK 0) 109,oP 112 109 111 zF,.m 113 112,yV 114 20 113,yJ 115 5 114 (zK 0) 113,yF 116 0 115 113,yL 117 116 113,yI 118 .eql 117 (.k (.c (.str [88]))) 113,oP 119 113 118 zF,.m 120 119,yV 121 20 120,yJ 122 5 121 (zK 0) 120,yF 123 1 122 120,yF 124 1 123 120,yL 125 124 120,yI 126 .eql 125 (.k (.c (.str [105,110,116]))) 120,oP 127 120 126 zF,.m 128 127,yV 129 20 128,yJ 130 5 129 (zK 1) 128,yF 131 1 130 128,yF 132 1 131 128,yL 133 132 128,yI 134 .eql 133 (.k (.c (.str [105,110,116]))) 128,oP 135 128 134 zF,.m 0 135] .ret)))))))))
abbrev r6:List ak:=[.tmp 0]
theorem k6:aq prog 6 0 Tryz.f6 c6 r6:=.auto func6
def Pt:AC:=rsq [oA 2 [.ae [],.ae [],.ae []]] (rsq [.m 11 0,.k 12 56 [11],.m 10 12,.x 13 10 0,.x 14 10 1,.x 15 10 2,.x 16 10 3,.m 3 13,.m 4 14,.m 5 15,.m 6 16] (rsq [.m 18 3,.k 19 57 [18],.m 17 19,.x 20 17 0,.x 21 17 1,.x 22 17 2,oA 7 [.ae [],.ae [],.ae []],.s 3 7 20,.m 8 21,.m 9 22] (rsq [.d 23 3 7,.s 3 2 23] .ret)))
abbrev Pu:List ak:=[.aW 3 2]
theorem k19:aq prog 19 1 Tryz.f19 Pt Pu:=.auto func19
def c12:AC:=rsq [oF 4] (.seq (rif [.m 7 0,oL 8 7,.m 9 1,oL 10 9,oI 11 .neq 8 10] 11 (rsq [oF 4] .ret) .skip) (.seq (rsq [oK 5 0] (forL 0 1 [.m 12 5,.m 13 0,oL 14 13,oI 15 .lss 12 14] 15 (.seq (drg [.m 18 0,.m 19 5,oJ 20 5 18 19,.f 21 1 20,.d 22 4 21,.m 23 1,.m 24 5,oJ 25 5 23 24,.f 26 1 25,.d 27 4 26,.k 28 49 [22,27],.m 6 28] [0,1,2,3,4,5,6,7,8,9,110,211]) (.seq (drg [.m 29 0,.m 30 5,oJ 31 5 29 30,.f 32 0 31,.l 33 32,.m 34 1,.m 35 5,oJ 36 5 34 35,.f 37 0 36,.l 38 37,oI 39 .neq 33 38,.m 40 39,yW 41 6 40,.z 42 (.un .not 41) 40,oP 43 40 zT 42] [0,1,2,3,4,5,6,7,8,9,10,11,12,13,14]) (.cond 43 (rsq [oF 4] .ret) .skip))) [.m 16 5,oI 17 .add 16 (zK 1),.m 5 17])) (rsq [oV 4] .ret)))
abbrev r12:List ak:=[.tmp 4]
theorem k12:aq prog 12 2 Tryz.f12 c12 r12:=.auto func12
attribute [local go_sem] ep.v ep.cs av.v av.cs jL fy Sg.v
theorem acp(w0:World)(l:List av)(σ:H):DC prog w0 12 [.c (.sl (l.map av.cs)),.c (.sl (l.map av.cs))] σ (Same (B true) σ):=by
 refine k12.go rfl (fun g h=>?_);have hn:l.length<=9223372036854775807:=sA (f:=av.cs) (h _ (aZ ..));apply bl;simp only[go_sem,c12,bne_self_eq_false'];refine wN ?_;simp only[go_sem];refine W.aY (fun i=>i<=l.length) (fun i=>⟨((((base.put (some 0) (.c (.sl (l.map av.cs)))).put (some 1) (.c (.sl (l.map av.cs)))).put (some 4) (B false)).put (some 5) (I (i:Nat))),σ⟩) (fun i=>l.length-i) 0 (be _) ?_ (fun i p=>?_)
 ·exact wV
 by_cases b:i<l.length
 ·have e:((i:Int)<(l.length:Int)):=by omega
  have j:l[i]?=some l[i]:=aN b;have hw:aE.wrap ((i:Int)+1)=((i+1:Nat):Int):=cF b (by omega);have hS:=fun σ=>VV w0 l[i].ty l[i].ty σ;simp only[Tk]at hS;generalize l[i]=u at*
  apply bl;simp only[go_sem,e];refine wY ?_;simp only[go_sem];apply W.aD (aF _ _)
  case hc=>
   (apply ab.aj;simp only[go_sem,e,bu,j]);(apply ab.call (hS _)<;>try rfl);(apply ab.aj;simp only[go_sem]);exact ab.nil
  apply bl;simp only[go_sem];(apply W.aD (aF _ _);case hc=>((apply ab.aj;simp only[go_sem,e,bu,j,bne_self_eq_false']);exact ab.nil));apply bl;simp only[go_sem];refine wN ?_;simp only[go_sem,hw];refine .inv ⟨i+1,b,by omega,?_⟩;exact wV
 have e:¬((i:Int)<(l.length:Int)):=by omega
 apply bl;simp only[go_sem,e];refine wN ?_;simp only[go_sem];exact wF g
mutual
theorem F4:∀(p:aa) (n:Int),0<=dO p n->dO p n=n-aw p
 | .mk _ _ _ l,n,h=>by
   rw[dO]at h⊢;rw[Pv l (n-1) h,aw];omega
theorem Pv:∀(l:List aa) (n:Int),0<=gu l n->gu l n=n-bE l
 |[],n,h=>by rw[gu,bE];omega
 |p::l,n,h=>by
  rw[gu]at h⊢;by_cases h0:0<=n
  ·rw[if_pos h0]at h⊢;by_cases b:0<=dO p n
   ·rw[Pv l _ h,F4 p n b,bE];omega
   ·rw[H9 b]at h;exact absurd h b
  ·rw[if_neg h0]at h;exact absurd h h0
end
def oE(g:Sg)(p:al):Bool:=decide (60<g.types.length)||decide (60<g.kinds.length)||g.types.any (fun x=>decide (dO x.ty 15<0))||decide (gJ p 60<0)
theorem acq(w0:World)(g:Sg)(p:al)(σ:H):DC prog w0 7 [g.v,p.v] σ (Same (B (oE g p)) σ):=by
 refine k7.go rfl (fun c F=>?_);unfold oE;by_cases w:60<g.types.length
 ·have j:((g.types.length:Int)>60):=by omega
  rw[decide_eq_true w,rT,rT,rT];apply bl;simp only[go_sem,c7,j];refine wY ?_;simp only[go_sem];exact wF c
 have j:¬((g.types.length:Int)>60):=by omega
 rw[decide_eq_false w,tX];by_cases A:60<g.kinds.length
 ·have t:((g.kinds.length:Int)>60):=by omega
  rw[decide_eq_true A,rT,rT];apply bl;simp only[go_sem,c7,j,t];refine wY ?_;simp only[go_sem];exact wF c
 have t:¬((g.kinds.length:Int)>60):=by omega
 rw[decide_eq_false A,tX];apply bl;simp only[go_sem,c7,j,t];refine wN ?_;simp only[go_sem];refine W.aY (fun i=>i<=g.types.length/\(g.types.drop i).any (fun x=>decide (dO x.ty 15<0))=g.types.any (fun x=>decide (dO x.ty 15<0))) (fun i=>⟨((((base.put (some 2) (.ptr σ.length 0)).put (some 3) (.ptr (σ.length+1) 0)).put (some 4) (B false)).put (some 5) (I (i:Nat))),σ++[.cells g.v.af,.cells p.v.af]⟩) (fun i=>g.types.length-i) 0 ⟨be _,rfl⟩ ?_ (fun i D=>?_)
 ·exact wV
 obtain⟨D,b⟩:=D;by_cases e:i<g.types.length
 ·have r:((i:Int)<(g.types.length:Int)):=by omega
  have G:g.types[i]?=some g.types[i]:=aN e;have hw:aE.wrap ((i:Int)+1)=((i+1:Nat):Int):=cF e (by omega);have E:=fun σ=>KO w0 g.types[i].ty 15 (by decide) (by decide) σ;have h:(g.types.drop i).any (fun x=>decide (dO x.ty 15<0))=(decide (dO g.types[i].ty 15<0)||(g.types.drop (i+1)).any (fun x=>decide (dO x.ty 15<0))):=by rw[gg e,List.any_cons]
  generalize M:g.types[i]=u at*;generalize hd:decide (dO u.ty 15<0)=d at E h;apply bl;simp only[go_sem,r];refine wY ?_;simp only[go_sem,r,bu,G];(refine db (E _) ?_;simp only[go_sem]);cases d
  ·apply bl;simp only[go_sem];refine wN ?_;simp only[go_sem,hw];refine .inv ⟨i+1,⟨e,by rw[<-b,h,tX]⟩,by omega,?_⟩;exact wV
  ·apply bl;simp only[go_sem];refine wY ?_;simp only[go_sem];rw[<-b,h,rT,rT];exact wF c
 have r:¬((i:Int)<(g.types.length:Int)):=by omega
 have J:=fun σ=>Zs w0 p 60 (by decide) (by decide) σ;have L:g.types.any (fun x=>decide (dO x.ty 15<0))=false:=by
  rw[<-b,p7 (by omega)];rfl
 rw[L,tX];apply bl;simp only[go_sem,r];refine wN ?_;simp only[go_sem];(refine db (J _) ?_;simp only[go_sem]);exact wF c
theorem acr{g:Sg}{p:al}(h:oE g p=false):g.types.length<=60/\g.kinds.length<=60/\(∀x∈g.types,aw x.ty<=15)/\bn p<=60:=by
 unfold oE at h;simp only[Bool.or_eq_false_iff,decide_eq_false_iff_not]at h;obtain⟨⟨⟨e,i⟩,b⟩,j⟩:=h;refine⟨by omega,by omega,fun x c=>?_,?_⟩
 ·have:=List.any_eq_false.1 b x c;simp only[decide_eq_true_eq]at this;have:=F4 x.ty 15 (by omega);omega
 ·have:=Jk p 60 (by omega);omega
end
def Pw:AC:=rsq [oA 2 [.ae [],.ae [],.ae []],oK 3 0,oK 4 0] (rsq [.k 10 108 [],oA 5 [.ae [],.ae [],.ae []],.s 3 5 10] (.seq (rsq [.m 11 0,oL 12 11,oK 13 0] (.block 0 (.loop (rsq [oI 14 .lss 13 12] (.seq (.cond 14 .skip (.exit 0)) (.seq (.block 1 (rsq [.m 15 13,oJ 16 16 11 13,.d 17 16 16,oA 7 [zI,.ae [],zI,zI,zC,zI,.ae [],zC,zI,zI,zI,zC,zI,.ae [],zI,zI],.m 6 15,.s 16 7 17] (rsq [.d 19 3 5,.d 20 16 7,.k 21 16 [19,20],.m 18 21,.x 22 18 0,.x 23 18 1,oA 8 [.ae [],.ae [],.ae []],.s 3 8 22,.m 9 23] (.seq (rif [.m 24 9,oI 25 .neq 24 (zK 0)] 25 (rsq [oD 26 [.ae [],.ae [],.ae []] [],.m 27 9,.m 28 6,.s 3 2 26,.m 3 27,.m 4 28] .ret) .skip) (.ax [.d 29 3 8,.s 3 5 29]))))) (.ax [oI 30 .add 13 (zK 1),.m 13 30]))))))) (rsq [.d 31 3 5,.s 3 2 31,oK 3 0,oK 4 0] .ret)))
abbrev Px:List ak:=[.aW 3 2,.tmp 3,.tmp 4]
theorem k57:aq prog 57 1 Tryz.f57 Pw Px:=.auto func57
theorem acu(w0:World)(l:List (List C))(e:l≠[])(g:∀r∈l,r.length=4)(hn:l.length<=1000000)(σ:H):DC prog w0 185 [.c (.sl l)] σ (Same (.vec σ.length l.length) (σ++[.vec 41 4 l.flatten])):=by
 refine DP.cl rfl (fun j p=>?_);have h:l.length*56<=140737488355328:=by omega
 have i:l.length<=140737488355328:=by omega
 apply bl;simp only[go_sem,zL];refine W.lH rfl rfl rfl (fun b t=>?_);cases b
 ·apply bl;simp only[go_sem];refine W.no rfl ?_;refine W.skip (W.seq (W.ax (W.kg rfl rfl (W.kg rfl rfl ?_))));refine W.nN (olds:=[]) (news:=l) rfl rfl rfl rfl ⟨e,(fun r u=>by cases u),g,by simpa using h,by simpa using i⟩ ?_;apply bl;simp only[go_sem,dK];refine W.ret ⟨_,_,rfl,.rfl _,?_⟩;exact⟨rfl,rfl⟩
 ·exact absurd (t rfl) e
noncomputable def Py:dB:=
 (eD 68 E8 (eD 62 Fb (eD 103 Fc (eD 24 Fe (eD 74 Fg (eD 183 Ff
 (eD 15 Fh (eD 121 Fi (eD 67 (Fj 34)
 (eD 203 (oq 60 3) (eD 211 (oq 50 5) (eD 178 (oq 41 4)
 (eD 98 (ot 60 3) (eD 97 (ot 106 2) (eD 81 (pz (wm 50 5) (ot 50 5)) (eD 185 (pz (wm 41 4) (E6 41))
 (eD 181 (wm 34 4) Jn)))))))))))))))))
theorem acv(w0:World):dB.Ok prog w0 Py:=
 (eY (ZC w0) (eY (ZF w0) (eY (ZG w0) (eY (ZH w0) (eY (ZJ w0) (eY (ZI w0)
 (eY (ZK w0) (eY (ZL w0) (eY (ZM w0)
 (eY (Zt w0) (eY (Zu w0) (eY (Zv w0)
 (eY (Zw w0) (eY (Zx w0) (eY (sR (Fl Oq w0) (Zy w0)) (eY (sR (Fl acu w0) (Zz w0))
 (eY (Fl ZE w0) U2)))))))))))))))))
end Go.Proofs.YtdlkenpilhakfaaGreatDoor
namespace Go.Lamb
open Go Go.RowKit
def oG(d:V)(σ:H):Option (V×H)->Bool
 |some (v,b)=>gL v d&&kZ b σ
 |none=>false
theorem rK{d:V}{σ:H}{r:Option (V×H)}(h:oG d σ r=true):r=some (d,σ):=by
 unfold oG at h;split at h
 ·simp only[bM]at h;rw[yH h.1,qB h.2]
 ·cases h
def K.all(w:World):K:={m:=fun b o=>w.cell? ⟨b,o,none⟩,n:=0,pos:=fun _=>0,fr:=fun _=>none,sv:=fun _=>undef,sz:=fun _=>0}
theorem aB.all(w:World):aB w (K.all w) [] w:=⟨rfl,Below.refl _ _,fun _ _ _ h=>h,fun b c=>(by simp at c),fun a b ha=>(by simp at ha),fun l o h=>(by cases h),be _⟩
theorem Mem.Pz{w0 w:World}{κ:K}{σ:H}(h:aB w0 κ σ w):κ.m.le (K.all w).m:=h.mem
theorem DC.still{P:Program}{f:FuncId}{G:World->Prop}(hG:∀w w',G w->Below w.heap.size w w'->G w'){args b:List V}{σ:H}{r:Bool}(hd:∀w,G w->DC P w f b [] (Same (.c (.bool r)) []))(i:∀w0 κ w vs,aB w0 κ σ w->Fits κ args vs->Fits (K.all w) b vs){w0:World}(h0:G w0):DC P w0 f args σ (Same (.c (.bool r)) σ):=by
 refine⟨(hd w0 h0).enters,fun κ w vs g hf=>?_⟩;refine((hd w (hG w0 w h0 g.ext)).run (K.all w) w vs (aB.all w) (i w0 κ w vs g hf)).mono ?_;rintro e w' ⟨v,d,j,κ',rfl,⟨rfl,rfl⟩,u,p,t⟩;refine⟨v,_,σ,κ,rfl,⟨rfl,rfl⟩,K.le_refl κ,g.grow p.ext,?_⟩;cases t with
 |c h=>cases h;exact .c (.bool _)
def AS(σ:H):V->Option (List (List C))
 | .vec b k=>match σ[b]? with
   |some (.vec _ s cs)=>cond (Nat.ble (k*s) cs.length) (some (rowsOf s k cs)) none
   |_=>none
 |v=>v.rows
theorem PA{w0 w:World}{κ:K}{σ:H}{x:V}{v:Value}{r:List (List C)}(c:aB w0 κ σ w)(g:RV κ x v)(h:AS σ x=some r):RC (K.all w).m (.sl r) v:=by
 unfold AS at h;split at h
 ·rename_i b k;split at h
  ·rename_i e s cs i;cases hc:Nat.ble (k*s) cs.length with
   |false=>rw[hc]at h;cases h
   |true=>
    rw[hc]at h;injection h with h;subst h;obtain⟨κ',j,p,t⟩:=aB.jj c i;exact(t k v (Nat.le_of_ble_eq_true hc) (g.mono j)).mono (Mem.Pz p)
  ·cases h
 ·exact(g.lF h).mono (Mem.Pz c)
def wE(a b:List (List C)):List (List aa×List aa)->Bool
 |[]=>false
 |p::l=>cond (lQ b (p.2.map aa.cs)&&lQ a (p.1.map aa.cs)) true (wE a b l)
theorem PB{a b:List (List C)}:∀{l:List (List aa×List aa)},wE a b l=true->∃p∈l,a=p.1.map aa.cs/\b=p.2.map aa.cs
 |[],h=>by cases h
 |p::l,h=>by
  unfold wE at h;cases hc:(lQ b (p.2.map aa.cs)&&lQ a (p.1.map aa.cs))with
  |true=>
   simp only[bM]at hc;exact⟨p,by simp,sK hc.2,sK hc.1⟩
  |false=>
   rw[hc]at h;obtain⟨q,c,e⟩:=PB (l:=l) h;exact⟨q,by simp[c],e⟩
def F5(e:List (List aa×List aa)):List V->H->Option (V×H)
 |[x,y],σ=>match AS σ x with
  |none=>none
  |some a=>match AS σ y with
   |none=>none
   |some b=>cond (wE a b e) (some (.c (.bool true),σ)) none
 |_,_=>none
theorem acw{P:Program}{f:FuncId}{G:World->Prop}(hG:∀w w',G w->Below w.heap.size w w'->G w'){j:List (List aa×List aa)}(hd:∀p∈j,∀w,G w->DC P w f [.c (.sl (p.1.map aa.cs)),.c (.sl (p.2.map aa.cs))] [] (Same (.c (.bool true)) [])){w0:World}(h0:G w0)(g:List V)(σ:H)(v:V)(i:H)(h:F5 j g σ=some (v,i)):DC P w0 f g σ (Same v i):=by
 unfold F5 at h;split at h
 ·split at h
  ·cases h
  ·rename_i a ha;split at h
   ·cases h
   ·rename_i b t;cases hc:wE a b j with
    |false=>rw[hc]at h;cases h
    |true=>
     rw[hc]at h;injection h with h;injection h with A D;subst A D;obtain⟨p,hp,rfl,rfl⟩:=PB hc;refine DC.still hG (hd p hp) (fun w0 κ w vs e hf=>?_) h0;obtain⟨u,ys,rfl,E,hf⟩:=hf.cons_inv;obtain⟨F,zs,rfl,r,hf⟩:=hf.cons_inv;have:=hf.jZ;subst this;exact Fits.cons (.c (PA e E ha)) (Fits.cons (.c (PA e r t)) Fits.nil)
 ·cases h
def oH(b:List V)(σ1:H)(r:V):List V->H->Option (V×H):=fun c σ=>cond (mV c b&&kZ σ σ1) (some (r,σ)) none
theorem rL{P:Program}{w0:World}{f:FuncId}{b:List V}{σ1:H}{r:V}(hd:DC P w0 f b σ1 (Same r σ1))(c:List V)(σ:H)(v:V)(e:H)(h:oH b σ1 r c σ=some (v,e)):DC P w0 f c σ (Same v e):=by
 unfold oH at h;cases hc:(mV c b&&kZ σ σ1)with
 |false=>rw[hc]at h;cases h
 |true=>
  rw[hc]at h;simp only[bM]at hc;have g:=sL hc.1;have i:=qB hc.2;subst g i;injection h with h;injection h with j p;subst j p;exact hd
end Go.Lamb
namespace Go.Proofs.YtdlkenpilhakfaaGreatDoor
open Go.RowKit Go.Lamb
noncomputable def rM(X:XP):List (List aa×List aa)->Bool
 |[]=>true
 |p::l=>Lamb.isTrue (kz X 100000 132 [.c (.sl (p.1.map aa.cs)),.c (.sl (p.2.map aa.cs))] [])&&rM X l
def PC:AC:=rsq [oN 2,oK 3 0,oK 4 0] (.seq (rif [.m 10 0,.o 11 (.lens 10),oI 12 .gtr 11 (zK 65536)] 12 (rsq [oN 2,oK 3 13,oK 4 0] .ret) .skip) (rsq [oN 5] (rsq [.m 13 0,.k 14 109 [13],.m 6 14] (.block 0 (.loop (.seq (.block 1 (rsq [.m 22 0,.m 23 6,.o 24 (.lA 22 (some 23) none),.k 25 110 [24],.m 21 25,.x 26 21 0,.x 27 21 1,.x 28 21 2,oA 7 [zI,zC,zI,zI],.s 4 7 26,.m 8 27,.m 9 28] (.seq (rif [.m 29 9,oI 30 .neq 29 (zK 0)] 30 (rsq [.m 31 9,.m 32 6,oN 2,.m 3 31,.m 4 32] .ret) .skip) (rsq [.m 33 6,.f 34 3 7,.s 1 34 33] (rsq [.m 35 5,.d 36 4 7,oS 37 4 [36],oQ 38 123 4 40 35 37,.m 5 38] (.seq (rif [.f 39 0 7,.l 40 39,oI 41 .eql 40 (zK 0)] 41 (rsq [.m 42 5,.m 2 42,oK 3 0,oK 4 0] .ret) .skip) (.ax [.m 43 6,.m 44 8,oI 45 .add 43 44,.m 6 45]))))))) (.ax [.m 15 6,.m 16 0,.m 17 6,.o 18 (.lA 16 (some 17) none),.k 19 109 [18],oI 20 .add 15 19,.m 6 20])))))))
abbrev PD:List ak:=[.tmp 2,.tmp 3,.tmp 4]
theorem k58:aq prog 58 1 Tryz.f58 PC PD:=.auto func58
def c109:AC:=rsq [oK 2 0] (rsq [.m 4 0,.o 5 (.lens 4),.m 3 5] (.block 0 (.loop (.block 1 (rsq [.m 6 0,.k 7 162 [6,(.k (.c (.str [32,9,10,13])))],.m 0 7] (.seq (rif [.m 8 0,.k 9 163 [8,(.k (.c (.str [37])))],oU 10 .not 9] 10 (rsq [.m 11 3,.m 12 0,.o 13 (.lens 12),oI 14 .sub 11 13,.m 2 14] .ret) .skip) (.ax [.m 16 0,.k 17 164 [16,(.k (.c (.str [10])))],.m 15 17,.x 18 15 0,.x 19 15 1,.x 20 15 2,.m 0 19])))))))
abbrev PE:List ak:=[.tmp 2]
theorem acy:aq prog 109 1 Tryz.f109 c109 PE:=.auto func109
def PF:AC:=rsq [oA 2 [zI,zC,zI,zI],oK 3 0,oK 4 0] (.seq (rif [.m 10 0,oI 11 .eql 10 (.k (zC))] 11 (rsq [oD 12 [zI,zC,zI,zI] [],.s 4 2 12,oK 3 0,oK 4 0] .ret) .skip) (rsq [.m 13 0,.o 14 (.index 13 (zK 0)),.m 5 14] (rsq [oK 6 4,oK 7 1] (.seq (.block 0 (rif [.m 16 5,.k 17 165 [16],oI 18 .neq 17 (zK 0),.m 15 18] 15 (rsq [.m 19 5,.k 20 165 [19],oD 21 [zI,zC,zI,zI] [(0,1,20)],.s 4 2 21,oK 3 1,oK 4 0] .ret) (rif [.m 23 5,.k 24 166 [23],.m 22 24] 22 (rsq [.m 25 0,.k 26 115 [25,(.k (.fn 166 []))],.m 7 26] (rsq [.m 28 0,.m 29 7,.o 30 (.lA 28 none (some 29)),.k 31 167 [30],.m 27 31,.x 32 27 0,.x 33 27 1,.m 8 32,.m 9 33] (.seq (rif [.m 34 9,.o 35 (.lz true 1 34)] 35 (rsq [oD 36 [zI,zC,zI,zI] [],.s 4 2 36,oK 3 0,oK 4 11] .ret) .skip) (rsq [.m 37 8,oD 38 [zI,zC,zI,zI] [(0,1,(zK 3)),(2,1,37)],.m 39 7,.s 4 2 38,.m 3 39,oK 4 0] .ret)))) (rif [.m 41 5,.k 42 114 [41],.m 40 42] 40 (.ax [.m 43 0,.k 44 115 [43,(.k (.fn 116 []))],oK 6 1,.m 7 44]) (rif [.m 46 5,.k 47 168 [46],.m 45 47] 45 (.ax [.m 48 0,.k 49 115 [48,(.k (.fn 116 []))],oK 6 2,.m 7 49]) (rif [.m 51 5,.k 52 147 [51],.m 50 52] 50 (.ax [.m 53 0,.k 54 115 [53,(.k (.fn 147 []))],.m 7 54]) (rif [.m 56 5,.k 57 169 [(.k (.c (.str [44,59,33]))),56],oI 58 .lss 57 (zK 0),.m 55 58] 55 (rsq [oD 59 [zI,zC,zI,zI] [],.s 4 2 59,oK 3 0,oK 4 10] .ret) .skip))))))) (.seq (rif [.m 60 7,oI 61 .gtr 60 (zK 32)] 61 (rsq [oD 62 [zI,zC,zI,zI] [],.s 4 2 62,oK 3 0,oK 4 12] .ret) .skip) (rsq [.m 63 6,.m 64 0,.m 65 7,.o 66 (.lA 64 none (some 65)),oD 67 [zI,zC,zI,zI] [(0,1,63),(1,1,66)],.m 68 7,.s 4 2 67,.m 3 68,oK 4 0] .ret))))))
abbrev PG:List ak:=[.aW 4 2,.tmp 3,.tmp 4]
theorem acz:aq prog 110 1 Tryz.f110 PF PG:=.auto func110
def PH:AC:=rsq [oF 2] (rsq [.m 3 0,.k 4 169 [(.k (.c (.str [43,45,42,47,60,62,61,38,124,94,126,64,35,36,63,58]))),3],oI 5 .geq 4 (zK 0),.m 2 5] .ret)
abbrev PI:List ak:=[.tmp 2]
theorem acA:aq prog 147 1 Tryz.f147 PH PI:=.auto func147
def PJ:AC:=rsq [oF 4] (rsq [.m 5 0,.m 6 1,.k 7 216 [5,6],.m 4 7] .ret)
abbrev PK:List ak:=[.tmp 4]
theorem acB:aq prog 163 2 Tryz.f163 PJ PK:=.auto func163
def PL:AC:=rsq [oK 2 0] (.seq (rsq [.m 3 0] (.block 0 (rif [oI 5 .eql 3 (.k (.c (.int .u8 40))),.m 4 5] 4 (rsq [oK 2 5] .ret) (rif [oI 7 .eql 3 (.k (.c (.int .u8 41))),.m 6 7] 6 (rsq [oK 2 6] .ret) (rif [oI 9 .eql 3 (.k (.c (.int .u8 46))),.m 8 9] 8 (rsq [oK 2 7] .ret) (rif [oI 11 .eql 3 (.k (.c (.int .u8 92))),.m 10 11] 10 (rsq [oK 2 8] .ret) .skip)))))) (rsq [oK 2 0] .ret))
abbrev PM:List ak:=[.tmp 2]
theorem acC:aq prog 165 1 Tryz.f165 PL PM:=.auto func165
def PN:AC:=rsq [oF 2] (rsq [.m 3 0,oI 4 .leq (.k (.c (.int .u8 48))) 3,.m 5 4,yV 6 0 5,yI 7 .leq 6 (.k (.c (.int .u8 57))) 5,oP 8 5 7 zF,.m 2 8] .ret)
abbrev PO:List ak:=[.tmp 2]
theorem acD:aq prog 166 1 Tryz.f166 PN PO:=.auto func166
def c168:AC:=rsq [oF 2] (rsq [.m 3 0,oI 4 .leq (.k (.c (.int .u8 65))) 3,.m 5 4,yV 6 0 5,yI 7 .leq 6 (.k (.c (.int .u8 90))) 5,oP 8 5 7 zF,.m 9 8,yW 10 0 9,yB 11 .eql 10 (.k (.c (.int .u8 95))) 9,oP 12 9 zT 11,.m 2 12] .ret)
abbrev PQ:List ak:=[.tmp 2]
theorem acE:aq prog 168 1 Tryz.f168 c168 PQ:=.auto func168
def PR:AC:=rsq [oF 4] (rsq [.m 5 0,.o 6 (.lens 5),.m 7 1,.o 8 (.lens 7),oI 9 .geq 6 8,.m 10 9,yV 11 0 10,yV 12 1 10,.y 13 (.lens 12) 10,.y 14 (.lA 11 none (some 13)) 10,yV 15 1 10,yI 16 .eql 14 15 10,oP 17 10 16 zF,.m 4 17] .ret)
abbrev PS:List ak:=[.tmp 4]
theorem acF:aq prog 216 2 Tryz.f216 PR PS:=.auto func216
noncomputable def PT:CT:=(.n 144 ⟨Lc,Ld,2,8⟩ (.n 76 ⟨c76,Nn,1,8⟩ (.n 52 ⟨Lj,Lk,1,8⟩ (.n 26 ⟨vP,vQ,3,8⟩ (.n 19 ⟨Pt,Pu,1,8⟩ (.n 16 ⟨Ll,Lm,2,8⟩ (.n 9 ⟨c9,r9,3,8⟩ (.n 6 ⟨c6,r6,0,8⟩ .e .e) .e) (.n 17 ⟨M8,M9,2,8⟩ .e .e)) (.n 23 ⟨nf,Na,1,8⟩ (.n 20 ⟨c20,Kz,2,8⟩ .e .e) (.n 25 ⟨qX,od,2,8⟩ .e .e))) (.n 30 ⟨Em,Nd,1,8⟩ (.n 28 ⟨c28,NV,3,8⟩ (.n 27 ⟨tj,tk,2,8⟩ .e .e) (.n 29 ⟨vR,Nc,2,8⟩ .e .e)) (.n 32 ⟨En,Eo,1,8⟩ (.n 31 ⟨c31,Ng,2,8⟩ .e .e) (.n 33 ⟨vS,Nj,1,8⟩ .e .e)))) (.n 64 ⟨sS,vt,2,8⟩ (.n 58 ⟨PC,PD,1,8⟩ (.n 56 ⟨Kx,Ky,1,8⟩ (.n 54 ⟨Lh,Li,3,8⟩ (.n 53 ⟨c53,Le,2,8⟩ .e .e) .e) (.n 57 ⟨Pw,Px,1,8⟩ .e .e)) (.n 60 ⟨Kk,Kl,1,8⟩ (.n 59 ⟨c59,Kf,3,8⟩ .e .e) (.n 63 ⟨zx,Dn,1,8⟩ .e .e))) (.n 71 ⟨vT,Ae,3,8⟩ (.n 69 ⟨sU,LS,2,8⟩ (.n 66 ⟨Ac,Ad,2,8⟩ .e .e) (.n 70 ⟨c70,pF,2,8⟩ .e .e)) (.n 73 ⟨Dy,Dz,2,8⟩ (.n 72 ⟨c72,Dx,1,8⟩ .e .e) (.n 75 ⟨c75,Nl,2,8⟩ .e .e))))) (.n 115 ⟨LI,LJ,2,8⟩ (.n 106 ⟨LC,LD,0,8⟩ (.n 99 ⟨La,Lb,2,8⟩ (.n 79 ⟨Et,Nq,2,8⟩ (.n 78 ⟨vU,Np,3,8⟩ (.n 77 ⟨pB,L3,1,8⟩ .e .e) .e) (.n 80 ⟨c80,Jp,1,8⟩ .e .e)) (.n 101 ⟨Lf,Lg,3,8⟩ (.n 100 ⟨K5,K6,2,8⟩ .e .e) (.n 104 ⟨Lu,Lv,1,8⟩ .e .e))) (.n 110 ⟨PF,PG,1,8⟩ (.n 108 ⟨Lq,Lr,0,8⟩ (.n 107 ⟨c107,Kw,1,8⟩ .e .e) (.n 109 ⟨c109,PE,1,8⟩ .e .e)) (.n 112 ⟨J4,J5,1,8⟩ (.n 111 ⟨Kd,Ke,3,8⟩ .e .e) (.n 114 ⟨LZ,L0,1,8⟩ .e .e)))) (.n 125 ⟨zG,zH,2,8⟩ (.n 120 ⟨DR,LX,1,8⟩ (.n 117 ⟨c117,sT,2,8⟩ (.n 116 ⟨c116,L1,1,8⟩ .e .e) (.n 118 ⟨DQ,LV,2,8⟩ .e .e)) (.n 123 ⟨tn,Ag,3,8⟩ (.n 122 ⟨vV,Eu,2,8⟩ .e .e) (.n 124 ⟨c124,pA,2,8⟩ .e .e))) (.n 130 ⟨c130,Mn,2,8⟩ (.n 127 ⟨c127,DA,2,8⟩ (.n 126 ⟨Dq,Dr,1,8⟩ .e .e) (.n 129 ⟨zP,Mm,3,8⟩ .e .e)) (.n 132 ⟨zR,Mr,2,8⟩ (.n 131 ⟨c131,Mp,1,8⟩ .e .e) (.n 133 ⟨zS,Ms,2,8⟩ .e .e)))))) (.n 204 ⟨JB,JC,2,8⟩ (.n 170 ⟨Kb,Kc,2,8⟩ (.n 158 ⟨Ku,Kv,1,8⟩ (.n 151 ⟨Ly,Lz,3,8⟩ (.n 147 ⟨PH,PI,1,8⟩ (.n 146 ⟨c146,K4,2,8⟩ (.n 145 ⟨c145,K3,2,8⟩ .e .e) .e) (.n 150 ⟨LA,LB,1,8⟩ .e .e)) (.n 153 ⟨Ki,Kj,0,8⟩ (.n 152 ⟨c152,KA,2,8⟩ .e .e) (.n 155 ⟨Ks,Kt,1,8⟩ .e .e))) (.n 163 ⟨PJ,PK,2,8⟩ (.n 160 ⟨c160,Ol,1,8⟩ (.n 159 ⟨c159,Ln,1,8⟩ .e .e) (.n 161 ⟨Lo,Lp,2,8⟩ .e .e)) (.n 166 ⟨PN,PO,1,8⟩ (.n 165 ⟨PL,PM,1,8⟩ .e .e) (.n 168 ⟨c168,PQ,1,8⟩ .e .e)))) (.n 184 ⟨D6,Mu,2,8⟩ (.n 174 ⟨J8,J9,4,8⟩ (.n 172 ⟨JX,JY,2,8⟩ (.n 171 ⟨c171,JW,2,8⟩ .e .e) (.n 173 ⟨c173,JV,2,8⟩ .e .e)) (.n 180 ⟨zU,Mt,1,8⟩ (.n 176 ⟨J6,J7,4,8⟩ .e .e) (.n 182 ⟨c182,pE,2,8⟩ .e .e))) (.n 189 ⟨s7,s9,3,8⟩ (.n 187 ⟨DW,Me,3,8⟩ (.n 186 ⟨EK,NT,2,8⟩ .e .e) (.n 188 ⟨sZ,Mw,2,8⟩ .e .e)) (.n 191 ⟨zW,Mz,2,8⟩ (.n 190 ⟨D7,Mx,1,8⟩ .e .e) (.n 201 ⟨c201,JQ,2,8⟩ .e .e))))) (.n 236 ⟨c236,MC,2,8⟩ (.n 223 ⟨JZ,J0,1,8⟩ (.n 210 ⟨c210,Ko,3,8⟩ (.n 207 ⟨Km,Kn,3,8⟩ (.n 206 ⟨c206,Kp,2,8⟩ (.n 205 ⟨Kq,Kr,1,8⟩ .e .e) .e) (.n 209 ⟨JK,JL,2,8⟩ .e .e)) (.n 221 ⟨J1,J2,1,8⟩ (.n 216 ⟨PR,PS,2,8⟩ .e .e) (.n 222 ⟨c222,Ka,2,8⟩ .e .e))) (.n 230 ⟨zY,MA,1,8⟩ (.n 225 ⟨JT,JU,3,8⟩ (.n 224 ⟨JR,JS,2,8⟩ .e .e) (.n 227 ⟨c227,zX,3,8⟩ .e .e)) (.n 233 ⟨c233,Mg,4,8⟩ (.n 232 ⟨c232,NR,2,8⟩ .e .e) (.n 235 ⟨vB,DV,3,8⟩ .e .e)))) (.n 261 ⟨tx,NP,2,8⟩ (.n 246 ⟨JM,JN,2,8⟩ (.n 238 ⟨qW,ME,2,8⟩ (.n 237 ⟨Ea,Eb,3,8⟩ .e .e) (.n 245 ⟨JO,JP,2,8⟩ .e .e)) (.n 248 ⟨KB,KC,2,8⟩ (.n 247 ⟨JI,JJ,2,8⟩ .e .e) (.n 259 ⟨zZ,MF,3,8⟩ .e .e))) (.n 271 ⟨JE,JF,3,8⟩ (.n 269 ⟨JG,JH,2,8⟩ (.n 268 ⟨Jw,Jy,1,8⟩ .e .e) (.n 270 ⟨Jz,JA,1,8⟩ .e .e)) (.n 279 ⟨tc,td,4,8⟩ (.n 272 ⟨KE,KF,2,8⟩ .e .e) (.n 288 ⟨Ee,Ef,4,8⟩ .e .e)))))))
theorem F6:CT.Ok prog PT:=⟨⟨_,Wq⟩,⟨⟨_,No⟩,⟨⟨_,Wu⟩,⟨⟨_,Ab⟩,⟨⟨_,k19⟩,⟨⟨_,Wv⟩,⟨⟨_,k9⟩,⟨⟨_,k6⟩,trivial,trivial⟩,trivial⟩,⟨⟨_,Yk⟩,trivial,trivial⟩⟩,⟨⟨_,Nb⟩,⟨⟨_,VH⟩,trivial,trivial⟩,⟨⟨_,vO⟩,trivial,trivial⟩⟩⟩,⟨⟨_,Nf⟩,⟨⟨_,NW⟩,⟨⟨_,Ek⟩,trivial,trivial⟩,⟨⟨_,El⟩,trivial,trivial⟩⟩,⟨⟨_,Ni⟩,⟨⟨_,Nh⟩,trivial,trivial⟩,⟨⟨_,Ep⟩,trivial,trivial⟩⟩⟩⟩,⟨⟨_,zy⟩,⟨⟨_,k58⟩,⟨⟨_,VG⟩,⟨⟨_,Wt⟩,⟨⟨_,Wr⟩,trivial,trivial⟩,trivial⟩,⟨⟨_,k57⟩,trivial,trivial⟩⟩,⟨⟨_,Vy⟩,⟨⟨_,Vw⟩,trivial,trivial⟩,⟨⟨_,Jo⟩,trivial,trivial⟩⟩⟩,⟨⟨_,Af⟩,⟨⟨_,LU⟩,⟨⟨_,Nk⟩,trivial,trivial⟩,⟨⟨_,tl⟩,trivial,trivial⟩⟩,⟨⟨_,KT⟩,⟨⟨_,KR⟩,trivial,trivial⟩,⟨⟨_,Er⟩,trivial,trivial⟩⟩⟩⟩⟩,⟨⟨_,WN⟩,⟨⟨_,WI⟩,⟨⟨_,Wp⟩,⟨⟨_,Ns⟩,⟨⟨_,Es⟩,⟨⟨_,L4⟩,trivial,trivial⟩,trivial⟩,⟨⟨_,Jq⟩,trivial,trivial⟩⟩,⟨⟨_,Ws⟩,⟨⟨_,Wk⟩,trivial,trivial⟩,⟨⟨_,WC⟩,trivial,trivial⟩⟩⟩,⟨⟨_,acz⟩,⟨⟨_,Wy⟩,⟨⟨_,VF⟩,trivial,trivial⟩,⟨⟨_,acy⟩,trivial,trivial⟩⟩,⟨⟨_,Vq⟩,⟨⟨_,Vv⟩,trivial,trivial⟩,⟨⟨_,Xa⟩,trivial,trivial⟩⟩⟩⟩,⟨⟨_,KS⟩,⟨⟨_,LY⟩,⟨⟨_,zz⟩,⟨⟨_,Xb⟩,trivial,trivial⟩,⟨⟨_,LW⟩,trivial,trivial⟩⟩,⟨⟨_,Ah⟩,⟨⟨_,Ev⟩,trivial,trivial⟩,⟨⟨_,Dp⟩,trivial,trivial⟩⟩⟩,⟨⟨_,Mo⟩,⟨⟨_,KU⟩,⟨⟨_,JD⟩,trivial,trivial⟩,⟨⟨_,D1⟩,trivial,trivial⟩⟩,⟨⟨_,D2⟩,⟨⟨_,Mq⟩,trivial,trivial⟩,⟨⟨_,D3⟩,trivial,trivial⟩⟩⟩⟩⟩⟩,⟨⟨_,Vb⟩,⟨⟨_,Vu⟩,⟨⟨_,VE⟩,⟨⟨_,WG⟩,⟨⟨_,acA⟩,⟨⟨_,Wj⟩,⟨⟨_,Wi⟩,trivial,trivial⟩,trivial⟩,⟨⟨_,WH⟩,trivial,trivial⟩⟩,⟨⟨_,Vx⟩,⟨⟨_,VI⟩,trivial,trivial⟩,⟨⟨_,VD⟩,trivial,trivial⟩⟩⟩,⟨⟨_,acB⟩,⟨⟨_,Zn⟩,⟨⟨_,Ww⟩,trivial,trivial⟩,⟨⟨_,Wx⟩,trivial,trivial⟩⟩,⟨⟨_,acD⟩,⟨⟨_,acC⟩,trivial,trivial⟩,⟨⟨_,acE⟩,trivial,trivial⟩⟩⟩⟩,⟨⟨_,Mv⟩,⟨⟨_,Vs⟩,⟨⟨_,Vn⟩,⟨⟨_,Vm⟩,trivial,trivial⟩,⟨⟨_,Vl⟩,trivial,trivial⟩⟩,⟨⟨_,D4⟩,⟨⟨_,Vr⟩,trivial,trivial⟩,⟨⟨_,D5⟩,trivial,trivial⟩⟩⟩,⟨⟨_,zV⟩,⟨⟨_,Mf⟩,⟨⟨_,NU⟩,trivial,trivial⟩,⟨⟨_,vD⟩,trivial,trivial⟩⟩,⟨⟨_,D8⟩,⟨⟨_,My⟩,trivial,trivial⟩,⟨⟨_,Vi⟩,trivial,trivial⟩⟩⟩⟩⟩,⟨⟨_,D9⟩,⟨⟨_,Vo⟩,⟨⟨_,VA⟩,⟨⟨_,Vz⟩,⟨⟨_,VB⟩,⟨⟨_,VC⟩,trivial,trivial⟩,trivial⟩,⟨⟨_,Vf⟩,trivial,trivial⟩⟩,⟨⟨_,Vp⟩,⟨⟨_,acF⟩,trivial,trivial⟩,⟨⟨_,Vt⟩,trivial,trivial⟩⟩⟩,⟨⟨_,MB⟩,⟨⟨_,Vk⟩,⟨⟨_,Vj⟩,trivial,trivial⟩,⟨⟨_,lR⟩,trivial,trivial⟩⟩,⟨⟨_,Mh⟩,⟨⟨_,NS⟩,trivial,trivial⟩,⟨⟨_,Md⟩,trivial,trivial⟩⟩⟩⟩,⟨⟨_,NQ⟩,⟨⟨_,Vg⟩,⟨⟨_,Ec⟩,⟨⟨_,MD⟩,trivial,trivial⟩,⟨⟨_,Vh⟩,trivial,trivial⟩⟩,⟨⟨_,VJ⟩,⟨⟨_,Ve⟩,trivial,trivial⟩,⟨⟨_,Ed⟩,trivial,trivial⟩⟩⟩,⟨⟨_,Vc⟩,⟨⟨_,Vd⟩,⟨⟨_,U9⟩,trivial,trivial⟩,⟨⟨_,Va⟩,trivial,trivial⟩⟩,⟨⟨_,vE⟩,⟨⟨_,VK⟩,trivial,trivial⟩,⟨⟨_,MG⟩,trivial,trivial⟩⟩⟩⟩⟩⟩⟩

end Go.Proofs.YtdlkenpilhakfaaGreatDoor
namespace Go.Proofs.YtdlkenpilhakfaaGreatDoor
open Go.ChangeShapes Go.WideShapes Go.ChangeAt Go.RowKit Go.Lamb
theorem adl{P:Program}{W:World}{name:String}{k:IntKind}{zs:List Int}{g:Nat}{t e:TypeId}{n:Nat}
  (hg:P.globalNamed name=some g) (c:(P.globals[g]?).map (·.type)=some t) (A:P.underlying t=some (.array n e)) (D:P.underlying e=some (.int k)) (i:P.cellsOf e=1) (j:P.cellsOf t=n)
  (h:Lib.VarReads P W name (Lib.tabData k zs)):Lib.TabIs P W name k zs:=by
 obtain⟨E,F,cs,w,p,r,u,b,hd⟩:=h;obtain rfl:=xe (hg.symm.trans r);obtain rfl:=xe (c.symm.trans u);unfold Lib.TabIs;rw[b,<-Lib.cells_of_tab A D i j hd]
theorem Qd{P:Program}{W:World}{name A:String}{d:DataW Unit}{g:Nat}{t:TypeId}{D:Array (String×TypeId)}
  (hg:P.globalNamed name=some g) (r:(P.globals[g]?).map (·.type)=some t) (E:P.underlying t=some (.interface D))
  (h:Lib.VarReads P W name (.iface A d)):∃F p,W.var? P name=some #[.iface F p]:=by
 obtain⟨G,J,cs,c,p,u,w,i,hd⟩:=h;obtain rfl:=xe (hg.symm.trans u);obtain rfl:=xe (r.symm.trans w);cases c with
 |zero=>simp[xy]at hd
 |succ f=>
  simp only[xy,E]at hd;split at hd
  all_goals first
   |(simp at hd;done)
   |skip
  all_goals rename_i j b
  all_goals first
   |(injection j with e;cases e;done)
   |(simp only[i];obtain⟨l⟩:=cs;simp only at b;subst b;exact⟨_,_,rfl⟩)
theorem adm:(prog.globals[5]?).map (·.type)=some 334:=by kernel_rfl
theorem adn:(prog.globals[2]?).map (·.type)=some 215:=by kernel_rfl
theorem ado:(prog.globals[1]?).map (·.type)=some 215:=by kernel_rfl
theorem QS{W:World}{l:List (String×DataW Unit)}(b:laidMet prog l W)(hS:W.ShapedOpen prog)
  (hp:("internal/strconv.uint64pow10",Rows.laid_internal_strconv_uint64pow10)∈l) (c:("strconv.ErrRange",Rows.laid_strconv_ErrRange)∈l) (e:("strconv.ErrSyntax",Rows.laid_strconv_ErrSyntax)∈l):fw W:=
 ⟨cell_of_shapedOpen_int (t:=3) (zero:=#[.int .i64 0]) hS (of_decide_eq_true (by kernel_rfl)) (by kernel_rfl) rfl (by kernel_rfl) (by kernel_rfl) underlying3,
   adl (k:=.u64) (zs:=Lib.pow10Tab) Gk adm underlying334 underlying304 (by kernel_rfl) (by kernel_rfl) (QI b hp),
   Qd Gl ado underlying215 (QI b e),
   Qd Gm adn underlying215 (QI b c)⟩
theorem own:ownKnob prog.godebug=none:=by kernel_rfl
theorem laidOut:laidOutB prog=true:=by kernel_rfl

def AW:List TypeId:=[3,9,4,60,24,58,30,28,27,123,113,121]
def adt:∀t,(AW.contains t)=true->oM prog (fun t=>AW.contains t) t=true:=by
 have h:(AW.all fun t=>oM prog (fun t=>AW.contains t) t)=true:=by kernel_rfl
 intro t b;exact List.all_eq_true.1 h t (by simpa using b)
def Gr{t:TypeId}{k:IntKind}(c:prog.underlying t=some (.int k)){zs:List C}(h:dR prog t zs):∃n,zs=[.int k n]:=by
 cases h with
 |int b n hw=>rw[c]at b;injection b with b;injection b with b;subst b;exact⟨n,rfl⟩
 |bool b|str b|sl b|struct b=>rw[c]at b;injection b with b;cases b
def wU{t:TypeId}(c:prog.underlying t=some .string){zs:List C}(h:dR prog t zs):∃l,zs=[.str l]:=by
 cases h with
 |str b l=>exact⟨l,rfl⟩
 |int b|bool b|sl b|struct b=>rw[c]at b;injection b with b;cases b
def Gs{t e:TypeId}(c:prog.underlying t=some (.slice e)){zs:List C}(h:dR prog t zs):∃rows,zs=[.sl rows]/\∀r∈rows,dR prog e r:=by
 cases h with
 |sl b rows h=>rw[c]at b;injection b with b;injection b with b;subst b;exact⟨rows,rfl,h⟩
 |int b|bool b|str b|struct b=>rw[c]at b;injection b with b;cases b
def AX{t:TypeId}{fs:Array Field}(c:prog.underlying t=some (.struct fs)){zs:List C}(h:dR prog t zs):zs.length=prog.cellsOf t/\∀f∈fs.toList,dR prog f.type ((zs.drop f.offset).take (prog.cellsOf f.type)):=by
 cases h with
 |struct b zs hl h=>rw[c]at b;injection b with b;injection b with b;subst b;exact⟨hl,h⟩
 |int b|bool b|str b|sl b=>rw[c]at b;injection b with b;cases b
def lF{α:Type}{f:α->List C}:∀{rows:List (List C)},(∀r∈rows,∃x,r=f x)->∃l:List α,rows=l.map f
 |[],_=>⟨[],rfl⟩
 |r::rows,h=>by
  obtain⟨x,rfl⟩:=h r (List.mem_cons_self ..);obtain⟨l,rfl⟩:=lF (fun r b=>h r (List.mem_cons_of_mem _ b));exact⟨x::l,rfl⟩
def gT{zs:List C}{i:Nat}{x:C}(h:(zs.drop i).take 1=[x]):zs[i]?=some x:=by
 have:=congrArg (fun l=>l[0]?) h;simpa[List.getElem?_take,List.getElem?_drop]using this
def AY:prog.cellsOf 3=1:=by kernel_rfl
def wW:prog.cellsOf 9=1:=by kernel_rfl
def adu:prog.cellsOf 58=1:=by kernel_rfl
def adw:prog.cellsOf 27=1:=by kernel_rfl
def adx:prog.cellsOf 28=1:=by kernel_rfl
def ady:prog.cellsOf 60=3:=by kernel_rfl
def adz:prog.cellsOf 30=5:=by kernel_rfl
def Qf{zs:List C}{a b c:C}(hl:zs.length=3)(h0:zs[0]?=some a)(e:zs[1]?=some b)(g:zs[2]?=some c):zs=[a,b,c]:=by
 match zs,hl with
 |[x,y,z],_=>simp at h0 e g;subst h0 e g;rfl
def adA{zs:List C}{a b c d:C}(hl:zs.length=4)(h0:zs[0]?=some a)(e:zs[1]?=some b)(g:zs[2]?=some c)(h:zs[3]?=some d):zs=[a,b,c,d]:=by
 match zs,hl with
 |[x,y,z,u],_=>simp at h0 e g h;subst h0 e g h;rfl
def adB{zs:List C}{a b c d e:C}(hl:zs.length=5)(h0:zs[0]?=some a)(g:zs[1]?=some b)(h:zs[2]?=some c)(i:zs[3]?=some d)(j:zs[4]?=some e):zs=[a,b,c,d,e]:=by
 match zs,hl with
 |[x,y,z,u,v],_=>simp at h0 g h i j;subst h0 g h i j;rfl
def adC{t:TypeId}{zs:List C}(h:dR prog t zs):(t=30->∃p:al,zs=p.cs)/\(t=28->∃l:List al,zs=[.sl (l.map al.cs)]):=by
 induction h with
 |sl g rows h i=>
  refine⟨fun e=>?_,fun e=>?_⟩
  ·subst e;rw[underlying30]at g;injection g with g;cases g
  ·subst e;rw[underlying28]at g;injection g with g;injection g with g;subst g;obtain⟨l,rfl⟩:=lF (f:=al.cs) (fun r D=>(i r D).1 rfl);exact⟨l,rfl⟩
 |struct g zs hl h i=>
  refine⟨fun e=>?_,fun e=>?_⟩
  ·subst e;rw[underlying30]at g;injection g with g;injection g with g;subst g;simp only[List.forall_mem_cons,wW,AY,adw,adx,List.not_mem_nil,false_implies,implies_true,and_true]at h i;obtain⟨h0,j,u,_,w⟩:=h;obtain⟨_,_,_,A,_⟩:=i;obtain⟨a,h0⟩:=Gr underlying27 h0;obtain⟨b,j⟩:=wU underlying9 j;obtain⟨c,u⟩:=Gr underlying3 u;obtain⟨d,A⟩:=A.2 trivial;obtain⟨f,w⟩:=Gr underlying3 w;refine⟨.mk a b c d f,?_⟩;rw[al.aG];exact adB (by rw[hl,adz]) (gT h0) (gT j) (gT u) (gT A) (gT w)
  ·subst e;rw[underlying28]at g;injection g with g;cases g
 |bool g|int g|str g=>
  refine⟨fun e=>?_,fun e=>?_⟩
  ·subst e;rw[underlying30]at g;injection g with g;cases g
  ·subst e;rw[underlying28]at g;injection g with g;cases g
section
variable {H:Type} {enc:TypeId×Value->H} {w:World} {base:Nat} {spare:Nat->Bool} {held:Bool} {v:Value} {d:DataW H} {ps:List MemPlace} {r:Reach} {b0:Nat}
def QQ(b:Value.okWide prog w r b0 30 v)(h:DataW.Trod enc prog w base spare held 30 v d ps):∃p:al,RV (K.start w) p.v v:=by
 obtain⟨xs,rfl,_⟩:=okWide_struct underlying30 b;obtain⟨zs,e,c⟩:=Gt adt (by decide) h;obtain⟨p,rfl⟩:=(adC e).1 rfl;refine⟨p,?_⟩;rw[al.aG]at c;exact c

end
def A2:List TypeId:=[3,9,34,32,31]
theorem adS:∀t,(A2.contains t)=true->oM prog (fun t=>A2.contains t) t=true:=by
 have h:(A2.all fun t=>oM prog (fun t=>A2.contains t) t)=true:=by kernel_rfl
 intro t b;exact List.all_eq_true.1 h t (by simpa using b)
theorem wX{t:TypeId}(c:prog.underlying t=some (.int .i64)){zs:List C}(h:dR prog t zs):∃n,zs=[.int .i64 n]/\ig n:=by
 cases h with
 |int b n hw=>
  rw[c]at b;injection b with b;injection b with b;subst b;refine⟨n,rfl,?_⟩;simp only[Lit.wf,Bool.and_eq_true,decide_eq_true_eq]at hw;unfold ig;have e:aE.min=-9223372036854775808:=by decide
  have g:aE.max=9223372036854775807:=by decide
  rw[e,g]at hw;exact hw
 |bool b|str b|sl b|struct b=>rw[c]at b;injection b with b;cases b
theorem adT:prog.cellsOf 31=1:=by kernel_rfl
theorem adU:prog.cellsOf 32=1:=by kernel_rfl
theorem Qi:prog.cellsOf 34=4:=by kernel_rfl
theorem wZ{α:Type}{f:α->List C}{q:α->Prop}:∀{rows:List (List C)},(∀r∈rows,∃x,r=f x/\q x)->∃l:List α,rows=l.map f/\∀x∈l,q x
 |[],_=>⟨[],rfl,fun _ h=>by cases h⟩
 |r::rows,h=>by
  obtain⟨x,rfl,b⟩:=h r (List.mem_cons_self ..);obtain⟨l,rfl,hl⟩:=wZ (fun r c=>h r (List.mem_cons_of_mem _ c));refine⟨x::l,rfl,fun y hy=>?_⟩;rcases List.mem_cons.1 hy with rfl|hy
  ·exact b
  ·exact hl y hy
theorem Qj{t:TypeId}{zs:List C}(h:dR prog t zs):(t=34->∃p:aa,zs=p.cs/\mR p)/\(t=32->∃l:List aa,zs=[aM l]/\∀x∈l,mR x):=by
 induction h with
 |sl g rows h i=>
  refine⟨fun e=>?_,fun e=>?_⟩
  ·subst e;rw[underlying34]at g;injection g with g;cases g
  ·subst e;rw[underlying32]at g;injection g with g;injection g with g;subst g;obtain⟨l,rfl,hl⟩:=wZ (f:=aa.cs) (q:=mR) (fun r A=>(i r A).1 rfl);exact⟨l,rfl,hl⟩
 |struct g zs hl h i=>
  refine⟨fun e=>?_,fun e=>?_⟩
  ·subst e;rw[underlying34]at g;injection g with g;injection g with g;subst g;simp only[List.forall_mem_cons,wW,AY,adT,adU,List.not_mem_nil,false_implies,implies_true,and_true]at h i;obtain⟨h0,j,u,_⟩:=h;obtain⟨_,_,_,w⟩:=i;obtain⟨a,h0,ha⟩:=wX underlying31 h0;obtain⟨b,j⟩:=wU underlying9 j;obtain⟨c,u,hc⟩:=wX underlying3 u;obtain⟨d,w,hd⟩:=w.2 trivial;refine⟨.mk a b c d,?_,.mk ha hc hd⟩;rw[aa.aG];exact adA (by rw[hl,Qi]) (gT h0) (gT j) (gT u) (gT w)
  ·subst e;rw[underlying32]at g;injection g with g;cases g
 |bool g|int g|str g=>
  refine⟨fun e=>?_,fun e=>?_⟩
  ·subst e;rw[underlying34]at g;injection g with g;cases g
  ·subst e;rw[underlying32]at g;injection g with g;cases g
section
variable {H:Type} {enc:TypeId×Value->H} {w:World} {base:Nat} {spare:Nat->Bool} {held:Bool} {v:Value} {d:DataW H} {ps:List MemPlace} {r:Reach} {b0:Nat}
theorem QR(b:Value.okWide prog w r b0 34 v)(h:DataW.Trod enc prog w base spare held 34 v d ps):∃p:aa,RV (K.start w) p.v v/\mR p:=by
 obtain⟨xs,rfl,_⟩:=okWide_struct underlying34 b;obtain⟨zs,e,c⟩:=Gt adS (by decide) h;obtain⟨p,rfl,g⟩:=(Qj e).1 rfl;refine⟨p,?_,g⟩;rw[aa.aG]at c;exact c

end
def AZ:List TypeId:=[3,9,57,34,32,31,60,24,58,30,28,27,106,22,50,23,26,56,62]
def adD:∀t,(AZ.contains t)=true->oM prog (fun t=>AZ.contains t) t=true:=by
 have h:(AZ.all fun t=>oM prog (fun t=>AZ.contains t) t)=true:=by kernel_rfl
 intro t b;exact List.all_eq_true.1 h t (by simpa using b)
structure Qg (s:Sg):Prop where
 k:∀x∈s.kinds,ig x.n
 t:∀x∈s.types,mR x.ty
 o:∀x∈s.ops,ig x.prec/\ig x.fix
def adE:prog.cellsOf 106=2:=by kernel_rfl
def adF:prog.cellsOf 50=5:=by kernel_rfl
def adG:prog.cellsOf 22=1:=by kernel_rfl
def adH:prog.cellsOf 23=1:=by kernel_rfl
def adI:prog.cellsOf 24=1:=by kernel_rfl
def adJ:prog.cellsOf 26=3:=by kernel_rfl
def adK{zs xs:List C}{i n:Nat}(h:(zs.drop i).take n=xs)(j:Nat)(b:j<n):zs[i+j]?=xs[j]?:=by
 have:=congrArg (fun l=>l[j]?) h;simpa[List.getElem?_take,List.getElem?_drop,b]using this
def Qh(m:Nat){zs ys:List C}(hl:zs.length=m)(c:ys.length=m)(h:∀i,i<m->zs[i]?=ys[i]?):zs=ys:=by
 apply List.ext_getElem?;intro i;by_cases b:i<m
 ·exact h i b
 ·rw[rV (by omega),rV (by omega)]
def adL{zs:List C}(h:dR prog 60 zs):∃o:eO,zs=o.cs/\ig o.prec/\ig o.fix:=by
 obtain⟨hl,hf⟩:=AX underlying60 h;simp only[tY,wW,AY,adu,iZ,false_implies,implies_true,and_true]at hf;obtain⟨h0,e,g⟩:=hf;obtain⟨a,h0⟩:=wU underlying9 h0;obtain⟨b,e,i⟩:=wX underlying3 e;obtain⟨c,g,hc⟩:=wX underlying58 g;exact⟨⟨a,b,c⟩,Qf (by rw[hl,ady]) (gT h0) (gT e) (gT g),i,hc⟩
def adM{zs:List C}(h:dR prog 24 zs):∃l:List eO,zs=[mP l]/\∀x∈l,ig x.prec/\ig x.fix:=by
 obtain⟨rows,rfl,b⟩:=Gs underlying24 h;obtain⟨l,rfl,c⟩:=wZ (f:=eO.cs) (q:=fun x=>ig x.prec/\ig x.fix) (fun r e=>adL (b r e));exact⟨l,rfl,c⟩
def adN{zs:List C}(h:dR prog 106 zs):∃o:ep,zs=o.cs/\ig o.n:=by
 obtain⟨hl,hf⟩:=AX underlying106 h;simp only[tY,wW,AY,iZ,false_implies,implies_true,and_true]at hf;obtain⟨h0,c⟩:=hf;obtain⟨a,h0⟩:=wU underlying9 h0;obtain⟨b,c,e⟩:=wX underlying3 c;have g:=gT h0;have j:=gT c;refine⟨⟨a,b⟩,Qh 2 (by rw[hl,adE]) rfl fun i p=>?_,e⟩
 match i,p with
 |0,_=>exact g
 |1,_=>exact j
def adO{zs:List C}(h:dR prog 22 zs):∃l:List ep,zs=[jL l]/\∀x∈l,ig x.n:=by
 obtain⟨rows,rfl,b⟩:=Gs underlying22 h;obtain⟨l,rfl,c⟩:=wZ (f:=ep.cs) (q:=fun x=>ig x.n) (fun r e=>adN (b r e));exact⟨l,rfl,c⟩
def adP{zs:List C}(h:dR prog 50 zs):∃o:av,zs=o.cs/\mR o.ty:=by
 obtain⟨hl,hf⟩:=AX underlying50 h;simp only[tY,wW,Qi,iZ,false_implies,implies_true,and_true]at hf;obtain⟨h0,b⟩:=hf;obtain⟨a,h0⟩:=wU underlying9 h0;obtain⟨p,b,hp⟩:=(Qj b).1 rfl;rw[aa.aG]at b;have e:=gT h0;have c:=adK b;refine⟨⟨a,p⟩,Qh 5 (by rw[hl,adF]) rfl fun i g=>?_,hp⟩
 match i,g with
 |0,_=>exact e
 |1,_=>exact c 0 (by decide)
 |2,_=>exact c 1 (by decide)
 |3,_=>exact c 2 (by decide)
 |4,_=>exact c 3 (by decide)
def adQ{zs:List C}(h:dR prog 23 zs):∃l:List av,zs=[fy l]/\∀x∈l,mR x.ty:=by
 obtain⟨rows,rfl,b⟩:=Gs underlying23 h;obtain⟨l,rfl,c⟩:=wZ (f:=av.cs) (q:=fun x=>mR x.ty) (fun r e=>adP (b r e));exact⟨l,rfl,c⟩
def adR{zs:List C}(h:dR prog 26 zs):∃s:Sg,zs=[jL s.kinds,fy s.types,mP s.ops]/\Qg s:=by
 obtain⟨hl,hf⟩:=AX underlying26 h;simp only[tY,adG,adH,adI,iZ,false_implies,implies_true,and_true]at hf;obtain⟨h0,e,g⟩:=hf;obtain⟨a,h0,ha⟩:=adO h0;obtain⟨b,e,i⟩:=adQ e;obtain⟨c,g,hc⟩:=adM g;exact⟨⟨a,b,c⟩,Qf (by rw[hl,adJ]) (gT h0) (gT e) (gT g),ha,i,hc⟩
section
variable {H:Type} {enc:TypeId×Value->H} {w:World} {base:Nat} {spare:Nat->Bool} {held:Bool} {v:Value} {d:DataW H} {ps:List MemPlace} {r:Reach} {b0:Nat}
def QP(b:Value.okWide prog w r b0 26 v)(h:DataW.Trod enc prog w base spare held 26 v d ps):∃s:Sg,RV (K.start w) s.v v/\Qg s:=by
 obtain⟨xs,rfl,_⟩:=okWide_struct underlying26 b;obtain⟨zs,c,e⟩:=Gt adD (by decide) h;obtain⟨s,rfl,g⟩:=adR c;exact⟨s,e,g⟩

end
end Go.Proofs.YtdlkenpilhakfaaGreatDoor
namespace Go.Lamb
open Go Go.RowKit
def gR:V:=.c (.sl [[.str [111],.int .i64 (0)],[.str [105,110,116],.int .i64 (0)]])
def gS:V:=.c (.sl [[.str [58,45],.int .i64 (2),.str [],.int .i64 (0),.sl [[.int .i64 (0),.str [111],.int .i64 (0),.sl []],[.int .i64 (2),.str [],.int .i64 (0),.sl [[.int .i64 (0),.str [111],.int .i64 (0),.sl []],[.int .i64 (0),.str [111],.int .i64 (0),.sl []]]]]],[.str [44],.int .i64 (2),.str [],.int .i64 (0),.sl [[.int .i64 (0),.str [111],.int .i64 (0),.sl []],[.int .i64 (2),.str [],.int .i64 (0),.sl [[.int .i64 (0),.str [111],.int .i64 (0),.sl []],[.int .i64 (0),.str [111],.int .i64 (0),.sl []]]]]],[.str [59],.int .i64 (2),.str [],.int .i64 (0),.sl [[.int .i64 (0),.str [111],.int .i64 (0),.sl []],[.int .i64 (2),.str [],.int .i64 (0),.sl [[.int .i64 (0),.str [111],.int .i64 (0),.sl []],[.int .i64 (0),.str [111],.int .i64 (0),.sl []]]]]],[.str [61,62],.int .i64 (2),.str [],.int .i64 (0),.sl [[.int .i64 (0),.str [111],.int .i64 (0),.sl []],[.int .i64 (2),.str [],.int .i64 (0),.sl [[.int .i64 (0),.str [111],.int .i64 (0),.sl []],[.int .i64 (0),.str [111],.int .i64 (0),.sl []]]]]],[.str [61],.int .i64 (2),.str [],.int .i64 (0),.sl [[.int .i64 (1),.str [],.int .i64 (0),.sl []],[.int .i64 (2),.str [],.int .i64 (0),.sl [[.int .i64 (1),.str [],.int .i64 (0),.sl []],[.int .i64 (0),.str [111],.int .i64 (0),.sl []]]]]],[.str [105,115],.int .i64 (2),.str [],.int .i64 (0),.sl [[.int .i64 (0),.str [105,110,116],.int .i64 (0),.sl []],[.int .i64 (2),.str [],.int .i64 (0),.sl [[.int .i64 (0),.str [105,110,116],.int .i64 (0),.sl []],[.int .i64 (0),.str [111],.int .i64 (0),.sl []]]]]],[.str [60],.int .i64 (2),.str [],.int .i64 (0),.sl [[.int .i64 (0),.str [105,110,116],.int .i64 (0),.sl []],[.int .i64 (2),.str [],.int .i64 (0),.sl [[.int .i64 (0),.str [105,110,116],.int .i64 (0),.sl []],[.int .i64 (0),.str [111],.int .i64 (0),.sl []]]]]],[.str [61,60],.int .i64 (2),.str [],.int .i64 (0),.sl [[.int .i64 (0),.str [105,110,116],.int .i64 (0),.sl []],[.int .i64 (2),.str [],.int .i64 (0),.sl [[.int .i64 (0),.str [105,110,116],.int .i64 (0),.sl []],[.int .i64 (0),.str [111],.int .i64 (0),.sl []]]]]],[.str [62],.int .i64 (2),.str [],.int .i64 (0),.sl [[.int .i64 (0),.str [105,110,116],.int .i64 (0),.sl []],[.int .i64 (2),.str [],.int .i64 (0),.sl [[.int .i64 (0),.str [105,110,116],.int .i64 (0),.sl []],[.int .i64 (0),.str [111],.int .i64 (0),.sl []]]]]],[.str [62,61],.int .i64 (2),.str [],.int .i64 (0),.sl [[.int .i64 (0),.str [105,110,116],.int .i64 (0),.sl []],[.int .i64 (2),.str [],.int .i64 (0),.sl [[.int .i64 (0),.str [105,110,116],.int .i64 (0),.sl []],[.int .i64 (0),.str [111],.int .i64 (0),.sl []]]]]],[.str [43],.int .i64 (2),.str [],.int .i64 (0),.sl [[.int .i64 (0),.str [105,110,116],.int .i64 (0),.sl []],[.int .i64 (2),.str [],.int .i64 (0),.sl [[.int .i64 (0),.str [105,110,116],.int .i64 (0),.sl []],[.int .i64 (0),.str [105,110,116],.int .i64 (0),.sl []]]]]],[.str [45],.int .i64 (2),.str [],.int .i64 (0),.sl [[.int .i64 (0),.str [105,110,116],.int .i64 (0),.sl []],[.int .i64 (2),.str [],.int .i64 (0),.sl [[.int .i64 (0),.str [105,110,116],.int .i64 (0),.sl []],[.int .i64 (0),.str [105,110,116],.int .i64 (0),.sl []]]]]],[.str [42],.int .i64 (2),.str [],.int .i64 (0),.sl [[.int .i64 (0),.str [105,110,116],.int .i64 (0),.sl []],[.int .i64 (2),.str [],.int .i64 (0),.sl [[.int .i64 (0),.str [105,110,116],.int .i64 (0),.sl []],[.int .i64 (0),.str [105,110,116],.int .i64 (0),.sl []]]]]],[.str [100,105,118],.int .i64 (2),.str [],.int .i64 (0),.sl [[.int .i64 (0),.str [105,110,116],.int .i64 (0),.sl []],[.int .i64 (2),.str [],.int .i64 (0),.sl [[.int .i64 (0),.str [105,110,116],.int .i64 (0),.sl []],[.int .i64 (0),.str [105,110,116],.int .i64 (0),.sl []]]]]],[.str [109,111,100],.int .i64 (2),.str [],.int .i64 (0),.sl [[.int .i64 (0),.str [105,110,116],.int .i64 (0),.sl []],[.int .i64 (2),.str [],.int .i64 (0),.sl [[.int .i64 (0),.str [105,110,116],.int .i64 (0),.sl []],[.int .i64 (0),.str [105,110,116],.int .i64 (0),.sl []]]]]],[.str [126],.int .i64 (2),.str [],.int .i64 (0),.sl [[.int .i64 (0),.str [105,110,116],.int .i64 (0),.sl []],[.int .i64 (0),.str [105,110,116],.int .i64 (0),.sl []]]],[.str [116,114,117,101],.int .i64 (0),.str [111],.int .i64 (0),.sl []],[.str [102,97,105,108],.int .i64 (0),.str [111],.int .i64 (0),.sl []],[.str [33],.int .i64 (0),.str [111],.int .i64 (0),.sl []],[.str [112,105],.int .i64 (2),.str [],.int .i64 (0),.sl [[.int .i64 (2),.str [],.int .i64 (0),.sl [[.int .i64 (1),.str [],.int .i64 (0),.sl []],[.int .i64 (0),.str [111],.int .i64 (0),.sl []]]],[.int .i64 (0),.str [111],.int .i64 (0),.sl []]]],[.str [115,105,103,109,97],.int .i64 (2),.str [],.int .i64 (0),.sl [[.int .i64 (2),.str [],.int .i64 (0),.sl [[.int .i64 (1),.str [],.int .i64 (0),.sl []],[.int .i64 (0),.str [111],.int .i64 (0),.sl []]]],[.int .i64 (0),.str [111],.int .i64 (0),.sl []]]],[.str [102],.int .i64 (2),.str [],.int .i64 (0),.sl [[.int .i64 (0),.str [105,110,116],.int .i64 (0),.sl []],[.int .i64 (0),.str [111],.int .i64 (0),.sl []]]]])
def eg:V:=.c (.sl [[.str [58,45],.int .i64 (10),.int .i64 (0)],[.str [59],.int .i64 (20),.int .i64 (2)],[.str [44],.int .i64 (30),.int .i64 (2)],[.str [61,62],.int .i64 (40),.int .i64 (2)],[.str [61],.int .i64 (60),.int .i64 (0)],[.str [105,115],.int .i64 (60),.int .i64 (0)],[.str [60],.int .i64 (60),.int .i64 (0)],[.str [61,60],.int .i64 (60),.int .i64 (0)],[.str [62],.int .i64 (60),.int .i64 (0)],[.str [62,61],.int .i64 (60),.int .i64 (0)],[.str [43],.int .i64 (80),.int .i64 (1)],[.str [45],.int .i64 (80),.int .i64 (1)],[.str [42],.int .i64 (90),.int .i64 (1)],[.str [100,105,118],.int .i64 (90),.int .i64 (1)],[.str [109,111,100],.int .i64 (90),.int .i64 (1)]])
def F7:List UInt8:=[116,121,112,101,32,102,32,105,110,116,32,45,62,32,111,46]
def F8:List UInt8:=[112,105,32,120,92,32,102,32,120]
def F9:List UInt8:=[102,32,102]
def Ga:List UInt8:=[88,32,61,32,89,32,44,32,102,32,88]
def tM:V:=.agg [.c (.int .i64 (3)),.c (.str []),.c (.int .i64 (0)),.ae [[.int .i64 (0),.str [112,105],.int .i64 (0),.sl [],.int .i64 (0)],[.int .i64 (4),.str [120],.int .i64 (0),.sl [[.int .i64 (3),.str [],.int .i64 (0),.sl [[.int .i64 (0),.str [102],.int .i64 (0),.sl [],.int .i64 (6)],[.int .i64 (0),.str [120],.int .i64 (0),.sl [],.int .i64 (8)]],.int .i64 (6)]],.int .i64 (3)]],.c (.int .i64 (0))]
def tN:V:=.agg [.c (.int .i64 (3)),.c (.str []),.c (.int .i64 (0)),.ae [[.int .i64 (0),.str [102],.int .i64 (0),.sl [],.int .i64 (0)],[.int .i64 (0),.str [102],.int .i64 (0),.sl [],.int .i64 (2)]],.c (.int .i64 (0))]
def tO:V:=.agg [.c (.int .i64 (3)),.c (.str []),.c (.int .i64 (0)),.ae [[.int .i64 (3),.str [],.int .i64 (0),.sl [[.int .i64 (0),.str [44],.int .i64 (0),.sl [],.int .i64 (6)],[.int .i64 (3),.str [],.int .i64 (0),.sl [[.int .i64 (3),.str [],.int .i64 (0),.sl [[.int .i64 (0),.str [61],.int .i64 (0),.sl [],.int .i64 (2)],[.int .i64 (1),.str [88],.int .i64 (0),.sl [],.int .i64 (0)]],.int .i64 (2)],[.int .i64 (1),.str [89],.int .i64 (0),.sl [],.int .i64 (4)]],.int .i64 (2)]],.int .i64 (6)],[.int .i64 (3),.str [],.int .i64 (0),.sl [[.int .i64 (0),.str [102],.int .i64 (0),.sl [],.int .i64 (8)],[.int .i64 (1),.str [88],.int .i64 (0),.sl [],.int .i64 (10)]],.int .i64 (8)]],.c (.int .i64 (6))]
def Gb:V:=.au [.agg [.c (.int .i64 (6)),.c (.str []),.c (.int .i64 (0)),.c (.sl [[.int .i64 (0),.str [112,105],.int .i64 (0),.sl []],[.int .i64 (0),.str [102],.int .i64 (0),.sl []]])],.c (.sl []),.c (.int .i64 (0)),.c (.int .i64 (0))]
def Gc:V:=.au [.agg [.c (.int .i64 (0)),.c (.str []),.c (.int .i64 (0)),.ae []],.ae [],.c (.int .i64 (121)),.c (.int .i64 (0))]
def Gd:V:=.au [.agg [.c (.int .i64 (6)),.c (.str []),.c (.int .i64 (0)),.c (.sl [[.int .i64 (0),.str [44],.int .i64 (0),.sl []],[.int .i64 (6),.str [],.int .i64 (0),.sl [[.int .i64 (0),.str [61],.int .i64 (0),.sl []],[.int .i64 (4),.str [],.int .i64 (0),.sl []],[.int .i64 (4),.str [],.int .i64 (1),.sl []]]],[.int .i64 (6),.str [],.int .i64 (0),.sl [[.int .i64 (0),.str [102],.int .i64 (0),.sl []],[.int .i64 (4),.str [],.int .i64 (0),.sl []]]]])],.c (.sl [[.str [88],.int .i64 (0),.str [105,110,116],.int .i64 (0),.sl []],[.str [89],.int .i64 (0),.str [105,110,116],.int .i64 (0),.sl []]]),.c (.int .i64 (0)),.c (.int .i64 (0))]
def wG:H:=[.cells [gR,gS,eg] none]
def wH:H:=[.cells [gR,gS,eg] none,.cells [.c (.int .i64 (3)),.c (.str []),.c (.int .i64 (0)),.ae [[.int .i64 (0),.str [112,105],.int .i64 (0),.sl [],.int .i64 (0)],[.int .i64 (4),.str [120],.int .i64 (0),.sl [[.int .i64 (3),.str [],.int .i64 (0),.sl [[.int .i64 (0),.str [102],.int .i64 (0),.sl [],.int .i64 (6)],[.int .i64 (0),.str [120],.int .i64 (0),.sl [],.int .i64 (8)]],.int .i64 (6)]],.int .i64 (3)]],.c (.int .i64 (0))] none,.cells [.c (.int .i64 (6)),.c (.str []),.c (.int .i64 (0)),.c (.sl [[.int .i64 (0),.str [112,105],.int .i64 (0),.sl []],[.int .i64 (0),.str [102],.int .i64 (0),.sl []]])] none]
def wI:H:=[.cells [gR,gS,eg] none,.cells [.c (.int .i64 (3)),.c (.str []),.c (.int .i64 (0)),.ae [[.int .i64 (0),.str [112,105],.int .i64 (0),.sl [],.int .i64 (0)],[.int .i64 (4),.str [120],.int .i64 (0),.sl [[.int .i64 (3),.str [],.int .i64 (0),.sl [[.int .i64 (0),.str [102],.int .i64 (0),.sl [],.int .i64 (6)],[.int .i64 (0),.str [120],.int .i64 (0),.sl [],.int .i64 (8)]],.int .i64 (6)]],.int .i64 (3)]],.c (.int .i64 (0))] none,.cells [.c (.int .i64 (6)),.c (.str []),.c (.int .i64 (0)),.c (.sl [[.int .i64 (0),.str [112,105],.int .i64 (0),.sl []],[.int .i64 (0),.str [102],.int .i64 (0),.sl []]])] none,.cells [.c (.int .i64 (3)),.c (.str []),.c (.int .i64 (0)),.ae [[.int .i64 (0),.str [102],.int .i64 (0),.sl [],.int .i64 (0)],[.int .i64 (0),.str [102],.int .i64 (0),.sl [],.int .i64 (2)]],.c (.int .i64 (0))] none,.cells [.c (.int .i64 (0)),.c (.str []),.c (.int .i64 (0)),.ae []] none]
def wJ:H:=[.cells [gR,gS,eg] none,.cells [.c (.int .i64 (3)),.c (.str []),.c (.int .i64 (0)),.ae [[.int .i64 (0),.str [112,105],.int .i64 (0),.sl [],.int .i64 (0)],[.int .i64 (4),.str [120],.int .i64 (0),.sl [[.int .i64 (3),.str [],.int .i64 (0),.sl [[.int .i64 (0),.str [102],.int .i64 (0),.sl [],.int .i64 (6)],[.int .i64 (0),.str [120],.int .i64 (0),.sl [],.int .i64 (8)]],.int .i64 (6)]],.int .i64 (3)]],.c (.int .i64 (0))] none]
def wK:H:=[.cells [gR,gS,eg] none,.cells [.c (.int .i64 (3)),.c (.str []),.c (.int .i64 (0)),.ae [[.int .i64 (0),.str [112,105],.int .i64 (0),.sl [],.int .i64 (0)],[.int .i64 (4),.str [120],.int .i64 (0),.sl [[.int .i64 (3),.str [],.int .i64 (0),.sl [[.int .i64 (0),.str [102],.int .i64 (0),.sl [],.int .i64 (6)],[.int .i64 (0),.str [120],.int .i64 (0),.sl [],.int .i64 (8)]],.int .i64 (6)]],.int .i64 (3)]],.c (.int .i64 (0))] none,.cells [.c (.int .i64 (6)),.c (.str []),.c (.int .i64 (0)),.c (.sl [[.int .i64 (0),.str [112,105],.int .i64 (0),.sl []],[.int .i64 (0),.str [102],.int .i64 (0),.sl []]])] none,.cells [.c (.int .i64 (3)),.c (.str []),.c (.int .i64 (0)),.ae [[.int .i64 (0),.str [102],.int .i64 (0),.sl [],.int .i64 (0)],[.int .i64 (0),.str [102],.int .i64 (0),.sl [],.int .i64 (2)]],.c (.int .i64 (0))] none]
def wL:H:=[.cells [gR,gS,eg] none,.cells [.c (.int .i64 (3)),.c (.str []),.c (.int .i64 (0)),.ae [[.int .i64 (0),.str [112,105],.int .i64 (0),.sl [],.int .i64 (0)],[.int .i64 (4),.str [120],.int .i64 (0),.sl [[.int .i64 (3),.str [],.int .i64 (0),.sl [[.int .i64 (0),.str [102],.int .i64 (0),.sl [],.int .i64 (6)],[.int .i64 (0),.str [120],.int .i64 (0),.sl [],.int .i64 (8)]],.int .i64 (6)]],.int .i64 (3)]],.c (.int .i64 (0))] none,.cells [.c (.int .i64 (6)),.c (.str []),.c (.int .i64 (0)),.c (.sl [[.int .i64 (0),.str [112,105],.int .i64 (0),.sl []],[.int .i64 (0),.str [102],.int .i64 (0),.sl []]])] none,.cells [.c (.int .i64 (3)),.c (.str []),.c (.int .i64 (0)),.ae [[.int .i64 (0),.str [102],.int .i64 (0),.sl [],.int .i64 (0)],[.int .i64 (0),.str [102],.int .i64 (0),.sl [],.int .i64 (2)]],.c (.int .i64 (0))] none,.cells [.c (.int .i64 (0)),.c (.str []),.c (.int .i64 (0)),.ae []] none,.cells [.c (.int .i64 (3)),.c (.str []),.c (.int .i64 (0)),.ae [[.int .i64 (3),.str [],.int .i64 (0),.sl [[.int .i64 (0),.str [44],.int .i64 (0),.sl [],.int .i64 (6)],[.int .i64 (3),.str [],.int .i64 (0),.sl [[.int .i64 (3),.str [],.int .i64 (0),.sl [[.int .i64 (0),.str [61],.int .i64 (0),.sl [],.int .i64 (2)],[.int .i64 (1),.str [88],.int .i64 (0),.sl [],.int .i64 (0)]],.int .i64 (2)],[.int .i64 (1),.str [89],.int .i64 (0),.sl [],.int .i64 (4)]],.int .i64 (2)]],.int .i64 (6)],[.int .i64 (3),.str [],.int .i64 (0),.sl [[.int .i64 (0),.str [102],.int .i64 (0),.sl [],.int .i64 (8)],[.int .i64 (1),.str [88],.int .i64 (0),.sl [],.int .i64 (10)]],.int .i64 (8)]],.c (.int .i64 (6))] none]
def PU:List (List aa×List aa):=[([.mk 1 [] 0 [],.mk 1 [] 1 [],.mk 1 [] 2 []],[.mk 2 [] 0 [.mk 0 [105,110,116] 0 [],.mk 0 [111] 0 []]]),
 ([.mk 1 [] 0 [],.mk 1 [] 1 [],.mk 1 [] 2 []],[.mk 2 [] 0 [.mk 1 [] 1 [],.mk 1 [] 2 []]]),
 ([.mk 1 [] 0 [],.mk 0 [105,110,116] 0 [],.mk 0 [111] 0 [],.mk 1 [] 3 []],[.mk 2 [] 0 [.mk 2 [] 0 [.mk 1 [] 0 [],.mk 0 [111] 0 []],.mk 0 [111] 0 []]]),
 ([.mk 1 [] 0 [],.mk 0 [105,110,116] 0 [],.mk 0 [111] 0 [],.mk 1 [] 3 []],[.mk 2 [] 0 [.mk 2 [] 0 [.mk 1 [] 1 [],.mk 1 [] 2 []],.mk 1 [] 3 []]]),
 ([.mk 0 [105,110,116] 0 [],.mk 0 [105,110,116] 0 [],.mk 0 [111] 0 [],.mk 0 [111] 0 []],[.mk 1 [] 3 []]),
 ([.mk 0 [105,110,116] 0 [],.mk 0 [105,110,116] 0 [],.mk 0 [111] 0 [],.mk 0 [111] 0 []],[.mk 0 [111] 0 []])]
def PV:List (List aa×List aa):=[([.mk 1 [] 0 []],[.mk 2 [] 0 [.mk 0 [105,110,116] 0 [],.mk 0 [111] 0 []]]),
 ([.mk 1 [] 0 []],[.mk 2 [] 0 [.mk 2 [] 0 [.mk 0 [105,110,116] 0 [],.mk 0 [111] 0 []],.mk 1 [] 0 []]])]
def PW:List (List aa×List aa):=[([.mk 1 [] 0 [],.mk 1 [] 1 [],.mk 1 [] 2 []],[.mk 2 [] 0 [.mk 1 [] 0 [],.mk 2 [] 0 [.mk 1 [] 0 [],.mk 0 [111] 0 []]]]),
 ([.mk 1 [] 0 [],.mk 1 [] 1 [],.mk 1 [] 2 []],[.mk 2 [] 0 [.mk 1 [] 1 [],.mk 1 [] 2 []]]),
 ([.mk 1 [] 0 [],.mk 1 [] 0 [],.mk 2 [] 0 [.mk 1 [] 0 [],.mk 0 [111] 0 []],.mk 1 [] 3 [],.mk 1 [] 4 []],[.mk 1 [] 2 []]),
 ([.mk 1 [] 0 [],.mk 1 [] 0 [],.mk 2 [] 0 [.mk 1 [] 0 [],.mk 0 [111] 0 []],.mk 1 [] 3 [],.mk 1 [] 4 []],[.mk 2 [] 0 [.mk 1 [] 3 [],.mk 1 [] 4 []]]),
 ([.mk 1 [] 0 [],.mk 1 [] 0 [],.mk 2 [] 0 [.mk 1 [] 0 [],.mk 0 [111] 0 []],.mk 1 [] 0 [],.mk 0 [111] 0 [],.mk 1 [] 5 []],[.mk 2 [] 0 [.mk 0 [111] 0 [],.mk 2 [] 0 [.mk 0 [111] 0 [],.mk 0 [111] 0 []]]]),
 ([.mk 1 [] 0 [],.mk 1 [] 0 [],.mk 2 [] 0 [.mk 1 [] 0 [],.mk 0 [111] 0 []],.mk 1 [] 0 [],.mk 0 [111] 0 [],.mk 1 [] 5 []],[.mk 2 [] 0 [.mk 1 [] 4 [],.mk 1 [] 5 []]]),
 ([.mk 1 [] 0 [],.mk 1 [] 0 [],.mk 2 [] 0 [.mk 1 [] 0 [],.mk 0 [111] 0 []],.mk 1 [] 0 [],.mk 0 [111] 0 [],.mk 2 [] 0 [.mk 0 [111] 0 [],.mk 0 [111] 0 []],.mk 1 [] 6 []],[.mk 2 [] 0 [.mk 0 [105,110,116] 0 [],.mk 0 [111] 0 []]]),
 ([.mk 1 [] 0 [],.mk 1 [] 0 [],.mk 2 [] 0 [.mk 1 [] 0 [],.mk 0 [111] 0 []],.mk 1 [] 0 [],.mk 0 [111] 0 [],.mk 2 [] 0 [.mk 0 [111] 0 [],.mk 0 [111] 0 []],.mk 1 [] 6 []],[.mk 2 [] 0 [.mk 1 [] 1 [],.mk 1 [] 6 []]]),
 ([.mk 0 [105,110,116] 0 [],.mk 1 [] 0 [],.mk 2 [] 0 [.mk 1 [] 0 [],.mk 0 [111] 0 []],.mk 1 [] 0 [],.mk 0 [111] 0 [],.mk 2 [] 0 [.mk 0 [111] 0 [],.mk 0 [111] 0 []],.mk 0 [111] 0 [],.mk 1 [] 7 []],[.mk 1 [] 5 []]),
 ([.mk 0 [105,110,116] 0 [],.mk 1 [] 0 [],.mk 2 [] 0 [.mk 1 [] 0 [],.mk 0 [111] 0 []],.mk 1 [] 0 [],.mk 0 [111] 0 [],.mk 2 [] 0 [.mk 0 [111] 0 [],.mk 0 [111] 0 []],.mk 0 [111] 0 [],.mk 1 [] 7 []],[.mk 2 [] 0 [.mk 1 [] 6 [],.mk 1 [] 7 []]]),
 ([.mk 0 [105,110,116] 0 [],.mk 1 [] 0 [],.mk 2 [] 0 [.mk 1 [] 0 [],.mk 0 [111] 0 []],.mk 1 [] 0 [],.mk 0 [111] 0 [],.mk 2 [] 0 [.mk 0 [111] 0 [],.mk 0 [111] 0 []],.mk 0 [111] 0 [],.mk 0 [111] 0 []],[.mk 1 [] 7 []]),
 ([.mk 0 [105,110,116] 0 [],.mk 1 [] 0 [],.mk 2 [] 0 [.mk 1 [] 0 [],.mk 0 [111] 0 []],.mk 1 [] 0 [],.mk 0 [111] 0 [],.mk 2 [] 0 [.mk 0 [111] 0 [],.mk 0 [111] 0 []],.mk 0 [111] 0 [],.mk 0 [111] 0 []],[.mk 0 [111] 0 []]),
 ([.mk 0 [105,110,116] 0 [],.mk 1 [] 0 [],.mk 2 [] 0 [.mk 1 [] 0 [],.mk 0 [111] 0 []],.mk 1 [] 0 [],.mk 0 [111] 0 [],.mk 2 [] 0 [.mk 0 [111] 0 [],.mk 0 [111] 0 []],.mk 0 [111] 0 [],.mk 0 [111] 0 []],[.mk 1 [] 1 []]),
 ([.mk 0 [105,110,116] 0 [],.mk 1 [] 0 [],.mk 2 [] 0 [.mk 1 [] 0 [],.mk 0 [111] 0 []],.mk 1 [] 0 [],.mk 0 [111] 0 [],.mk 2 [] 0 [.mk 0 [111] 0 [],.mk 0 [111] 0 []],.mk 0 [111] 0 [],.mk 0 [111] 0 []],[.mk 1 [] 3 []])]
end Go.Lamb
namespace Go.Proofs.YtdlkenpilhakfaaGreatDoor
open Go.RowKit Go.Lamb
section
noncomputable def AT:dB:=eD 169 Ge (eD 162 (Gf tP fun s=>.str (Lib.trimLeftS s tP)) Py)
def Gg(w0:World):dB.Ok prog w0 AT:=eY (acG w0) (eY (acH (acI w0)) (acv w0))
noncomputable def kI:XP:=⟨prog,AT,PT,Dm [71,123,70,25,66,27,122,26,227],Dm [123,227,182]⟩
def wM{w0:World}(hG:fw w0):kI.Ok w0:=⟨Gg w0,F6⟩
noncomputable def AU(b:List (List aa×List aa)):XP:={kI with ext:=eD 132 (F5 b) AT}
def acJ{b:List (List aa×List aa)}(h:rM kI b=true):∀p∈b,∀w,fw w->DC prog w 132 [.c (.sl (p.1.map aa.cs)),.c (.sl (p.2.map aa.cs))] [] (Same (.c (.bool true)) []):=by
 induction b with
 |nil=>intro p hp;cases hp
 |cons q l g=>
  unfold rM at h;simp only[Bool.and_eq_true]at h;intro p hp w hG;rcases List.mem_cons.1 hp with rfl|hp
  ·have i:kz kI 100000 132 [.c (.sl (p.1.map aa.cs)),.c (.sl (p.2.map aa.cs))] []=some (.c (.bool true),[]):=by
    have e:=h.1;unfold Lamb.isTrue at e;split at e
    ·assumption
    ·cases e
   exact mW (wM hG) i
  ·exact g h.2 p hp w hG
def Gh{b:List (List aa×List aa)}(h:rM kI b=true){w0:World}(hG:fw w0):(AU b).Ok w0:=⟨eY (acw (fun _ _ h c=>h.ext c) (acJ h) hG) (Gg w0),F6⟩
def acK:oG (.agg [gR,gS,eg]) [] (kz kI 100000 19 [S F7] [])=true:=by kernel_rfl
def acL:oG (.au [tM,I 0,I 0]) wG (kz kI 100000 20 [eg,S F8] wG)=true:=by kernel_rfl
def acM:oG (.au [tN,I 0,I 0]) wH (kz kI 100000 20 [eg,S F9] wH)=true:=by kernel_rfl
def acN:oG (.au [tO,I 0,I 0]) wI (kz kI 100000 20 [eg,S Ga] wI)=true:=by kernel_rfl
def acO:rM kI PU=true:=by kernel_rfl
def acP:rM kI PV=true:=by kernel_rfl
def acQ:rM kI PW=true:=by kernel_rfl
def acR:oG Gb wJ (kz (AU PU) 100000 17 [.agg [gR,gS,eg],tM] wJ)=true:=by kernel_rfl
def acS:oG Gc wK (kz (AU PV) 100000 17 [.agg [gR,gS,eg],tN] wK)=true:=by kernel_rfl
def acT:oG Gd wL (kz (AU PW) 100000 17 [.agg [gR,gS,eg],tO] wL)=true:=by kernel_rfl
def acU{w0:World}(hG:fw w0):DC prog w0 19 [S F7] [] (Same (.agg [gR,gS,eg]) []):=mW (wM hG) (rK acK)
def acV{w0:World}(hG:fw w0):DC prog w0 20 [eg,S F8] wG (Same (.au [tM,I 0,I 0]) wG):=mW (wM hG) (rK acL)
def acW{w0:World}(hG:fw w0):DC prog w0 17 [.agg [gR,gS,eg],tM] wJ (Same Gb wJ):=mW (Gh acO hG) (rK acR)
def acX{w0:World}(hG:fw w0):DC prog w0 20 [eg,S F9] wH (Same (.au [tN,I 0,I 0]) wH):=mW (wM hG) (rK acM)
def acY{w0:World}(hG:fw w0):DC prog w0 17 [.agg [gR,gS,eg],tN] wK (Same Gc wK):=mW (Gh acP hG) (rK acS)
def acZ{w0:World}(hG:fw w0):DC prog w0 20 [eg,S Ga] wI (Same (.au [tO,I 0,I 0]) wI):=mW (wM hG) (rK acN)
def ac0{w0:World}(hG:fw w0):DC prog w0 17 [.agg [gR,gS,eg],tO] wL (Same Gd wL):=mW (Gh acQ hG) (rK acT)
def PX:List V->H->Option (V×H):=pz (oH [eg,S F8] wG (.au [tM,I 0,I 0])) (pz (oH [eg,S F9] wH (.au [tN,I 0,I 0])) (oH [eg,S Ga] wI (.au [tO,I 0,I 0])))
def ac1{w0:World}(hG:fw w0)(b:List V)(σ:H)(v:V)(c:H)(h:PX b σ=some (v,c)):DC prog w0 20 b σ (Same v c):=
 sR (rL (acV hG)) (sR (rL (acX hG)) (rL (acZ hG))) b σ v c h
def PY:List V->H->Option (V×H):=pz (oH [.agg [gR,gS,eg],tM] wJ Gb) (pz (oH [.agg [gR,gS,eg],tN] wK Gc) (oH [.agg [gR,gS,eg],tO] wL Gd))
def ac2{w0:World}(hG:fw w0)(b:List V)(σ:H)(v:V)(c:H)(h:PY b σ=some (v,c)):DC prog w0 17 b σ (Same v c):=
 sR (rL (acW hG)) (sR (rL (acY hG)) (rL (ac0 hG))) b σ v c h
noncomputable def Gi:XP:={kI with ext:=eD 19 (oH [S F7] [] (.agg [gR,gS,eg])) (eD 20 PX (eD 17 PY AT))}
def ac3{w0:World}(hG:fw w0):Gi.Ok w0:=⟨eY (rL (acU hG)) (eY (ac1 hG) (eY (ac2 hG) (Gg w0))),F6⟩
def ac4:isTrue (kz Gi 100000 6 [] [])=true:=by kernel_rfl
def ac5{w0:World}(hG:fw w0)(σ:H):DC prog w0 6 [] σ (Same (B true) σ):=
 US (X:=Gi) (G:=fw) (fun _ _ h b=>h.ext b) (fun _ h=>ac3 h) ac4 hG σ
attribute [local go_sem] aa.v aa.aG aO aQ aL aH aM ep.v ep.cs av.v av.cs jL fy Sg.v al.v
def QT{w0:World}(hG:fw w0)(g:Sg)(p:al)(want:aa)(σ:H):DC prog w0 3 [g.v,p.v,want.v] σ (Same (B true) σ):=by
 refine k3.go rfl (fun b F=>?_);have c:=fun σ=>ac5 hG σ;have i:=fun σ=>acq w0 g p σ;have j:=fun σ=>KO w0 want 15 (by decide) (by decide) σ;by_cases u:oE g p=true\/dO want 15<0
 ·have w:oE g p=true\/decide (dO want 15<0)=true:=by simpa using u
  clear u;generalize oE g p=G at*;generalize decide (dO want 15<0)=J at*
  apply bl;simp only[go_sem,c3];(refine db (c _) ?_;simp only[go_sem]);refine wN ?_;simp only[go_sem];(refine db (i _) ?_;simp only[go_sem]);(refine db (j _) ?_;simp only[go_sem]);clear i j c;cases G
  ·cases J
   ·simp at w
   ·(simp only[go_sem]);refine wY ?_;simp only[go_sem];exact wF b
  ·(simp only[go_sem]);refine wY ?_;simp only[go_sem];exact wF b
 have E:oE g p=false:=by cases h:oE g p<;>simp_all
 have L:¬dO want 15<0:=fun h=>u (.inr h);obtain⟨N,O,k3,k4⟩:=acr E;have k5:aw want<=15:=by have:=F4 want 15 (by omega);omega
 have A:=fun σ=>aaj w0 (g:=g) (Wd:=15) k3 (by decide) (by decide) (p:=p) (want:=want) (by omega) (by omega) (by omega) σ;have D:=fun σ=>ack w0 (g:=g) (Wd:=15) k3 (by decide) (by decide) (p:=p) (want:=want) (by omega) (by omega) (by omega) σ;rw[E]at i;rw[decide_eq_false L]at j;generalize wu g p want=r at A D;obtain⟨t,vs,e,pos⟩:=r;have hS:=fun σ=>abr w0 t σ;have M:=fun σ=>acp w0 vs σ;simp only[iy,aa.v,Sg.v,al.v]at A D hS;apply bl;simp only[go_sem,c3];(refine db (c _) ?_;simp only[go_sem])
 refine wN ?_;simp only[go_sem];(refine db (i _) ?_;simp only[go_sem]);(refine db (j _) ?_;simp only[go_sem]);refine wN ?_;simp only[go_sem];(refine db (A _) ?_;simp only[go_sem]);(refine db (D _) ?_;simp only[go_sem]);(refine db (hS _) ?_;simp only[go_sem]);(refine db (M _) ?_;simp only[go_sem,beq_self_eq_true]);exact wF b
end
end Go.Proofs.YtdlkenpilhakfaaGreatDoor
namespace Go.Lamb
open Go Go.RowKit
def ac6{P:Program}(h:P.funcs.any Func.goes=false)(f:FuncId):P.goes f=false:=by
 unfold Program.goes;rw[h,Bool.and_false,Bool.or_false,List.any_eq_false];intro g _ hg;cases hf:P.funcs[g]? with
 |none=>rw[hf]at hg;cases hg
 |some fn=>
  rw[hf]at hg;have hg:fn.goes=true:=by simpa using hg
  obtain⟨b,e⟩:=Array.getElem?_eq_some_iff.1 hf;rw[Array.any_eq_false]at h;have:=h g b;rw[e,hg]at this;exact absurd rfl this
def QU{P:Program}(h:P.funcs.any Func.goes=false){c:OpenClaim}(b:c.start= .entering):false=c.goesBy P:=by
 unfold OpenClaim.goesBy Program.goesAt Program.goesFrom;rw[b];cases P.funcNamed c.func with
 |none=>rfl
 |some f=>simp[ac6 h f]
end Go.Lamb
namespace Go.Proofs.YtdlkenpilhakfaaGreatDoor
open Go.RowKit Go.Lamb
def QV:Tryz.pinned.checked.prog.funcs.any Func.goes=false:=by kernel_rfl

end Go.Proofs.YtdlkenpilhakfaaGreatDoor
namespace Go.Proofs.YtdlkenpilhakfaaGreatDoor.Bq
open Go.ChangeShapes Go.WideShapes Go.ChangeAt Go.RowKit Go.Lamb
section
open Go.ChangeMaps (open_string shut_string)
set_option maxRecDepth 100000 in
theorem QO(H:Type)(enc:TypeId×Value->H)(W:World)(base:Nat)(args:Array Value)(T gs:List (DataW H))(i:List MemPlace)
  (b:∀(j:Nat) t v,nA.params[j]?=some t->args[j]?=some v->Value.okWide prog W .any base t v)
  (U:DataW.Whole enc prog nA.params.toList tQ.vars false W args.toList T gs i)
  (X:laidMetH prog xc.laid W) (hS:W.ShapedOpen prog):
  Calls prog 3 args W fun e Y=>∃v,e= .returned v/\tQ.post enc prog nA false true false false W args v Y:=by
 have r:=U;obtain⟨p,q,u,hV,rfl,hfz,hnd⟩:=U;have Z:DataW.TrodAll enc prog W 0 (fun _=>true) true nA.params.toList args.toList T p:=u;rw[Tryz.params3]at Z b;obtain⟨v0,vs0,d0,ds0,p0,q0,h0a,D,E,h0,r0⟩:=trodAll_cons Z;obtain⟨v1,vs1,d1,ds1,p1,q1,F,G,J,h1,r1⟩:=trodAll_cons r0;obtain⟨v2,vs2,d2,ds2,p2,q2,L,M,N,h2,r2⟩:=trodAll_cons r1;obtain⟨rfl,rfl,rfl⟩:=trodAll_nil r2;subst L M N;subst F G J;subst D E;obtain rfl:args=#[v0,v1,v2]:=by cases args;simp_all
 obtain⟨rfl,rfl⟩:=trodVars_none hV;obtain⟨x0,O,ho0⟩:=QP (b 0 26 v0 rfl rfl) h0;obtain⟨x1,P⟩:=QQ (b 1 30 v1 rfl rfl) h1;obtain⟨x2,Q,ho2⟩:=QR (b 2 34 v2 rfl rfl) h2;clear u;have g:=r.lt;simp only[decide_eq_true_eq,cd,dK]at g;simp only[cd,dK]at r;rw[MakeChecks.laidMetH_plain _ _ _ (by kernel_rfl)]at X;have hG:fw W:=QS X hS (.tail _ (.tail _ (.head _))) (.tail _ (.tail _ (.tail _ (.tail _ (.head _))))) (.tail _ (.tail _ (.tail _ (.tail _ (.tail _ (.head _))))));refine(DC.calls (QT hG x0 x1 x2 []) (Fits.cons (O) (Fits.cons (P) (Fits.cons (Q) (Fits.nil))))).mono fun e Y ⟨v,d,σ',κ',he,⟨hd,_⟩,R,A⟩=>?_
 subst he hd;cases R with
 |c R=>
  cases R with
  |bool _=>
   exact⟨_,rfl,_,_,_,_,_,_,r,trodAll_mk1 (shut_bool underlying4 _),(Qu (Below.trod laidOut (by kernel_rfl) (of_decide_eq_true (by kernel_rfl)) h0 A (fun x w=>g x (by simp[w]))) (Qu (Below.trod laidOut (by kernel_rfl) (of_decide_eq_true (by kernel_rfl)) h1 A (fun x w=>g x (by simp[w]))) (Qu (Below.trod laidOut (by kernel_rfl) (of_decide_eq_true (by kernel_rfl)) h2 A (fun x w=>g x (by simp[w]))) trodAll_mk0))),rfl,A.frame _,fun h=>by cases h⟩
theorem reads(os:Os){H:Type}(enc:TypeId×Value->H):∃b,DataW.whole enc prog ((World.laidAll prog os xc.laid).forCall (fun _ _=>0) ⟨#[],#[.agg #[.slice none 0 0,.slice none 0 0,.slice none 0 0],.agg #[.int .i64 0,.string ⟨#[]⟩,.int .i64 0,.slice none 0 0,.int .i64 0],.agg #[.int .i64 0,.string ⟨#[]⟩,.int .i64 0,.slice none 0 0]],[]⟩).memory nA.params.toList tQ.vars false (#[.agg #[.slice none 0 0,.slice none 0 0,.slice none 0 0],.agg #[.int .i64 0,.string ⟨#[]⟩,.int .i64 0,.slice none 0 0,.int .i64 0],.agg #[.int .i64 0,.string ⟨#[]⟩,.int .i64 0,.slice none 0 0]]:Array Value).toList 8=some ([.agg [.nil,.nil,.nil],.agg [.lit (.int .i64 0),.lit (.string []),.lit (.int .i64 0),.nil,.lit (.int .i64 0)],.agg [.lit (.int .i64 0),.lit (.string []),.lit (.int .i64 0),.nil]],[],b):=
 ⟨[],by kernel_rfl⟩
set_option maxRecDepth 100000 in
theorem lifted(os:Os)(started:os.Started)(H:Type)(enc:TypeId×Value->H)(F:Stop.Interp):
  ReturnsInHanded {} Qv os 3 .any ((Gy tQ).preRow enc prog nA xc.domain false xc.laid) (((Gy tQ).at F).post enc prog nA false true false false):=by
 obtain⟨e,g⟩:=reads os enc;refine returnsInHanded_of_row (C:=Qv) (s:=Gy tQ) own started (by kernel_rfl) func3
  (witness_row_atRef (enc:=enc) (C:=Qv) false (World.laidAll prog os xc.laid) #[.agg #[.slice none 0 0,.slice none 0 0,.slice none 0 0],.agg #[.int .i64 0,.string ⟨#[]⟩,.int .i64 0,.slice none 0 0,.int .i64 0],.agg #[.int .i64 0,.string ⟨#[]⟩,.int .i64 0,.slice none 0 0]] (World.laidAll_os _ _ _) (by kernel_rfl) (by kernel_rfl) (by kernel_rfl)
    (OpenSpec.preRow_of_cond 8 g (by kernel_rfl) (fun k h=>by cases h) (by kernel_rfl) (laidMet_laidAll _ (by kernel_rfl) (by kernel_rfl)))) ?_
 intro W base args i j b c p _ _ _ r hS _;exact QO H enc W base args i j b c p r hS
theorem closed:joinedFacts xd.checked.prog 3 nA (Gy tQ).bare xc=true:=by
 unfold joinedFacts;refine dL.2 ⟨dL.2 ⟨dL.2 ⟨dL.2 ⟨dL.2 ⟨dL.2 ⟨dL.2 ⟨dL.2 ⟨dL.2 ⟨dL.2 ⟨dL.2 ⟨dL.2 ⟨dL.2 ⟨dL.2 ⟨dL.2 ⟨dL.2 ⟨dL.2 ⟨dL.2 ⟨dL.2 ⟨dL.2 ⟨dL.2 ⟨dL.2 ⟨dL.2 ⟨dL.2 ⟨dL.2 ⟨dL.2 ⟨dL.2 ⟨dL.2 ⟨dL.2 ⟨dL.2 ⟨dL.2 ⟨?_,?_⟩,?_⟩,?_⟩,?_⟩,?_⟩,?_⟩,?_⟩,?_⟩,?_⟩,?_⟩,?_⟩,?_⟩,?_⟩,?_⟩,?_⟩,?_⟩,?_⟩,?_⟩,?_⟩,?_⟩,?_⟩,?_⟩,?_⟩,?_⟩,?_⟩,?_⟩,?_⟩,?_⟩,?_⟩,?_⟩,?_⟩
 all_goals as_aux_lemma=>kernel_rfl
theorem said:Rows.InferTermsSaid:=
 OpenClaim.holds_of_cond 3 nA rfl rfl rfl rfl rfl rfl rfl ⟨rfl,rfl,rfl,rfl,rfl⟩ rfl rfl rfl rfl rfl (by as_aux_lemma=>kernel_rfl) func3 closed
  (of_decide_eq_true (by as_aux_lemma=>kernel_rfl)) (by unfold Func.isWrapper;first|(rw[if_pos (by decide+kernel)];kernel_rfl)|(rw[if_neg (by decide+kernel)];exact⟨rfl,rfl⟩))
  (fun os started H enc _ F=>by rw[OpenClaim.pre_eq_preRow];exact lifted os started H enc F)
theorem plain(f:FuncId)(fn:Func)(hf:xd.checked.prog.funcNamed "lambent/lambentlaw12.InferTerms" =some f)(c:xd.checked.prog.funcs[f]?=some fn):
  true=xd.checked.prog.looks []/\∀(j:Nat) t,fn.params[j]?=some t->xd.checked.prog.wantsStandIn t=false:=by
 obtain rfl:f=3:=xe ((show prog.funcNamed "lambent/lambentlaw12.InferTerms" =some 3 by kernel_rfl).symm.trans hf)|>.symm;obtain rfl:fn=nA:=(xe (func3.symm.trans c)).symm;refine⟨by kernel_rfl,fun j t e=>?_⟩;rw[Tryz.params3]at e;have g:t∈[26,30,34]:=by simpa using Array.mem_of_getElem? e
 have b:([26,30,34].all fun u=>!prog.wantsStandIn u)=true:=by kernel_rfl
 exact(show prog.wantsStandIn t=false by simpa using List.all_eq_true.1 b t g)
end
end Go.Proofs.YtdlkenpilhakfaaGreatDoor.Bq
namespace Go.Proofs.YtdlkenpilhakfaaGreatDoor
open Go
theorem inferTerms_holds:Rows.InferTermsCardSaid:=
 Claim7.holds_tied_plain_at .later [] _ _ _ _ Bq.said (fun _ h=>by cases h) (by kernel_rfl) (fun _ h=>by cases h) inferTerms_row_tie rfl ⟨rfl,rfl⟩ (by kernel_rfl) rfl Bq.plain (Lamb.QU QV rfl)
#print axioms inferTerms_holds
