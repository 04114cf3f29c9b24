/- . -/
import Derived.Test.YtdlkenpilhakfaaGreatDoorQJ43
import Derived.Test.YtdlkenpilhakfaaGreatDoorQJ42
import Derived.Test.YtdlkenpilhakfaaGreatDoorChecked
import Derived.Test.YtdlkenpilhakfaaGreatDoorQJ17
import Derived.Test.YtdlkenpilhakfaaGreatDoorQJ37
import Derived.Test.YtdlkenpilhakfaaGreatDoorQJ16
import Derived.Test.YtdlkenpilhakfaaGreatDoorQJ39
import Derived.Test.YtdlkenpilhakfaaGreatDoorQJ38
import Derived.Test.YtdlkenpilhakfaaGreatDoorQJ40
set_option linter.unusedSimpArgs false
set_option linter.unusedVariables false
set_option maxHeartbeats 8000000
set_option maxRecDepth 20000
open And renaming intro->eV
open Bool renaming and_eq_true->bG,false_or->mK,or_eq_false_iff->sC,true_or->mM
open Decidable renaming of_not_not->EY
open Go.IntKind renaming i64->aN,u8->EF
open Int renaming tmod_eq_emod_of_nonneg->ZY,toNat_natCast->jk
open List renaming cons_ne_nil->aT,dropLast_concat->EZ,drop_eq_getElem_cons->lE,drop_of_length_le->qs,getD_eq_getElem?_getD->cf,getElem?_eq_getElem->aO,getElem?_eq_none->qt,getElem?_eq_some_iff->aL,getElem?_map->nP,getElem?_range->E6,getElem?_set_ne->bX,getElem?_set_self->cr,getElem_map->dN,getElem_mem->bt,length_append->bD,length_cons->bk,length_map->bW,length_nil->cN,length_take->dV,map->ik,map_append->dv,map_cons->cx,map_nil->du,mem_cons->cA,mem_cons_of_mem->bS,mem_cons_self->bu,mem_map->eu,range->fc,take->de,take_of_length_le->eT,take_succ_cons->dZ,take_succ_eq_append_getElem->il,take_zero->cV
open Nat renaming le_refl->aA,le_trans->bE,lt_irrefl->oU,reduceAdd->dI,zero_add->er,zero_le->bC
open Option renaming map_none->vY,map_some->iI
open Prod renaming fst->sH
open UInt8 renaming ofNat->mD
open Go.Proofs.Tryz
namespace Go.Proofs.YtdlkenpilhakfaaGreatDoor
open Go.RowKit Go.Lamb
def jM(l:List aa):List (List C):=(l.map bP).map aa.cs
theorem Xd(l:List aa):(jM l).length=l.length:=by unfold jM;rw[bW,bW]
theorem Xe(l:List aa):∀r∈jM l,r.length=4:=ki _
attribute [local go_sem] aa.v aa.aM a7 bh aW aQ aX
theorem Xf(w0:World)(t:aa):bc t=true->bM 2305843009213693952 t=true->ax t<=1000000000->∀(σ:H),DC prog w0 76 [t.v] σ (Same (bP t).v σ):=by
 refine aa.ind (P:=fun t=>bc t=true->bM 2305843009213693952 t=true->ax t<=1000000000->∀(σ:H),DC prog w0 76 [t.v] σ (Same (bP t).v σ)) (fun t ih hv hnr hn σ=>?_) t;refine Ll.go rfl (fun hok hsz=>?_);rw[Mp];by_cases h5:t.k=5
 ·rw[if_pos h5];obtain⟨b,rfl⟩:=sf hv h5;have hbm:b∈(bJ b).l:=by unfold bJ;simp[aQ]
  have hln:=ko b;have hS:=fun σ=>ih b hbm (gi hv b hbm) (iF hnr b hbm) (by omega) σ;obtain⟨q1,q2,q3⟩:=D6 (M:=2305843009213693952) (by omega) b (gi hv b hbm) (iF hnr b hbm);have hD:=fun σ=>Xc w0 (bP b) q1 q2 (by omega) σ;have hL:=fun σ=>ve w0 (bP b) σ;show W _ _ _ (Fin _ _ (Same ((ig (bP b)).getD (bJ (bP b))).v σ)) _ _;clear ih hbm;generalize bP b=u at*
  cases hd:ig u with
  |none=>
   rw[hd]at hD;rw[Option.getD_none];generalize bJ u=z at*
   ((try refine W.a ?_);simp only[go_sem,c76,kq,kr,ku,iZ]);refine W.yes rfl (W.a ?_);simp only[go_sem,kq,kr,ku,iZ];(refine W.c1 (hS _) ?_;simp only[go_sem]);((try refine W.a ?_);simp only[go_sem]);(refine W.c1 (hD _) ?_;simp only[go_sem]);((try refine W.a ?_);simp only[go_sem,oL,aa.none]);refine W.no rfl (W.a ?_);simp only[go_sem];(refine W.c1 (hL _) ?_;simp only[go_sem]);((try refine W.a ?_);simp only[go_sem]);(refine W.fs (hok) (by simp only[rT,go_sem];rfl) ?_;simp only[al];try exact V.wk.rfl _)
   all_goals (all_goals exact au)
  |some y=>
   rw[hd]at hD;rw[Option.getD_some];((try refine W.a ?_);simp only[go_sem,c76,kq,kr,ku,iZ]);refine W.yes rfl (W.a ?_);simp only[go_sem,kq,kr,ku,iZ];(refine W.c1 (hS _) ?_;simp only[go_sem]);((try refine W.a ?_);simp only[go_sem]);(refine W.c1 (hD _) ?_;simp only[go_sem]);((try refine W.a ?_);simp only[go_sem,oL]);refine W.yes rfl (W.a ?_);simp only[go_sem];(refine W.fs (hok) (by simp only[rT,go_sem];rfl) ?_;simp only[al];try exact V.wk.rfl _)
   all_goals (all_goals exact au)
 rw[if_neg h5];have k5:(t.k==5)=false:=by simp[h5]
 by_cases h6:t.k=6
 ·rw[if_pos h6];have k6:(t.k==6)=true:=by simp[h6]
  obtain⟨_,_,a,b,l,hl,ha⟩:=iG hv h6;have hlen:=kg t;have hk:∀i (hi:i<t.l.length) σ,DC prog w0 76 [t.l[i].v] σ (Same (bP t.l[i]).v σ):=fun i hi σ=>by
   have hm:=bt hi;have:=jI hm;exact ih _ hm (gi hv _ hm) (iF hnr _ hm) (by omega) σ
  have hll:2<=t.l.length:=by rw[hl];simp
  have hsa:=D6 (M:=2305843009213693952) (by omega) a (gi hv a (by rw[hl];simp)) (iF hnr a (by rw[hl];simp));have hka:=kg (bP a);have hna:=jI (t:=t) (u:=a) (by rw[hl];simp);have hA:=fun σ=>ui w0 (bP a) ((b::l).map bP) (by rw[bW];rw[hl]at hlen;simp only[bk]at hlen⊢;omega) σ;have hE:D4 (t.l.map bP)=ct (bP a) ((b::l).map bP):=by rw[hl];rfl
  have hRows:jM t.l=(bP a).cs::((b::l).map bP).map aa.cs:=by unfold jM;rw[hl];rfl
  rw[hE];clear hE h5 h6 ih;generalize hZ:ct (bP a) ((b::l).map bP)=z at*
  ((try refine W.a ?_);simp only[go_sem,c76,k5,k6]);refine W.no rfl (W.a ?_);simp only[go_sem,k5,k6];refine W.yes rfl (W.a ?_);simp only[go_sem];refine W.bB (α:=Option Nat) (fun o=>match o with|none=>True|some i=>1<=i/\i<=t.l.length) (fun o=>match o with
   |none=>⟨(((((base.put (some 2) (.ptr (σ.length+1) 0)).put (some 6) (.ab [])).put (some 30) (.c (aX t.l))).put (some 31) (I (t.l.length:Int))).put (some 32) (I 0)),σ++[.cells t.v.ai,.cells [I 0,S [],I 0,.ab []]]⟩
   |some i=>⟨(((((base.put (some 2) (.ptr (σ.length+1) 0)).put (some 6) (.aG (σ.length+3) (jM (t.l.take i)))).put (some 30) (.c (aX t.l))).put (some 31) (I (t.l.length:Int))).put (some 32) (I (i:Int))),σ++[.cells t.v.ai,.cells [I 0,S [],I 0,.ab []],.gone,.spare 41 4 i]⟩) (fun o=>match o with|none=>t.l.length+1|some i=>t.l.length-i) none trivial ?_ (fun o ho=>?_)
  ·dsimp only
   (refine ao.env ?_;exact aF)
  cases o with
  |none=>
   dsimp only
   have z1:(0:Int)<(t.l.length:Int):=by omega
   have hx0:t.l[0]?=some t.l[0]:=aO (by omega);have htk:jM (t.l.take 1)=[(bP t.l[0]).cs]:=by
    unfold jM;rw[il (by omega:0<t.l.length)];rfl
   have hw1:aN.wrap (0+1)=((1:Nat):Int):=by decide
   have hK:=fun σ=>hk 0 (by omega) σ;((try refine W.a ?_);simp only[go_sem,z1]);refine W.yes rfl (W.a ?_);simp only[go_sem,z1,hx0];(refine W.c1 (hK _) ?_;simp only[go_sem]);((try refine W.a ?_);simp only[go_sem,hw1,true_or]);refine .inv ⟨some 1,⟨aA _,by omega⟩,by dsimp only;omega,?_⟩;dsimp only
   rw[htk];simp only[aa.aM];(refine ao.eN (hok) ?_ (by simp) (by simp) ?_ ?_ ?_;exact aF;((try simp only[okB,bx,go_sem])<;>omega);(simp only[bk,cN,dI,dZ,cV,bx,and_true];(repeat' (refine eV ?_ ?_))<;>(first|exact ad.wk.rfl _|exact ad.wk.gone _|(refine ad.eO ?_ rfl;(exact au))));(repeat' (first|exact aZ.base _|(refine aZ.put ?_ (by first|exact .c _|((try simp only[okB,bx,go_sem])<;>omega))))))
  |some i=>
   obtain⟨hi1,hi⟩:=ho;dsimp only
   by_cases hlt:i<t.l.length
   ·have z1:(i:Int)<(t.l.length:Int):=by omega
    have z0:(0:Int)<=(i:Int):=by omega
    have hx0:t.l[i]?=some t.l[i]:=aO hlt;have htk:jM (t.l.take (i+1))=jM (t.l.take i)++[(bP t.l[i]).cs]:=by
     unfold jM;rw[il hlt,dv,dv];rfl
    have hw1:aN.wrap ((i:Int)+1)=((i+1:Nat):Int):=by rw[bn]<;>omega
    have htl:(jM (t.l.take i)).length=i:=by rw[Xd,dV];omega
    have b1:(i+1)*56<=140737488355328:=by omega
    have b2:i+1<=140737488355328:=by omega
    have b3:i<=140737488355327:=by omega
    have hr4:(∀r∈jM (t.l.take i),r.length=4)=True:=eq_true (Xe _);have hK:=fun σ=>hk i hlt σ;rw[aa.aM]at htk;((try refine W.a ?_);simp only[go_sem,z1]);refine W.yes rfl (W.a ?_);simp only[go_sem,z1,z0,hx0];(refine W.c1 (hK _) ?_;simp only[go_sem]);((try refine W.a ?_);simp only[go_sem,hw1,htl,b1,b2,b3,true_or]);refine .inv ⟨some (i+1),⟨by omega,hlt⟩,by dsimp only;omega,?_⟩;dsimp only
    rw[htk];(refine ao.eN (hok) ?_ (by simp) (by simp) ?_ ?_ ?_;exact aF;((try simp only[okB,bx,go_sem])<;>omega);(simp only[bk,cN,dI,dZ,cV,bx,and_true];(repeat' (refine eV ?_ ?_))<;>(first|exact ad.wk.rfl _|exact ad.wk.gone _|(refine ad.eO ?_ rfl;(exact au))));(repeat' (first|exact aZ.base _|(refine aZ.put ?_ (by first|exact .c _|((try simp only[okB,bx,go_sem])<;>omega))))))
   ·obtain rfl:i=t.l.length:=by omega
    have z1:¬((t.l.length:Nat):Int)<((t.l.length:Nat):Int):=by omega
    rw[List.take_length,hRows,aa.aM];have g0:(0:Int)<(((b::l).length+1:Nat):Int):=by omega
    have hr4:(∀x,x∈ik aa.cs ((b::l).map bP)->x.length=4)=True:=eq_true (ki _);generalize hbl:(b::l).map bP=bl at*
    have hbll:(b::l).length=bl.length:=by rw[<-hbl,bW]
    rw[hbll]at g0;have g1:(1:Int)<=((bl.length+1:Nat):Int):=by omega
    have hsl:de bl.length (ik aa.cs bl)=ik aa.cs bl:=eT (by simp);((try refine W.a ?_);simp only[go_sem,z1]);refine W.no rfl (W.a ?_);simp only[go_sem];apply W.aS (aT _ _)
    case hc=>
     (apply ae.aq;simp only[go_sem,g0,g1,hr4,hsl]);(apply ae.call (hA _);(case hg=>rfl);(case hf=>rfl);(case ha=>first|rfl|simp));(apply ae.aq;simp only[go_sem]);exact ae.nil
    ((try refine W.a ?_);simp only[go_sem]);(refine W.fs (hok) (by simp only[rT,go_sem];rfl) ?_;simp only[al];try exact V.wk.rfl _)
    all_goals (all_goals exact au)
 ·rw[if_neg h6];have k6:(t.k==6)=false:=by simp[h6]
  clear h5 h6;((try refine W.a ?_);simp only[go_sem,c76,k5,k6]);refine W.no rfl (W.a ?_);simp only[go_sem,k6];refine W.no rfl (W.a ?_);simp only[go_sem];(refine W.fs (hok) (by simp only[rT,go_sem];rfl) ?_;simp only[al];try exact V.wk.rfl _)
  all_goals (all_goals exact au)
theorem Xg(w0:World)(t:aa)(hv:bc t=false)(n:Int)(F:V)(σ:H):DC prog w0 129 [t.v,I n,F] σ (Same (.ay [aa.none.v,I 0,I 1]) σ):=by
 refine Cy.go rfl (fun hok hsz=>?_);have hV:=fun σ=>yi w0 t σ;rw[hv]at hV;((try refine W.a ?_);simp only[go_sem,yk]);(refine W.c1 (hV _) ?_;simp only[go_sem]);((try refine W.a ?_);simp only[go_sem]);refine W.yes rfl (W.a ?_);simp only[go_sem,aa.none];(refine W.fs (hok) (by simp only[uu,go_sem];rfl) ?_;simp only[al];try exact V.wk.rfl _)
 all_goals (all_goals exact au)
theorem Xh(w0:World)(n:Nat)(hn:n<=100000)(t:aa)(hi:cd n t)(hnd:ax t+4097*n<=1000000000){o:Option aa}{q:Nat}(h:ei n t o q)(σ:H):DC prog w0 129 [t.v,I (n:Int),.fn 130 []] σ (Same (lp q o) σ):=by
 refine Cy.go rfl (fun hok hsz=>?_);have hV:=fun σ=>yi w0 t σ;rw[hi.nr.1]at hV;have hN:∀a c,DC prog w0 130 [t.v,.ptr (σ.length+1) 0] (σ++[a,.cells [I (n:Int)],c]) (Same (cz o) (σ++[a,.cells [I (q:Int)],c])):=fun a c=>by
  have:=W7 w0 n hn t hi hnd o q h (σ.length+1) (σ++[a,.cells [I (n:Int)],c]) (Go.Lamb.bT _ _ 1);rw[Go.Lamb.dk]at this;exact this
 ((try refine W.a ?_);simp only[go_sem,yk]);(refine W.c1 (hV _) ?_;simp only[go_sem]);((try refine W.a ?_);simp only[go_sem]);refine W.no rfl (W.a ?_);simp only[go_sem];(refine W.c1 (hN _ _) ?_;simp only[go_sem]);cases o with
 |none=>
  ((try refine W.a ?_);simp only[go_sem,cz,aa.none]);refine W.yes rfl (W.a ?_);simp only[go_sem,lp,aa.none];(refine W.fs (hok) (by simp only[uu,go_sem];rfl) ?_;simp only[al];try exact V.wk.rfl _)
  all_goals (all_goals exact au)
 |some u=>
  ((try refine W.a ?_);simp only[go_sem,cz]);refine W.no rfl (W.a ?_);simp only[go_sem];(apply W.aS (aT _ _);case hc=>((apply ae.aq;simp only[go_sem]);exact ae.nil));((try refine W.a ?_);simp only[go_sem,lp]);(refine W.fs (hok) (by simp only[uu,go_sem];rfl) ?_;simp only[al];try exact V.wk.rfl _)
  all_goals (all_goals exact au)
theorem Xi(w0:World)(n:Nat)(hn:n<=100000)(t:aa)(hi:cd n t)(hnd:ax t+4097*n<=1000000000){o:Option aa}{q:Nat}(h:ei n t o q)(σ:H):DC prog w0 75 [t.v,I (n:Int)] σ (Same (lp q o) σ):=by
 refine C4.go rfl (fun hok hsz=>?_);have hR:=fun σ=>Xh w0 n hn t hi hnd h σ;cases o with
 |none=>
  simp only[lp]at hR⊢;((try refine W.a ?_);simp only[go_sem,c75]);(refine W.c1 (hR _) ?_;simp only[go_sem]);((try refine W.a ?_);simp only[go_sem,aa.none]);(refine W.fs (hok) (by simp only[uP,go_sem];rfl) ?_;simp only[al];try exact V.wk.rfl _)
  all_goals (all_goals exact au)
 |some u=>
  simp only[lp]at hR⊢;((try refine W.a ?_);simp only[go_sem,c75]);(refine W.c1 (hR _) ?_;simp only[go_sem]);((try refine W.a ?_);simp only[go_sem]);(refine W.fs (hok) (by simp only[uP,go_sem];rfl) ?_;simp only[al];try exact V.wk.rfl _)
  all_goals (all_goals exact au)
theorem Xj(w0:World)(t:aa)(hv:bc t=false)(n:Int)(σ:H):DC prog w0 75 [t.v,I n] σ (Same (.ay [aa.none.v,I 0,I 1]) σ):=by
 refine C4.go rfl (fun hok hsz=>?_);have hR:=fun F σ=>Xg w0 t hv n F σ;((try refine W.a ?_);simp only[go_sem,c75]);(refine W.c1 (hR _ _) ?_;simp only[go_sem]);((try refine W.a ?_);simp only[go_sem,aa.none]);(refine W.fs (hok) (by simp only[uP,go_sem];rfl) ?_;simp only[al];try exact V.wk.rfl _)
 all_goals (all_goals exact au)
theorem Xk(w0:World)(n:Nat)(hn:n<=100000)(t:aa)(hi:cd n t)(hnd:ax t+4097*n<=1000000000){o:Option aa}{q:Nat}(h:ei n t o q)(σ:H):DC prog w0 29 [t.v,I (n:Int)] σ (Same (lp q (o.map bP)) σ):=by
 refine CY.go rfl (fun hok hsz=>?_);have hR:=fun σ=>Xi w0 n hn t hi hnd h σ;obtain⟨k1,k2⟩:=yX h hn hi;cases o with
 |none=>
  simp only[lp,vY]at hR⊢;((try refine W.a ?_);simp only[go_sem,uJ]);(refine W.c1 (hR _) ?_;simp only[go_sem]);((try refine W.a ?_);simp only[go_sem,aa.none]);refine W.yes rfl (W.a ?_);simp only[go_sem,aa.none];(refine W.fs (hok) (by simp only[uK,go_sem];rfl) ?_;simp only[al];try exact V.wk.rfl _)
  all_goals (all_goals exact au)
 |some u=>
  obtain⟨k3,k4⟩:=k2 u rfl;have hS:=fun σ=>Xf w0 u k3.1 (oz (by omega) u k3.2) (by omega) σ;simp only[lp,iI]at hR⊢;generalize bP u=z at*
  ((try refine W.a ?_);simp only[go_sem,uJ]);(refine W.c1 (hR _) ?_;simp only[go_sem]);((try refine W.a ?_);simp only[go_sem]);refine W.no rfl (W.a ?_);simp only[go_sem];(refine W.c1 (hS _) ?_;simp only[go_sem]);((try refine W.a ?_);simp only[go_sem]);(refine W.fs (hok) (by simp only[uK,go_sem];rfl) ?_;simp only[al];try exact V.wk.rfl _)
  all_goals (all_goals exact au)
theorem Xl(w0:World)(t:aa)(hv:bc t=false)(n:Int)(σ:H):DC prog w0 29 [t.v,I n] σ (Same (.ay [aa.none.v,I 0,I 1]) σ):=by
 refine CY.go rfl (fun hok hsz=>?_);have hR:=fun σ=>Xj w0 t hv n σ;((try refine W.a ?_);simp only[go_sem,uJ]);(refine W.c1 (hR _) ?_;simp only[go_sem]);((try refine W.a ?_);simp only[go_sem,aa.none]);refine W.yes rfl (W.a ?_);simp only[go_sem,aa.none];(refine W.fs (hok) (by simp only[uK,go_sem];rfl) ?_;simp only[al];try exact V.wk.rfl _)
 all_goals (all_goals exact au)
end Go.Proofs.YtdlkenpilhakfaaGreatDoor
namespace Go.Proofs.YtdlkenpilhakfaaGreatDoor
open Go.RowKit Go.Lamb
section
variable {n0 p:Nat} {σ τ:H} {g:Sg} {f:av} {y3 y4 y5:V}
theorem Ms(w0:World){H0:H}(h:bz n0 H0 p g f y3 y4 y5)(hn:n0<=H0.length)(hl:f.live=true):∀n:Nat,f.sub.length+n<=1000000->∃T:Nat->H,T 0=H0/\∀i,i<=n->(∃y,bz n0 (T i) p g (f.more i) y y4 y5)/\Kept n0 p H0 (T i)/\(i<n->DC prog w0 67 [.ptr p 0] (T i) (Same (aJ (f.more i).sub.length).v (T (i+1))))
 |0,_=>⟨fun _=>H0,rfl,fun i hi=>by
  obtain rfl:i=0:=by omega
  exact⟨⟨y3,h⟩,Kept.refl _ _ _,fun h=>absurd h (Nat.lt_irrefl _)⟩⟩
 |n+1,hs=>by
  obtain⟨T,hT0,hT⟩:=Ms w0 h hn hl n (by omega);obtain⟨⟨y,hA⟩,hK,_⟩:=hT n (aA _);obtain⟨m1,m2,m3,m4,m5⟩:=f.p8 n;have msub:=f.oG n;obtain⟨τ',c1,c2,c3⟩:=sb w0 hA (bE hn hK.len) (by rw[m5];exact hl) (by omega);refine⟨fun j=>if j<=n then T j else τ',by dsimp only;rw[if_pos (bC _)];exact hT0,fun i hi=>?_⟩;dsimp only
  by_cases hin:i<=n
  ·rw[if_pos hin];obtain⟨q1,q2,q3⟩:=hT i hin;refine⟨q1,q2,fun _=>?_⟩;by_cases hlt:i<n
   ·rw[if_pos (by omega)];exact q3 hlt
   ·obtain rfl:i=n:=by omega
    rw[if_neg (by omega)];exact c1
  ·obtain rfl:i=n+1:=by omega
   rw[if_neg hin];exact⟨⟨_,c2⟩,hK.trans c3,fun h=>absurd h (oU _)⟩
attribute [local go_sem] aa.v aa.aM a7 bh aW aQ aX
theorem Xm(w0:World)(h:bz n0 σ p g f y3 y4 y5)(hn:n0<=σ.length)(hl:f.live=true)(t:aa)(hv:cW t=true)(ht:aD t<=10000)(hs:f.sub.length+aD t<=999999):
  ∃τ y3',DC prog w0 27 [.ptr p 0,t.v] σ (Same (f.di t).v τ)/\bz n0 τ p g (f.renew t) y3' y4 y5/\Kept n0 p σ τ:=by
 obtain⟨n1,n2,n3,n4⟩:=u7 hv (by omega);have hN:=fun σ=>ye w0 t (by omega) σ;have hS:=fun σ=>Jy w0 (cK t) f.sub.length (by omega) σ;have hV:=fun σ=>ub w0 (cK t) (bE (A9 _) (by omega)) σ;have hE:(cJ (me f.sub.length) () (cK t)).1=f.di t:=rfl;rw[hE]at hS;obtain⟨nv,hnv⟩:∃nv:Nat,cB 0 (cK t)=(nv:Int):=⟨(cB 0 (cK t)).toNat,by omega⟩;have hfin:f.renew t=f.more nv:=by unfold av.renew;rw[hnv,jk]
 rw[hnv]at hV n4;rw[hfin];have hp:=fun L=>hG h.here L;unfold bK at hp;have hlt:=h.lt;have hsub:=h.sub hl;generalize f.di t=u at*
 generalize cK t=s at*
 clear hE hfin n1 n2 n3 hnv;obtain⟨T,hT0,hT⟩:=Ms w0 (h.app [.cells s.v.ai,.cells [I 0,S [],I 0,.ab []],.cells u.v.ai]) (by rw[bD];omega) hl nv (by omega);have hK0:=(Kept.refl n0 p σ).app hn [.cells s.v.ai,.cells [I 0,S [],I 0,.ab []],.cells u.v.ai];have hx4:∀i,i<=nv->(T i)[σ.length+1]?=some (.cells [I 0,S [],I 0,.ab []]):=fun i hi=>(hT i hi).2.1.cells _ _ _ (by omega) (Go.Lamb.bT _ _ 1);have hx5:∀i,i<=nv->(T i)[σ.length+2]?=some (.cells u.v.ai):=fun i hi=>(hT i hi).2.1.cells _ _ _ (by omega) (Go.Lamb.bT _ _ 2)
 obtain⟨⟨yn,hAn⟩,hKn,_⟩:=hT nv (aA _);have hfin:=hAn.box (hx4 nv (aA _)) (by omega) (.cells u.v.ai);have hfin2:=(hK0.trans hKn).set (.cells u.v.ai) (a:=σ.length+1) (by omega) (.inr (.inl (by omega)));refine⟨_,yn,?_,hfin,hfin2⟩;have hms:=f.oG;refine CX.dL rfl (fun hok hsz=>?_);rcases hsub with⟨h0,rfl⟩|⟨b,hb0,rfl,hb,hz⟩
 ·simp only[h0,cN]at hS;(refine W.a ?_;simp only[go_sem,rQ]);(refine W.c1 (hN _) ?_;simp only[go_sem]);(refine W.a ?_;simp only[go_sem]);apply W.aS (aT _ _)
  case hc=>
   (apply ae.aq;simp only[go_sem,hp]);(apply ae.mW (fun τ=>hS τ);(case hg=>rfl);(case hf=>rfl);(case ha=>first|rfl|simp));(apply ae.aq;simp only[go_sem]);exact ae.nil
  (refine W.a ?_;simp only[go_sem]);(refine W.c1 (hV _) ?_;simp only[go_sem]);(refine W.a ?_;simp only[go_sem]);refine W.bB (α:=Nat) (fun i=>i<=nv) (fun i=>⟨(((((base.put (some 0) (.ptr p 0)).put (some 4) (.ptr (σ.length+1) 0)).put (some 5) (.ptr (σ.length+2) 0)).put (some 16) (I (nv:Int))).put (some 17) (I (i:Int))),T i⟩) (fun i=>nv-i) 0 (bC _) ?_ (fun i hi=>?_)
  ·rw[hT0];(refine ao.env ?_;exact aF)
  by_cases hlt2:i<nv
  ·have z:(i:Int)<(nv:Int):=by omega
   have hw:aN.wrap ((i:Int)+1)=((i+1:Nat):Int):=by rw[bn]<;>omega
   have c1:=(hT i hi).2.2 hlt2;(refine W.a ?_;simp only[go_sem,z]);refine W.yes rfl (W.a ?_);simp only[go_sem];(refine W.c1 (c1) ?_;simp only[go_sem]);(refine W.a ?_;simp only[go_sem,hw]);refine .inv ⟨i+1,hlt2,by omega,?_⟩;(refine ao.env ?_;exact aF)
  ·obtain rfl:i=nv:=by omega
   have z:¬((i:Int)<(i:Int)):=by omega
   have x4:=hx4 i (aA _);have x5:=hx5 i (aA _);have l1:σ.length+1<(T i).length:=(aL.1 x4).1;have s1:∀B,((T i).set (σ.length+1) B)[σ.length+1]?=some B:=fun B=>cr l1;(refine W.a ?_;simp only[go_sem,z]);refine W.no rfl (W.a ?_);simp only[go_sem,x4,x5,s1];exact W.ret ⟨_,_,(by simp only[bA,rR,s1,go_sem];rfl),.rfl _,rfl,rfl⟩
 ·clear hb hz;(refine W.a ?_;simp only[go_sem,rQ]);(refine W.c1 (hN _) ?_;simp only[go_sem]);(refine W.a ?_;simp only[go_sem]);apply W.aS (aT _ _)
  case hc=>
   (apply ae.aq;simp only[go_sem,hp]);(apply ae.mW (fun τ=>hS τ);(case hg=>rfl);(case hf=>rfl);(case ha=>first|rfl|simp));(apply ae.aq;simp only[go_sem]);exact ae.nil
  (refine W.a ?_;simp only[go_sem]);(refine W.c1 (hV _) ?_;simp only[go_sem]);(refine W.a ?_;simp only[go_sem]);refine W.bB (α:=Nat) (fun i=>i<=nv) (fun i=>⟨(((((base.put (some 0) (.ptr p 0)).put (some 4) (.ptr (σ.length+1) 0)).put (some 5) (.ptr (σ.length+2) 0)).put (some 16) (I (nv:Int))).put (some 17) (I (i:Int))),T i⟩) (fun i=>nv-i) 0 (bC _) ?_ (fun i hi=>?_)
  ·rw[hT0];(refine ao.env ?_;exact aF)
  by_cases hlt2:i<nv
  ·have z:(i:Int)<(nv:Int):=by omega
   have hw:aN.wrap ((i:Int)+1)=((i+1:Nat):Int):=by rw[bn]<;>omega
   have c1:=(hT i hi).2.2 hlt2;(refine W.a ?_;simp only[go_sem,z]);refine W.yes rfl (W.a ?_);simp only[go_sem];(refine W.c1 (c1) ?_;simp only[go_sem]);(refine W.a ?_;simp only[go_sem,hw]);refine .inv ⟨i+1,hlt2,by omega,?_⟩;(refine ao.env ?_;exact aF)
  ·obtain rfl:i=nv:=by omega
   have z:¬((i:Int)<(i:Int)):=by omega
   have x4:=hx4 i (aA _);have x5:=hx5 i (aA _);have l1:σ.length+1<(T i).length:=(aL.1 x4).1;have s1:∀B,((T i).set (σ.length+1) B)[σ.length+1]?=some B:=fun B=>cr l1;(refine W.a ?_;simp only[go_sem,z]);refine W.no rfl (W.a ?_);simp only[go_sem,x4,x5,s1];exact W.ret ⟨_,_,(by simp only[bA,rR,s1,go_sem];rfl),.rfl _,rfl,rfl⟩
end
end Go.Proofs.YtdlkenpilhakfaaGreatDoor
namespace Go.Proofs.YtdlkenpilhakfaaGreatDoor
open Go Go.RowKit Go.Lamb
def eG:av:=⟨[],[],[],0,0,true⟩
noncomputable def nE(p:ah)(want:aa)(r:aa×aa×av):av:=
 if r.2.2.e=0 then(if(r.2.2.renew want).lk r.2.1 (r.2.2.di want)=true then(r.2.2.renew want).one r.2.1 (r.2.2.di want)else((r.2.2.renew want).one r.2.1 (r.2.2.di want)).fail 121 p.pos)else r.2.2
noncomputable def za(f:av):Option aa->aa×List az×Int×Int
 |none=>(.none,[],122,0)
 |some u=>if 4096<cR (bP u)\/vi f.sub (f.vars.map (·.ty)) 4096<0 then(.none,[],122,0)else(bP u,vp f,0,0)
noncomputable def oM(f:av)(t:aa):aa×List az×Int×Int:=
 if f.e≠0 then(.none,[],f.e,f.pos)else if bc t=true then za f (vh t)else(.none,[],122,0)
noncomputable def si(g:Sg)(p:ah)(want:aa):aa×List az×Int×Int:=
 if bw p<0\/4096<bw p\/cW want=false then(.none,[],1,0)else oM (nE p want (bp g p eG)) (bp g p eG).1
def vt(r:aa×List az×Int×Int):V:=.ay [r.1.v,.c (.sl (r.2.1.map az.cs)),I r.2.2.1,I r.2.2.2]
theorem Mt:cX eG:=⟨⟨⟨(fun t h=>by cases h),(fun _=>0),(fun i hi=>absurd hi (Nat.not_lt_zero _))⟩,(fun t h=>by cases h)⟩,(fun x h=>by cases h),(fun x h=>by cases h),(fun _=>rfl)⟩
theorem Xn{W:Nat}{f:av}{n:Nat}{r:aa×aa×av}(h:oH W f n r)(hr:f.sub.length+(W+1)*n<=900000)(hW:W+3*n<=90000){want:aa}(hv:cW want=true)(hn:aD want<=10000)(h0:r.2.2.e=0):
  cX (r.2.2.renew want)/\(r.2.2.renew want).e=0/\(r.2.2.renew want).live=true/\(r.2.2.renew want).sub.length<=1000000/\(r.2.2.renew want).vars=r.2.2.vars/\ef (r.2.2.renew want).sub.length 100000 (r.2.1,r.2.2.di want):=by
 obtain⟨n1,n2,n3,n4⟩:=u7 hv (by omega);obtain⟨m1,m2,m3,m4,m5⟩:=r.2.2.p8 (cB 0 (cK want)).toNat;have msub:=r.2.2.oG (cB 0 (cK want)).toNat;have hl:=h.len;obtain⟨s1,s2⟩:=LH r.2.2.sub.length (cK want) _ n1 (by omega);obtain⟨t1,t2⟩:=h.ty h0;have hm:=h.ok.more (cB 0 (cK want)).toNat (by omega);refine⟨hm,m3.trans h0,m5.trans (h.ok.live h0),by show(r.2.2.more _).sub.length<=_;omega,m2,?_⟩;show ef (r.2.2.more _).sub.length 100000 _;rw[msub];refine⟨t1.mono (by omega),s1,by show aD r.2.1<=_;omega,?_⟩;show aD (ll _ _)<=_
 rw[s2,n2];omega
theorem Xo{f:av}(hR:ck 100000 f.sub)(hvar:∀x∈f.vars,∃i:Nat,i<f.sub.length/\x.ty=aJ i)(hs:f.sub.length<=1000000):iH f.sub (f.vars.map (·.ty)) 4096 (vi f.sub (f.vars.map (·.ty)) 4096)/\gk f.sub (f.vars.map (·.ty)) (yY f.sub (f.vars.map (·.ty)))/\∀t∈f.vars.map (·.ty),aE f.sub.length t/\aD t<=100000:=by
 have ht:∀t∈f.vars.map (·.ty),aE f.sub.length t/\aD t<=100000:=fun t ht=>by
  obtain⟨x,hx,rfl⟩:=eu.1 ht;obtain⟨i,hi,e⟩:=hvar x hx;rw[e];exact⟨iB (by omega) (by omega) hs,by rw[oJ];omega⟩
 refine⟨Wb ?_,Wc ?_,ht⟩
 ·obtain⟨r,a,_⟩:=DE (d:=4096) (fun t n ht hn=>L0 hR.right 4097 t n ht (by omega)) (f.vars.map (·.ty)) 4096 (fun x hx=>(ht x hx).1) (Int.le_refl _);exact⟨r,a⟩
 ·obtain⟨rk,hL⟩:=hR.right.less;have key:∀l:List aa,(∀t∈l,aE f.sub.length t)->∃w,gk f.sub l w:=by
   intro l;induction l with
   |nil=>intro _;exact⟨[],.nil⟩
   |cons x l ih=>
    intro hx;obtain⟨m,hm⟩:=tw rk (hx x (bu ..));obtain⟨u,r⟩:=Vc hL m x (hx x (bu ..)) hm;obtain⟨w,rs⟩:=ih (fun t ht=>hx t (bS _ ht));exact⟨u::w,.cons r rs⟩
  exact key _ (fun t h=>(ht t h).1)
end Go.Proofs.YtdlkenpilhakfaaGreatDoor
namespace Go.Proofs.YtdlkenpilhakfaaGreatDoor
open Go.RowKit Go.Lamb
theorem vu{p:Nat}{σ E:H}(h:Kept σ.length p σ E):∃L,E=σ++L:=by
 have hl:=h.len;refine⟨E.drop σ.length,?_⟩;have e:E.take σ.length=σ:=by
  refine List.ext_getElem? fun j=>?_;by_cases hj:j<σ.length
  ·rw[List.getElem?_take_of_lt hj,h.low j hj]
  ·rw[qt (by rw[dV];omega),qt (by omega)]
 calc E=E.take σ.length++E.drop σ.length:=(List.take_append_drop ..).symm
  _=_:=by rw[e]
attribute [local go_sem] aa.v aa.aM a7 bh aW aQ aX
theorem Xp(w0:World){g:Sg}{p:ah}{want:aa}(hnp:a8 p<=2000)(hb:bw p<0\/4096<bw p\/cW want=false)(σ:H):DC prog w0 9 [g.v,p.v,want.v] σ (Same (vt (.none,[],1,0)) σ):=by
 refine k9.go rfl (fun hok hsz=>?_);have hS:=fun σ=>Mh w0 p (by omega) σ;have hV:=fun σ=>pO w0 want σ;unfold vt;by_cases h1:bw p<0
 ·((try refine W.a ?_);simp only[go_sem,c9,Sg.v]);(refine W.c1 (hS _) ?_;simp only[go_sem]);((try refine W.a ?_);simp only[go_sem,h1]);refine W.yes rfl (W.a ?_);simp only[go_sem,aa.none];(refine W.fs (hok) (by simp only[r9,go_sem];rfl) ?_;simp only[al];try exact V.wk.rfl _)
  all_goals (all_goals exact au)
 ·by_cases h2:bw p>4096
  ·((try refine W.a ?_);simp only[go_sem,c9,Sg.v]);(refine W.c1 (hS _) ?_;simp only[go_sem]);((try refine W.a ?_);simp only[go_sem,h1,h2]);refine W.yes rfl (W.a ?_);simp only[go_sem,aa.none];(refine W.fs (hok) (by simp only[r9,go_sem];rfl) ?_;simp only[al];try exact V.wk.rfl _)
   all_goals (all_goals exact au)
  ·have hv:cW want=false:=by
    rcases hb with hb|hb|hb
    ·exact absurd hb h1
    ·exact absurd hb h2
    ·exact hb
   rw[hv]at hV;((try refine W.a ?_);simp only[go_sem,c9,Sg.v]);(refine W.c1 (hS _) ?_;simp only[go_sem]);((try refine W.a ?_);simp only[go_sem,h1,h2]);(refine W.c1 (hV _) ?_;simp only[go_sem]);((try refine W.a ?_);simp only[go_sem]);refine W.yes rfl (W.a ?_);simp only[go_sem,aa.none];(refine W.fs (hok) (by simp only[r9,go_sem];rfl) ?_;simp only[al];try exact V.wk.rfl _)
   all_goals (all_goals exact au)
theorem Xq(w0:World){g:Sg}{Wd:Nat}(hW:∀x∈g.types,aD x.ty<=Wd)(hW1:1<=Wd)(hW2:Wd<=10000){p:ah}{want:aa}(hnp:a8 p<=2000)(hwp:(Wd+1)*a8 p<=900000)(hnw:aD want<=10000)(h1:¬bw p<0)(h2:¬bw p>4096)(hv:cW want=true)(σ:H):
  DC prog w0 9 [g.v,p.v,want.v] σ (Same (vt (oM (nE p want (bp g p eG)) (bp g p eG).1)) σ):=by
 refine k9.go rfl (fun hok hsz=>?_);have hS:=fun σ=>Mh w0 p (by omega) σ;have hV:=fun σ=>pO w0 want σ;rw[hv]at hV;have hTO:=yU hW hW1 hW2 p eG Mt (by omega) (by show 0+_<=_;omega);have hA1:bz σ.length (σ++[.cells [.c (kZ g.kinds),.c (gg g.types),.c (oe g.ops)],.cells p.v.ai,.cells want.v.ai,.cells [I 0,S [],I 0,.ab []],bK g eG (.ab []) (.ab []) (.ab [])]) (σ.length+4) g eG (.ab []) (.ab []) (.ab []):=⟨Go.Lamb.bT _ _ 4,by omega,fun _=>.inl ⟨rfl,rfl⟩,.inl ⟨rfl,rfl⟩,.inl ⟨rfl,rfl⟩⟩;have hT:=Wh w0 hW hW1 hW2 p hA1 (by rw[bD];omega) Mt (by omega) (by show 0+_<=_;omega) (by show 0+_<=_;omega) (by show 0+_<=_;omega) (by omega)
 have hwo:=fun h0=>Xn (want:=want) hTO (by show 0+_<=_;omega) (by omega) hv hnw h0;generalize hr:bp g p eG=r at*
 have hTy0:eG.e=0:=rfl;have hK0:=(Kept.refl σ.length (σ.length+4) σ).app (aA _) [.cells [.c (kZ g.kinds),.c (gg g.types),.c (oe g.ops)],.cells p.v.ai,.cells want.v.ai,.cells [I 0,S [],I 0,.ab []],bK g eG (.ab []) (.ab []) (.ab [])];simp only[bK,ah.v,aa.v,V.ai,eG]at hT hK0;unfold vt;((try refine W.a ?_);simp only[go_sem,c9,Sg.v]);(refine W.c1 (hS _) ?_;simp only[go_sem]);((try refine W.a ?_);simp only[go_sem,h1,h2]);(refine W.c1 (hV _) ?_;simp only[go_sem]);((try refine W.a ?_);simp only[go_sem])
 refine W.no rfl (W.a ?_);simp only[go_sem];(refine W.call (hT) rfl rfl (by first|rfl|simp) ?_);rintro d τ1 ⟨rfl,⟨u3,u4,u5,c2⟩,c3⟩;have hn1:σ.length+5<=τ1.length:=by have:=c3.len;simpa using this
 have a4:τ1[σ.length+1]?=some (.cells p.v.ai):=c3.cells _ _ _ (by omega) (Go.Lamb.bT _ _ 1);have a5:τ1[σ.length+2]?=some (.cells want.v.ai):=c3.cells _ _ _ (by omega) (Go.Lamb.bT _ _ 2);have a6:τ1[σ.length+3]?=some (.cells [I 0,S [],I 0,.ab []]):=c3.cells _ _ _ (by omega) (Go.Lamb.bT _ _ 3);obtain⟨E1,hE1⟩:∃X,(τ1++[ad.cells r.1.v.ai,ad.cells r.2.1.v.ai])=X:=⟨_,rfl⟩;have d1:=c2.app [ad.cells r.1.v.ai,ad.cells r.2.1.v.ai];have d2:=(hK0.trans c3).app (aA _) [ad.cells r.1.v.ai,ad.cells r.2.1.v.ai];have b12:(τ1++[ad.cells r.1.v.ai,ad.cells r.2.1.v.ai])[τ1.length]?=some (ad.cells r.1.v.ai):=Go.Lamb.eM _ _
 have b13:(τ1++[ad.cells r.1.v.ai,ad.cells r.2.1.v.ai])[τ1.length+1]?=some (ad.cells r.2.1.v.ai):=Go.Lamb.bT _ _ 1;have b4:=hG a4 [ad.cells r.1.v.ai,ad.cells r.2.1.v.ai];have b5:=hG a5 [ad.cells r.1.v.ai,ad.cells r.2.1.v.ai];have b6:=hG a6 [ad.cells r.1.v.ai,ad.cells r.2.1.v.ai];rw[hE1]at d1 d2 b12 b13 b4 b5 b6;have l13:=(aL.1 b13).1;have hnE1:σ.length<=E1.length:=by omega
 ((try refine W.a ?_);simp only[go_sem]);refine W.heap hE1 ?_;by_cases h0:r.2.2.e=0
 ·obtain⟨w1,w2,w3,w4,w5,w6⟩:=hwo h0;have hlive:=hTO.ok.live h0;obtain⟨τ2,v3,m1,m2,m3⟩:=Xm w0 d1 hnE1 hlive want hv hnw (by have:=hTO.len;show _<=_;have e:eG.sub.length=0:=rfl;omega);have hn2:=bE hnE1 m3.len;obtain⟨τ3,v3',o1,o2,o3⟩:=LG w0 m2 hn2 w3 w4 w1.right w6;have k2:(r.2.2.e==0)=true:=by simp[h0]
  have hEP:=d1.here;unfold bK at hEP;have f4:=o3.cells _ _ _ (by omega) (m3.cells _ _ _ (by omega) b4);have f6:=o3.cells _ _ _ (by omega) (m3.cells _ _ _ (by omega) b6);have f12:=o3.cells _ _ _ (by omega) (m3.cells _ _ _ (by omega) b12);have hQ2:=m2.here;unfold bK at hQ2;have b13':=m3.cells _ _ _ (by omega) b13;have hKE3:=(d2.trans m3).trans o3;simp only[aa.v,V.ai]at m1 o1 b5 b13 b13';apply W.aS (aT _ _)
  case hc=>
   (apply ae.aq;simp only[go_sem,hEP,k2,b5,b13]);(apply ae.call (m1);(case hg=>rfl);(case hf=>rfl);(case ha=>first|rfl|simp));(apply ae.aq;simp only[go_sem,hEP,b13,b13',hQ2]);(apply ae.call (o1);(case hg=>rfl);(case hf=>rfl);(case ha=>first|rfl|simp));(apply ae.aq;simp only[go_sem]);exact ae.nil
  cases hob:(r.2.2.renew want).lk r.2.1 (r.2.2.di want)
  ·have hwi:nE p want r=((r.2.2.renew want).one r.2.1 (r.2.2.di want)).fail 121 p.pos:=by unfold nE;rw[if_pos h0,if_neg (by rw[hob];decide)]
   have hF:=Dp w0 o2 121 p.pos;simp only[ah.v,V.ai]at f4;((try refine W.a ?_);simp only[go_sem]);refine W.yes rfl (W.a ?_);simp only[go_sem,f4];(refine W.call (hF) rfl rfl (by first|rfl|simp) ?_);rintro d τ4 ⟨rfl,p2,p3⟩;have hfe:(((r.2.2.renew want).one r.2.1 (r.2.2.di want)).fail 121 p.pos).e=121:=by unfold av.fail;rw[if_pos (show((r.2.2.renew want).one _ _).e=0 from w2)]
   rw[hwi];generalize ((r.2.2.renew want).one r.2.1 (r.2.2.di want)).fail 121 p.pos=f2 at*
   have k2:(f2.e !=0)=true:=by rw[hfe];rfl
   have hdn:oM f2 r.1=(.none,[],f2.e,f2.pos):=by unfold oM;rw[if_pos (by rw[hfe];decide)]
   rw[hdn];have e6:=p3.cells _ _ _ (by omega) f6;have hEP:=p2.here;unfold bK at hEP;have hKE:=hKE3.trans p3;have l6:=(aL.1 e6).1;have s6:∀A,(τ4.set (σ.length+3) A)[σ.length+3]?=some A:=fun A=>cr l6;have sP:=fun A=>(bX (l:=τ4) (a:=A) (by omega:σ.length+3≠σ.length+4)).trans hEP;have hsp:∀A,∃L,τ4.set (σ.length+3) A=σ++L:=fun A=>vu (hKE.set A (a:=σ.length+3) (by omega) (.inr (.inl (by omega))));((try refine W.a ?_);simp only[go_sem,hEP,k2]);refine W.yes rfl (W.a ?_);simp only[go_sem];apply W.aS (aT _ _)
   case hc=>
    (apply ae.aq;simp only[go_sem,hEP,e6,sP]);exact ae.nil
   ((try refine W.a ?_);simp only[go_sem]);obtain⟨L,hL⟩:=hsp (.cells [I 0,S [],I 0,.ab []] none);refine W.fs hok (by simp only[bA,r9,s6,go_sem];rfl) ?_ (hσ:=hL);simp only[al];exact au
  ·have hwi:nE p want r=(r.2.2.renew want).one r.2.1 (r.2.2.di want):=by unfold nE;rw[if_pos h0,if_pos hob]
   rw[hwi];obtain⟨x1,x2,x3⟩:=uV w1.right w4 w6;have hR2:ck 100000 ((r.2.2.renew want).one r.2.1 (r.2.2.di want)).sub:=x2;have hsl2:((r.2.2.renew want).one r.2.1 (r.2.2.di want)).sub.length<=1000000:=by show(eF _ _ _).2.length<=_;omega
   have hf0:((r.2.2.renew want).one r.2.1 (r.2.2.di want)).e=0:=w2;have hvar2:∀x∈((r.2.2.renew want).one r.2.1 (r.2.2.di want)).vars,∃i:Nat,i<((r.2.2.renew want).one r.2.1 (r.2.2.di want)).sub.length/\x.ty=aJ i:=fun x hx=>by
    obtain⟨i,hi,e⟩:=w1.var x hx;exact⟨i,by show i<(eF _ _ _).2.length;omega,e⟩
   have hlive2:((r.2.2.renew want).one r.2.1 (r.2.2.di want)).sub≠[]->((r.2.2.renew want).one r.2.1 (r.2.2.di want)).live=true:=fun hne=>by
    have hne':(r.2.2.renew want).sub≠[]:=fun e=>hne (List.eq_nil_of_length_eq_zero (by show(eF _ _ _).2.length=0;rw[x3,e];rfl));show((r.2.2.renew want).live&&(((eF (r.2.2.renew want).sub r.2.1 (r.2.2.di want)).1==0)&&!(r.2.2.renew want).sub.isEmpty))=true;have hb':((eF (r.2.2.renew want).sub r.2.1 (r.2.2.di want)).1==0)=true:=hob;rw[w3,hb'];cases hf:(r.2.2.renew want).sub with
    |nil=>exact absurd hf hne'
    |cons x l=>rfl
   have hvl2:((r.2.2.renew want).one r.2.1 (r.2.2.di want)).vars.length<=2000:=by
    show(r.2.2.renew want).vars.length<=_;rw[w5];have:=hTO.vars;have e:eG.vars.length=0:=rfl;omega
   generalize (r.2.2.renew want).one r.2.1 (r.2.2.di want)=f2 at*
   have k2:(f2.e !=0)=false:=by rw[hf0];rfl
   have e6:=f6;have e12:=f12;have hEP:=o2.here;unfold bK at hEP;have hKE:=hKE3;generalize hz5:u5=z5 at*
   ((try refine W.a ?_);simp only[go_sem]);refine W.no rfl (W.a ?_);simp only[go_sem,hEP,k2];refine W.no rfl ?_;have hdone:oM (f2) r.1=if bc r.1=true then za (f2) (vh r.1)else(.none,[],122,0):=by
    unfold oM;rw[if_neg (fun h=>h hf0)]
   rw[hdone];have e12L:=e12;simp only[aa.v,V.ai]at e12L;have hEPL:=fun L=>hG o2.here L;unfold bK at hEPL;by_cases hvt:bc r.1=true
   ·rw[if_pos hvt];have hnr1:Nr (2199023255552-8192*((1000:Nat):Int)) r.1:=⟨hvt,hTO.VA _ (by show((0:Nat):Int)+_<=_;omega) (by show((0:Nat):Int)+_<=_;omega)⟩;have hbi:cd 1000 r.1:=.vf hnr1 (by have:=hTO.nodes;omega);obtain⟨q,hq⟩:=Wa (V9 1000 (by decide) r.1 hbi);have hCan:=fun σ=>Xk w0 1000 (by decide) r.1 hbi (by have:=hTO.nodes;omega) hq σ;obtain⟨kq1,kq2⟩:=yX hq (by decide) hbi;have e1000:((1000:Nat):Int)=1000:=rfl;rw[e1000]at hCan;cases hno:vh r.1 with
    |none=>
     rw[hno]at hCan;simp only[lp,vY,aa.v,aa.none,a7,bh,aW,aQ,du]at hCan;simp only[za];obtain⟨E2,hE2⟩:∃X,(τ3++[ad.cells [I 0,S [],I 0,.c (.sl [])]])=X:=⟨_,rfl⟩;have hKE2:=hKE.app (aA _) [ad.cells [I 0,S [],I 0,.c (.sl [])]];have e62:=hG e6 [ad.cells [I 0,S [],I 0,.c (.sl [])]];rw[hE2]at hKE2 e62;have l6:=(aL.1 e62).1;have s6:∀A,(E2.set (σ.length+3) A)[σ.length+3]?=some A:=fun A=>cr l6;have hsp:∀A,∃L,E2.set (σ.length+3) A=σ++L:=fun A=>vu (hKE2.set A (a:=σ.length+3) (by omega) (.inr (.inl (by omega))))
     ((try refine W.a ?_);simp only[go_sem,e12L]);(refine W.c1 (hCan _) ?_;simp only[go_sem]);((try refine W.a ?_);simp only[go_sem]);refine W.heap hE2 ?_;refine W.yes rfl (W.a ?_);simp only[go_sem,e62];obtain⟨L,hL⟩:=hsp (.cells [I 0,S [],I 0,.ab []] none);refine W.fs hok (by simp only[bA,r9,s6,go_sem];rfl) ?_ (hσ:=hL);simp only[al];exact au
    |some u=>
     rw[hno]at hCan;obtain⟨kn1,kn2⟩:=kq2 u hno;obtain⟨so1,so2,so3⟩:=D6 (M:=2199023255552) (by decide) u kn1.1 (oz (by omega) u kn1.2);have hSz:=fun σ=>D1 w0 (bP u) (by have:=hTO.nodes;omega) σ;simp only[lp,iI]at hCan;simp only[za];generalize bP u=c at*;obtain⟨hend1,hend2,hend3⟩:=Xo hR2 hvar2 hsl2;have hliv:(f2).vars≠[]->(f2).live=true/\(f2).sub≠[]:=fun hne=>by
      obtain⟨x,hx⟩:=List.exists_mem_of_ne_nil _ hne;obtain⟨i,hi,_⟩:=hvar2 x hx;have:(f2).sub≠[]:=fun e=>by rw[e]at hi;cases hi
      exact⟨hlive2 this,this⟩
     obtain⟨E2,hE2⟩:∃X,(τ3++[ad.cells c.v.ai])=X:=⟨_,rfl⟩;have hAT2:=o2.app [ad.cells c.v.ai];have hKE2:=hKE.app (aA _) [ad.cells c.v.ai];have e62:=hG e6 [ad.cells c.v.ai];have e14:(τ3++[ad.cells c.v.ai])[(τ3).length]?=some (ad.cells c.v.ai):=Go.Lamb.eM _ _;have hTy:DC prog w0 32 [z5] (τ3++[ad.cells c.v.ai]) (Same (.c (.sl (((f2).vars.map (·.ty)).map aa.cs))) (τ3++[ad.cells c.v.ai])):=by
      have h:=Vk w0 (f2).vars (by omega) (τ3++[ad.cells c.v.ai]);have hm:lj (f2).vars=((f2).vars.map (·.ty)).map aa.cs:=by unfold lj;rw[List.map_map];rfl
      rw[hm]at h;rcases o2.var with⟨hv0,hy⟩|⟨bv,_,hy,_⟩
      ·rw[hy];rw[hv0]at h⊢;exact h.fP (qN (.ab _) (.rfl _))
      ·rw[hy];exact h.fP (qN (.aG _ _) (.rfl _))
     have hLg:=WW w0 hR2 (by decide) (fun hne=>(hliv (fun e=>hne (by rw[e];rfl))).1) hend1 hend3 (by rw[bW];omega) hAT2;rw[hE2]at hAT2 hKE2 e62 e14;have l6:=(aL.1 e62).1;have l14:=(aL.1 e14).1;have hle6:σ.length+3<(τ3).length:=(aL.1 e6).1;have s6:∀A,(E2.set (σ.length+3) A)[σ.length+3]?=some A:=fun A=>cr l6;have hsp:∀A,∃L,E2.set (σ.length+3) A=σ++L:=fun A=>vu (hKE2.set A (a:=σ.length+3) (by omega) (.inr (.inl (by omega))));generalize hlr:vi (f2).sub ((f2).vars.map (·.ty)) 4096=lr at*
     by_cases hz:(((cR c:Nat):Int)>4096)
     ·rw[if_pos (.inl (by omega))];((try refine W.a ?_);simp only[go_sem,e12L]);(refine W.c1 (hCan _) ?_;simp only[go_sem]);((try refine W.a ?_);simp only[go_sem]);(refine W.c1 (hSz _) ?_;simp only[go_sem]);((try refine W.a ?_);simp only[go_sem,hz]);refine W.heap hE2 ?_;refine W.yes rfl (W.a ?_);simp only[go_sem,e62];obtain⟨L,hL⟩:=hsp (.cells [I 0,S [],I 0,.ab []] none);refine W.fs hok (by simp only[bA,r9,s6,go_sem];rfl) ?_ (hσ:=hL);simp only[al];exact au
     ·simp only[aa.v,V.ai]at hTy hLg;by_cases hl0:lr<0
      ·rw[if_pos (.inr hl0)];have hd:decide (lr<0)=true:=by simpa using hl0
       rw[hd]at hLg;((try refine W.a ?_);simp only[go_sem,e12L]);(refine W.c1 (hCan _) ?_;simp only[go_sem]);((try refine W.a ?_);simp only[go_sem]);(refine W.c1 (hSz _) ?_;simp only[go_sem]);((try refine W.a ?_);simp only[go_sem,hz,hEPL]);(refine W.c1 (hTy) ?_;simp only[go_sem]);((try refine W.a ?_);simp only[go_sem]);(refine W.c1 (hLg) ?_;simp only[go_sem]);((try refine W.a ?_);simp only[go_sem]);refine W.heap hE2 ?_;refine W.yes rfl (W.a ?_);simp only[go_sem,e62];obtain⟨L,hL⟩:=hsp (.cells [I 0,S [],I 0,.ab []] none);refine W.fs hok (by simp only[bA,r9,s6,go_sem];rfl) ?_ (hσ:=hL)
       simp only[al];exact au
      ·rw[if_neg (fun h=>h.elim (fun h=>hz (by omega)) hl0)];have hd:decide (lr<0)=false:=by simpa using hl0
       rw[hd]at hLg;have hNm:DC prog w0 33 [.ptr (σ.length+4) 0] E2 (Same (.c (.sl ((vp (f2)).map az.cs))) E2):=by
        by_cases hv0:(f2).vars=[]
        ·exact WX w0 hv0 hAT2
        ·obtain⟨q1,q2⟩:=hliv hv0;obtain⟨r1,r2⟩:=DI hR2 hend2 hend1 (by omega) (fun x hx=>(hend3 x hx).1);exact WY w0 hR2 (by decide) hsl2 q1 (fun x hx=>hend3 _ (eu.2 ⟨x,hx,rfl⟩)) hv0 (by omega) q2 hend2 (by omega) (fun x hx=>(r2 x hx).valid) hAT2
       have s14:=fun A=>(bX (l:=E2) (a:=A) (by omega:σ.length+3≠(τ3).length)).trans e14;simp only[aa.v,V.ai]at e14 s14;((try refine W.a ?_);simp only[go_sem,e12L]);(refine W.c1 (hCan _) ?_;simp only[go_sem]);((try refine W.a ?_);simp only[go_sem]);(refine W.c1 (hSz _) ?_;simp only[go_sem]);((try refine W.a ?_);simp only[go_sem,hz,hEPL]);(refine W.c1 (hTy) ?_;simp only[go_sem]);((try refine W.a ?_);simp only[go_sem]);(refine W.c1 (hLg) ?_;simp only[go_sem]);((try refine W.a ?_);simp only[go_sem])
       refine W.heap hE2 ?_;refine W.no rfl (W.a ?_);simp only[go_sem];apply W.aS (aT _ _)
       case hc=>
        (apply ae.aq;simp only[go_sem]);(apply ae.call (hNm);(case hg=>rfl);(case hf=>rfl);(case ha=>first|rfl|simp));(apply ae.aq;simp only[go_sem,e14,e62,s14]);exact ae.nil
       ((try refine W.a ?_);simp only[go_sem]);obtain⟨L,hL⟩:=hsp (.cells c.v.ai none);refine W.fs hok (by simp only[bA,r9,s6,go_sem];rfl) ?_ (hσ:=hL);simp only[al];exact au
   ·rw[if_neg hvt];have hvf:bc r.1=false:=by simpa using hvt
    have hCan:=fun σ=>Xl w0 r.1 hvf 1000 σ;simp only[aa.v,aa.none,a7,bh,aW,aQ,du]at hCan;obtain⟨E2,hE2⟩:∃X,(τ3++[ad.cells [I 0,S [],I 0,.c (.sl [])]])=X:=⟨_,rfl⟩;have hKE2:=hKE.app (aA _) [ad.cells [I 0,S [],I 0,.c (.sl [])]];have e62:=hG e6 [ad.cells [I 0,S [],I 0,.c (.sl [])]];rw[hE2]at hKE2 e62;have l6:=(aL.1 e62).1;have s6:∀A,(E2.set (σ.length+3) A)[σ.length+3]?=some A:=fun A=>cr l6;have hsp:∀A,∃L,E2.set (σ.length+3) A=σ++L:=fun A=>vu (hKE2.set A (a:=σ.length+3) (by omega) (.inr (.inl (by omega))))
    ((try refine W.a ?_);simp only[go_sem,e12L]);(refine W.c1 (hCan _) ?_;simp only[go_sem]);((try refine W.a ?_);simp only[go_sem]);refine W.heap hE2 ?_;refine W.yes rfl (W.a ?_);simp only[go_sem,e62];obtain⟨L,hL⟩:=hsp (.cells [I 0,S [],I 0,.ab []] none);refine W.fs hok (by simp only[bA,r9,s6,go_sem];rfl) ?_ (hσ:=hL);simp only[al];exact au
 ·have hwi:nE p want r=r.2.2:=by unfold nE;rw[if_neg h0]
  rw[hwi];have k1:(r.2.2.e==0)=false:=by simp[h0]
  have k2:(r.2.2.e !=0)=true:=by simp[h0]
  have hdn:oM r.2.2 r.1=(.none,[],r.2.2.e,r.2.2.pos):=by unfold oM;rw[if_pos h0]
  rw[hdn];have e6:=b6;have hEP:=d1.here;unfold bK at hEP;have hKE:=d2;apply W.aS (aT _ _)
  case hc=>
   (apply ae.aq;simp only[go_sem,hEP,k1]);exact ae.nil
  ((try refine W.a ?_);simp only[go_sem]);refine W.no rfl ?_;have l6:=(aL.1 e6).1;have s6:∀A,(E1.set (σ.length+3) A)[σ.length+3]?=some A:=fun A=>cr l6;have sP:=fun A=>(bX (l:=E1) (a:=A) (by omega:σ.length+3≠σ.length+4)).trans hEP;have hsp:∀A,∃L,E1.set (σ.length+3) A=σ++L:=fun A=>vu (hKE.set A (a:=σ.length+3) (by omega) (.inr (.inl (by omega))));((try refine W.a ?_);simp only[go_sem,hEP,k2]);refine W.yes rfl (W.a ?_);simp only[go_sem];apply W.aS (aT _ _)
  case hc=>
   (apply ae.aq;simp only[go_sem,hEP,e6,sP]);exact ae.nil
  ((try refine W.a ?_);simp only[go_sem]);obtain⟨L,hL⟩:=hsp (.cells [I 0,S [],I 0,.ab []] none);refine W.fs hok (by simp only[bA,r9,s6,go_sem];rfl) ?_ (hσ:=hL);simp only[al];exact au
end Go.Proofs.YtdlkenpilhakfaaGreatDoor
namespace Go.Proofs.YtdlkenpilhakfaaGreatDoor
open Go.RowKit Go.Lamb
attribute [local go_sem] aa.v aa.aM a7 bh aW aQ aX
theorem Mu(w0:World){g:Sg}{Wd:Nat}(hW:∀x∈g.types,aD x.ty<=Wd)(hW1:1<=Wd)(hW2:Wd<=10000){p:ah}{want:aa}(hnp:a8 p<=2000)(hwp:(Wd+1)*a8 p<=900000)(hnw:aD want<=10000)(σ:H):
  DC prog w0 9 [g.v,p.v,want.v] σ (Same (vt (si g p want)) σ):=by
 unfold si;by_cases hb:bw p<0\/4096<bw p\/cW want=false
 ·rw[if_pos hb];exact Xp w0 hnp hb σ
 ·rw[if_neg hb];exact Xq w0 hW hW1 hW2 hnp hwp hnw (fun h=>hb (.inl h)) (fun h=>hb (.inr (.inl h))) (by
   cases hv:cW want
   ·exact absurd (.inr (.inr hv)) hb
   ·rfl) σ
end Go.Proofs.YtdlkenpilhakfaaGreatDoor
namespace Go.Proofs.YtdlkenpilhakfaaGreatDoor
open Go Go.RowKit Go.Lamb
theorem Xr(t:ah)(f:av):(f.e≠0)\/(f.e=0/\t.k=2)\/(f.e=0/\∃nm n b pos,t= .mk 4 nm n [b] pos)\/(f.e=0/\∃nm n a b pos,t= .mk 3 nm n [a,b] pos)\/(f.e=0/\t.k≠2/\∀g,bp g t f=ib g f t):=by
 by_cases he:f.e≠0
 ·exact .inl he
 replace he:f.e=0:=EY he;by_cases h2:t.k=2
 ·exact .inr (.inl ⟨he,h2⟩)
 by_cases h4:t.k=4/\t.l.length=1
 ·obtain⟨k,nm,n,l,pos⟩:=t;simp only[ah.k,ah.l]at h4;obtain⟨rfl,hl⟩:=h4
  match l,hl with
  |[b],_=>exact .inr (.inr (.inl ⟨he,nm,n,b,pos,rfl⟩))
 by_cases h3:t.k=3/\t.l.length=2
 ·obtain⟨k,nm,n,l,pos⟩:=t;simp only[ah.k,ah.l]at h3;obtain⟨rfl,hl⟩:=h3
  match l,hl with
  |[a,b],_=>exact .inr (.inr (.inr (.inl ⟨he,nm,n,a,b,pos,rfl⟩)))
 refine .inr (.inr (.inr (.inr ⟨he,h2,fun g=>?_⟩)));unfold bp;split
 ·simp only[ah.k,ah.l]at h2 h4;simp only[if_neg (not_not_intro he),if_neg h2];rw[if_neg (fun e=>h4 ⟨e,rfl⟩)]
 ·simp only[ah.k,ah.l]at h2 h3;simp only[if_neg (not_not_intro he),if_neg h2];rw[if_neg (fun e=>h3 ⟨e,rfl⟩)]
 ·simp only[ah.k]at h2;simp only[if_neg (not_not_intro he),if_neg h2]
def cv(d:Nat):aY:=[122,122,mD (97+d/26%26),mD (97+d%26)]
def lq(l:List aY):List az:=l.map fun s=>⟨s,.none⟩
mutual
def bZ(L:List (aY×aY))(d:Nat):ah->ah
 | .mk k nm n l pos=>if k=4 then .mk 4 (cv d) n (jb (L++[(nm,cv d)]) (d+1) l) pos
   else if(k=0\/k=1)/\0<=cy nm 0 (lq (L.map sH))then .mk 0 ((L.map Prod.snd).getD (cy nm 0 (lq (L.map sH))).toNat []) n [] pos
   else .mk k nm n (jb L d l) pos
def jb(L:List (aY×aY))(d:Nat):List ah->List ah
 |[]=>[]
 |x::l=>bZ L d x::jb L d l
end
theorem qe(L:List (aY×aY))(d:Nat):∀l,jb L d l=l.map (bZ L d)
 |[]=>by rw[jb];rfl
 |x::l=>by rw[jb,qe L d l];rfl
theorem Mv(nm:aY):∀(l l':List az) (i:Nat),l.map az.name=l'.map az.name->cy nm i l=cy nm i l'
 |[],[],_,_=>rfl
 |[],_::_,_,h=>by cases h
 |_::_,[],_,h=>by cases h
 |x::l,y::l',i,h=>by
  rw[cx,cx]at h;injection h with h1 h2;unfold cy;rw[Mv nm l l' (i+1) h2,h1]
theorem Xs:∀(t:ah) (L:List (aY×aY)) (d:Nat),bw (bZ L d t)=bw t:=by
 refine fun t=>ah.ind (P:=fun t=>∀(L:List (aY×aY)) (d:Nat),bw (bZ L d t)=bw t) (fun t ih L d=>?_) t;obtain⟨k,nm,n,l,pos⟩:=t;have key:∀(l':List ah),(∀q∈l',q∈l)->∀L d (n:Int),dQ n (l'.map (bZ L d))=dQ n l':=by
  intro l';induction l' with
  |nil=>intro _ L d n;rfl
  |cons x l' ihl=>
   intro h L d n;rw[cx,dQ,dQ,ih x (h x (bu ..)) L d,ihl (fun q hq=>h q (bS _ hq))]
 rw[bZ,qe,qe];by_cases h4:k=4
 ·subst h4;rw[if_pos rfl,bw,bw,key l (fun _ h=>h),bW]
 ·rw[if_neg h4];split
  ·rename_i hc;rw[bw,bw,if_pos (by simp),if_pos (by omega)]
  ·rw[bw,bw,key l (fun _ h=>h),bW]
def vv(s:aY):Bool:=decide (1<s.length)&&(s.take 2==[122,122])
mutual
def fm:ah->Bool
 | .mk _ nm _ l _=>vv nm||jc l
def jc:List ah->Bool
 |[]=>false
 |x::l=>fm x||jc l
end
theorem zb{q:ah}:∀{l:List ah},jc l=false->q∈l->fm q=false
 |[],_,h=>by cases h
 |x::l,hu,h=>by
  rw[jc,sC]at hu;rcases cA.1 h with rfl|h
  ·exact hu.1
  ·exact zb hu.2 h
theorem Xt{a b:Nat}(ha:a<676)(hb:b<676)(h:cv a=cv b):a=b:=by
 unfold cv at h;injection h with _ h;injection h with _ h;injection h with h1 h;injection h with h2 _;have e1:=congrArg UInt8.toNat h1;have e2:=congrArg UInt8.toNat h2;rw[UInt8.toNat_ofNat',UInt8.toNat_ofNat']at e1 e2;omega
theorem Xu(a:Nat):vv (cv a)=true:=rfl
structure sj (L:List (aY×aY)) (f:av) (B:List az):Prop where
 names:f.bound.map az.name=L.map sH
 own:B.map az.name=(fc L.length).map cv
 snd:L.map Prod.snd=(fc L.length).map cv
 x7:B.map az.ty=f.bound.map az.ty
theorem sj.len{L:List (aY×aY)}{f:av}{B:List az}(h:sj L f B):f.bound.length=L.length/\B.length=L.length:=by
 have h1:=congrArg List.length h.names;have h2:=congrArg List.length h.own;rw[bW,bW]at h1 h2;rw[List.length_range]at h2;exact⟨h1,h2⟩
theorem Xv(g:Sg)(f:av)(t:ah):(ib g f t).2.2.bound=f.bound:=by
 unfold ib;split
 ·rfl
 ·split
  ·unfold kl;split<;>rfl
  ·unfold uX;split
   ·exact(f.p8 _).1
   ·exact(yS f 120 t.pos).2.1
theorem D7(g:Sg)(t:ah):∀f:av,(bp g t f).2.2.bound=f.bound:=by
 refine ah.ind (P:=fun t=>∀f:av,(bp g t f).2.2.bound=f.bound) (fun t ih f=>?_) t;rcases Xr t f with he|⟨he,h2⟩|⟨he,nm,n,b,pos,rfl⟩|⟨he,nm,n,a,b,pos,rfl⟩|⟨he,h2,e⟩
 ·rw[p7 g t f he]
 ·rw[uY g t f he h2]
 ·rw[uZ g nm n b pos f he];show(bp g b _).2.2.bound.dropLast=_;rw[ih b (by simp[ah.l])];show(f.bound++[_]).dropLast=_;rw[EZ]
 ·rw[u6 g nm n a b pos f he];have h1:=ih a (by simp[ah.l]) f;have h2:=ih b (by simp[ah.l]) (bp g a f).2.2;unfold iX;split
  ·exact h2.trans h1
  ·dsimp only
   split
   ·exact h2.trans h1
   ·rw[(yS _ _ _).2.1];exact h2.trans h1
 ·rw[e];exact Xv g f t
def av.dc(f:av)(B:List az):av:={f with bound:=B}
theorem Mw(f:av)(B:List az)(e pos:Int):av.fail (av.dc f B) e pos=av.dc (f.fail e pos) B:=by
 unfold av.fail;show(if f.e=0 then _ else _)=_;split<;>rfl
theorem Mx(f:av)(B:List az):∀n,av.more (av.dc f B) n=av.dc (f.more n) B
 |0=>rfl
 |n+1=>by
  show av.fresh (av.more (av.dc f B) n)=_;rw[Mx f B n];rfl
theorem Xw(pos:Int)(r q:aa×aa×av)(B:List az):iX pos (r.1,r.2.1,av.dc r.2.2 B) (q.1,q.2.1,av.dc q.2.2 B)=((iX pos r q).1,(iX pos r q).2.1,av.dc (iX pos r q).2.2 B):=by
 unfold iX;show(if q.2.2.e≠0 then _ else _)=_;split
 ·rfl
 ·dsimp only
  show((ct r.1 [q.1],aJ q.2.2.sub.length,if q.2.2.fresh.lk r.2.1 (.arr q.2.1 (aJ q.2.2.sub.length))=true then av.dc (q.2.2.fresh.one r.2.1 (.arr q.2.1 (aJ q.2.2.sub.length))) B else av.fail (av.dc (q.2.2.fresh.one r.2.1 (.arr q.2.1 (aJ q.2.2.sub.length))) B) 121 pos):aa×aa×av)=_;rw[Mw];split<;>rfl
theorem Xx(g:Sg)(t:ah):∀(L:List (aY×aY)) (f:av) (B:List az),sj L f B->L.length+a8 t<=600->fm t=false->0<=bw t->
  bp g (bZ L L.length t) (av.dc f B)=((bp g t f).1,(bp g t f).2.1,av.dc (bp g t f).2.2 B):=by
 refine ah.ind (P:=fun t=>∀(L:List (aY×aY)) (f:av) (B:List az),sj L f B->L.length+a8 t<=600->fm t=false->0<=bw t->
  bp g (bZ L L.length t) (av.dc f B)=((bp g t f).1,(bp g t f).2.1,av.dc (bp g t f).2.2 B)) (fun t ih L f B hB hn hu hs=>?_) t
 by_cases he:f.e≠0
 ·rw[p7 g t f he,p7 g _ (av.dc f B) he]
 replace he:f.e=0:=EY he;have heB:(av.dc f B).e=0:=he;rcases L3 hs with hk|⟨nm,n,b,pos,rfl,hb⟩|⟨nm,n,a,b,pos,rfl,ha,hb⟩
 ·by_cases h2:t.k=2
  ·have hr:(bZ L L.length t).k=2/\(bZ L L.length t).n=t.n:=by
    obtain⟨k,nm,n,l,pos⟩:=t;simp only[ah.k]at h2;subst h2;rw[bZ,if_neg (by decide),if_neg (by simp)];exact⟨rfl,rfl⟩
   rw[uY g t f he h2,uY g _ (av.dc f B) heB hr.1,hr.2]
  ·obtain⟨hl1,hl2⟩:=hB.len;obtain⟨k,nm,n,l,pos⟩:=t;simp only[ah.k]at hk h2;have hnz:vv nm=false:=by
    rw[fm,sC]at hu;exact hu.1
   have hlk:cy nm 0 (lq (L.map sH))=cy nm 0 f.bound:=by
    refine Mv nm _ _ 0 ?_;rw[hB.names];unfold lq;rw[List.map_map];exact List.map_id' _
   rw[yQ g _ f he (by simpa[ah.k]using h2) (by simp[ah.k];omega) (by simp[ah.k];omega)];have hBname:∀j (hj:j<B.length),(B[j]).name=cv j:=fun j hj=>by
    have h1:(B.map az.name)[j]?=((fc L.length).map cv)[j]?:=by rw[hB.own]
    rw[nP,nP,aO hj,E6 (by omega)]at h1;simpa using h1
   have hBty:∀j (hj:j<B.length) (hj':j<f.bound.length),(B[j]).ty=(f.bound[j]).ty:=fun j hj hj'=>by
    have h1:(B.map az.ty)[j]?=(f.bound.map az.ty)[j]?:=by rw[hB.x7]
    rw[nP,nP,aO hj,aO hj']at h1;simpa using h1
   rcases u9 nm f.bound 0 with hneg|⟨i,hi,hpos⟩
   ·have hr:bZ L L.length (.mk k nm n l pos)= .mk k nm n (jb L L.length l) pos:=by
     rw[bZ,if_neg (by omega),if_neg (fun h=>by have:=h.2;rw[hlk,hneg]at this;omega)]
    have hBno:cy nm 0 B=-1:=uU nm B 0 fun x hx=>by
     obtain⟨j,hj,rfl⟩:=List.getElem_of_mem hx;rw[hBname j hj];cases hq:(cv j==nm)
     ·rfl
     ·have:cv j=nm:=by simpa using hq
      rw[<-this,Xu]at hnz;cases hnz
    rw[hr,yQ g _ (av.dc f B) heB (by simpa[ah.k]using h2) (by simp[ah.k];omega) (by simp[ah.k];omega)];unfold ib;have e1:(ah.mk k nm n (jb L L.length l) pos).name=nm:=rfl;have e2:(ah.mk k nm n l pos).name=nm:=rfl;have e3:(av.dc f B).bound=B:=rfl;have hz:¬(0:Int)<=-1:=by decide
    rw[e1,e2,e3,hBno,hneg];simp only[if_neg hz];have e4:(ah.mk k nm n (jb L L.length l) pos).k=k:=rfl;have e5:(ah.mk k nm n l pos).k=k:=rfl;rw[e4,e5];split
    ·unfold kl;rw[e1,e2];show(if cy nm 0 f.vars<0 then _ else _)=_;split<;>rfl
    ·unfold uX;rw[e1,e2];cases ln g nm with
     |none=>
      show(aa.mk 0 nm 0 [],aa.none,av.fail (av.dc f B) 120 pos)=_;rw[Mw];rfl
     |some u=>
      show(aa.mk 0 nm 0 [],ll f.sub.length (cK u),av.more (av.dc f B) _)=_;rw[Mx];rfl
   ·rw[er]at hpos;have bT:(L.map Prod.snd).getD i []=cv i:=by
     rw[hB.snd,cf,nP,E6 (by omega)];rfl
    have hr:bZ L L.length (.mk k nm n l pos)= .mk 0 (cv i) n [] pos:=by
     rw[bZ,if_neg (by omega),if_pos ⟨by omega,by rw[hlk,hpos];omega⟩,hlk,hpos,jk,bT]
    have hBi:cy (cv i) 0 B=(i:Int):=by
     have h:=yM (cv i) B 0 i (by omega) (by rw[hBname i (by omega)];simp) (fun k hk hk'=>by
      rw[hBname k hk'];cases hq:(cv k==cv i)
      ·rfl
      ·have:=Xt (by omega) (by omega) (by simpa using hq:cv k=cv i);omega)
     rw[er]at h;exact h
    rw[hr,yQ g _ (av.dc f B) heB (by simp[ah.k]) (by simp[ah.k]) (by simp[ah.k])];unfold ib;have e1:(ah.mk 0 (cv i) n [] pos).name=cv i:=rfl;have e2:(ah.mk k nm n l pos).name=nm:=rfl;have e3:(av.dc f B).bound=B:=rfl;rw[e1,e2,e3,hBi,hpos,if_pos (by omega),if_pos (by omega)];unfold sc;rw[e3,jk,hl1,hl2];have e4:(B.getD i .none).ty=(f.bound.getD i .none).ty:=by
     rw[cf,cf,aO (by omega:i<B.length),aO hi];exact hBty i (by omega) hi
    rw[e4]
 ·have hnb:a8 (.mk 4 nm n [b] pos)=1+a8 b:=by rw[a8,cj,cj];omega
  rw[hnb]at hn;rw[fm,sC]at hu;have hr:bZ L L.length (.mk 4 nm n [b] pos)= .mk 4 (cv L.length) n [bZ (L++[(nm,cv L.length)]) (L.length+1) b] pos:=by
   rw[bZ,if_pos rfl,jb,jb]
  have hLl:(L++[(nm,cv L.length)]).length=L.length+1:=by rw[bD];rfl
  have hB2:sj (L++[(nm,cv L.length)]) (f.fresh.push ⟨nm,aJ f.sub.length⟩) (B++[⟨cv L.length,aJ f.sub.length⟩]):=by
   refine⟨?_,?_,?_,?_⟩
   ·show(f.bound++[_]).map _=_;rw[dv,dv,hB.names];rfl
   ·rw[hLl,dv,hB.own,List.range_succ,dv];rfl
   ·rw[hLl,dv,hB.snd,List.range_succ,dv];rfl
   ·show _=(f.bound++[_]).map _;rw[dv,dv,hB.x7];rfl
  have h:=ih b (by simp[ah.l]) _ _ _ hB2 (by rw[hLl];omega) (zb hu.2 (by simp)) hb;rw[hLl]at h;have hbd:=D7 g b (f.fresh.push ⟨nm,aJ f.sub.length⟩);rw[hr,uZ g nm n b pos f he,uZ g (cv L.length) n _ pos (av.dc f B) heB];have e1:((av.dc f B).fresh.push ⟨cv L.length,aJ (av.dc f B).sub.length⟩)=av.dc (f.fresh.push ⟨nm,aJ f.sub.length⟩) (B++[⟨cv L.length,aJ f.sub.length⟩]):=rfl;rw[e1,h];unfold nB;dsimp only
  have e2:av.pop (av.dc (bp g b (f.fresh.push ⟨nm,aJ f.sub.length⟩)).2.2 (B++[⟨cv L.length,aJ f.sub.length⟩]))=av.dc (av.pop (bp g b (f.fresh.push ⟨nm,aJ f.sub.length⟩)).2.2) B:=by
   unfold av.pop av.dc;dsimp only
   rw[EZ]
  rw[e2];rfl
 ·have hnb:a8 (.mk 3 nm n [a,b] pos)=1+a8 a+a8 b:=by rw[a8,cj,cj,cj];omega
  rw[hnb]at hn;rw[fm,sC]at hu;have hr:bZ L L.length (.mk 3 nm n [a,b] pos)= .mk 3 nm n [bZ L L.length a,bZ L L.length b] pos:=by
   rw[bZ,if_neg (by decide),if_neg (by simp),jb,jb,jb]
  have h1:=ih a (by simp[ah.l]) L f B hB (by omega) (zb hu.2 (by simp)) ha;have hbd:=D7 g a f;have hB2:sj L (bp g a f).2.2 B:=⟨by rw[hbd];exact hB.names,hB.own,hB.snd,by rw[hbd];exact hB.x7⟩;have h2:=ih b (by simp[ah.l]) L _ B hB2 (by omega) (zb hu.2 (by simp)) hb;rw[hr,u6 g nm n a b pos f he,u6 g nm n _ _ pos (av.dc f B) heB,h1];dsimp only
  rw[h2,Xw]
theorem Xy(L:List (aY×aY))(d:Nat)(t:ah):(bZ L d t).pos=t.pos:=by
 obtain⟨k,nm,n,l,pos⟩:=t;rw[bZ];split
 ·rfl
 ·split<;>rfl
theorem Xz(g:Sg)(p:ah)(want:aa)(hn:a8 p<=600)(hu:fm p=false):si g (bZ [] 0 p) want=si g p want:=by
 unfold si;rw[Xs];by_cases hb:bw p<0\/4096<bw p\/cW want=false
 ·rw[if_pos hb,if_pos hb]
 ·rw[if_neg hb,if_neg hb];have h:=Xx g p [] eG [] ⟨rfl,rfl,rfl,rfl⟩ (by simpa using hn) hu (by omega);have e0:av.dc eG []=eG:=rfl;have e1:av.dc (bp g p eG).2.2 []=(bp g p eG).2.2:=by
   have:=D7 g p eG;have hb0:(bp g p eG).2.2.bound=[]:=this;unfold av.dc;generalize (bp g p eG).2.2=x at*
   cases x;simp only at hb0;subst hb0;rfl
  rw[e0,e1]at h;have h':bp g (bZ [] 0 p) eG=bp g p eG:=h;rw[h'];unfold nE;rw[Xy]
end Go.Proofs.YtdlkenpilhakfaaGreatDoor
namespace Go.Proofs.YtdlkenpilhakfaaGreatDoor
open Go.RowKit Go.Lamb
def c7:AC:=rsq [.o 2 (.box 0),.o 3 (.box 1),.o 4 (.af zF)] (.seq (rif [.f 7 1 2,.l 8 7,.o 9 (.aR 8),.o 10 (.bin .gtr 9 (zK 60)),.m 11 10,.z 12 (.aV 0 2) 11,.z 13 (.aU 12) 11,.z 14 (.aR 13) 11,.z 15 (.bin .gtr 14 (zK 60)) 11,.o 16 (.pick 11 zT 15)] 16 (rsq [.o 4 (.af zT)] .ret) .skip) (.seq (rsq [.o 5 (.af (zK 0))] (forL 0 1 [.m 17 5,.f 18 1 2,.l 19 18,.o 20 (.aR 19),.o 21 (.bin .lss 17 20)] 21 (rsq [.f 24 1 2,.l 25 24,.m 26 5,.o 27 (.aI 5 25 26),.f 28 1 27,.d 29 4 28,.k 30 8 [29,(zK 15)],.m 6 30] (rif [.m 31 6] 31 (rsq [.o 4 (.af zT)] .ret) .skip)) [.m 22 5,.o 23 (.bin .add 22 (zK 1)),.m 5 23])) (rsq [.d 32 5 3,.k 33 21 [32,(zK 60)],.m 4 33] .ret)))
def r7:List aw:=[.tmp 4]
theorem k7:aB prog 7 2 Tryz.f7 c7 r7:=.auto func7
def zd:AC:=rsq [.o 3 (.box 0),.o 6 (.box (.k (.agg [.c (.int .i64 0),.c (.str []),.c (.int .i64 0),.ab [],.c (.int .i64 0)])))] (rsq [.f 13 0 3,.l 14 13,.f 15 1 3,.l 16 15,.f 17 2 3,.l 18 17,.f 19 4 3,.l 20 19,.o 21 (.build [.c (.int .i64 0),.c (.str []),.c (.int .i64 0),.ab [],.c (.int .i64 0)] [(0,1,14),(1,1,16),(2,1,18),(4,1,20)]),.o 7 (.box (.k (.agg [.c (.int .i64 0),.c (.str []),.c (.int .i64 0),.ab [],.c (.int .i64 0)]))),.s 5 7 21] (.seq (rif [.f 22 0 3,.l 23 22,.o 24 (.bin .eql 23 (zK 4))] 24 (rsq [.m 25 2,.o 26 (.bin .quo 25 (zK 26)),.o 27 (.bin .rem 26 (zK 26)),.o 28 (.bin .add (zK 97) 27),.o 29 (.conv .u8 28),.m 30 2,.o 31 (.bin .rem 30 (zK 26)),.o 32 (.bin .add (zK 97) 31),.o 33 (.conv .u8 32),.o 34 (.bo 1 [29,33]),.o 35 (.qA 34),.o 36 (.bin .add (.k (.c (.str [122,122]))) 35),.m 8 36] (rsq [.o 9 (.af (.k (.ab [])))] (rsq [.m 37 9,.m 38 1,.o 39 (.app 9 1 16 37 38),.m 9 39] (rsq [.m 40 9,.f 41 1 3,.l 42 41,.m 43 8,.o 44 (.bo 1 [42,43]),.o 45 (.app 9 1 16 40 44),.m 9 45] (rsq [.m 46 8,.f 47 1 7,.s 1 47 46] (.seq (rsq [.o 10 (.af (zK 0))] (forL 0 1 [.m 48 10,.f 49 3 3,.l 50 49,.o 51 (.aR 50),.o 52 (.bin .lss 48 51)] 52 (drg [.f 55 3 7,.l 56 55,.f 57 3 3,.l 58 57,.m 59 10,.o 60 (.aI 5 58 59),.d 61 5 60,.m 62 9,.m 63 2,.o 64 (.bin .add 63 (zK 1)),.k 65 14 [61,62,64],.o 66 (.bo 5 [65]),.o 67 (.app 30 5 64 56 66),.f 68 3 7,.s 1 68 67] [2,3,4,5,6,7,8,9,110,0,1,211,312,413,514]) [.m 53 10,.o 54 (.bin .add 53 (zK 1)),.m 10 54])) (rsq [.d 69 5 7,.s 5 6 69] .ret))))))) .skip) (.seq (rif [.f 70 0 3,.l 71 70,.o 72 (.bin .eql 71 (zK 0)),.m 73 72,.z 74 (.aV 0 3) 73,.z 75 (.aU 74) 73,.z 76 (.bin .eql 75 (zK 1)) 73,.o 77 (.pick 73 zT 76)] 77 (rsq [.m 78 1,.o 79 (.aR 78),.o 80 (.bin .sub 79 (zK 2)),.m 11 80] (forL 2 3 [.m 81 11,.o 82 (.bin .geq 81 (zK 0))] 82 (.seq (drg [.m 85 1,.m 86 11,.o 87 (.aI 1 85 86),.l 88 87,.f 89 1 3,.l 90 89,.o 91 (.bin .eql 88 90)] [0,1,2,3,4,5,6]) (.cond 91 (rsq [.f 92 0 7,⟨none,.store 1 92 (zK 0),none⟩] (rsq [.m 93 1,.m 94 11,.o 95 (.bin .add 94 (zK 1)),.o 96 (.aI 1 93 95),.l 97 96,.f 98 1 7,.s 1 98 97] (rsq [.d 99 5 7,.s 5 6 99] .ret))) .skip)) [.m 83 11,.o 84 (.bin .sub 83 (zK 2)),.m 11 84])) .skip) (.seq (rsq [.o 12 (.af (zK 0))] (forL 4 5 [.m 100 12,.f 101 3 3,.l 102 101,.o 103 (.aR 102),.o 104 (.bin .lss 100 103)] 104 (drg [.f 107 3 7,.l 108 107,.f 109 3 3,.l 110 109,.m 111 12,.o 112 (.aI 5 110 111),.d 113 5 112,.m 114 1,.m 115 2,.k 116 14 [113,114,115],.o 117 (.bo 5 [116]),.o 118 (.app 30 5 64 108 117),.f 119 3 7,.s 1 119 118] [2,3,4,5,6,7,8,109,0,1,210,311,412,513]) [.m 105 12,.o 106 (.bin .add 105 (zK 1)),.m 12 106])) (rsq [.d 120 5 7,.s 5 6 120] .ret)))))
def vw:List aw:=[.br 5 6]
theorem XA:aB prog 14 3 Tryz.f14 zd vw:=.auto func14
def ze:AC:=rsq [.o 1 (.box 0),.o 2 (.af zF)] (.seq (rif [.f 5 1 1,.l 6 5,.o 7 (.lens 6),.o 8 (.bin .gtr 7 (zK 1)),.m 9 8,.y 10 (.aV 1 1) 9,.y 11 (.aU 10) 9,.y 12 (.nS 11 none (some (zK 2))) 9,.y 13 (.bin .eql 12 (.k (.c (.str [122,122])))) 9,.o 14 (.pick 9 13 zF)] 14 (rsq [.o 2 (.af zT)] .ret) .skip) (.seq (rsq [.o 3 (.af (zK 0))] (forL 0 1 [.m 15 3,.f 16 3 1,.l 17 16,.o 18 (.aR 17),.o 19 (.bin .lss 15 18)] 19 (rsq [.f 22 3 1,.l 23 22,.m 24 3,.o 25 (.aI 5 23 24),.d 26 5 25,.k 27 13 [26],.m 4 27] (rif [.m 28 4] 28 (rsq [.o 2 (.af zT)] .ret) .skip)) [.m 20 3,.o 21 (.bin .add 20 (zK 1)),.m 3 21])) (rsq [.o 2 (.af zF)] .ret)))
def sk:List aw:=[.tmp 2]
theorem XB:aB prog 13 1 Tryz.f13 ze sk:=.auto func13
def c4:AC:=rsq [.o 3 (.box 0),.o 4 (.box 1),.o 5 (.box 2),.o 6 (.af zF)] (rsq [.k 23 6 [],.m 7 23] (.seq (rif [.m 24 7,.o 25 (.un .not 24)] 25 (rsq [.o 6 (.af zF)] .ret) .skip) (rsq [.d 26 3 3,.d 27 5 4,.k 28 7 [26,27],.m 8 28] (rsq [.d 29 4 5,.k 30 8 [29,(zK 15)],.m 9 30] (rsq [.d 31 5 4,.k 32 13 [31],.m 10 32] (.seq (rif [.m 33 8,.m 34 33,.z 35 (.af 9) 34,.o 36 (.pick 34 zT 35),.m 37 36,.z 38 (.af 10) 37,.o 39 (.pick 37 zT 38)] 39 (rsq [.m 40 7,.m 6 40] .ret) .skip) (.seq (rsq [.o 11 (.af (zK 0))] (forL 0 1 [.m 41 11,.f 42 1 3,.l 43 42,.o 44 (.aR 43),.o 45 (.bin .lss 41 44)] 45 (rsq [.f 48 1 3,.l 49 48,.m 50 11,.o 51 (.aI 5 49 50),.f 52 0 51,.l 53 52,.m 12 53] (rif [.m 54 12,.o 55 (.lens 54),.o 56 (.bin .gtr 55 (zK 1)),.m 57 56,.y 58 (.af 12) 57,.y 59 (.nS 58 none (some (zK 2))) 57,.y 60 (.bin .eql 59 (.k (.c (.str [122,122])))) 57,.o 61 (.pick 57 60 zF)] 61 (rsq [.m 62 7,.m 6 62] .ret) .skip)) [.m 46 11,.o 47 (.bin .add 46 (zK 1)),.m 11 47])) (rsq [.d 64 3 3,.d 65 5 4,.d 66 4 5,.k 67 9 [64,65,66],.m 63 67,.x 68 63 0,.x 69 63 1,.x 70 63 2,.x 71 63 3,.o 13 (.box (.k (.agg zS4))),.s 4 13 68,.m 14 69,.m 15 70,.m 16 71] (.seq (drg [.d 73 3 3,.d 74 5 4,.k 75 14 [74,(.k (.ab [])),(zK 0)],.d 76 4 5,.k 77 9 [73,75,76],.m 72 77,.x 78 72 0,.x 79 72 1,.x 80 72 2,.x 81 72 3,.o 17 (.box (.k (.agg zS4))),.s 4 17 78,.m 18 79,.m 19 80,.m 20 81] [110,0,1,2,3,4,5,6,311,7,8,9,412,413,414]) (rsq [.d 82 4 13,.d 83 4 17,.k 84 11 [82,83],.m 21 84] (rsq [.m 85 14,.m 86 18,.k 87 12 [85,86],.m 22 87] (rsq [.m 88 7,.m 89 88,.y 90 (.af 21) 89,.o 91 (.pick 89 90 zF),.m 92 91,.y 93 (.af 22) 92,.o 94 (.pick 92 93 zF),.m 95 94,.y 96 (.af 15) 95,.y 97 (.af 19) 95,.y 98 (.bin .eql 96 97) 95,.o 99 (.pick 95 98 zF),.m 100 99,.y 101 (.af 16) 100,.y 102 (.af 20) 100,.y 103 (.bin .eql 101 102) 100,.o 104 (.pick 100 103 zF),.m 6 104] .ret))))))))))))
def r4:List aw:=[.tmp 6]
theorem k4:aB prog 4 3 Tryz.f4 c4 r4:=.auto func4
def c6:AC:=rsq [.o 0 (.af zF)] (rsq [.k 23 19 [(.k (.c (.str [116,121,112,101,32,102,32,105,110,116,32,45,62,32,111,46])))],.o 1 (.box (.k (.agg [.ab [],.ab [],.ab []]))),.s 3 1 23] (rsq [.f 25 2 1,.l 26 25,.k 27 20 [26,(.k (.c (.str [112,105,32,120,92,32,102,32,120])))],.m 24 27,.x 28 24 0,.x 29 24 1,.x 30 24 2,.o 2 (.box (.k (.agg [.c (.int .i64 0),.c (.str []),.c (.int .i64 0),.ab [],.c (.int .i64 0)]))),.s 5 2 28,.m 3 29,.m 4 30] (rsq [.d 32 3 1,.d 33 5 2,.k 34 17 [32,33],.m 31 34,.x 35 31 0,.x 36 31 1,.x 37 31 2,.x 38 31 3,.o 5 (.box (.k (.agg zS4))),.s 4 5 35,.m 6 36,.m 7 37,.m 8 38] (rsq [.f 40 2 1,.l 41 40,.k 42 20 [41,(.k (.c (.str [102,32,102])))],.m 39 42,.x 43 39 0,.x 44 39 1,.x 45 39 2,.o 9 (.box (.k (.agg [.c (.int .i64 0),.c (.str []),.c (.int .i64 0),.ab [],.c (.int .i64 0)]))),.s 5 9 43,.m 10 44,.m 11 45] (rsq [.d 47 3 1,.d 48 5 9,.k 49 17 [47,48],.m 46 49,.x 50 46 0,.x 51 46 1,.x 52 46 2,.x 53 46 3,.o 12 (.box (.k (.agg zS4))),.s 4 12 50,.m 13 51,.m 14 52,.m 15 53] (rsq [.f 55 2 1,.l 56 55,.k 57 20 [56,(.k (.c (.str [88,32,61,32,89,32,44,32,102,32,88])))],.m 54 57,.x 58 54 0,.x 59 54 1,.x 60 54 2,.o 16 (.box (.k (.agg [.c (.int .i64 0),.c (.str []),.c (.int .i64 0),.ab [],.c (.int .i64 0)]))),.s 5 16 58,.m 17 59,.m 18 60] (rsq [.d 62 3 1,.d 63 5 16,.k 64 17 [62,63],.m 61 64,.x 65 61 0,.x 66 61 1,.x 67 61 2,.x 68 61 3,.o 19 (.box (.k (.agg zS4))),.s 4 19 65,.m 20 66,.m 21 67,.m 22 68] (.seq (rif [.m 69 20,.o 70 (.aR 69),.o 71 (.bin .neq 70 (zK 2)),.m 72 71,.z 73 (.aV 3 5) 72,.z 74 (.aU 73) 72,.z 75 (.aR 74) 72,.z 76 (.bin .neq 75 (zK 2)) 72,.o 77 (.pick 72 zT 76)] 77 (rsq [.o 0 (.af zF)] .ret) .skip) (rsq [.f 78 3 5,.l 79 78,.o 80 (.aI 4 79 (zK 0)),.f 81 1 80,.l 82 81,.o 83 (.bin .eql 82 (.k (.c (.str [112,105])))),.m 84 83,.y 85 (.aV 3 5) 84,.y 86 (.aU 85) 84,.y 87 (.aI 4 86 (zK 1)) 84,.y 88 (.aV 1 87) 84,.y 89 (.aU 88) 84,.y 90 (.bin .eql 89 (.k (.c (.str [102])))) 84,.o 91 (.pick 84 90 zF),.m 92 91,.y 93 (.af 6) 92,.y 94 (.aR 93) 92,.y 95 (.bin .eql 94 (zK 0)) 92,.o 96 (.pick 92 95 zF),.m 97 96,.y 98 (.af 7) 97,.y 99 (.bin .eql 98 (zK 0)) 97,.o 100 (.pick 97 99 zF),.m 101 100,.y 102 (.af 14) 101,.y 103 (.bin .eql 102 (zK 121)) 101,.o 104 (.pick 101 103 zF),.m 105 104,.y 106 (.af 15) 105,.y 107 (.bin .eql 106 (zK 0)) 105,.o 108 (.pick 105 107 zF),.m 109 108,.y 110 (.af 21) 109,.y 111 (.bin .eql 110 (zK 0)) 109,.o 112 (.pick 109 111 zF),.m 113 112,.y 114 (.af 20) 113,.y 115 (.aI 5 114 (zK 0)) 113,.y 116 (.aV 0 115) 113,.y 117 (.aU 116) 113,.y 118 (.bin .eql 117 (.k (.c (.str [88])))) 113,.o 119 (.pick 113 118 zF),.m 120 119,.y 121 (.af 20) 120,.y 122 (.aI 5 121 (zK 0)) 120,.y 123 (.aV 1 122) 120,.y 124 (.aV 1 123) 120,.y 125 (.aU 124) 120,.y 126 (.bin .eql 125 (.k (.c (.str [105,110,116])))) 120,.o 127 (.pick 120 126 zF),.m 128 127,.y 129 (.af 20) 128,.y 130 (.aI 5 129 (zK 1)) 128,.y 131 (.aV 1 130) 128,.y 132 (.aV 1 131) 128,.y 133 (.aU 132) 128,.y 134 (.bin .eql 133 (.k (.c (.str [105,110,116])))) 128,.o 135 (.pick 128 134 zF),.m 0 135] .ret)))))))))
def r6:List aw:=[.tmp 0]
theorem k6:aB prog 6 0 Tryz.f6 c6 r6:=.auto func6
def My:AC:=rsq [.o 2 (.box (.k (.agg [.ab [],.ab [],.ab []])))] (rsq [.m 11 0,.k 12 56 [11],.m 10 12,.x 13 10 0,.x 14 10 1,.x 15 10 2,.x 16 10 3,.m 3 13,.m 4 14,.m 5 15,.m 6 16] (rsq [.m 18 3,.k 19 57 [18],.m 17 19,.x 20 17 0,.x 21 17 1,.x 22 17 2,.o 7 (.box (.k (.agg [.ab [],.ab [],.ab []]))),.s 3 7 20,.m 8 21,.m 9 22] (rsq [.d 23 3 7,.s 3 2 23] .ret)))
def Mz:List aw:=[.br 3 2]
theorem XC:aB prog 19 1 Tryz.f19 My Mz:=.auto func19
def c12:AC:=rsq [.o 4 (.af zF)] (.seq (rif [.m 7 0,.o 8 (.aR 7),.m 9 1,.o 10 (.aR 9),.o 11 (.bin .neq 8 10)] 11 (rsq [.o 4 (.af zF)] .ret) .skip) (.seq (rsq [.o 5 (.af (zK 0))] (forL 0 1 [.m 12 5,.m 13 0,.o 14 (.aR 13),.o 15 (.bin .lss 12 14)] 15 (.seq (drg [.m 18 0,.m 19 5,.o 20 (.aI 5 18 19),.f 21 1 20,.d 22 4 21,.m 23 1,.m 24 5,.o 25 (.aI 5 23 24),.f 26 1 25,.d 27 4 26,.k 28 49 [22,27],.m 6 28] [0,1,2,3,4,5,6,7,8,9,110,211]) (.seq (drg [.m 29 0,.m 30 5,.o 31 (.aI 5 29 30),.f 32 0 31,.l 33 32,.m 34 1,.m 35 5,.o 36 (.aI 5 34 35),.f 37 0 36,.l 38 37,.o 39 (.bin .neq 33 38),.m 40 39,.z 41 (.af 6) 40,.z 42 (.un .not 41) 40,.o 43 (.pick 40 zT 42)] [0,1,2,3,4,5,6,7,8,9,10,11,12,13,14]) (.cond 43 (rsq [.o 4 (.af zF)] .ret) .skip))) [.m 16 5,.o 17 (.bin .add 16 (zK 1)),.m 5 17])) (rsq [.o 4 (.af zT)] .ret)))
def MA:List aw:=[.tmp 4]
theorem XD:aB prog 12 2 Tryz.f12 c12 MA:=.auto func12
attribute [local go_sem] aa.v aa.aM a7 bh aW aQ aX eC.v eC.cs az.v az.cs kZ gg Sg.v
theorem XE(w0:World)(l:List az)(σ:H):DC prog w0 12 [.c (.sl (l.map az.cs)),.c (.sl (l.map az.cs))] σ (Same (B true) σ):=by
 refine XD.go rfl (fun hok hsz=>?_);have hn:l.length<=9223372036854775807:=tn (f:=az.cs) (hsz _ (bu ..));(refine W.a ?_;simp only[go_sem,c12,bne_self_eq_false']);refine W.no rfl (W.a ?_);simp only[go_sem];refine W.bB (fun i=>i<=l.length) (fun i=>⟨((((base.put (some 0) (.c (.sl (l.map az.cs)))).put (some 1) (.c (.sl (l.map az.cs)))).put (some 4) (B false)).put (some 5) (I (i:Nat))),σ⟩) (fun i=>l.length-i) 0 (bC _) ?_ (fun i hi=>?_)
 ·(refine ao.env ?_;exact aF)
 by_cases hlt:i<l.length
 ·have h1:((i:Int)<(l.length:Int)):=by omega
  have hx:l[i]?=some l[i]:=aO hlt;have hw:aN.wrap ((i:Int)+1)=((i+1:Nat):Int):=eB hlt (by omega);have hS:=fun σ=>Tj w0 l[i].ty l[i].ty σ;simp only[QH]at hS;generalize l[i]=u at*
  (refine W.a ?_;simp only[go_sem,h1]);refine W.yes rfl (W.a ?_);simp only[go_sem];apply W.aS (aT _ _)
  case hc=>
   (apply ae.aq;simp only[go_sem,h1,bQ,hx]);(apply ae.call (hS _);(case hg=>rfl);(case hf=>rfl);(case ha=>first|rfl|simp));(apply ae.aq;simp only[go_sem]);exact ae.nil
  (refine W.a ?_;simp only[go_sem]);(apply W.aS (aT _ _);case hc=>((apply ae.aq;simp only[go_sem,h1,bQ,hx,bne_self_eq_false']);exact ae.nil));(refine W.a ?_;simp only[go_sem]);refine W.no rfl (W.a ?_);simp only[go_sem,hw];refine .inv ⟨i+1,hlt,by omega,?_⟩;(refine ao.env ?_;exact aF)
 have h1:¬((i:Int)<(l.length:Int)):=by omega
 (refine W.a ?_;simp only[go_sem,h1]);refine W.no rfl (W.a ?_);simp only[go_sem];(refine W.fs (hok) (by simp only[MA,go_sem];rfl) ?_;simp only[al];try exact V.wk.rfl _)
mutual
theorem D8:∀(p:aa) (n:Int),0<=dA p n->dA p n=n-aD p
 | .mk _ _ _ l,n,h=>by
   rw[dA]at h⊢;rw[MB l (n-1) h,aD];omega
theorem MB:∀(l:List aa) (n:Int),0<=fU l n->fU l n=n-bR l
 |[],n,h=>by rw[fU,bR];omega
 |p::l,n,h=>by
  rw[fU]at h⊢;by_cases h0:0<=n
  ·rw[if_pos h0]at h⊢;by_cases h1:0<=dA p n
   ·rw[MB l _ h,D8 p n h1,bR];omega
   ·rw[Gn h1]at h;exact absurd h h1
  ·rw[if_neg h0]at h;exact absurd h h0
end
def mw(g:Sg)(p:ah):Bool:=decide (60<g.types.length)||decide (60<g.kinds.length)||g.types.any (fun x=>decide (dA x.ty 15<0))||decide (fZ p 60<0)
theorem MC(w0:World)(g:Sg)(p:ah)(σ:H):DC prog w0 7 [g.v,p.v] σ (Same (B (mw g p)) σ):=by
 refine k7.go rfl (fun hok hsz=>?_);unfold mw;by_cases ht:60<g.types.length
 ·have h1:((g.types.length:Int)>60):=by omega
  rw[decide_eq_true ht,mM,mM,mM];(refine W.a ?_;simp only[go_sem,c7,h1]);refine W.yes rfl (W.a ?_);simp only[go_sem];(refine W.fs (hok) (by simp only[r7,go_sem];rfl) ?_;simp only[al];try exact V.wk.rfl _)
 have h1:¬((g.types.length:Int)>60):=by omega
 rw[decide_eq_false ht,mK];by_cases hk:60<g.kinds.length
 ·have h2:((g.kinds.length:Int)>60):=by omega
  rw[decide_eq_true hk,mM,mM];(refine W.a ?_;simp only[go_sem,c7,h1,h2]);refine W.yes rfl (W.a ?_);simp only[go_sem];(refine W.fs (hok) (by simp only[r7,go_sem];rfl) ?_;simp only[al];try exact V.wk.rfl _)
 have h2:¬((g.kinds.length:Int)>60):=by omega
 rw[decide_eq_false hk,mK];(refine W.a ?_;simp only[go_sem,c7,h1,h2]);refine W.no rfl (W.a ?_);simp only[go_sem];refine W.bB (fun i=>i<=g.types.length/\(g.types.drop i).any (fun x=>decide (dA x.ty 15<0))=g.types.any (fun x=>decide (dA x.ty 15<0))) (fun i=>⟨((((base.put (some 2) (.ptr σ.length 0)).put (some 3) (.ptr (σ.length+1) 0)).put (some 4) (B false)).put (some 5) (I (i:Nat))),σ++[.cells g.v.ai,.cells p.v.ai]⟩) (fun i=>g.types.length-i) 0 ⟨bC _,rfl⟩ ?_ (fun i hi=>?_)
 ·(refine ao.env ?_;exact aF)
 obtain⟨hi,hinv⟩:=hi;by_cases hlt:i<g.types.length
 ·have h3:((i:Int)<(g.types.length:Int)):=by omega
  have hx:g.types[i]?=some g.types[i]:=aO hlt;have hw:aN.wrap ((i:Int)+1)=((i+1:Nat):Int):=eB hlt (by omega);have hL:=fun σ=>B9 w0 g.types[i].ty 15 (by decide) (by decide) σ;have hst:(g.types.drop i).any (fun x=>decide (dA x.ty 15<0))=(decide (dA g.types[i].ty 15<0)||(g.types.drop (i+1)).any (fun x=>decide (dA x.ty 15<0))):=by rw[lE hlt,List.any_cons]
  generalize hu:g.types[i]=u at*;generalize hd:decide (dA u.ty 15<0)=d at hL hst;(refine W.a ?_;simp only[go_sem,h3]);refine W.yes rfl (W.a ?_);simp only[go_sem,h3,bQ,hx];(refine W.c1 (hL _) ?_;simp only[go_sem]);cases d
  ·(refine W.a ?_;simp only[go_sem]);refine W.no rfl (W.a ?_);simp only[go_sem,hw];refine .inv ⟨i+1,⟨hlt,by rw[<-hinv,hst,mK]⟩,by omega,?_⟩;(refine ao.env ?_;exact aF)
  ·(refine W.a ?_;simp only[go_sem]);refine W.yes rfl (W.a ?_);simp only[go_sem];rw[<-hinv,hst,mM,mM];(refine W.fs (hok) (by simp only[r7,go_sem];rfl) ?_;simp only[al];try exact V.wk.rfl _)
 have h3:¬((i:Int)<(g.types.length:Int)):=by omega
 have hD:=fun σ=>Wr w0 p 60 (by decide) (by decide) σ;have he:g.types.any (fun x=>decide (dA x.ty 15<0))=false:=by
  rw[<-hinv,qs (by omega)];rfl
 rw[he,mK];(refine W.a ?_;simp only[go_sem,h3]);refine W.no rfl (W.a ?_);simp only[go_sem];(refine W.c1 (hD _) ?_;simp only[go_sem]);(refine W.fs (hok) (by simp only[r7,go_sem];rfl) ?_;simp only[al];try exact V.wk.rfl _)
theorem XF{g:Sg}{p:ah}(h:mw g p=false):g.types.length<=60/\g.kinds.length<=60/\(∀x∈g.types,aD x.ty<=15)/\a8 p<=60:=by
 unfold mw at h;simp only[sC,decide_eq_false_iff_not]at h;obtain⟨⟨⟨h1,h2⟩,h3⟩,h4⟩:=h;refine⟨by omega,by omega,fun x hx=>?_,?_⟩
 ·have:=List.any_eq_false.1 h3 x hx;simp only[decide_eq_true_eq]at this;have:=D8 x.ty 15 (by omega);omega
 ·have:=HA p 60 (by omega);omega
theorem MD{l:List ah}{i:Nat}(hi:i<l.length):jc (l.drop i)=(fm l[i]||jc (l.drop (i+1))):=by rw[lE hi,jc]
theorem XG(p:ah):fm p=(vv p.name||jc p.l):=by cases p;rw[fm];rfl
theorem ME(w0:World)(p:ah):∀(σ:H),DC prog w0 13 [p.v] σ (Same (B (fm p)) σ):=by
 refine ah.ind (P:=fun p=>∀(σ:H),DC prog w0 13 [p.v] σ (Same (B (fm p)) σ)) (fun p ih σ=>?_) p;refine XB.go rfl (fun hok hsz=>?_);have hlen:=Kf hsz (bu ..);rw[XG];have hz:vv p.name=(decide (1<p.name.length)&&(p.name.take 2==[122,122])):=rfl;by_cases hl:1<p.name.length
 ·have h1:((p.name.length:Int)>1):=by omega
  have h2:(2:Int)<=(p.name.length:Int):=by omega
  rw[decide_eq_true hl,Bool.true_and]at hz;rw[hz];have hb:(de 2 p.name==[122,122])=true\/(de 2 p.name==[122,122])=false:=by cases(de 2 p.name==[122,122])<;>simp
  rcases hb with hb|hb
  ·rw[hb,mM];(refine W.a ?_;simp only[go_sem,ze,h1,h2,hb]);refine W.yes rfl (W.a ?_);simp only[go_sem];(refine W.fs (hok) (by simp only[sk,go_sem];rfl) ?_;simp only[al];try exact V.wk.rfl _)
  ·rw[hb,mK];(refine W.a ?_;simp only[go_sem,ze,h1,h2,hb]);refine W.no rfl (W.a ?_);simp only[go_sem];refine W.bB (fun i=>i<=p.l.length/\jc (p.l.drop i)=jc p.l) (fun i=>⟨(((base.put (some 1) (.ptr σ.length 0)).put (some 2) (B false)).put (some 3) (I (i:Nat))),σ++[.cells p.v.ai]⟩) (fun i=>p.l.length-i) 0 ⟨bC _,rfl⟩ ?_ (fun i hi=>?_)
   ·(refine ao.env ?_;exact aF)
   obtain⟨hi,hinv⟩:=hi;by_cases hlt:i<p.l.length
   ·have h3:((i:Int)<(p.l.length:Int)):=by omega
    have hx:p.l[i]?=some p.l[i]:=aO hlt;have hw:aN.wrap ((i:Int)+1)=((i+1:Nat):Int):=eB hlt hlen;have hU:=fun σ=>ih p.l[i] (bt hlt) σ;have hst:=MD hlt;generalize p.l[i]=u at*;generalize fm u=d at*
    (refine W.a ?_;simp only[go_sem,h3]);refine W.yes rfl (W.a ?_);simp only[go_sem,h3,bQ,hx];(refine W.c1 (hU _) ?_;simp only[go_sem]);cases d
    ·(refine W.a ?_;simp only[go_sem]);refine W.no rfl (W.a ?_);simp only[go_sem,hw];refine .inv ⟨i+1,⟨hlt,by rw[<-hinv,hst,mK]⟩,by omega,?_⟩;(refine ao.env ?_;exact aF)
    ·(refine W.a ?_;simp only[go_sem]);refine W.yes rfl (W.a ?_);simp only[go_sem];rw[<-hinv,hst,mM];(refine W.fs (hok) (by simp only[sk,go_sem];rfl) ?_;simp only[al];try exact V.wk.rfl _)
   have h3:¬((i:Int)<(p.l.length:Int)):=by omega
   rw[<-hinv,qs (by omega),jc];(refine W.a ?_;simp only[go_sem,h3]);refine W.no rfl (W.a ?_);simp only[go_sem];(refine W.fs (hok) (by simp only[sk,go_sem];rfl) ?_;simp only[al];try exact V.wk.rfl _)
 ·have h1:¬((p.name.length:Int)>1):=by omega
  rw[decide_eq_false hl,Bool.false_and]at hz;rw[hz,mK];(refine W.a ?_;simp only[go_sem,ze,h1]);refine W.no rfl (W.a ?_);simp only[go_sem];refine W.bB (fun i=>i<=p.l.length/\jc (p.l.drop i)=jc p.l) (fun i=>⟨(((base.put (some 1) (.ptr σ.length 0)).put (some 2) (B false)).put (some 3) (I (i:Nat))),σ++[.cells p.v.ai]⟩) (fun i=>p.l.length-i) 0 ⟨bC _,rfl⟩ ?_ (fun i hi=>?_)
  ·(refine ao.env ?_;exact aF)
  obtain⟨hi,hinv⟩:=hi;by_cases hlt:i<p.l.length
  ·have h3:((i:Int)<(p.l.length:Int)):=by omega
   have hx:p.l[i]?=some p.l[i]:=aO hlt;have hw:aN.wrap ((i:Int)+1)=((i+1:Nat):Int):=eB hlt hlen;have hU:=fun σ=>ih p.l[i] (bt hlt) σ;have hst:=MD hlt;generalize p.l[i]=u at*;generalize fm u=d at*
   (refine W.a ?_;simp only[go_sem,h3]);refine W.yes rfl (W.a ?_);simp only[go_sem,h3,bQ,hx];(refine W.c1 (hU _) ?_;simp only[go_sem]);cases d
   ·(refine W.a ?_;simp only[go_sem]);refine W.no rfl (W.a ?_);simp only[go_sem,hw];refine .inv ⟨i+1,⟨hlt,by rw[<-hinv,hst,mK]⟩,by omega,?_⟩;(refine ao.env ?_;exact aF)
   ·(refine W.a ?_;simp only[go_sem]);refine W.yes rfl (W.a ?_);simp only[go_sem];rw[<-hinv,hst,mM];(refine W.fs (hok) (by simp only[sk,go_sem];rfl) ?_;simp only[al];try exact V.wk.rfl _)
  have h3:¬((i:Int)<(p.l.length:Int)):=by omega
  rw[<-hinv,qs (by omega),jc];(refine W.a ?_;simp only[go_sem,h3]);refine W.no rfl (W.a ?_);simp only[go_sem];(refine W.fs (hok) (by simp only[sk,go_sem];rfl) ?_;simp only[al];try exact V.wk.rfl _)
end Go.Proofs.YtdlkenpilhakfaaGreatDoor
namespace Go.Proofs.YtdlkenpilhakfaaGreatDoor
open Go.RowKit Go.Lamb
attribute [local go_sem] ah.v
def cY:List (aY×aY)->List (List C)
 |[]=>[]
 |x::L=>[.str x.1]::[.str x.2]::cY L
theorem MF:∀L,(cY L).length=2*L.length
 |[]=>rfl
 |x::L=>by rw[cY,bk,bk,MF L,bk];omega
theorem MG:∀(L M:List (aY×aY)),cY (L++M)=cY L++cY M
 |[],M=>rfl
 |x::L,M=>by rw[List.cons_append,cY,MG L M];rfl
theorem MH:∀(L:List (aY×aY)),∀r∈cY L,r.length=1
 |[],r,h=>by cases h
 |x::L,r,h=>by
  rw[cY]at h;rcases cA.1 h with rfl|h
  ·rfl
  rcases cA.1 h with rfl|h
  ·rfl
  exact MH L r h
theorem MI:∀(L:List (aY×aY)) (k:Nat) (hk:k<L.length),(cY L)[2*k]?=some [.str L[k].1]/\(cY L)[2*k+1]?=some [.str L[k].2]
 |x::L,0,_=>⟨rfl,rfl⟩
 |x::L,k+1,hk=>by
  have:=MI L k (by simpa using hk);rw[show 2*(k+1)=2*k+1+1 from by omega];exact this
theorem MJ(l:List aY):(lq l).length=l.length:=bW _
theorem XH{L:List (aY×aY)}{nm:aY}{k:Nat}(hk:k<L.length)(h:L[k].1=nm)(ha:∀j (hj:j<L.length),k<j->L[j].1≠nm):cy nm 0 (lq (L.map sH))=(k:Int):=by
 have:=yM nm (lq (L.map sH)) 0 k (by rw[MJ,bW];exact hk) (by simp[lq,h]) (fun j hj hj'=>by
  rw[MJ,bW]at hj';have:=ha j hj' hj;simp[lq,this])
 simpa using this
theorem XI{L:List (aY×aY)}{nm:aY}(ha:∀j (hj:j<L.length),L[j].1≠nm):cy nm 0 (lq (L.map sH))=-1:=by
 refine uU nm _ 0 (fun x hx=>?_);unfold lq at hx;obtain⟨s,hs,rfl⟩:=eu.1 hx;obtain⟨y,hy,rfl⟩:=eu.1 hs;obtain⟨j,hj,rfl⟩:=List.mem_iff_getElem.1 hy;simpa using ha j hj
theorem MK(p:ah):1<=a8 p:=by rw[tT];omega
theorem ML:∀l:List ah,l.length<=cj l
 |[]=>bC _
 |x::l=>by
  have:=ML l;have:=MK x;rw[cj,bk];omega
theorem MM{n:Nat}(h:n<256):EF.wrap (n:Int)=(n:Int):=by
 unfold IntKind.wrap IntKind.bits IntKind.signed;simp;omega
theorem D9{σ:H}{a b c:ad}(L:H):(σ++a::b::c::L)[σ.length+2]?=some c:=by
 rw[List.getElem?_append_right (by omega),show σ.length+2-σ.length=2 from by omega];rfl
theorem XJ(w0:World)(p:ah):∀(L:List (aY×aY)) (d:Nat),L.length+a8 p<=2000->d+a8 p<=2000->∀σ:H,DC prog w0 14 [p.v,.c (.sl (cY L)),I (d:Int)] σ (Same (bZ L d p).v σ):=by
 refine ah.ind (P:=fun p=>∀(L:List (aY×aY)) (d:Nat),L.length+a8 p<=2000->d+a8 p<=2000->∀σ:H,DC prog w0 14 [p.v,.c (.sl (cY L)),I (d:Int)] σ (Same (bZ L d p).v σ)) (fun p ih L d hL hd σ=>?_) p;refine XA.go rfl (fun hok hsz=>?_);obtain⟨k,nm,n,l,pos⟩:=p;have hlen:l.length<=2000:=by
  have:=ML l;rw[a8]at hL;omega
 have hin:∀x∈l,a8 x+1<=a8 (.mk k nm n l pos):=fun x hx=>by
  have:=D0 hx;rw[a8];omega
 have hpos:=MK (ah.mk k nm n l pos);have hRl:=MF L;have hR1:(∀r∈cY L,r.length=1)=True:=eq_true (MH L);replace ih:=fun x hx=>ih x (show x∈l from hx);generalize cF:bZ L d (.mk k nm n l pos)=res;rw[bZ,qe,qe]at cF;by_cases hk:k=4
 ·subst hk;rw[if_pos rfl]at cF;have hkids:∀(i:Nat) (hi:i<l.length) (hi':i<(l.map (bZ (L++[(nm,cv d)]) (d+1))).length) (σ:H),DC prog w0 14 [(l[i]).v,.c (.sl (cY (L++[(nm,cv d)]))),I (((d+1):Nat):Int)] σ (Same ((l.map (bZ (L++[(nm,cv d)]) (d+1)))[i]).v σ):=fun i hi hi' σ=>by
   rw[dN];have:=hin l[i] (bt hi);exact ih l[i] (bt hi) (L++[(nm,cv d)]) (d+1) (by rw[bD,List.length_singleton];omega) (by omega) σ
  have hol:(l.map (bZ (L++[(nm,cv d)]) (d+1))).length=l.length:=bW _;generalize l.map (bZ (L++[(nm,cv d)]) (d+1))=o at*;subst cF;have q1:((d:Int).tdiv 26)=((d/26:Nat):Int):=by rw[Int.tdiv_eq_ediv_of_nonneg (by omega)];omega
  have q2:(((d/26:Nat):Int).tmod 26)=((d/26%26:Nat):Int):=by rw[ZY (by omega)];omega
  have q3:((d:Int).tmod 26)=((d%26:Nat):Int):=by rw[ZY (by omega)];omega
  have q4:aN.wrap ((d/26:Nat):Int)=((d/26:Nat):Int):=by rw[bn]<;>omega
  have q5:aN.wrap ((d/26%26:Nat):Int)=((d/26%26:Nat):Int):=by rw[bn]<;>omega
  have q6:aN.wrap ((d%26:Nat):Int)=((d%26:Nat):Int):=by rw[bn]<;>omega
  have q7:aN.wrap (97+((d/26%26:Nat):Int))=((97+d/26%26:Nat):Int):=by rw[bn]<;>omega
  have q8:aN.wrap (97+((d%26:Nat):Int))=((97+d%26:Nat):Int):=by rw[bn]<;>omega
  have q9:EF.wrap ((97+d/26%26:Nat):Int)=((97+d/26%26:Nat):Int):=MM (by omega);have qa:EF.wrap ((97+d%26:Nat):Int)=((97+d%26:Nat):Int):=MM (by omega);have hwd:aN.wrap ((d:Int)+1)=((d+1:Nat):Int):=by rw[bn]<;>omega
  have hra:cY (L++[(nm,cv d)])=cY L++[[.str nm],[.str (cv d)]]:=MG _ _;have hown:cv d=[122,122,mD (97+d/26%26),mD (97+d%26)]:=rfl;have r1:(0+(cY L).length)*16<=140737488355328:=by omega
  have r2:0+(cY L).length<=140737488355328:=by omega
  have r3:(cY L).length*16<=140737488355328:=by omega
  have r4:(cY L).length<=140737488355328:=by omega
  have r5:((cY L).length+2)*16<=140737488355328:=by omega
  have r6:(cY L).length+2<=140737488355328:=by omega
  have r7:(cY L).length+1<=140737488355327:=by omega
  have r8:(cY L).length<=140737488355326:=by omega
  rw[hra]at hkids;clear ih hin hsz hL hd hpos hra hRl;generalize cY L=R at*;generalize cv d=own at*
  (refine W.a ?_;simp only[go_sem,zd,beq_self_eq_true]);refine W.yes rfl (W.a ?_);simp only[go_sem,q1,q2,q3,q4,q5,q6,q7,q8,q9,qa,jk,true_or,hR1,r1,r2,r3,r4,r5,r6,r7,r8,<-hown];refine W.nf (σ.length+2) 3 30 5 (cs:=[I 4,S own,I n,.ab [],I pos]) (tg:=none) ?_ rfl ?_
  ·exact D9 _
  simp only[go_sem];refine W.bB (fun i=>i<=l.length) (fun i=>⟨((((((base.put (some 2) (I (d:Int))).put (some 9) (.aG (σ.length+3) (R++[[.str nm],[.str own]]))).put (some 3) (.ptr σ.length 0)).put (some 6) (.ptr (σ.length+1) 0)).put (some 7) (.ptr (σ.length+2) 0)).put (some 10) (I (i:Int))),σ++[.cells [I 4,S nm,I n,.c (.sl (l.map ah.cs)),I pos],.cells [I 0,S [],I 0,.ab [],I 0],.cells [I 4,S own,I n,.aG (σ.length+4) ((o.take i).map ah.cs),I pos],.spare 9 1 (R.length+2),.spare 30 5 i]⟩) (fun i=>l.length-i) 0 (bC _) ?_ (fun i hi=>?_)
  ·simp only[cV,du];simp only[go_sem,mY];(refine ao.env ?_;exact aF)
  by_cases hlt2:i<l.length
  ·have hlt':i<o.length:=by omega
   have h1:(i:Int)<(l.length:Int):=by omega
   have h0:(0:Int)<=(i:Int):=by omega
   have hx:l[i]?=some l[i]:=aO hlt2;have hw:aN.wrap ((i:Int)+1)=((i+1:Nat):Int):=by rw[bn]<;>omega
   have hb1:(i+1)*64<=140737488355328:=by omega
   have hb2:i+1<=140737488355328:=by omega
   have hb3:i<=140737488355327:=by omega
   have hti:((o.take i).map ah.cs).length=i:=by rw[bW,dV];omega
   have hts:(o.take (i+1)).map ah.cs=(o.take i).map ah.cs++[[.int .i64 o[i].k,.str o[i].name,.int .i64 o[i].n,.sl (o[i].l.map ah.cs),.int .i64 o[i].pos]]:=by
    rw[il hlt',dv,cx,du,ah.aM]
   have hki:=fun σ=>hkids i hlt2 hlt' σ;simp only[ah.v]at hki;generalize o[i]=y at*;generalize l[i]=x at*;generalize (o.take i).map ah.cs=mr at*
   (refine W.a ?_;simp only[go_sem,h1]);refine W.yes rfl (W.a ?_);simp only[go_sem];apply W.aS (aT _ _)
   case hc=>
    (apply ae.aq;simp only[go_sem,h1,h0,hx,ah.aM,hwd]);(apply ae.qT (hki _);(case hg=>rfl);(case hf=>rfl);(case ha=>rfl);(case hw=>((exact au))));(apply ae.aq;simp only[go_sem,hb1,hb2,hb3,hti]);exact ae.nil
   (refine W.a ?_;simp only[go_sem,hw]);refine .inv ⟨i+1,hlt2,by omega,?_⟩;rw[hts];(refine ao.eN (hok) ?_ (by simp) (by simp) ?_ ?_ ?_;exact aF;((try simp only[okB,bx,go_sem])<;>omega);(simp only[bk,cN,dI,dZ,cV,bx,and_true];(repeat' (refine eV ?_ ?_))<;>(first|exact ad.wk.rfl _|exact ad.wk.gone _|(refine ad.eO ?_ rfl;(exact au))));(repeat' (first|exact aZ.base _|(refine aZ.put ?_ (by first|exact .c _|((try simp only[okB,bx,go_sem])<;>omega))))))
  have h1:¬(i:Int)<(l.length:Int):=by omega
  have hto:o.take i=o:=eT (by omega);rw[hto];(refine W.a ?_;simp only[go_sem,h1]);refine W.no rfl (W.a ?_);simp only[go_sem];(refine W.fg (hok) (d:=.agg [I 4,S own,I n,.c (.sl (o.map ah.cs)),I pos]) (by simp only[vw,go_sem];rfl) (by simp only[al,go_sem];exact au) ?_);exact⟨rfl,rfl⟩
 rw[if_neg hk]at cF;have k4:(k==4)=false:=by simpa using hk
 by_cases hkn:k=0\/k=1
 ·have hT:((k==0)=true/\(1==1)=true)\/((k==0)=false/\(k==1)=true):=by
   rcases hkn with rfl|rfl
   ·exact .inl ⟨rfl,rfl⟩
   ·exact .inr ⟨rfl,rfl⟩
  have hw0:aN.wrap (((cY L).length:Int)-2)=2*(L.length:Int)-2:=by rw[hRl,bn]<;>omega
  rcases hT with⟨k0,k1⟩|⟨k0,k1⟩
  all_goals (
   (refine W.a ?_;simp only[go_sem,zd,k4]);refine W.no rfl (W.a ?_);simp only[go_sem,k0,k1];refine W.yes rfl (W.a ?_);simp only[go_sem,hw0];refine W.bB (fun j=>j<=L.length/\∀i (hi:i<L.length),j<=i->L[i].1≠nm) (fun j=>⟨((((((base.put (some 1) (.c (.sl (cY L)))).put (some 2) (I (d:Int))).put (some 3) (.ptr σ.length 0)).put (some 6) (.ptr (σ.length+1) 0)).put (some 7) (.ptr (σ.length+2) 0)).put (some 11) (I (2*(j:Int)-2))),σ++[.cells [I k,S nm,I n,.c (.sl (l.map ah.cs)),I pos],.cells [I 0,S [],I 0,.ab [],I 0],.cells [I k,S nm,I n,.ab [],I pos]]⟩) (fun j=>j) L.length ⟨aA _,fun i hi h=>absurd hi (by omega)⟩ ?_ (fun j hj=>?_)
   ·(refine ao.env ?_;exact aF)
   obtain⟨hj,hno⟩:=hj;cases j with
   |zero=>
    have hl:=XI (L:=L) (nm:=nm) (fun i hi=>hno i hi (bC _));rw[if_neg (fun h=>by rw[hl]at h;exact absurd h.2 (by decide))]at cF;have e0:(2*((0:Nat):Int)-2)=-2:=rfl;rw[e0];clear hno hw0;have hkids:∀(i:Nat) (hi:i<l.length) (hi':i<(l.map (bZ L d)).length) (σ:H),DC prog w0 14 [(l[i]).v,.c (.sl (cY L)),I ((d:Nat):Int)] σ (Same ((l.map (bZ L d))[i]).v σ):=fun i hi hi' σ=>by
     rw[dN];have:=hin l[i] (bt hi);exact ih l[i] (bt hi) L d (by omega) (by omega) σ
    have hol:(l.map (bZ L d)).length=l.length:=bW _;generalize l.map (bZ L d)=o at*;subst cF;clear ih hin hsz hL hd hpos hR1;generalize cY L=R at*
    (refine W.a ?_;simp only[go_sem]);refine W.no rfl (W.a ?_);simp only[go_sem];refine W.nf (σ.length+2) 3 30 5 (cs:=[I k,S nm,I n,.ab [],I pos]) (tg:=none) ?_ rfl ?_
    ·exact D9 _
    simp only[go_sem];refine W.bB (fun i=>i<=l.length) (fun i=>⟨((((((base.put (some 1) (.c (.sl R))).put (some 2) (I (d:Int))).put (some 3) (.ptr σ.length 0)).put (some 6) (.ptr (σ.length+1) 0)).put (some 7) (.ptr (σ.length+2) 0)).put (some 12) (I (i:Int))),σ++[.cells [I k,S nm,I n,.c (.sl (l.map ah.cs)),I pos],.cells [I 0,S [],I 0,.ab [],I 0],.cells [I k,S nm,I n,.aG (σ.length+3) ((o.take i).map ah.cs),I pos],.spare 30 5 i]⟩) (fun i=>l.length-i) 0 (bC _) ?_ (fun i hi=>?_)
    ·simp only[cV,du];simp only[go_sem,mY];(refine ao.env ?_;exact aF)
    by_cases hlt2:i<l.length
    ·have hlt':i<o.length:=by omega
     have h1:(i:Int)<(l.length:Int):=by omega
     have h0:(0:Int)<=(i:Int):=by omega
     have hx:l[i]?=some l[i]:=aO hlt2;have hw:aN.wrap ((i:Int)+1)=((i+1:Nat):Int):=by rw[bn]<;>omega
     have hb1:(i+1)*64<=140737488355328:=by omega
     have hb2:i+1<=140737488355328:=by omega
     have hb3:i<=140737488355327:=by omega
     have hti:((o.take i).map ah.cs).length=i:=by rw[bW,dV];omega
     have hts:(o.take (i+1)).map ah.cs=(o.take i).map ah.cs++[[.int .i64 o[i].k,.str o[i].name,.int .i64 o[i].n,.sl (o[i].l.map ah.cs),.int .i64 o[i].pos]]:=by
      rw[il hlt',dv,cx,du,ah.aM]
     have hki:=fun σ=>hkids i hlt2 hlt' σ;simp only[ah.v]at hki;generalize o[i]=y at*;generalize l[i]=x at*;generalize (o.take i).map ah.cs=mr at*
     (refine W.a ?_;simp only[go_sem,h1]);refine W.yes rfl (W.a ?_);simp only[go_sem];apply W.aS (aT _ _)
     case hc=>
      (apply ae.aq;simp only[go_sem,h1,h0,hx,ah.aM]);(apply ae.call (hki _);(case hg=>rfl);(case hf=>rfl);(case ha=>first|rfl|simp));(apply ae.aq;simp only[go_sem,hb1,hb2,hb3,hti]);exact ae.nil
     (refine W.a ?_;simp only[go_sem,hw]);refine .inv ⟨i+1,hlt2,by omega,?_⟩;rw[hts];(refine ao.eN (hok) ?_ (by simp) (by simp) ?_ ?_ ?_;exact aF;((try simp only[okB,bx,go_sem])<;>omega);(simp only[bk,cN,dI,dZ,cV,bx,and_true];(repeat' (refine eV ?_ ?_))<;>(first|exact ad.wk.rfl _|exact ad.wk.gone _|(refine ad.eO ?_ rfl;(exact au))));(repeat' (first|exact aZ.base _|(refine aZ.put ?_ (by first|exact .c _|((try simp only[okB,bx,go_sem])<;>omega))))))
    have h1:¬(i:Int)<(l.length:Int):=by omega
    have hto:o.take i=o:=eT (by omega);rw[hto];(refine W.a ?_;simp only[go_sem,h1]);refine W.no rfl (W.a ?_);simp only[go_sem];(refine W.fg (hok) (d:=.agg [I k,S nm,I n,.c (.sl (o.map ah.cs)),I pos]) (by simp only[vw,go_sem];rfl) (by simp only[al,go_sem];exact au) ?_);exact⟨rfl,rfl⟩
   |succ j=>
    have e0:(2*((j+1:Nat):Int)-2)=((2*j:Nat):Int):=by omega
    have h0:((2*j:Nat):Int)>=0:=by omega
    have h0':(0:Int)<=((2*j:Nat):Int):=by omega
    have h1:((2*j:Nat):Int)<((cY L).length:Int):=by omega
    have h0'':(0:Int)<=((2*j+1:Nat):Int):=by omega
    have h1':((2*j+1:Nat):Int)<((cY L).length:Int):=by omega
    obtain⟨g1,g2⟩:=MI L j (by omega);have hw1:aN.wrap (((2*j:Nat):Int)+1)=((2*j+1:Nat):Int):=by rw[bn]<;>omega
    have hw2:aN.wrap (((2*j:Nat):Int)-2)=2*(j:Int)-2:=by rw[bn]<;>omega
    rw[e0];by_cases hq:L[j].1=nm
    ·have hl:=XH (L:=L) (nm:=nm) (k:=j) (by omega) hq (fun i hi h=>hno i hi (by omega));rw[if_pos ⟨hkn,by rw[hl];omega⟩,hl]at cF;have e3:(L.map Prod.snd).getD (j:Int).toNat []=L[j].2:=by simp[cf,aO (show j<L.length by omega)]
     rw[e3]at cF;subst cF;have hb:(L[j].1==nm)=true:=by simpa using hq
     generalize L[j].2=z at*;generalize L[j].1=z1 at*;clear ih hin hno;generalize cY L=R at*
     (refine W.a ?_;simp only[go_sem,h0]);refine W.yes rfl (W.a ?_);simp only[go_sem];(apply W.aS (aT _ _);case hc=>((apply ae.aq;simp only[go_sem,h0',h1,g1,hb]);exact ae.nil));(refine W.a ?_;simp only[go_sem]);refine W.yes rfl (W.a ?_);simp only[go_sem,hw1,h0'',h1',g2];(refine W.fg (hok) (d:=.agg [I 0,S z,I n,.c (.sl []),I pos]) (by simp only[vw,go_sem];rfl) (by simp only[al,go_sem];exact au) ?_);exact⟨rfl,rfl⟩
    ·have hb:(L[j].1==nm)=false:=by simpa using hq
     have hno':∀i (hi:i<L.length),j<=i->L[i].1≠nm:=fun i hi h=>by
      by_cases he:i=j
      ·subst he;exact hq
      ·exact hno i hi (by omega)
     generalize hz1:L[j].1=z1 at*
     (refine W.a ?_;simp only[go_sem,h0]);refine W.yes rfl (W.a ?_);simp only[go_sem];(apply W.aS (aT _ _);case hc=>((apply ae.aq;simp only[go_sem,h0',h1,g1,hb]);exact ae.nil));(refine W.a ?_;simp only[go_sem]);refine W.no rfl (W.a ?_);simp only[go_sem,hw2];refine .inv ⟨j,⟨by omega,hno'⟩,by omega,?_⟩
     (refine ao.env ?_;exact aF))
 rw[if_neg (fun h=>hkn h.1)]at cF;have k0:(k==0)=false:=by simp;omega
 have k1:(k==1)=false:=by simp;omega
 have hkids:∀(i:Nat) (hi:i<l.length) (hi':i<(l.map (bZ L d)).length) (σ:H),DC prog w0 14 [(l[i]).v,.c (.sl (cY L)),I ((d:Nat):Int)] σ (Same ((l.map (bZ L d))[i]).v σ):=fun i hi hi' σ=>by
  rw[dN];have:=hin l[i] (bt hi);exact ih l[i] (bt hi) L d (by omega) (by omega) σ
 have hol:(l.map (bZ L d)).length=l.length:=bW _;generalize l.map (bZ L d)=o at*
 subst cF;clear ih hin hsz hL hd hpos hR1;generalize cY L=R at*
 (refine W.a ?_;simp only[go_sem,zd,k4]);refine W.no rfl (W.a ?_);simp only[go_sem,k0,k1];refine W.no rfl (W.a ?_);simp only[go_sem];refine W.nf (σ.length+2) 3 30 5 (cs:=[I k,S nm,I n,.ab [],I pos]) (tg:=none) ?_ rfl ?_
 ·exact D9 _
 simp only[go_sem];refine W.bB (fun i=>i<=l.length) (fun i=>⟨((((((base.put (some 1) (.c (.sl R))).put (some 2) (I (d:Int))).put (some 3) (.ptr σ.length 0)).put (some 6) (.ptr (σ.length+1) 0)).put (some 7) (.ptr (σ.length+2) 0)).put (some 12) (I (i:Int))),σ++[.cells [I k,S nm,I n,.c (.sl (l.map ah.cs)),I pos],.cells [I 0,S [],I 0,.ab [],I 0],.cells [I k,S nm,I n,.aG (σ.length+3) ((o.take i).map ah.cs),I pos],.spare 30 5 i]⟩) (fun i=>l.length-i) 0 (bC _) ?_ (fun i hi=>?_)
 ·simp only[cV,du];simp only[go_sem,mY];(refine ao.env ?_;exact aF)
 by_cases hlt2:i<l.length
 ·have hlt':i<o.length:=by omega
  have h1:(i:Int)<(l.length:Int):=by omega
  have h0:(0:Int)<=(i:Int):=by omega
  have hx:l[i]?=some l[i]:=aO hlt2;have hw:aN.wrap ((i:Int)+1)=((i+1:Nat):Int):=by rw[bn]<;>omega
  have hb1:(i+1)*64<=140737488355328:=by omega
  have hb2:i+1<=140737488355328:=by omega
  have hb3:i<=140737488355327:=by omega
  have hti:((o.take i).map ah.cs).length=i:=by rw[bW,dV];omega
  have hts:(o.take (i+1)).map ah.cs=(o.take i).map ah.cs++[[.int .i64 o[i].k,.str o[i].name,.int .i64 o[i].n,.sl (o[i].l.map ah.cs),.int .i64 o[i].pos]]:=by
   rw[il hlt',dv,cx,du,ah.aM]
  have hki:=fun σ=>hkids i hlt2 hlt' σ;simp only[ah.v]at hki;generalize o[i]=y at*;generalize l[i]=x at*;generalize (o.take i).map ah.cs=mr at*
  (refine W.a ?_;simp only[go_sem,h1]);refine W.yes rfl (W.a ?_);simp only[go_sem];apply W.aS (aT _ _)
  case hc=>
   (apply ae.aq;simp only[go_sem,h1,h0,hx,ah.aM]);(apply ae.call (hki _);(case hg=>rfl);(case hf=>rfl);(case ha=>first|rfl|simp));(apply ae.aq;simp only[go_sem,hb1,hb2,hb3,hti]);exact ae.nil
  (refine W.a ?_;simp only[go_sem,hw]);refine .inv ⟨i+1,hlt2,by omega,?_⟩;rw[hts];(refine ao.eN (hok) ?_ (by simp) (by simp) ?_ ?_ ?_;exact aF;((try simp only[okB,bx,go_sem])<;>omega);(simp only[bk,cN,dI,dZ,cV,bx,and_true];(repeat' (refine eV ?_ ?_))<;>(first|exact ad.wk.rfl _|exact ad.wk.gone _|(refine ad.eO ?_ rfl;(exact au))));(repeat' (first|exact aZ.base _|(refine aZ.put ?_ (by first|exact .c _|((try simp only[okB,bx,go_sem])<;>omega))))))
 have h1:¬(i:Int)<(l.length:Int):=by omega
 have hto:o.take i=o:=eT (by omega);rw[hto];(refine W.a ?_;simp only[go_sem,h1]);refine W.no rfl (W.a ?_);simp only[go_sem];(refine W.fg (hok) (d:=.agg [I k,S nm,I n,.c (.sl (o.map ah.cs)),I pos]) (by simp only[vw,go_sem];rfl) (by simp only[al,go_sem];exact au) ?_);exact⟨rfl,rfl⟩
end Go.Proofs.YtdlkenpilhakfaaGreatDoor
namespace Go.Proofs.YtdlkenpilhakfaaGreatDoor
open Go.RowKit Go.Lamb
def MN:AC:=rsq [.o 2 (.box (.k (.agg [.ab [],.ab [],.ab []]))),.o 3 (.af (zK 0)),.o 4 (.af (zK 0))] (rsq [.k 10 108 [],.o 5 (.box (.k (.agg [.ab [],.ab [],.ab []]))),.s 3 5 10] (.seq (rsq [.m 11 0,.o 12 (.aR 11),.o 13 (.af (zK 0))] (.block 0 (.loop (rsq [.o 14 (.bin .lss 13 12)] (.seq (.cond 14 .skip (.exit 0)) (.seq (.block 1 (rsq [.m 15 13,.o 16 (.aI 16 11 13),.d 17 16 16,.o 7 (.box (.k (.agg [.c (.int .i64 0),.ab [],.c (.int .i64 0),.c (.int .i64 0),.c (.str []),.c (.int .i64 0),.ab [],.c (.str []),.c (.int .i64 0),.c (.int .i64 0),.c (.int .i64 0),.c (.str []),.c (.int .i64 0),.ab [],.c (.int .i64 0),.c (.int .i64 0)]))),.m 6 15,.s 16 7 17] (rsq [.d 19 3 5,.d 20 16 7,.k 21 16 [19,20],.m 18 21,.x 22 18 0,.x 23 18 1,.o 8 (.box (.k (.agg [.ab [],.ab [],.ab []]))),.s 3 8 22,.m 9 23] (.seq (rif [.m 24 9,.o 25 (.bin .neq 24 (zK 0))] 25 (rsq [.o 26 (.build [.ab [],.ab [],.ab []] []),.m 27 9,.m 28 6,.s 3 2 26,.m 3 27,.m 4 28] .ret) .skip) (.aH [.d 29 3 8,.s 3 5 29]))))) (.aH [.o 30 (.bin .add 13 (zK 1)),.m 13 30]))))))) (rsq [.d 31 3 5,.s 3 2 31,.o 3 (.af (zK 0)),.o 4 (.af (zK 0))] .ret)))
def MO:List aw:=[.br 3 2,.tmp 3,.tmp 4]
theorem XK:aB prog 57 1 Tryz.f57 MN MO:=.auto func57
theorem XL(w0:World)(l:List (List C))(hl0:l≠[])(hb3:∀r∈l,r.length=4)(hn:l.length<=1000000)(σ:H):DC prog w0 185 [.c (.sl l)] σ (Same (.vec σ.length l.length) (σ++[.vec 41 4 l.flatten])):=by
 refine Cj.dL rfl (fun hok hsz=>?_);have hb1:l.length*56<=140737488355328:=by omega
 have hb2:l.length<=140737488355328:=by omega
 (refine W.a ?_;simp only[go_sem,yf]);refine W.kP rfl rfl rfl (fun b hb=>?_);cases b
 ·(refine W.a ?_;simp only[go_sem]);refine W.no rfl ?_;refine W.skip (W.seq (W.aH (W.jw rfl rfl (W.jw rfl rfl ?_))));refine W.pd (olds:=[]) (news:=l) rfl rfl rfl rfl ⟨hl0,(fun r hr=>by cases hr),hb3,by simpa using hb1,by simpa using hb2⟩ ?_;(refine W.a ?_;simp only[go_sem,List.nil_append]);refine W.ret ⟨_,_,rfl,.rfl _,?_⟩;exact⟨rfl,rfl⟩
 ·exact absurd (hb rfl) hl0
noncomputable def zf:dG:=
 eD 58 DJ (eD 68 DM (eD 62 DP (eD 103 DQ (eD 24 DR (eD 74 DT (eD 183 DS
 (eD 15 DU (eD 121 DV (eD 67 (DW 34)
 (eD 203 (nC 60 3) (eD 211 (nC 50 5) (eD 178 (nC 41 4)
 (eD 98 (nD 60 3) (eD 97 (nD 106 2) (eD 81 (ox (vo 50 5) (nD 50 5)) (eD 185 (ox (vo 41 4) (DK 41))
 (eD 181 (vo 34 4) HI)))))))))))))))))
theorem Ea{w0:World}(hG:dj w0):dG.Ok prog w0 zf:=
 eY (Wz hG) (eY (WD w0) (eY (WH w0) (eY (WI w0) (eY (WJ w0) (eY (WL w0) (eY (WK w0)
 (eY (WM w0) (eY (WN w0) (eY (WO w0)
 (eY (Ws w0) (eY (Wt w0) (eY (Wu w0)
 (eY (Wv w0) (eY (Ww w0) (eY (rn (DY Mc w0) (Wx w0)) (eY (rn (DY XL w0) (Wy w0))
 (eY (DY WG w0) Sp)))))))))))))))))
end Go.Proofs.YtdlkenpilhakfaaGreatDoor
namespace Go.Lamb
open Go Go.RowKit
def nF(d:V)(σ:H):Option (V×H)->Bool
 |some (v,τ)=>gh v d&&kb τ σ
 |none=>false
theorem qf{d:V}{σ:H}{r:Option (V×H)}(h:nF d σ r=true):r=some (d,σ):=by
 unfold nF at h;split at h
 ·simp only[bG]at h;rw[xt h.1,px h.2]
 ·cases h
def K.all(w:World):K:={m:=fun b o=>w.cell? ⟨b,o,none⟩,n:=0,pos:=fun _=>0,fr:=fun _=>none,sv:=fun _=>undef,sz:=fun _=>0}
theorem aC.all(w:World):aC w (K.all w) [] w:=⟨rfl,Below.refl _ _,fun _ _ _ h=>h,fun b hb=>(by simp at hb),fun a b ha=>(by simp at ha),fun l o h=>(by cases h),bC _⟩
theorem Mem.MP{w0 w:World}{κ:K}{σ:H}(h:aC w0 κ σ w):κ.m.le (K.all w).m:=h.mem
theorem DC.still{P:Program}{f:FuncId}{G:World->Prop}(hG:∀w w',G w->Below w.heap.size w w'->G w'){args args':List V}{σ:H}{r:Bool}(hd:∀w,G w->DC P w f args' [] (Same (.c (.bool r)) []))(hfit:∀w0 κ w vs,aC w0 κ σ w->Fits κ args vs->Fits (K.all w) args' vs){w0:World}(h0:G w0):DC P w0 f args σ (Same (.c (.bool r)) σ):=by
 refine⟨(hd w0 h0).enters,fun κ w vs hrep hf=>?_⟩;refine((hd w (hG w0 w h0 hrep.ext)).run (K.all w) w vs (aC.all w) (hfit w0 κ w vs hrep hf)).mono ?_;rintro e w' ⟨v,d,σ',κ',rfl,⟨rfl,rfl⟩,h3,h4,h5⟩;refine⟨v,_,σ,κ,rfl,⟨rfl,rfl⟩,K.le_refl κ,hrep.grow h4.ext,?_⟩;cases h5 with
 |c h=>cases h;exact .c (.bool _)
def zg(σ:H):V->Option (List (List C))
 | .vec b k=>match σ[b]? with
   |some (.vec _ s cs)=>cond (Nat.ble (k*s) cs.length) (some (rowsOf s k cs)) none
   |_=>none
 |v=>v.rows
theorem MQ{w0 w:World}{κ:K}{σ:H}{x:V}{v:Value}{r:List (List C)}(hrep:aC w0 κ σ w)(hv:RV κ x v)(h:zg σ x=some r):RC (K.all w).m (.sl r) v:=by
 unfold zg at h;split at h
 ·rename_i b k;split at h
  ·rename_i e s cs hb;cases hc:Nat.ble (k*s) cs.length with
   |false=>rw[hc]at h;cases h
   |true=>
    rw[hc]at h;injection h with h;subst h;obtain⟨κ',h1,h2,h3⟩:=aC.jB hrep hb;exact(h3 k v (Nat.le_of_ble_eq_true hc) (hv.mono h1)).mono (Mem.MP h2)
  ·cases h
 ·exact(hv.kN h).mono (Mem.MP hrep)
def vx(a b:List (List C)):List (List aa×List aa)->Bool
 |[]=>false
 |p::l=>cond (la b (p.2.map aa.cs)&&la a (p.1.map aa.cs)) true (vx a b l)
theorem MR{a b:List (List C)}:∀{l:List (List aa×List aa)},vx a b l=true->∃p∈l,a=p.1.map aa.cs/\b=p.2.map aa.cs
 |[],h=>by cases h
 |p::l,h=>by
  unfold vx at h;cases hc:(la b (p.2.map aa.cs)&&la a (p.1.map aa.cs))with
  |true=>
   simp only[bG]at hc;exact⟨p,by simp,qZ hc.2,qZ hc.1⟩
  |false=>
   rw[hc]at h;obtain⟨q,h1,h2⟩:=MR (l:=l) h;exact⟨q,by simp[h1],h2⟩
def Eb(rt:List (List aa×List aa)):List V->H->Option (V×H)
 |[x,y],σ=>match zg σ x with
  |none=>none
  |some a=>match zg σ y with
   |none=>none
   |some b=>cond (vx a b rt) (some (.c (.bool true),σ)) none
 |_,_=>none
theorem XM{P:Program}{f:FuncId}{G:World->Prop}(hG:∀w w',G w->Below w.heap.size w w'->G w'){rt:List (List aa×List aa)}(hd:∀p∈rt,∀w,G w->DC P w f [.c (.sl (p.1.map aa.cs)),.c (.sl (p.2.map aa.cs))] [] (Same (.c (.bool true)) [])){w0:World}(h0:G w0)(as':List V)(σ:H)(v:V)(σ':H)(h:Eb rt as' σ=some (v,σ')):DC P w0 f as' σ (Same v σ'):=by
 unfold Eb at h;split at h
 ·split at h
  ·cases h
  ·rename_i a ha;split at h
   ·cases h
   ·rename_i b hb;cases hc:vx a b rt with
    |false=>rw[hc]at h;cases h
    |true=>
     rw[hc]at h;injection h with h;injection h with h1 h2;subst h1 h2;obtain⟨p,hp,rfl,rfl⟩:=MR hc;refine DC.still hG (hd p hp) (fun w0 κ w vs hrep hf=>?_) h0;obtain⟨u,ys,rfl,hu,hf⟩:=hf.cons_inv;obtain⟨u2,zs,rfl,hu2,hf⟩:=hf.cons_inv;have:=hf.kI;subst this;exact Fits.cons (.c (MQ hrep hu ha)) (Fits.cons (.c (MQ hrep hu2 hb)) Fits.nil)
 ·cases h
def nG(as1:List V)(σ1:H)(r:V):List V->H->Option (V×H):=fun as_ σ=>cond (mf as_ as1&&kb σ σ1) (some (r,σ)) none
theorem qg{P:Program}{w0:World}{f:FuncId}{as1:List V}{σ1:H}{r:V}(hd:DC P w0 f as1 σ1 (Same r σ1))(as':List V)(σ:H)(v:V)(σ':H)(h:nG as1 σ1 r as' σ=some (v,σ')):DC P w0 f as' σ (Same v σ'):=by
 unfold nG at h;cases hc:(mf as' as1&&kb σ σ1)with
 |false=>rw[hc]at h;cases h
 |true=>
  rw[hc]at h;simp only[bG]at hc;have e1:=re hc.1;have e2:=px hc.2;subst e1 e2;injection h with h;injection h with h1 h2;subst h1 h2;exact hd
end Go.Lamb
namespace Go.Proofs.YtdlkenpilhakfaaGreatDoor
open Go.RowKit Go.Lamb
noncomputable def qh(X:XP):List (List aa×List aa)->Bool
 |[]=>true
 |p::l=>Lamb.isTrue (jG X 100000 132 [.c (.sl (p.1.map aa.cs)),.c (.sl (p.2.map aa.cs))] [])&&qh X l
end Go.Proofs.YtdlkenpilhakfaaGreatDoor
