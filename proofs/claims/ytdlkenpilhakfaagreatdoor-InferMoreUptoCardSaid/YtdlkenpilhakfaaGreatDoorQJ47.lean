/- . -/
import Derived.Test.YtdlkenpilhakfaaGreatDoorQJ46
import Derived.Test.YtdlkenpilhakfaaGreatDoorQJ45
import Derived.Test.YtdlkenpilhakfaaGreatDoorChecked
import Derived.Test.YtdlkenpilhakfaaGreatDoorQJ17
import Derived.Test.YtdlkenpilhakfaaGreatDoorQJ38
import Derived.Test.YtdlkenpilhakfaaGreatDoorQJ16
import Derived.Test.YtdlkenpilhakfaaGreatDoorQJ42
import Derived.Test.YtdlkenpilhakfaaGreatDoorQJ39
import Derived.Test.YtdlkenpilhakfaaGreatDoorQJ43
import Derived.Test.YtdlkenpilhakfaaGreatDoorQJ44
import Derived.Test.YtdlkenpilhakfaaGreatDoorQTyA2
set_option linter.unusedSimpArgs false
set_option linter.unusedVariables false
set_option maxHeartbeats 8000000
set_option maxRecDepth 20000
open And renaming intro->fb
open Bool renaming and_eq_true->bz,false_or->sH,true_or->qA
open Decidable renaming of_not_not->Fp
open Go.IntKind renaming i64->aW
open List renaming cons_ne_nil->aS,getElem?_eq_getElem->aR,getElem?_eq_none->qC,getElem?_eq_some_iff->aK,getElem?_set_ne->bX,getElem?_set_self->ct,getElem_mem->bw,length_append->bt,length_cons->bo,length_map->cd,length_nil->cM,length_take->eu,map->il,map_append->dX,map_nil->dT,mem_cons_self->bp,mem_map->dK,take_succ_cons->ey,take_succ_eq_append_getElem->jZ,take_zero->dj
open Nat renaming le_refl->aA,le_trans->bB,lt_irrefl->oW,reduceAdd->dL,zero_le->bx
open Option renaming map_none->wc,map_some->iq
open Go.Proofs.Tryz
namespace Go.Proofs.YtdlkenpilhakfaaGreatDoor
open Go.RowKit Go.Lamb
def jR(l:List aa):List (List C):=(l.map bQ).map aa.cs
theorem Xr(l:List aa):(jR l).length=l.length:=by unfold jR;rw[cd,cd]
theorem Xs(l:List aa):∀r∈jR l,r.length=4:=kz _
attribute [local go_sem] aa.v aa.aM aY a7 aV aL aT
theorem Xt(w0:World)(t:aa):ba t=true->bM 2305843009213693952 t=true->ax t<=1000000000->∀(σ:H),DC prog w0 76 [t.v] σ (Same (bQ t).v σ):=by
 refine aa.ind (P:=fun t=>ba t=true->bM 2305843009213693952 t=true->ax t<=1000000000->∀(σ:H),DC prog w0 76 [t.v] σ (Same (bQ t).v σ)) (fun t ih hv hnr hn σ=>?_) t;refine LJ.go rfl (fun hok hsz=>?_);rw[MR];by_cases h5:t.k=5
 ·rw[if_pos h5];obtain⟨b,rfl⟩:=su hv h5;have hbm:b∈(bI b).l:=by unfold bI;simp[aL]
  have hln:=kB b;have hS:=fun σ=>ih b hbm (gi hv b hbm) (iJ hnr b hbm) (by omega) σ;obtain⟨q1,q2,q3⟩:=Et (M:=2305843009213693952) (by omega) b (gi hv b hbm) (iJ hnr b hbm);have hD:=fun σ=>Xq w0 (bQ b) q1 q2 (by omega) σ;have hL:=fun σ=>vj w0 (bQ b) σ;show W _ _ _ (Fin _ _ (Same ((ig (bQ b)).getD (bI (bQ b))).v σ)) _ _;clear ih hbm;generalize bQ b=u at*
  cases hd:ig u with
  |none=>
   rw[hd]at hD;rw[Option.getD_none];generalize bI u=z at*
   ((try refine W.a ?_);simp only[go_sem,c76,kE,kF,kG,je]);refine W.yes rfl (W.a ?_);simp only[go_sem,kE,kF,kG,je];(refine W.c1 (hS _) ?_;simp only[go_sem]);((try refine W.a ?_);simp only[go_sem]);(refine W.c1 (hD _) ?_;simp only[go_sem]);((try refine W.a ?_);simp only[go_sem,oO,aa.none]);refine W.no rfl (W.a ?_);simp only[go_sem];(refine W.c1 (hL _) ?_;simp only[go_sem]);((try refine W.a ?_);simp only[go_sem]);(refine W.fs (hok) (by simp only[sd,go_sem];rfl) ?_;simp only[ak];try exact V.wk.rfl _)
   all_goals (all_goals exact au)
  |some y=>
   rw[hd]at hD;rw[Option.getD_some];((try refine W.a ?_);simp only[go_sem,c76,kE,kF,kG,je]);refine W.yes rfl (W.a ?_);simp only[go_sem,kE,kF,kG,je];(refine W.c1 (hS _) ?_;simp only[go_sem]);((try refine W.a ?_);simp only[go_sem]);(refine W.c1 (hD _) ?_;simp only[go_sem]);((try refine W.a ?_);simp only[go_sem,oO]);refine W.yes rfl (W.a ?_);simp only[go_sem];(refine W.fs (hok) (by simp only[sd,go_sem];rfl) ?_;simp only[ak];try exact V.wk.rfl _)
   all_goals (all_goals exact au)
 rw[if_neg h5];have k5:(t.k==5)=false:=by simp[h5]
 by_cases h6:t.k=6
 ·rw[if_pos h6];have k6:(t.k==6)=true:=by simp[h6]
  obtain⟨_,_,a,b,l,hl,ha⟩:=iK hv h6;have hlen:=kD t;have hk:∀i (hi:i<t.l.length) σ,DC prog w0 76 [t.l[i].v] σ (Same (bQ t.l[i]).v σ):=fun i hi σ=>by
   have hm:=bw hi;have:=jM hm;exact ih _ hm (gi hv _ hm) (iJ hnr _ hm) (by omega) σ
  have hll:2<=t.l.length:=by rw[hl];simp
  have hsa:=Et (M:=2305843009213693952) (by omega) a (gi hv a (by rw[hl];simp)) (iJ hnr a (by rw[hl];simp));have hka:=kD (bQ a);have hna:=jM (t:=t) (u:=a) (by rw[hl];simp);have hA:=fun σ=>uz w0 (bQ a) ((b::l).map bQ) (by rw[cd];rw[hl]at hlen;simp only[bo]at hlen⊢;omega) σ;have hE:Er (t.l.map bQ)=cv (bQ a) ((b::l).map bQ):=by rw[hl];rfl
  have hRows:jR t.l=(bQ a).cs::((b::l).map bQ).map aa.cs:=by unfold jR;rw[hl];rfl
  rw[hE];clear hE h5 h6 ih;generalize hZ:cv (bQ a) ((b::l).map bQ)=z at*
  ((try refine W.a ?_);simp only[go_sem,c76,k5,k6]);refine W.no rfl (W.a ?_);simp only[go_sem,k5,k6];refine W.yes rfl (W.a ?_);simp only[go_sem];refine W.bA (α:=Option Nat) (fun o=>match o with|none=>True|some i=>1<=i/\i<=t.l.length) (fun o=>match o with
   |none=>⟨(((((base.put (some 2) (.ptr (σ.length+1) 0)).put (some 6) (.ab [])).put (some 30) (.c (aT t.l))).put (some 31) (I (t.l.length:Int))).put (some 32) (I 0)),σ++[.cells t.v.ah,.cells [I 0,S [],I 0,.ab []]]⟩
   |some i=>⟨(((((base.put (some 2) (.ptr (σ.length+1) 0)).put (some 6) (.aF (σ.length+3) (jR (t.l.take i)))).put (some 30) (.c (aT t.l))).put (some 31) (I (t.l.length:Int))).put (some 32) (I (i:Int))),σ++[.cells t.v.ah,.cells [I 0,S [],I 0,.ab []],.gone,.spare 41 4 i]⟩) (fun o=>match o with|none=>t.l.length+1|some i=>t.l.length-i) none trivial ?_ (fun o ho=>?_)
  ·dsimp only
   (refine aq.env ?_;exact aE)
  cases o with
  |none=>
   dsimp only
   have z1:(0:Int)<(t.l.length:Int):=by omega
   have hx0:t.l[0]?=some t.l[0]:=aR (by omega);have htk:jR (t.l.take 1)=[(bQ t.l[0]).cs]:=by
    unfold jR;rw[jZ (by omega:0<t.l.length)];rfl
   have hw1:aW.wrap (0+1)=((1:Nat):Int):=by decide
   have hK:=fun σ=>hk 0 (by omega) σ;((try refine W.a ?_);simp only[go_sem,z1]);refine W.yes rfl (W.a ?_);simp only[go_sem,z1,hx0];(refine W.c1 (hK _) ?_;simp only[go_sem]);((try refine W.a ?_);simp only[go_sem,hw1,true_or]);refine .inv ⟨some 1,⟨aA _,by omega⟩,by dsimp only;omega,?_⟩;dsimp only
   rw[htk];simp only[aa.aM];(refine aq.eS (hok) ?_ (by simp) (by simp) ?_ ?_ ?_;exact aE;((try simp only[okB,bu,go_sem])<;>omega);(simp only[bo,cM,dL,ey,dj,bu,and_true];(repeat' (refine fb ?_ ?_))<;>(first|exact ad.wk.rfl _|exact ad.wk.gone _|(refine ad.eT ?_ rfl;(exact au))));(repeat' (first|exact aZ.base _|(refine aZ.put ?_ (by first|exact .c _|((try simp only[okB,bu,go_sem])<;>omega))))))
  |some i=>
   obtain⟨hi1,hi⟩:=ho;dsimp only
   by_cases hlt:i<t.l.length
   ·have z1:(i:Int)<(t.l.length:Int):=by omega
    have z0:(0:Int)<=(i:Int):=by omega
    have hx0:t.l[i]?=some t.l[i]:=aR hlt;have htk:jR (t.l.take (i+1))=jR (t.l.take i)++[(bQ t.l[i]).cs]:=by
     unfold jR;rw[jZ hlt,dX,dX];rfl
    have hw1:aW.wrap ((i:Int)+1)=((i+1:Nat):Int):=by rw[bD]<;>omega
    have htl:(jR (t.l.take i)).length=i:=by rw[Xr,eu];omega
    have b1:(i+1)*56<=140737488355328:=by omega
    have b2:i+1<=140737488355328:=by omega
    have b3:i<=140737488355327:=by omega
    have hr4:(∀r∈jR (t.l.take i),r.length=4)=True:=eq_true (Xs _);have hK:=fun σ=>hk i hlt σ;rw[aa.aM]at htk;((try refine W.a ?_);simp only[go_sem,z1]);refine W.yes rfl (W.a ?_);simp only[go_sem,z1,z0,hx0];(refine W.c1 (hK _) ?_;simp only[go_sem]);((try refine W.a ?_);simp only[go_sem,hw1,htl,b1,b2,b3,true_or]);refine .inv ⟨some (i+1),⟨by omega,hlt⟩,by dsimp only;omega,?_⟩;dsimp only
    rw[htk];(refine aq.eS (hok) ?_ (by simp) (by simp) ?_ ?_ ?_;exact aE;((try simp only[okB,bu,go_sem])<;>omega);(simp only[bo,cM,dL,ey,dj,bu,and_true];(repeat' (refine fb ?_ ?_))<;>(first|exact ad.wk.rfl _|exact ad.wk.gone _|(refine ad.eT ?_ rfl;(exact au))));(repeat' (first|exact aZ.base _|(refine aZ.put ?_ (by first|exact .c _|((try simp only[okB,bu,go_sem])<;>omega))))))
   ·obtain rfl:i=t.l.length:=by omega
    have z1:¬((t.l.length:Nat):Int)<((t.l.length:Nat):Int):=by omega
    rw[List.take_length,hRows,aa.aM];have g0:(0:Int)<(((b::l).length+1:Nat):Int):=by omega
    have hr4:(∀x,x∈il aa.cs ((b::l).map bQ)->x.length=4)=True:=eq_true (kz _);generalize hbl:(b::l).map bQ=bl at*
    have hbll:(b::l).length=bl.length:=by rw[<-hbl,cd]
    rw[hbll]at g0;have g1:(1:Int)<=((bl.length+1:Nat):Int):=by omega
    have hsl:List.take bl.length (il aa.cs bl)=il aa.cs bl:=List.take_of_length_le (by simp);((try refine W.a ?_);simp only[go_sem,z1]);refine W.no rfl (W.a ?_);simp only[go_sem];apply W.aQ (aS _ _)
    case hc=>
     (apply ae.al;simp only[go_sem,g0,g1,hr4,hsl]);(apply ae.call (hA _);(case hg=>rfl);(case hf=>rfl);(case ha=>first|rfl|simp));(apply ae.al;simp only[go_sem]);exact ae.nil
    ((try refine W.a ?_);simp only[go_sem]);(refine W.fs (hok) (by simp only[sd,go_sem];rfl) ?_;simp only[ak];try exact V.wk.rfl _)
    all_goals (all_goals exact au)
 ·rw[if_neg h6];have k6:(t.k==6)=false:=by simp[h6]
  clear h5 h6;((try refine W.a ?_);simp only[go_sem,c76,k5,k6]);refine W.no rfl (W.a ?_);simp only[go_sem,k6];refine W.no rfl (W.a ?_);simp only[go_sem];(refine W.fs (hok) (by simp only[sd,go_sem];rfl) ?_;simp only[ak];try exact V.wk.rfl _)
  all_goals (all_goals exact au)
theorem Xu(w0:World)(t:aa)(hv:ba t=false)(n:Int)(F:V)(σ:H):DC prog w0 129 [t.v,I n,F] σ (Same (.av [aa.none.v,I 0,I 1]) σ):=by
 refine CQ.go rfl (fun hok hsz=>?_);have hV:=fun σ=>yx w0 t σ;rw[hv]at hV;((try refine W.a ?_);simp only[go_sem,yz]);(refine W.c1 (hV _) ?_;simp only[go_sem]);((try refine W.a ?_);simp only[go_sem]);refine W.yes rfl (W.a ?_);simp only[go_sem,aa.none];(refine W.fs (hok) (by simp only[uE,go_sem];rfl) ?_;simp only[ak];try exact V.wk.rfl _)
 all_goals (all_goals exact au)
theorem Xv(w0:World)(n:Nat)(hn:n<=100000)(t:aa)(hi:cg n t)(hnd:ax t+4097*n<=1000000000){o:Option aa}{q:Nat}(h:ei n t o q)(σ:H):DC prog w0 129 [t.v,I (n:Int),.fn 130 []] σ (Same (lA q o) σ):=by
 refine CQ.go rfl (fun hok hsz=>?_);have hV:=fun σ=>yx w0 t σ;rw[hi.nr.1]at hV;have hN:∀a c,DC prog w0 130 [t.v,.ptr (σ.length+1) 0] (σ++[a,.cells [I (n:Int)],c]) (Same (cw o) (σ++[a,.cells [I (q:Int)],c])):=fun a c=>by
  have:=Xl w0 n hn t hi hnd o q h (σ.length+1) (σ++[a,.cells [I (n:Int)],c]) (Go.Lamb.bY _ _ 1);rw[Go.Lamb.de]at this;exact this
 ((try refine W.a ?_);simp only[go_sem,yz]);(refine W.c1 (hV _) ?_;simp only[go_sem]);((try refine W.a ?_);simp only[go_sem]);refine W.no rfl (W.a ?_);simp only[go_sem];(refine W.c1 (hN _ _) ?_;simp only[go_sem]);cases o with
 |none=>
  ((try refine W.a ?_);simp only[go_sem,cw,aa.none]);refine W.yes rfl (W.a ?_);simp only[go_sem,lA,aa.none];(refine W.fs (hok) (by simp only[uE,go_sem];rfl) ?_;simp only[ak];try exact V.wk.rfl _)
  all_goals (all_goals exact au)
 |some u=>
  ((try refine W.a ?_);simp only[go_sem,cw]);refine W.no rfl (W.a ?_);simp only[go_sem];(apply W.aQ (aS _ _);case hc=>((apply ae.al;simp only[go_sem]);exact ae.nil));((try refine W.a ?_);simp only[go_sem,lA]);(refine W.fs (hok) (by simp only[uE,go_sem];rfl) ?_;simp only[ak];try exact V.wk.rfl _)
  all_goals (all_goals exact au)
theorem Xw(w0:World)(n:Nat)(hn:n<=100000)(t:aa)(hi:cg n t)(hnd:ax t+4097*n<=1000000000){o:Option aa}{q:Nat}(h:ei n t o q)(σ:H):DC prog w0 75 [t.v,I (n:Int)] σ (Same (lA q o) σ):=by
 refine Dn.go rfl (fun hok hsz=>?_);have hR:=fun σ=>Xv w0 n hn t hi hnd h σ;cases o with
 |none=>
  simp only[lA]at hR⊢;((try refine W.a ?_);simp only[go_sem,c75]);(refine W.c1 (hR _) ?_;simp only[go_sem]);((try refine W.a ?_);simp only[go_sem,aa.none]);(refine W.fs (hok) (by simp only[uZ,go_sem];rfl) ?_;simp only[ak];try exact V.wk.rfl _)
  all_goals (all_goals exact au)
 |some u=>
  simp only[lA]at hR⊢;((try refine W.a ?_);simp only[go_sem,c75]);(refine W.c1 (hR _) ?_;simp only[go_sem]);((try refine W.a ?_);simp only[go_sem]);(refine W.fs (hok) (by simp only[uZ,go_sem];rfl) ?_;simp only[ak];try exact V.wk.rfl _)
  all_goals (all_goals exact au)
theorem Xx(w0:World)(t:aa)(hv:ba t=false)(n:Int)(σ:H):DC prog w0 75 [t.v,I n] σ (Same (.av [aa.none.v,I 0,I 1]) σ):=by
 refine Dn.go rfl (fun hok hsz=>?_);have hR:=fun F σ=>Xu w0 t hv n F σ;((try refine W.a ?_);simp only[go_sem,c75]);(refine W.c1 (hR _ _) ?_;simp only[go_sem]);((try refine W.a ?_);simp only[go_sem,aa.none]);(refine W.fs (hok) (by simp only[uZ,go_sem];rfl) ?_;simp only[ak];try exact V.wk.rfl _)
 all_goals (all_goals exact au)
theorem Xy(w0:World)(n:Nat)(hn:n<=100000)(t:aa)(hi:cg n t)(hnd:ax t+4097*n<=1000000000){o:Option aa}{q:Nat}(h:ei n t o q)(σ:H):DC prog w0 29 [t.v,I (n:Int)] σ (Same (lA q (o.map bQ)) σ):=by
 refine Dh.go rfl (fun hok hsz=>?_);have hR:=fun σ=>Xw w0 n hn t hi hnd h σ;obtain⟨k1,k2⟩:=zk h hn hi;cases o with
 |none=>
  simp only[lA,wc]at hR⊢;((try refine W.a ?_);simp only[go_sem,uT]);(refine W.c1 (hR _) ?_;simp only[go_sem]);((try refine W.a ?_);simp only[go_sem,aa.none]);refine W.yes rfl (W.a ?_);simp only[go_sem,aa.none];(refine W.fs (hok) (by simp only[uU,go_sem];rfl) ?_;simp only[ak];try exact V.wk.rfl _)
  all_goals (all_goals exact au)
 |some u=>
  obtain⟨k3,k4⟩:=k2 u rfl;have hS:=fun σ=>Xt w0 u k3.1 (oB (by omega) u k3.2) (by omega) σ;simp only[lA,iq]at hR⊢;generalize bQ u=z at*
  ((try refine W.a ?_);simp only[go_sem,uT]);(refine W.c1 (hR _) ?_;simp only[go_sem]);((try refine W.a ?_);simp only[go_sem]);refine W.no rfl (W.a ?_);simp only[go_sem];(refine W.c1 (hS _) ?_;simp only[go_sem]);((try refine W.a ?_);simp only[go_sem]);(refine W.fs (hok) (by simp only[uU,go_sem];rfl) ?_;simp only[ak];try exact V.wk.rfl _)
  all_goals (all_goals exact au)
theorem Xz(w0:World)(t:aa)(hv:ba t=false)(n:Int)(σ:H):DC prog w0 29 [t.v,I n] σ (Same (.av [aa.none.v,I 0,I 1]) σ):=by
 refine Dh.go rfl (fun hok hsz=>?_);have hR:=fun σ=>Xx w0 t hv n σ;((try refine W.a ?_);simp only[go_sem,uT]);(refine W.c1 (hR _) ?_;simp only[go_sem]);((try refine W.a ?_);simp only[go_sem,aa.none]);refine W.yes rfl (W.a ?_);simp only[go_sem,aa.none];(refine W.fs (hok) (by simp only[uU,go_sem];rfl) ?_;simp only[ak];try exact V.wk.rfl _)
 all_goals (all_goals exact au)
end Go.Proofs.YtdlkenpilhakfaaGreatDoor
namespace Go.Proofs.YtdlkenpilhakfaaGreatDoor
open Go.RowKit Go.Lamb
section
variable {n0 p:Nat} {σ τ:H} {g:Sg} {f:aH} {y3 y4 y5:V}
theorem MV(w0:World){H0:H}(h:bq n0 H0 p g f y3 y4 y5)(hn:n0<=H0.length)(hl:f.live=true):∀n:Nat,f.sub.length+n<=1000000->∃T:Nat->H,T 0=H0/\∀i,i<=n->(∃y,bq n0 (T i) p g (f.more i) y y4 y5)/\Kept n0 p H0 (T i)/\(i<n->DC prog w0 67 [.ptr p 0] (T i) (Same (aN (f.more i).sub.length).v (T (i+1))))
 |0,_=>⟨fun _=>H0,rfl,fun i hi=>by
  obtain rfl:i=0:=by omega
  exact⟨⟨y3,h⟩,Kept.refl _ _ _,fun h=>absurd h (Nat.lt_irrefl _)⟩⟩
 |n+1,hs=>by
  obtain⟨T,hT0,hT⟩:=MV w0 h hn hl n (by omega);obtain⟨⟨y,hA⟩,hK,_⟩:=hT n (aA _);obtain⟨m1,m2,m3,m4,m5⟩:=f.so n;have msub:=f.oJ n;obtain⟨τ',c1,c2,c3⟩:=sn w0 hA (bB hn hK.len) (by rw[m5];exact hl) (by omega);refine⟨fun j=>if j<=n then T j else τ',by dsimp only;rw[if_pos (bx _)];exact hT0,fun i hi=>?_⟩;dsimp only
  by_cases hin:i<=n
  ·rw[if_pos hin];obtain⟨q1,q2,q3⟩:=hT i hin;refine⟨q1,q2,fun _=>?_⟩;by_cases hlt:i<n
   ·rw[if_pos (by omega)];exact q3 hlt
   ·obtain rfl:i=n:=by omega
    rw[if_neg (by omega)];exact c1
  ·obtain rfl:i=n+1:=by omega
   rw[if_neg hin];exact⟨⟨_,c2⟩,hK.trans c3,fun h=>absurd h (oW _)⟩
attribute [local go_sem] aa.v aa.aM aY a7 aV aL aT
theorem XA(w0:World)(h:bq n0 σ p g f y3 y4 y5)(hn:n0<=σ.length)(hl:f.live=true)(t:aa)(hv:cJ t=true)(ht:aC t<=10000)(hs:f.sub.length+aC t<=999999):
  ∃τ y3',DC prog w0 27 [.ptr p 0,t.v] σ (Same (f.db t).v τ)/\bq n0 τ p g (f.renew t) y3' y4 y5/\Kept n0 p σ τ:=by
 obtain⟨n1,n2,n3,n4⟩:=vh hv (by omega);have hN:=fun σ=>yl w0 t (by omega) σ;have hS:=fun σ=>J4 w0 (cK t) f.sub.length (by omega) σ;have hV:=fun σ=>uo w0 (cK t) (bB (Bh _) (by omega)) σ;have hE:(cI (ml f.sub.length) () (cK t)).1=f.db t:=rfl;rw[hE]at hS;obtain⟨nv,hnv⟩:∃nv:Nat,cx 0 (cK t)=(nv:Int):=⟨(cx 0 (cK t)).toNat,by omega⟩;have hfin:f.renew t=f.more nv:=by unfold aH.renew;rw[hnv,Int.toNat_natCast]
 rw[hnv]at hV n4;rw[hfin];have hp:=fun L=>hG h.here L;unfold bJ at hp;have hlt:=h.lt;have hsub:=h.sub hl;generalize f.db t=u at*
 generalize cK t=s at*
 clear hE hfin n1 n2 n3 hnv;obtain⟨T,hT0,hT⟩:=MV w0 (h.app [.cells s.v.ah,.cells [I 0,S [],I 0,.ab []],.cells u.v.ah]) (by rw[bt];omega) hl nv (by omega);have hK0:=(Kept.refl n0 p σ).app hn [.cells s.v.ah,.cells [I 0,S [],I 0,.ab []],.cells u.v.ah];have hx4:∀i,i<=nv->(T i)[σ.length+1]?=some (.cells [I 0,S [],I 0,.ab []]):=fun i hi=>(hT i hi).2.1.cells _ _ _ (by omega) (Go.Lamb.bY _ _ 1);have hx5:∀i,i<=nv->(T i)[σ.length+2]?=some (.cells u.v.ah):=fun i hi=>(hT i hi).2.1.cells _ _ _ (by omega) (Go.Lamb.bY _ _ 2)
 obtain⟨⟨yn,hAn⟩,hKn,_⟩:=hT nv (aA _);have hfin:=hAn.box (hx4 nv (aA _)) (by omega) (.cells u.v.ah);have hfin2:=(hK0.trans hKn).set (.cells u.v.ah) (a:=σ.length+1) (by omega) (.inr (.inl (by omega)));refine⟨_,yn,?_,hfin,hfin2⟩;have hms:=f.oJ;refine Dg.dn rfl (fun hok hsz=>?_);rcases hsub with⟨h0,rfl⟩|⟨b,hb0,rfl,hb,hz⟩
 ·simp only[h0,cM]at hS;(refine W.a ?_;simp only[go_sem,sa]);(refine W.c1 (hN _) ?_;simp only[go_sem]);(refine W.a ?_;simp only[go_sem]);apply W.aQ (aS _ _)
  case hc=>
   (apply ae.al;simp only[go_sem,hp]);(apply ae.pn (fun τ=>hS τ);(case hg=>rfl);(case hf=>rfl);(case ha=>first|rfl|simp));(apply ae.al;simp only[go_sem]);exact ae.nil
  (refine W.a ?_;simp only[go_sem]);(refine W.c1 (hV _) ?_;simp only[go_sem]);(refine W.a ?_;simp only[go_sem]);refine W.bA (α:=Nat) (fun i=>i<=nv) (fun i=>⟨(((((base.put (some 0) (.ptr p 0)).put (some 4) (.ptr (σ.length+1) 0)).put (some 5) (.ptr (σ.length+2) 0)).put (some 16) (I (nv:Int))).put (some 17) (I (i:Int))),T i⟩) (fun i=>nv-i) 0 (bx _) ?_ (fun i hi=>?_)
  ·rw[hT0];(refine aq.env ?_;exact aE)
  by_cases hlt2:i<nv
  ·have z:(i:Int)<(nv:Int):=by omega
   have hw:aW.wrap ((i:Int)+1)=((i+1:Nat):Int):=by rw[bD]<;>omega
   have c1:=(hT i hi).2.2 hlt2;(refine W.a ?_;simp only[go_sem,z]);refine W.yes rfl (W.a ?_);simp only[go_sem];(refine W.c1 (c1) ?_;simp only[go_sem]);(refine W.a ?_;simp only[go_sem,hw]);refine .inv ⟨i+1,hlt2,by omega,?_⟩;(refine aq.env ?_;exact aE)
  ·obtain rfl:i=nv:=by omega
   have z:¬((i:Int)<(i:Int)):=by omega
   have x4:=hx4 i (aA _);have x5:=hx5 i (aA _);have l1:σ.length+1<(T i).length:=(aK.1 x4).1;have s1:∀B,((T i).set (σ.length+1) B)[σ.length+1]?=some B:=fun B=>ct l1;(refine W.a ?_;simp only[go_sem,z]);refine W.no rfl (W.a ?_);simp only[go_sem,x4,x5,s1];exact W.ret ⟨_,_,(by simp only[br,sb,s1,go_sem];rfl),.rfl _,rfl,rfl⟩
 ·clear hb hz;(refine W.a ?_;simp only[go_sem,sa]);(refine W.c1 (hN _) ?_;simp only[go_sem]);(refine W.a ?_;simp only[go_sem]);apply W.aQ (aS _ _)
  case hc=>
   (apply ae.al;simp only[go_sem,hp]);(apply ae.pn (fun τ=>hS τ);(case hg=>rfl);(case hf=>rfl);(case ha=>first|rfl|simp));(apply ae.al;simp only[go_sem]);exact ae.nil
  (refine W.a ?_;simp only[go_sem]);(refine W.c1 (hV _) ?_;simp only[go_sem]);(refine W.a ?_;simp only[go_sem]);refine W.bA (α:=Nat) (fun i=>i<=nv) (fun i=>⟨(((((base.put (some 0) (.ptr p 0)).put (some 4) (.ptr (σ.length+1) 0)).put (some 5) (.ptr (σ.length+2) 0)).put (some 16) (I (nv:Int))).put (some 17) (I (i:Int))),T i⟩) (fun i=>nv-i) 0 (bx _) ?_ (fun i hi=>?_)
  ·rw[hT0];(refine aq.env ?_;exact aE)
  by_cases hlt2:i<nv
  ·have z:(i:Int)<(nv:Int):=by omega
   have hw:aW.wrap ((i:Int)+1)=((i+1:Nat):Int):=by rw[bD]<;>omega
   have c1:=(hT i hi).2.2 hlt2;(refine W.a ?_;simp only[go_sem,z]);refine W.yes rfl (W.a ?_);simp only[go_sem];(refine W.c1 (c1) ?_;simp only[go_sem]);(refine W.a ?_;simp only[go_sem,hw]);refine .inv ⟨i+1,hlt2,by omega,?_⟩;(refine aq.env ?_;exact aE)
  ·obtain rfl:i=nv:=by omega
   have z:¬((i:Int)<(i:Int)):=by omega
   have x4:=hx4 i (aA _);have x5:=hx5 i (aA _);have l1:σ.length+1<(T i).length:=(aK.1 x4).1;have s1:∀B,((T i).set (σ.length+1) B)[σ.length+1]?=some B:=fun B=>ct l1;(refine W.a ?_;simp only[go_sem,z]);refine W.no rfl (W.a ?_);simp only[go_sem,x4,x5,s1];exact W.ret ⟨_,_,(by simp only[br,sb,s1,go_sem];rfl),.rfl _,rfl,rfl⟩
end
end Go.Proofs.YtdlkenpilhakfaaGreatDoor
namespace Go.Proofs.YtdlkenpilhakfaaGreatDoor
open Go Go.RowKit Go.Lamb
def ij:aH:=⟨[],[],[],0,0,true⟩
noncomputable def mH(p:ao)(want:aa)(r:aa×aa×aH):aH:=
 if r.2.2.e=0 then(if(r.2.2.renew want).mB r.2.1 (r.2.2.db want)=true then(r.2.2.renew want).one r.2.1 (r.2.2.db want)else((r.2.2.renew want).one r.2.1 (r.2.2.db want)).fail 121 p.pos)else r.2.2
noncomputable def zq(f:aH):Option aa->aa×List ay×Int×Int
 |none=>(.none,[],122,0)
 |some u=>if 4096<cR (bQ u)\/vp f.sub (f.vars.map (·.ty)) 4096<0 then(.none,[],122,0)else(bQ u,vw f,0,0)
noncomputable def nI(f:aH)(t:aa):aa×List ay×Int×Int:=
 if f.e≠0 then(.none,[],f.e,f.pos)else if ba t=true then zq f (vo t)else(.none,[],122,0)
noncomputable def fx(g:Sg)(p:ao)(want:aa):aa×List ay×Int×Int:=
 if bR p<0\/4096<bR p\/cJ want=false then(.none,[],1,0)else nI (mH p want (bE g p ij)) (bE g p ij).1
def oP(r:aa×List ay×Int×Int):V:=.av [r.1.v,.c (.sl (r.2.1.map ay.cs)),I r.2.2.1,I r.2.2.2]
theorem MW:cU ij:=⟨⟨⟨(fun t h=>by cases h),(fun _=>0),(fun i hi=>absurd hi (Nat.not_lt_zero _))⟩,(fun t h=>by cases h)⟩,(fun x h=>by cases h),(fun x h=>by cases h),(fun _=>rfl)⟩
theorem XB{W:Nat}{f:aH}{n:Nat}{r:aa×aa×aH}(h:oK W f n r)(hr:f.sub.length+(W+1)*n<=900000)(hW:W+3*n<=90000){want:aa}(hv:cJ want=true)(hn:aC want<=10000)(h0:r.2.2.e=0):
  cU (r.2.2.renew want)/\(r.2.2.renew want).e=0/\(r.2.2.renew want).live=true/\(r.2.2.renew want).sub.length<=1000000/\(r.2.2.renew want).vars=r.2.2.vars/\ee (r.2.2.renew want).sub.length 100000 (r.2.1,r.2.2.db want):=by
 obtain⟨n1,n2,n3,n4⟩:=vh hv (by omega);obtain⟨m1,m2,m3,m4,m5⟩:=r.2.2.so (cx 0 (cK want)).toNat;have msub:=r.2.2.oJ (cx 0 (cK want)).toNat;have hl:=h.len;obtain⟨s1,s2⟩:=L7 r.2.2.sub.length (cK want) _ n1 (by omega);obtain⟨t1,t2⟩:=h.ty h0;have hm:=h.ok.more (cx 0 (cK want)).toNat (by omega);refine⟨hm,m3.trans h0,m5.trans (h.ok.live h0),by show(r.2.2.more _).sub.length<=_;omega,m2,?_⟩;show ee (r.2.2.more _).sub.length 100000 _;rw[msub];refine⟨t1.mono (by omega),s1,by show aC r.2.1<=_;omega,?_⟩;show aC (mC _ _)<=_
 rw[s2,n2];omega
theorem XC{f:aH}(hR:cl 100000 f.sub)(hvar:∀x∈f.vars,∃i:Nat,i<f.sub.length/\x.ty=aN i)(hs:f.sub.length<=1000000):iM f.sub (f.vars.map (·.ty)) 4096 (vp f.sub (f.vars.map (·.ty)) 4096)/\gk f.sub (f.vars.map (·.ty)) (zl f.sub (f.vars.map (·.ty)))/\∀t∈f.vars.map (·.ty),aD f.sub.length t/\aC t<=100000:=by
 have ht:∀t∈f.vars.map (·.ty),aD f.sub.length t/\aC t<=100000:=fun t ht=>by
  obtain⟨x,hx,rfl⟩:=dK.1 ht;obtain⟨i,hi,e⟩:=hvar x hx;rw[e];exact⟨iF (by omega) (by omega) hs,by rw[oM];omega⟩
 refine⟨Wn ?_,Wo ?_,ht⟩
 ·obtain⟨r,a,_⟩:=D0 (d:=4096) (fun t n ht hn=>Mq hR.right 4097 t n ht (by omega)) (f.vars.map (·.ty)) 4096 (fun x hx=>(ht x hx).1) (Int.le_refl _);exact⟨r,a⟩
 ·obtain⟨rk,hL⟩:=hR.right.less;have key:∀l:List aa,(∀t∈l,aD f.sub.length t)->∃w,gk f.sub l w:=by
   intro l;induction l with
   |nil=>intro _;exact⟨[],.nil⟩
   |cons x l ih=>
    intro hx;obtain⟨m,hm⟩:=tH rk (hx x (bp ..));obtain⟨u,r⟩:=Vl hL m x (hx x (bp ..)) hm;obtain⟨w,rs⟩:=ih (fun t ht=>hx t (List.mem_cons_of_mem _ ht));exact⟨u::w,.cons r rs⟩
  exact key _ (fun t h=>(ht t h).1)
end Go.Proofs.YtdlkenpilhakfaaGreatDoor
namespace Go.Proofs.YtdlkenpilhakfaaGreatDoor
open Go.RowKit Go.Lamb
theorem vA{p:Nat}{σ E:H}(h:Kept σ.length p σ E):∃L,E=σ++L:=by
 have hl:=h.len;refine⟨E.drop σ.length,?_⟩;have e:E.take σ.length=σ:=by
  refine List.ext_getElem? fun j=>?_;by_cases hj:j<σ.length
  ·rw[List.getElem?_take_of_lt hj,h.low j hj]
  ·rw[qC (by rw[eu];omega),qC (by omega)]
 calc E=E.take σ.length++E.drop σ.length:=(List.take_append_drop ..).symm
  _=_:=by rw[e]
attribute [local go_sem] aa.v aa.aM aY a7 aV aL aT
theorem XD(w0:World){g:Sg}{p:ao}{want:aa}(hnp:bT p<=2000)(hb:bR p<0\/4096<bR p\/cJ want=false)(σ:H):DC prog w0 9 [g.v,p.v,want.v] σ (Same (oP (.none,[],1,0)) σ):=by
 refine k9.go rfl (fun hok hsz=>?_);have hS:=fun σ=>MJ w0 p (by omega) σ;have hV:=fun σ=>nB w0 want σ;unfold oP;by_cases h1:bR p<0
 ·((try refine W.a ?_);simp only[go_sem,c9,Sg.v]);(refine W.c1 (hS _) ?_;simp only[go_sem]);((try refine W.a ?_);simp only[go_sem,h1]);refine W.yes rfl (W.a ?_);simp only[go_sem,aa.none];(refine W.fs (hok) (by simp only[r9,go_sem];rfl) ?_;simp only[ak];try exact V.wk.rfl _)
  all_goals (all_goals exact au)
 ·by_cases h2:bR p>4096
  ·((try refine W.a ?_);simp only[go_sem,c9,Sg.v]);(refine W.c1 (hS _) ?_;simp only[go_sem]);((try refine W.a ?_);simp only[go_sem,h1,h2]);refine W.yes rfl (W.a ?_);simp only[go_sem,aa.none];(refine W.fs (hok) (by simp only[r9,go_sem];rfl) ?_;simp only[ak];try exact V.wk.rfl _)
   all_goals (all_goals exact au)
  ·have hv:cJ want=false:=by
    rcases hb with hb|hb|hb
    ·exact absurd hb h1
    ·exact absurd hb h2
    ·exact hb
   rw[hv]at hV;((try refine W.a ?_);simp only[go_sem,c9,Sg.v]);(refine W.c1 (hS _) ?_;simp only[go_sem]);((try refine W.a ?_);simp only[go_sem,h1,h2]);(refine W.c1 (hV _) ?_;simp only[go_sem]);((try refine W.a ?_);simp only[go_sem]);refine W.yes rfl (W.a ?_);simp only[go_sem,aa.none];(refine W.fs (hok) (by simp only[r9,go_sem];rfl) ?_;simp only[ak];try exact V.wk.rfl _)
   all_goals (all_goals exact au)
theorem XE(w0:World){g:Sg}{Wd:Nat}(hW:∀x∈g.types,aC x.ty<=Wd)(hW1:1<=Wd)(hW2:Wd<=10000){p:ao}{want:aa}(hnp:bT p<=2000)(hwp:(Wd+1)*bT p<=900000)(hnw:aC want<=10000)(h1:¬bR p<0)(h2:¬bR p>4096)(hv:cJ want=true)(σ:H):
  DC prog w0 9 [g.v,p.v,want.v] σ (Same (oP (nI (mH p want (bE g p ij)) (bE g p ij).1)) σ):=by
 refine k9.go rfl (fun hok hsz=>?_);have hS:=fun σ=>MJ w0 p (by omega) σ;have hV:=fun σ=>nB w0 want σ;rw[hv]at hV;have hTO:=zh hW hW1 hW2 p ij MW (by omega) (by show 0+_<=_;omega);have hA1:bq σ.length (σ++[.cells [.c (fO g.kinds),.c (ef g.types),.c (iC g.ops)],.cells p.v.ah,.cells want.v.ah,.cells [I 0,S [],I 0,.ab []],bJ g ij (.ab []) (.ab []) (.ab [])]) (σ.length+4) g ij (.ab []) (.ab []) (.ab []):=⟨Go.Lamb.bY _ _ 4,by omega,fun _=>.inl ⟨rfl,rfl⟩,.inl ⟨rfl,rfl⟩,.inl ⟨rfl,rfl⟩⟩;have hT:=Ws w0 hW hW1 hW2 p hA1 (by rw[bt];omega) MW (by omega) (by show 0+_<=_;omega) (by show 0+_<=_;omega) (by show 0+_<=_;omega) (by omega)
 have hwo:=fun h0=>XB (want:=want) hTO (by show 0+_<=_;omega) (by omega) hv hnw h0;generalize hr:bE g p ij=r at*
 have hTy0:ij.e=0:=rfl;have hK0:=(Kept.refl σ.length (σ.length+4) σ).app (aA _) [.cells [.c (fO g.kinds),.c (ef g.types),.c (iC g.ops)],.cells p.v.ah,.cells want.v.ah,.cells [I 0,S [],I 0,.ab []],bJ g ij (.ab []) (.ab []) (.ab [])];simp only[bJ,ao.v,aa.v,V.ah,ij]at hT hK0;unfold oP;((try refine W.a ?_);simp only[go_sem,c9,Sg.v]);(refine W.c1 (hS _) ?_;simp only[go_sem]);((try refine W.a ?_);simp only[go_sem,h1,h2]);(refine W.c1 (hV _) ?_;simp only[go_sem]);((try refine W.a ?_);simp only[go_sem])
 refine W.no rfl (W.a ?_);simp only[go_sem];(refine W.call (hT) rfl rfl (by first|rfl|simp) ?_);rintro d τ1 ⟨rfl,⟨u3,u4,u5,c2⟩,c3⟩;have hn1:σ.length+5<=τ1.length:=by have:=c3.len;simpa using this
 have a4:τ1[σ.length+1]?=some (.cells p.v.ah):=c3.cells _ _ _ (by omega) (Go.Lamb.bY _ _ 1);have a5:τ1[σ.length+2]?=some (.cells want.v.ah):=c3.cells _ _ _ (by omega) (Go.Lamb.bY _ _ 2);have a6:τ1[σ.length+3]?=some (.cells [I 0,S [],I 0,.ab []]):=c3.cells _ _ _ (by omega) (Go.Lamb.bY _ _ 3);obtain⟨E1,hE1⟩:∃X,(τ1++[ad.cells r.1.v.ah,ad.cells r.2.1.v.ah])=X:=⟨_,rfl⟩;have d1:=c2.app [ad.cells r.1.v.ah,ad.cells r.2.1.v.ah];have d2:=(hK0.trans c3).app (aA _) [ad.cells r.1.v.ah,ad.cells r.2.1.v.ah];have b12:(τ1++[ad.cells r.1.v.ah,ad.cells r.2.1.v.ah])[τ1.length]?=some (ad.cells r.1.v.ah):=Go.Lamb.eB _ _
 have b13:(τ1++[ad.cells r.1.v.ah,ad.cells r.2.1.v.ah])[τ1.length+1]?=some (ad.cells r.2.1.v.ah):=Go.Lamb.bY _ _ 1;have b4:=hG a4 [ad.cells r.1.v.ah,ad.cells r.2.1.v.ah];have b5:=hG a5 [ad.cells r.1.v.ah,ad.cells r.2.1.v.ah];have b6:=hG a6 [ad.cells r.1.v.ah,ad.cells r.2.1.v.ah];rw[hE1]at d1 d2 b12 b13 b4 b5 b6;have l13:=(aK.1 b13).1;have hnE1:σ.length<=E1.length:=by omega
 ((try refine W.a ?_);simp only[go_sem]);refine W.heap hE1 ?_;by_cases h0:r.2.2.e=0
 ·obtain⟨w1,w2,w3,w4,w5,w6⟩:=hwo h0;have hlive:=hTO.ok.live h0;obtain⟨τ2,v3,m1,m2,m3⟩:=XA w0 d1 hnE1 hlive want hv hnw (by have:=hTO.len;show _<=_;have e:ij.sub.length=0:=rfl;omega);have hn2:=bB hnE1 m3.len;obtain⟨τ3,v3',o1,o2,o3⟩:=L6 w0 m2 hn2 w3 w4 w1.right w6;have k2:(r.2.2.e==0)=true:=by simp[h0]
  have hEP:=d1.here;unfold bJ at hEP;have f4:=o3.cells _ _ _ (by omega) (m3.cells _ _ _ (by omega) b4);have f6:=o3.cells _ _ _ (by omega) (m3.cells _ _ _ (by omega) b6);have f12:=o3.cells _ _ _ (by omega) (m3.cells _ _ _ (by omega) b12);have hQ2:=m2.here;unfold bJ at hQ2;have b13':=m3.cells _ _ _ (by omega) b13;have hKE3:=(d2.trans m3).trans o3;simp only[aa.v,V.ah]at m1 o1 b5 b13 b13';apply W.aQ (aS _ _)
  case hc=>
   (apply ae.al;simp only[go_sem,hEP,k2,b5,b13]);(apply ae.call (m1);(case hg=>rfl);(case hf=>rfl);(case ha=>first|rfl|simp));(apply ae.al;simp only[go_sem,hEP,b13,b13',hQ2]);(apply ae.call (o1);(case hg=>rfl);(case hf=>rfl);(case ha=>first|rfl|simp));(apply ae.al;simp only[go_sem]);exact ae.nil
  cases hob:(r.2.2.renew want).mB r.2.1 (r.2.2.db want)
  ·have hwi:mH p want r=((r.2.2.renew want).one r.2.1 (r.2.2.db want)).fail 121 p.pos:=by unfold mH;rw[if_pos h0,if_neg (by rw[hob];decide)]
   have hF:=DK w0 o2 121 p.pos;simp only[ao.v,V.ah]at f4;((try refine W.a ?_);simp only[go_sem]);refine W.yes rfl (W.a ?_);simp only[go_sem,f4];(refine W.call (hF) rfl rfl (by first|rfl|simp) ?_);rintro d τ4 ⟨rfl,p2,p3⟩;have hfe:(((r.2.2.renew want).one r.2.1 (r.2.2.db want)).fail 121 p.pos).e=121:=by unfold aH.fail;rw[if_pos (show((r.2.2.renew want).one _ _).e=0 from w2)]
   rw[hwi];generalize ((r.2.2.renew want).one r.2.1 (r.2.2.db want)).fail 121 p.pos=f2 at*
   have k2:(f2.e !=0)=true:=by rw[hfe];rfl
   have hdn:nI f2 r.1=(.none,[],f2.e,f2.pos):=by unfold nI;rw[if_pos (by rw[hfe];decide)]
   rw[hdn];have e6:=p3.cells _ _ _ (by omega) f6;have hEP:=p2.here;unfold bJ at hEP;have hKE:=hKE3.trans p3;have l6:=(aK.1 e6).1;have s6:∀A,(τ4.set (σ.length+3) A)[σ.length+3]?=some A:=fun A=>ct l6;have sP:=fun A=>(bX (l:=τ4) (a:=A) (by omega:σ.length+3≠σ.length+4)).trans hEP;have hsp:∀A,∃L,τ4.set (σ.length+3) A=σ++L:=fun A=>vA (hKE.set A (a:=σ.length+3) (by omega) (.inr (.inl (by omega))));((try refine W.a ?_);simp only[go_sem,hEP,k2]);refine W.yes rfl (W.a ?_);simp only[go_sem];apply W.aQ (aS _ _)
   case hc=>
    (apply ae.al;simp only[go_sem,hEP,e6,sP]);exact ae.nil
   ((try refine W.a ?_);simp only[go_sem]);obtain⟨L,hL⟩:=hsp (.cells [I 0,S [],I 0,.ab []] none);refine W.fs hok (by simp only[br,r9,s6,go_sem];rfl) ?_ (hσ:=hL);simp only[ak];exact au
  ·have hwi:mH p want r=(r.2.2.renew want).one r.2.1 (r.2.2.db want):=by unfold mH;rw[if_pos h0,if_pos hob]
   rw[hwi];obtain⟨x1,x2,x3⟩:=ve w1.right w4 w6;have hR2:cl 100000 ((r.2.2.renew want).one r.2.1 (r.2.2.db want)).sub:=x2;have hsl2:((r.2.2.renew want).one r.2.1 (r.2.2.db want)).sub.length<=1000000:=by show(eE _ _ _).2.length<=_;omega
   have hf0:((r.2.2.renew want).one r.2.1 (r.2.2.db want)).e=0:=w2;have hvar2:∀x∈((r.2.2.renew want).one r.2.1 (r.2.2.db want)).vars,∃i:Nat,i<((r.2.2.renew want).one r.2.1 (r.2.2.db want)).sub.length/\x.ty=aN i:=fun x hx=>by
    obtain⟨i,hi,e⟩:=w1.var x hx;exact⟨i,by show i<(eE _ _ _).2.length;omega,e⟩
   have hlive2:((r.2.2.renew want).one r.2.1 (r.2.2.db want)).sub≠[]->((r.2.2.renew want).one r.2.1 (r.2.2.db want)).live=true:=fun hne=>by
    have hne':(r.2.2.renew want).sub≠[]:=fun e=>hne (List.eq_nil_of_length_eq_zero (by show(eE _ _ _).2.length=0;rw[x3,e];rfl));show((r.2.2.renew want).live&&(((eE (r.2.2.renew want).sub r.2.1 (r.2.2.db want)).1==0)&&!(r.2.2.renew want).sub.isEmpty))=true;have hb':((eE (r.2.2.renew want).sub r.2.1 (r.2.2.db want)).1==0)=true:=hob;rw[w3,hb'];cases hf:(r.2.2.renew want).sub with
    |nil=>exact absurd hf hne'
    |cons x l=>rfl
   have hvl2:((r.2.2.renew want).one r.2.1 (r.2.2.db want)).vars.length<=2000:=by
    show(r.2.2.renew want).vars.length<=_;rw[w5];have:=hTO.vars;have e:ij.vars.length=0:=rfl;omega
   generalize (r.2.2.renew want).one r.2.1 (r.2.2.db want)=f2 at*
   have k2:(f2.e !=0)=false:=by rw[hf0];rfl
   have e6:=f6;have e12:=f12;have hEP:=o2.here;unfold bJ at hEP;have hKE:=hKE3;generalize hz5:u5=z5 at*
   ((try refine W.a ?_);simp only[go_sem]);refine W.no rfl (W.a ?_);simp only[go_sem,hEP,k2];refine W.no rfl ?_;have hdone:nI (f2) r.1=if ba r.1=true then zq (f2) (vo r.1)else(.none,[],122,0):=by
    unfold nI;rw[if_neg (fun h=>h hf0)]
   rw[hdone];have e12L:=e12;simp only[aa.v,V.ah]at e12L;have hEPL:=fun L=>hG o2.here L;unfold bJ at hEPL;by_cases hvt:ba r.1=true
   ·rw[if_pos hvt];have hnr1:Nr (2199023255552-8192*((1000:Nat):Int)) r.1:=⟨hvt,hTO.VK _ (by show((0:Nat):Int)+_<=_;omega) (by show((0:Nat):Int)+_<=_;omega)⟩;have hbi:cg 1000 r.1:=.vl hnr1 (by have:=hTO.nodes;omega);obtain⟨q,hq⟩:=Wm (Wl 1000 (by decide) r.1 hbi);have hCan:=fun σ=>Xy w0 1000 (by decide) r.1 hbi (by have:=hTO.nodes;omega) hq σ;obtain⟨kq1,kq2⟩:=zk hq (by decide) hbi;have e1000:((1000:Nat):Int)=1000:=rfl;rw[e1000]at hCan;cases hno:vo r.1 with
    |none=>
     rw[hno]at hCan;simp only[lA,wc,aa.v,aa.none,aY,a7,aV,aL,dT]at hCan;simp only[zq];obtain⟨E2,hE2⟩:∃X,(τ3++[ad.cells [I 0,S [],I 0,.c (.sl [])]])=X:=⟨_,rfl⟩;have hKE2:=hKE.app (aA _) [ad.cells [I 0,S [],I 0,.c (.sl [])]];have e62:=hG e6 [ad.cells [I 0,S [],I 0,.c (.sl [])]];rw[hE2]at hKE2 e62;have l6:=(aK.1 e62).1;have s6:∀A,(E2.set (σ.length+3) A)[σ.length+3]?=some A:=fun A=>ct l6;have hsp:∀A,∃L,E2.set (σ.length+3) A=σ++L:=fun A=>vA (hKE2.set A (a:=σ.length+3) (by omega) (.inr (.inl (by omega))))
     ((try refine W.a ?_);simp only[go_sem,e12L]);(refine W.c1 (hCan _) ?_;simp only[go_sem]);((try refine W.a ?_);simp only[go_sem]);refine W.heap hE2 ?_;refine W.yes rfl (W.a ?_);simp only[go_sem,e62];obtain⟨L,hL⟩:=hsp (.cells [I 0,S [],I 0,.ab []] none);refine W.fs hok (by simp only[br,r9,s6,go_sem];rfl) ?_ (hσ:=hL);simp only[ak];exact au
    |some u=>
     rw[hno]at hCan;obtain⟨kn1,kn2⟩:=kq2 u hno;obtain⟨so1,so2,so3⟩:=Et (M:=2199023255552) (by decide) u kn1.1 (oB (by omega) u kn1.2);have hSz:=fun σ=>En w0 (bQ u) (by have:=hTO.nodes;omega) σ;simp only[lA,iq]at hCan;simp only[zq];generalize bQ u=c at*;obtain⟨hend1,hend2,hend3⟩:=XC hR2 hvar2 hsl2;have hliv:(f2).vars≠[]->(f2).live=true/\(f2).sub≠[]:=fun hne=>by
      obtain⟨x,hx⟩:=List.exists_mem_of_ne_nil _ hne;obtain⟨i,hi,_⟩:=hvar2 x hx;have:(f2).sub≠[]:=fun e=>by rw[e]at hi;cases hi
      exact⟨hlive2 this,this⟩
     obtain⟨E2,hE2⟩:∃X,(τ3++[ad.cells c.v.ah])=X:=⟨_,rfl⟩;have hAT2:=o2.app [ad.cells c.v.ah];have hKE2:=hKE.app (aA _) [ad.cells c.v.ah];have e62:=hG e6 [ad.cells c.v.ah];have e14:(τ3++[ad.cells c.v.ah])[(τ3).length]?=some (ad.cells c.v.ah):=Go.Lamb.eB _ _;have hTy:DC prog w0 32 [z5] (τ3++[ad.cells c.v.ah]) (Same (.c (.sl (((f2).vars.map (·.ty)).map aa.cs))) (τ3++[ad.cells c.v.ah])):=by
      have h:=Vt w0 (f2).vars (by omega) (τ3++[ad.cells c.v.ah]);have hm:ly (f2).vars=((f2).vars.map (·.ty)).map aa.cs:=by unfold ly;rw[List.map_map];rfl
      rw[hm]at h;rcases o2.var with⟨hv0,hy⟩|⟨bv,_,hy,_⟩
      ·rw[hy];rw[hv0]at h⊢;exact h.fY (xa (.ab _) (.rfl _))
      ·rw[hy];exact h.fY (xa (.aF _ _) (.rfl _))
     have hLg:=Xb w0 hR2 (by decide) (fun hne=>(hliv (fun e=>hne (by rw[e];rfl))).1) hend1 hend3 (by rw[cd];omega) hAT2;rw[hE2]at hAT2 hKE2 e62 e14;have l6:=(aK.1 e62).1;have l14:=(aK.1 e14).1;have hle6:σ.length+3<(τ3).length:=(aK.1 e6).1;have s6:∀A,(E2.set (σ.length+3) A)[σ.length+3]?=some A:=fun A=>ct l6;have hsp:∀A,∃L,E2.set (σ.length+3) A=σ++L:=fun A=>vA (hKE2.set A (a:=σ.length+3) (by omega) (.inr (.inl (by omega))));generalize hlr:vp (f2).sub ((f2).vars.map (·.ty)) 4096=lr at*
     by_cases hz:(((cR c:Nat):Int)>4096)
     ·rw[if_pos (.inl (by omega))];((try refine W.a ?_);simp only[go_sem,e12L]);(refine W.c1 (hCan _) ?_;simp only[go_sem]);((try refine W.a ?_);simp only[go_sem]);(refine W.c1 (hSz _) ?_;simp only[go_sem]);((try refine W.a ?_);simp only[go_sem,hz]);refine W.heap hE2 ?_;refine W.yes rfl (W.a ?_);simp only[go_sem,e62];obtain⟨L,hL⟩:=hsp (.cells [I 0,S [],I 0,.ab []] none);refine W.fs hok (by simp only[br,r9,s6,go_sem];rfl) ?_ (hσ:=hL);simp only[ak];exact au
     ·simp only[aa.v,V.ah]at hTy hLg;by_cases hl0:lr<0
      ·rw[if_pos (.inr hl0)];have hd:decide (lr<0)=true:=by simpa using hl0
       rw[hd]at hLg;((try refine W.a ?_);simp only[go_sem,e12L]);(refine W.c1 (hCan _) ?_;simp only[go_sem]);((try refine W.a ?_);simp only[go_sem]);(refine W.c1 (hSz _) ?_;simp only[go_sem]);((try refine W.a ?_);simp only[go_sem,hz,hEPL]);(refine W.c1 (hTy) ?_;simp only[go_sem]);((try refine W.a ?_);simp only[go_sem]);(refine W.c1 (hLg) ?_;simp only[go_sem]);((try refine W.a ?_);simp only[go_sem]);refine W.heap hE2 ?_;refine W.yes rfl (W.a ?_);simp only[go_sem,e62];obtain⟨L,hL⟩:=hsp (.cells [I 0,S [],I 0,.ab []] none);refine W.fs hok (by simp only[br,r9,s6,go_sem];rfl) ?_ (hσ:=hL)
       simp only[ak];exact au
      ·rw[if_neg (fun h=>h.elim (fun h=>hz (by omega)) hl0)];have hd:decide (lr<0)=false:=by simpa using hl0
       rw[hd]at hLg;have hNm:DC prog w0 33 [.ptr (σ.length+4) 0] E2 (Same (.c (.sl ((vw (f2)).map ay.cs))) E2):=by
        by_cases hv0:(f2).vars=[]
        ·exact Xc w0 hv0 hAT2
        ·obtain⟨q1,q2⟩:=hliv hv0;obtain⟨r1,r2⟩:=D4 hR2 hend2 hend1 (by omega) (fun x hx=>(hend3 x hx).1);exact Xd w0 hR2 (by decide) hsl2 q1 (fun x hx=>hend3 _ (dK.2 ⟨x,hx,rfl⟩)) hv0 (by omega) q2 hend2 (by omega) (fun x hx=>(r2 x hx).valid) hAT2
       have s14:=fun A=>(bX (l:=E2) (a:=A) (by omega:σ.length+3≠(τ3).length)).trans e14;simp only[aa.v,V.ah]at e14 s14;((try refine W.a ?_);simp only[go_sem,e12L]);(refine W.c1 (hCan _) ?_;simp only[go_sem]);((try refine W.a ?_);simp only[go_sem]);(refine W.c1 (hSz _) ?_;simp only[go_sem]);((try refine W.a ?_);simp only[go_sem,hz,hEPL]);(refine W.c1 (hTy) ?_;simp only[go_sem]);((try refine W.a ?_);simp only[go_sem]);(refine W.c1 (hLg) ?_;simp only[go_sem]);((try refine W.a ?_);simp only[go_sem])
       refine W.heap hE2 ?_;refine W.no rfl (W.a ?_);simp only[go_sem];apply W.aQ (aS _ _)
       case hc=>
        (apply ae.al;simp only[go_sem]);(apply ae.call (hNm);(case hg=>rfl);(case hf=>rfl);(case ha=>first|rfl|simp));(apply ae.al;simp only[go_sem,e14,e62,s14]);exact ae.nil
       ((try refine W.a ?_);simp only[go_sem]);obtain⟨L,hL⟩:=hsp (.cells c.v.ah none);refine W.fs hok (by simp only[br,r9,s6,go_sem];rfl) ?_ (hσ:=hL);simp only[ak];exact au
   ·rw[if_neg hvt];have hvf:ba r.1=false:=by simpa using hvt
    have hCan:=fun σ=>Xz w0 r.1 hvf 1000 σ;simp only[aa.v,aa.none,aY,a7,aV,aL,dT]at hCan;obtain⟨E2,hE2⟩:∃X,(τ3++[ad.cells [I 0,S [],I 0,.c (.sl [])]])=X:=⟨_,rfl⟩;have hKE2:=hKE.app (aA _) [ad.cells [I 0,S [],I 0,.c (.sl [])]];have e62:=hG e6 [ad.cells [I 0,S [],I 0,.c (.sl [])]];rw[hE2]at hKE2 e62;have l6:=(aK.1 e62).1;have s6:∀A,(E2.set (σ.length+3) A)[σ.length+3]?=some A:=fun A=>ct l6;have hsp:∀A,∃L,E2.set (σ.length+3) A=σ++L:=fun A=>vA (hKE2.set A (a:=σ.length+3) (by omega) (.inr (.inl (by omega))))
    ((try refine W.a ?_);simp only[go_sem,e12L]);(refine W.c1 (hCan _) ?_;simp only[go_sem]);((try refine W.a ?_);simp only[go_sem]);refine W.heap hE2 ?_;refine W.yes rfl (W.a ?_);simp only[go_sem,e62];obtain⟨L,hL⟩:=hsp (.cells [I 0,S [],I 0,.ab []] none);refine W.fs hok (by simp only[br,r9,s6,go_sem];rfl) ?_ (hσ:=hL);simp only[ak];exact au
 ·have hwi:mH p want r=r.2.2:=by unfold mH;rw[if_neg h0]
  rw[hwi];have k1:(r.2.2.e==0)=false:=by simp[h0]
  have k2:(r.2.2.e !=0)=true:=by simp[h0]
  have hdn:nI r.2.2 r.1=(.none,[],r.2.2.e,r.2.2.pos):=by unfold nI;rw[if_pos h0]
  rw[hdn];have e6:=b6;have hEP:=d1.here;unfold bJ at hEP;have hKE:=d2;apply W.aQ (aS _ _)
  case hc=>
   (apply ae.al;simp only[go_sem,hEP,k1]);exact ae.nil
  ((try refine W.a ?_);simp only[go_sem]);refine W.no rfl ?_;have l6:=(aK.1 e6).1;have s6:∀A,(E1.set (σ.length+3) A)[σ.length+3]?=some A:=fun A=>ct l6;have sP:=fun A=>(bX (l:=E1) (a:=A) (by omega:σ.length+3≠σ.length+4)).trans hEP;have hsp:∀A,∃L,E1.set (σ.length+3) A=σ++L:=fun A=>vA (hKE.set A (a:=σ.length+3) (by omega) (.inr (.inl (by omega))));((try refine W.a ?_);simp only[go_sem,hEP,k2]);refine W.yes rfl (W.a ?_);simp only[go_sem];apply W.aQ (aS _ _)
  case hc=>
   (apply ae.al;simp only[go_sem,hEP,e6,sP]);exact ae.nil
  ((try refine W.a ?_);simp only[go_sem]);obtain⟨L,hL⟩:=hsp (.cells [I 0,S [],I 0,.ab []] none);refine W.fs hok (by simp only[br,r9,s6,go_sem];rfl) ?_ (hσ:=hL);simp only[ak];exact au
end Go.Proofs.YtdlkenpilhakfaaGreatDoor
namespace Go.Proofs.YtdlkenpilhakfaaGreatDoor
open Go.RowKit Go.Lamb
attribute [local go_sem] aa.v aa.aM aY a7 aV aL aT
theorem XF(w0:World){g:Sg}{Wd:Nat}(hW:∀x∈g.types,aC x.ty<=Wd)(hW1:1<=Wd)(hW2:Wd<=10000){p:ao}{want:aa}(hnp:bT p<=2000)(hwp:(Wd+1)*bT p<=900000)(hnw:aC want<=10000)(σ:H):
  DC prog w0 9 [g.v,p.v,want.v] σ (Same (oP (fx g p want)) σ):=by
 unfold fx;by_cases hb:bR p<0\/4096<bR p\/cJ want=false
 ·rw[if_pos hb];exact XD w0 hnp hb σ
 ·rw[if_neg hb];exact XE w0 hW hW1 hW2 hnp hwp hnw (fun h=>hb (.inl h)) (fun h=>hb (.inr (.inl h))) (by
   cases hv:cJ want
   ·exact absurd (.inr (.inr hv)) hb
   ·rfl) σ
theorem MX(w0:World){g:Sg}{Wd:Nat}(hW:∀x∈g.types,aC x.ty<=Wd)(hW1:1<=Wd)(hW2:Wd<=10000){p:ao}(hnp:bT p<=2000)(hwp:(Wd+1)*bT p<=900000)(σ:H):
  DC prog w0 17 [g.v,p.v] σ (Same (oP (fx g p oT)) σ):=by
 refine LC.go rfl (fun hok hsz=>?_);have hT:=fun σ=>XF w0 hW hW1 hW2 (want:=oT) hnp hwp (by rw[oT,lz,bS];decide) σ;generalize fx g p oT=r at*
 unfold oP at hT⊢;simp only[oT,aa.v,aY,a7,aV,aL,dT,Sg.v]at hT;(refine W.a ?_;simp only[go_sem,De,Sg.v]);(refine W.jE (hT _) ?_;simp only[go_sem]);(refine W.a ?_;simp only[go_sem]);(refine W.fs (hok) (by simp only[Df,go_sem];rfl) ?_;simp only[ak];try exact V.wk.rfl _)
 all_goals (all_goals exact au)
end Go.Proofs.YtdlkenpilhakfaaGreatDoor
namespace Go.Proofs.YtdlkenpilhakfaaGreatDoor
open Go Go.RowKit Go.Lamb
theorem XG{pos:Int}{r q:aa×aa×aH}(h:(mE pos r q).2.2.e≠120):q.2.2.e≠120:=by
 unfold mE at h;split at h
 ·exact h
 ·rename_i h0;have:q.2.2.e=0:=Fp h0;omega
theorem XH(g:Sg)(t:ao)(f:aH)(h:(bE g t f).2.2.e≠120):f.e≠120:=by
 intro he;apply h;rw[qe g t f (by omega)];exact he
theorem XI(t:ao)(f:aH):(f.e≠0)\/(f.e=0/\t.k=2)\/(f.e=0/\∃nm n b pos,t= .mk 4 nm n [b] pos)\/(f.e=0/\∃nm n a b pos,t= .mk 3 nm n [a,b] pos)\/(f.e=0/\t.k≠2/\∀g,bE g t f=jP g f t):=by
 by_cases he:f.e≠0
 ·exact .inl he
 replace he:f.e=0:=Fp he;by_cases h2:t.k=2
 ·exact .inr (.inl ⟨he,h2⟩)
 by_cases h4:t.k=4/\t.l.length=1
 ·obtain⟨k,nm,n,l,pos⟩:=t;simp only[ao.k,ao.l]at h4;obtain⟨rfl,hl⟩:=h4
  match l,hl with
  |[b],_=>exact .inr (.inr (.inl ⟨he,nm,n,b,pos,rfl⟩))
 by_cases h3:t.k=3/\t.l.length=2
 ·obtain⟨k,nm,n,l,pos⟩:=t;simp only[ao.k,ao.l]at h3;obtain⟨rfl,hl⟩:=h3
  match l,hl with
  |[a,b],_=>exact .inr (.inr (.inr (.inl ⟨he,nm,n,a,b,pos,rfl⟩)))
 refine .inr (.inr (.inr (.inr ⟨he,h2,fun g=>?_⟩)));unfold bE;split
 ·simp only[ao.k,ao.l]at h2 h4;simp only[if_neg (not_not_intro he),if_neg h2];rw[if_neg (fun e=>h4 ⟨e,rfl⟩)]
 ·simp only[ao.k,ao.l]at h2 h3;simp only[if_neg (not_not_intro he),if_neg h2];rw[if_neg (fun e=>h3 ⟨e,rfl⟩)]
 ·simp only[ao.k]at h2;simp only[if_neg (not_not_intro he),if_neg h2]
theorem XJ{g m:Sg}{x:ay}(hm:m.types=g.types++[x])(hg:fP g.types x.name=none)(t:ao):∀f:aH,(bE g t f).2.2.e≠120->bE m t f=bE g t f:=by
 refine ao.ind (P:=fun t=>∀f:aH,(bE g t f).2.2.e≠120->bE m t f=bE g t f) (fun t ih f h=>?_) t;rcases XI t f with he|⟨he,h2⟩|⟨he,nm,n,b,pos,rfl⟩|⟨he,nm,n,a,b,pos,rfl⟩|⟨he,h2,e⟩
 ·rw[qe g t f he,qe m t f he]
 ·rw[za g t f he h2,za m t f he h2]
 ·rw[zb g nm n b pos f he]at h⊢;rw[zb m nm n b pos f he,ih b (by simp[ao.l]) _ h]
 ·rw[zd g nm n a b pos f he]at h⊢;have hq:=XG h;have hr:=XH g b _ hq;rw[zd m nm n a b pos f he,ih a (by simp[ao.l]) f hr,ih b (by simp[ao.l]) _ hq]
 ·rw[e]at h⊢;rw[e];unfold jP at*
  by_cases hb:0<=dw t.name 0 f.bound
  ·rw[if_pos hb,if_pos hb]
  by_cases hk:t.k=1
  ·rw[if_neg hb,if_neg hb,if_pos hk,if_pos hk]
  rw[if_neg hb,if_neg hk]at h⊢;rw[if_neg hb,if_neg hk];unfold y9 at*
  have hc:iL m t.name=iL g t.name\/iL g t.name=none:=by
   unfold iL fP;rw[hm,List.find?_append];cases hf:g.types.find? (fun y=>y.name==t.name)with
   |some y=>exact .inl rfl
   |none=>exact .inr rfl
  cases hcg:iL g t.name with
  |some u=>
   rcases hc with hc|hc
   ·rw[hc,hcg]
   ·rw[hc]at hcg;cases hcg
  |none=>
   exfalso;rw[hcg]at h;apply h;show(f.fail 120 t.pos).e=120;unfold aH.fail;rw[if_pos he]
theorem XK(p:ao)(want:aa)(r:aa×aa×aH)(h:r.2.2.e≠0):mH p want r=r.2.2:=by unfold mH;rw[if_neg h]
theorem XL{g m:Sg}{x:ay}(hm:m.types=g.types++[x])(hg:fP g.types x.name=none)(p:ao)(want:aa)(h:(fx g p want).2.2.1≠120):fx m p want=fx g p want:=by
 unfold fx at*
 by_cases hb:bR p<0\/4096<bR p\/cJ want=false
 ·rw[if_pos hb,if_pos hb]
 ·rw[if_neg hb]at h⊢;rw[if_neg hb];have hr:(bE g p ij).2.2.e≠120:=by
   intro he;apply h;rw[XK p want _ (by omega)];unfold nI;rw[if_pos (by omega)];exact he
  rw[XJ hm hg p ij hr]
end Go.Proofs.YtdlkenpilhakfaaGreatDoor
namespace Go.Proofs.YtdlkenpilhakfaaGreatDoor
open Go.RowKit Go.Lamb
def c7:AC:=rsq [.o 2 (.box 0),.o 3 (.box 1),.o 4 (.af zF)] (.seq (rif [.f 7 1 2,.l 8 7,.o 9 (.aO 8),.o 10 (.bin .gtr 9 (zK 60)),.m 11 10,.z 12 (.aX 0 2) 11,.z 13 (.aU 12) 11,.z 14 (.aO 13) 11,.z 15 (.bin .gtr 14 (zK 60)) 11,.o 16 (.pick 11 zT 15)] 16 (rsq [.o 4 (.af zT)] .ret) .skip) (.seq (rsq [.o 5 (.af (zK 0))] (forL 0 1 [.m 17 5,.f 18 1 2,.l 19 18,.o 20 (.aO 19),.o 21 (.bin .lss 17 20)] 21 (rsq [.f 24 1 2,.l 25 24,.m 26 5,.o 27 (.aI 5 25 26),.f 28 1 27,.d 29 4 28,.k 30 8 [29,(zK 15)],.m 6 30] (rif [.m 31 6] 31 (rsq [.o 4 (.af zT)] .ret) .skip)) [.m 22 5,.o 23 (.bin .add 22 (zK 1)),.m 5 23])) (rsq [.d 32 5 3,.k 33 21 [32,(zK 60)],.m 4 33] .ret)))
def r7:List aw:=[.tmp 4]
theorem k7:az prog 7 2 Tryz.f7 c7 r7:=.auto func7
def c5:AC:=rsq [.o 4 (.box 0),.o 5 (.box 1),.o 7 (.box 3),.o 8 (.af zF)] (rsq [.k 27 6 [],.m 9 27] (.seq (rif [.m 28 9,.o 29 (.un .not 28)] 29 (rsq [.o 8 (.af zF)] .ret) .skip) (rsq [.d 30 3 4,.d 31 5 5,.k 32 7 [30,31],.m 10 32] (rsq [.d 33 4 7,.k 34 8 [33,(zK 15)],.m 11 34] (.seq (rif [.m 35 10,.m 36 35,.z 37 (.af 11) 36,.o 38 (.pick 36 zT 37),.m 39 38,.z 40 (.af 2) 39,.z 41 (.lens 40) 39,.z 42 (.bin .gtr 41 (zK 60)) 39,.o 43 (.pick 39 zT 42)] 43 (rsq [.m 44 9,.m 8 44] .ret) .skip) (rsq [.d 46 3 4,.m 47 2,.k 48 15 [46,47],.m 45 48,.x 49 45 0,.x 50 45 1,.o 12 (.box (.k (.agg zS4))),.s 4 12 49,.m 13 50] (.seq (rif [.m 51 13] 51 (rsq [.m 52 9,.m 8 52] .ret) .skip) (rsq [.d 54 3 4,.m 55 2,.o 56 (.bn 1 [55]),.d 57 4 7,.o 58 (.build [.c (.int .i64 0),.ab [],.c (.int .i64 0),.c (.int .i64 0),.c (.str []),.c (.int .i64 0),.ab [],.c (.str []),.c (.int .i64 0),.c (.int .i64 0),.c (.int .i64 0),.c (.str []),.c (.int .i64 0),.ab [],.c (.int .i64 0),.c (.int .i64 0)] [(0,1,(zK 1)),(1,1,56),(3,4,57)]),.k 59 16 [54,58],.m 53 59,.x 60 53 0,.x 61 53 1,.o 14 (.box (.k (.agg [.ab [],.ab [],.ab []]))),.s 3 14 60,.m 15 61] (.seq (rif [.m 62 15,.o 63 (.bin .neq 62 (zK 0))] 63 (rsq [.m 64 9,.m 8 64] .ret) .skip) (rsq [.d 66 3 4,.d 67 5 5,.k 68 17 [66,67],.m 65 68,.x 69 65 0,.x 70 65 1,.x 71 65 2,.x 72 65 3,.o 16 (.box (.k (.agg zS4))),.s 4 16 69,.m 17 70,.m 18 71,.m 19 72] (rsq [.d 74 3 14,.d 75 5 5,.k 76 17 [74,75],.m 73 76,.x 77 73 0,.x 78 73 1,.x 79 73 2,.x 80 73 3,.o 20 (.box (.k (.agg zS4))),.s 4 20 77,.m 21 78,.m 22 79,.m 23 80] (.seq (rif [.m 81 18,.o 82 (.bin .eql 81 (zK 120))] 82 (rsq [.m 83 9,.m 8 83] .ret) .skip) (rsq [.d 84 4 16,.d 85 4 20,.k 86 11 [84,85],.m 24 86] (rsq [.m 87 17,.m 88 21,.k 89 12 [87,88],.m 25 89] (rsq [.d 90 3 14,.d 91 3 14,.k 92 18 [90,91],.m 26 92] (rsq [.m 93 9,.m 94 93,.y 95 (.af 24) 94,.o 96 (.pick 94 95 zF),.m 97 96,.y 98 (.af 25) 97,.o 99 (.pick 97 98 zF),.m 100 99,.y 101 (.af 18) 100,.y 102 (.af 22) 100,.y 103 (.bin .eql 101 102) 100,.o 104 (.pick 100 103 zF),.m 105 104,.y 106 (.af 19) 105,.y 107 (.af 23) 105,.y 108 (.bin .eql 106 107) 105,.o 109 (.pick 105 108 zF),.m 110 109,.y 111 (.af 26) 110,.o 112 (.pick 110 111 zF),.m 8 112] .ret))))))))))))))))
def r5:List aw:=[.tmp 8]
theorem k5:az prog 5 4 Tryz.f5 c5 r5:=.auto func5
def c6:AC:=rsq [.o 0 (.af zF)] (rsq [.k 23 19 [(.k (.c (.str [116,121,112,101,32,102,32,105,110,116,32,45,62,32,111,46])))],.o 1 (.box (.k (.agg [.ab [],.ab [],.ab []]))),.s 3 1 23] (rsq [.f 25 2 1,.l 26 25,.k 27 20 [26,(.k (.c (.str [112,105,32,120,92,32,102,32,120])))],.m 24 27,.x 28 24 0,.x 29 24 1,.x 30 24 2,.o 2 (.box (.k (.agg [.c (.int .i64 0),.c (.str []),.c (.int .i64 0),.ab [],.c (.int .i64 0)]))),.s 5 2 28,.m 3 29,.m 4 30] (rsq [.d 32 3 1,.d 33 5 2,.k 34 17 [32,33],.m 31 34,.x 35 31 0,.x 36 31 1,.x 37 31 2,.x 38 31 3,.o 5 (.box (.k (.agg zS4))),.s 4 5 35,.m 6 36,.m 7 37,.m 8 38] (rsq [.f 40 2 1,.l 41 40,.k 42 20 [41,(.k (.c (.str [102,32,102])))],.m 39 42,.x 43 39 0,.x 44 39 1,.x 45 39 2,.o 9 (.box (.k (.agg [.c (.int .i64 0),.c (.str []),.c (.int .i64 0),.ab [],.c (.int .i64 0)]))),.s 5 9 43,.m 10 44,.m 11 45] (rsq [.d 47 3 1,.d 48 5 9,.k 49 17 [47,48],.m 46 49,.x 50 46 0,.x 51 46 1,.x 52 46 2,.x 53 46 3,.o 12 (.box (.k (.agg zS4))),.s 4 12 50,.m 13 51,.m 14 52,.m 15 53] (rsq [.f 55 2 1,.l 56 55,.k 57 20 [56,(.k (.c (.str [88,32,61,32,89,32,44,32,102,32,88])))],.m 54 57,.x 58 54 0,.x 59 54 1,.x 60 54 2,.o 16 (.box (.k (.agg [.c (.int .i64 0),.c (.str []),.c (.int .i64 0),.ab [],.c (.int .i64 0)]))),.s 5 16 58,.m 17 59,.m 18 60] (rsq [.d 62 3 1,.d 63 5 16,.k 64 17 [62,63],.m 61 64,.x 65 61 0,.x 66 61 1,.x 67 61 2,.x 68 61 3,.o 19 (.box (.k (.agg zS4))),.s 4 19 65,.m 20 66,.m 21 67,.m 22 68] (.seq (rif [.m 69 20,.o 70 (.aO 69),.o 71 (.bin .neq 70 (zK 2)),.m 72 71,.z 73 (.aX 3 5) 72,.z 74 (.aU 73) 72,.z 75 (.aO 74) 72,.z 76 (.bin .neq 75 (zK 2)) 72,.o 77 (.pick 72 zT 76)] 77 (rsq [.o 0 (.af zF)] .ret) .skip) (rsq [.f 78 3 5,.l 79 78,.o 80 (.aI 4 79 (zK 0)),.f 81 1 80,.l 82 81,.o 83 (.bin .eql 82 (.k (.c (.str [112,105])))),.m 84 83,.y 85 (.aX 3 5) 84,.y 86 (.aU 85) 84,.y 87 (.aI 4 86 (zK 1)) 84,.y 88 (.aX 1 87) 84,.y 89 (.aU 88) 84,.y 90 (.bin .eql 89 (.k (.c (.str [102])))) 84,.o 91 (.pick 84 90 zF),.m 92 91,.y 93 (.af 6) 92,.y 94 (.aO 93) 92,.y 95 (.bin .eql 94 (zK 0)) 92,.o 96 (.pick 92 95 zF),.m 97 96,.y 98 (.af 7) 97,.y 99 (.bin .eql 98 (zK 0)) 97,.o 100 (.pick 97 99 zF),.m 101 100,.y 102 (.af 14) 101,.y 103 (.bin .eql 102 (zK 121)) 101,.o 104 (.pick 101 103 zF),.m 105 104,.y 106 (.af 15) 105,.y 107 (.bin .eql 106 (zK 0)) 105,.o 108 (.pick 105 107 zF),.m 109 108,.y 110 (.af 21) 109,.y 111 (.bin .eql 110 (zK 0)) 109,.o 112 (.pick 109 111 zF),.m 113 112,.y 114 (.af 20) 113,.y 115 (.aI 5 114 (zK 0)) 113,.y 116 (.aX 0 115) 113,.y 117 (.aU 116) 113,.y 118 (.bin .eql 117 (.k (.c (.str [88])))) 113,.o 119 (.pick 113 118 zF),.m 120 119,.y 121 (.af 20) 120,.y 122 (.aI 5 121 (zK 0)) 120,.y 123 (.aX 1 122) 120,.y 124 (.aX 1 123) 120,.y 125 (.aU 124) 120,.y 126 (.bin .eql 125 (.k (.c (.str [105,110,116])))) 120,.o 127 (.pick 120 126 zF),.m 128 127,.y 129 (.af 20) 128,.y 130 (.aI 5 129 (zK 1)) 128,.y 131 (.aX 1 130) 128,.y 132 (.aX 1 131) 128,.y 133 (.aU 132) 128,.y 134 (.bin .eql 133 (.k (.c (.str [105,110,116])))) 128,.o 135 (.pick 128 134 zF),.m 0 135] .ret)))))))))
def r6:List aw:=[.tmp 0]
theorem k6:az prog 6 0 Tryz.f6 c6 r6:=.auto func6
def MY:AC:=rsq [.o 2 (.box (.k (.agg [.ab [],.ab [],.ab []])))] (rsq [.m 11 0,.k 12 56 [11],.m 10 12,.x 13 10 0,.x 14 10 1,.x 15 10 2,.x 16 10 3,.m 3 13,.m 4 14,.m 5 15,.m 6 16] (rsq [.m 18 3,.k 19 57 [18],.m 17 19,.x 20 17 0,.x 21 17 1,.x 22 17 2,.o 7 (.box (.k (.agg [.ab [],.ab [],.ab []]))),.s 3 7 20,.m 8 21,.m 9 22] (rsq [.d 23 3 7,.s 3 2 23] .ret)))
def MZ:List aw:=[.bj 3 2]
theorem XM:az prog 19 1 Tryz.f19 MY MZ:=.auto func19
def c12:AC:=rsq [.o 4 (.af zF)] (.seq (rif [.m 7 0,.o 8 (.aO 7),.m 9 1,.o 10 (.aO 9),.o 11 (.bin .neq 8 10)] 11 (rsq [.o 4 (.af zF)] .ret) .skip) (.seq (rsq [.o 5 (.af (zK 0))] (forL 0 1 [.m 12 5,.m 13 0,.o 14 (.aO 13),.o 15 (.bin .lss 12 14)] 15 (.seq (drg [.m 18 0,.m 19 5,.o 20 (.aI 5 18 19),.f 21 1 20,.d 22 4 21,.m 23 1,.m 24 5,.o 25 (.aI 5 23 24),.f 26 1 25,.d 27 4 26,.k 28 49 [22,27],.m 6 28] [0,1,2,3,4,5,6,7,8,9,110,211]) (.seq (drg [.m 29 0,.m 30 5,.o 31 (.aI 5 29 30),.f 32 0 31,.l 33 32,.m 34 1,.m 35 5,.o 36 (.aI 5 34 35),.f 37 0 36,.l 38 37,.o 39 (.bin .neq 33 38),.m 40 39,.z 41 (.af 6) 40,.z 42 (.un .not 41) 40,.o 43 (.pick 40 zT 42)] [0,1,2,3,4,5,6,7,8,9,10,11,12,13,14]) (.cond 43 (rsq [.o 4 (.af zF)] .ret) .skip))) [.m 16 5,.o 17 (.bin .add 16 (zK 1)),.m 5 17])) (rsq [.o 4 (.af zT)] .ret)))
def M0:List aw:=[.tmp 4]
theorem XN:az prog 12 2 Tryz.f12 c12 M0:=.auto func12
attribute [local go_sem] aa.v aa.aM aY a7 aV aL aT bL.v bL.cs ay.v ay.cs fO ef Sg.v
theorem XO(w0:World)(l:List ay)(σ:H):DC prog w0 12 [.c (.sl (l.map ay.cs)),.c (.sl (l.map ay.cs))] σ (Same (B true) σ):=by
 refine XN.go rfl (fun hok hsz=>?_);have hn:l.length<=9223372036854775807:=pq (f:=ay.cs) (hsz _ (bp ..));(refine W.a ?_;simp only[go_sem,c12,bne_self_eq_false']);refine W.no rfl (W.a ?_);simp only[go_sem];refine W.bA (fun i=>i<=l.length) (fun i=>⟨((((base.put (some 0) (.c (.sl (l.map ay.cs)))).put (some 1) (.c (.sl (l.map ay.cs)))).put (some 4) (B false)).put (some 5) (I (i:Nat))),σ⟩) (fun i=>l.length-i) 0 (bx _) ?_ (fun i hi=>?_)
 ·(refine aq.env ?_;exact aE)
 by_cases hlt:i<l.length
 ·have h1:((i:Int)<(l.length:Int)):=by omega
  have hx:l[i]?=some l[i]:=aR hlt;have hw:aW.wrap ((i:Int)+1)=((i+1:Nat):Int):=ed hlt (by omega);have hS:=fun σ=>JR w0 l[i].ty l[i].ty σ;simp only[GN]at hS;generalize l[i]=u at*
  (refine W.a ?_;simp only[go_sem,h1]);refine W.yes rfl (W.a ?_);simp only[go_sem];apply W.aQ (aS _ _)
  case hc=>
   (apply ae.al;simp only[go_sem,h1,bP,hx]);(apply ae.call (hS _);(case hg=>rfl);(case hf=>rfl);(case ha=>first|rfl|simp));(apply ae.al;simp only[go_sem]);exact ae.nil
  (refine W.a ?_;simp only[go_sem]);(apply W.aQ (aS _ _);case hc=>((apply ae.al;simp only[go_sem,h1,bP,hx,bne_self_eq_false']);exact ae.nil));(refine W.a ?_;simp only[go_sem]);refine W.no rfl (W.a ?_);simp only[go_sem,hw];refine .inv ⟨i+1,hlt,by omega,?_⟩;(refine aq.env ?_;exact aE)
 have h1:¬((i:Int)<(l.length:Int)):=by omega
 (refine W.a ?_;simp only[go_sem,h1]);refine W.no rfl (W.a ?_);simp only[go_sem];(refine W.fs (hok) (by simp only[M0,go_sem];rfl) ?_;simp only[ak];try exact V.wk.rfl _)
mutual
theorem Eu:∀(p:aa) (n:Int),0<=dv p n->dv p n=n-aC p
 | .mk _ _ _ l,n,h=>by
   rw[dv]at h⊢;rw[M1 l (n-1) h,aC];omega
theorem M1:∀(l:List aa) (n:Int),0<=fM l n->fM l n=n-bS l
 |[],n,h=>by rw[fM,bS];omega
 |p::l,n,h=>by
  rw[fM]at h⊢;by_cases h0:0<=n
  ·rw[if_pos h0]at h⊢;by_cases h1:0<=dv p n
   ·rw[M1 l _ h,Eu p n h1,bS];omega
   ·rw[GO h1]at h;exact absurd h h1
  ·rw[if_neg h0]at h;exact absurd h h0
end
def mI(g:Sg)(p:ao):Bool:=decide (60<g.types.length)||decide (60<g.kinds.length)||g.types.any (fun x=>decide (dv x.ty 15<0))||decide (fZ p 60<0)
theorem M2(w0:World)(g:Sg)(p:ao)(σ:H):DC prog w0 7 [g.v,p.v] σ (Same (B (mI g p)) σ):=by
 refine k7.go rfl (fun hok hsz=>?_);unfold mI;by_cases ht:60<g.types.length
 ·have h1:((g.types.length:Int)>60):=by omega
  rw[decide_eq_true ht,qA,qA,qA];(refine W.a ?_;simp only[go_sem,c7,h1]);refine W.yes rfl (W.a ?_);simp only[go_sem];(refine W.fs (hok) (by simp only[r7,go_sem];rfl) ?_;simp only[ak];try exact V.wk.rfl _)
 have h1:¬((g.types.length:Int)>60):=by omega
 rw[decide_eq_false ht,sH];by_cases hk:60<g.kinds.length
 ·have h2:((g.kinds.length:Int)>60):=by omega
  rw[decide_eq_true hk,qA,qA];(refine W.a ?_;simp only[go_sem,c7,h1,h2]);refine W.yes rfl (W.a ?_);simp only[go_sem];(refine W.fs (hok) (by simp only[r7,go_sem];rfl) ?_;simp only[ak];try exact V.wk.rfl _)
 have h2:¬((g.kinds.length:Int)>60):=by omega
 rw[decide_eq_false hk,sH];(refine W.a ?_;simp only[go_sem,c7,h1,h2]);refine W.no rfl (W.a ?_);simp only[go_sem];refine W.bA (fun i=>i<=g.types.length/\(g.types.drop i).any (fun x=>decide (dv x.ty 15<0))=g.types.any (fun x=>decide (dv x.ty 15<0))) (fun i=>⟨((((base.put (some 2) (.ptr σ.length 0)).put (some 3) (.ptr (σ.length+1) 0)).put (some 4) (B false)).put (some 5) (I (i:Nat))),σ++[.cells g.v.ah,.cells p.v.ah]⟩) (fun i=>g.types.length-i) 0 ⟨bx _,rfl⟩ ?_ (fun i hi=>?_)
 ·(refine aq.env ?_;exact aE)
 obtain⟨hi,hinv⟩:=hi;by_cases hlt:i<g.types.length
 ·have h3:((i:Int)<(g.types.length:Int)):=by omega
  have hx:g.types[i]?=some g.types[i]:=aR hlt;have hw:aW.wrap ((i:Int)+1)=((i+1:Nat):Int):=ed hlt (by omega);have hL:=fun σ=>Ci w0 g.types[i].ty 15 (by decide) (by decide) σ;have hst:(g.types.drop i).any (fun x=>decide (dv x.ty 15<0))=(decide (dv g.types[i].ty 15<0)||(g.types.drop (i+1)).any (fun x=>decide (dv x.ty 15<0))):=by rw[List.drop_eq_getElem_cons hlt,List.any_cons]
  generalize hu:g.types[i]=u at*;generalize hd:decide (dv u.ty 15<0)=d at hL hst;(refine W.a ?_;simp only[go_sem,h3]);refine W.yes rfl (W.a ?_);simp only[go_sem,h3,bP,hx];(refine W.c1 (hL _) ?_;simp only[go_sem]);cases d
  ·(refine W.a ?_;simp only[go_sem]);refine W.no rfl (W.a ?_);simp only[go_sem,hw];refine .inv ⟨i+1,⟨hlt,by rw[<-hinv,hst,sH]⟩,by omega,?_⟩;(refine aq.env ?_;exact aE)
  ·(refine W.a ?_;simp only[go_sem]);refine W.yes rfl (W.a ?_);simp only[go_sem];rw[<-hinv,hst,qA,qA];(refine W.fs (hok) (by simp only[r7,go_sem];rfl) ?_;simp only[ak];try exact V.wk.rfl _)
 have h3:¬((i:Int)<(g.types.length:Int)):=by omega
 have hD:=fun σ=>WE w0 p 60 (by decide) (by decide) σ;have he:g.types.any (fun x=>decide (dv x.ty 15<0))=false:=by
  rw[<-hinv,List.drop_of_length_le (by omega)];rfl
 rw[he,sH];(refine W.a ?_;simp only[go_sem,h3]);refine W.no rfl (W.a ?_);simp only[go_sem];(refine W.c1 (hD _) ?_;simp only[go_sem]);(refine W.fs (hok) (by simp only[r7,go_sem];rfl) ?_;simp only[ak];try exact V.wk.rfl _)
theorem XQ{g:Sg}{p:ao}(h:mI g p=false):g.types.length<=60/\g.kinds.length<=60/\(∀x∈g.types,aC x.ty<=15)/\bT p<=60:=by
 unfold mI at h;simp only[Bool.or_eq_false_iff,decide_eq_false_iff_not]at h;obtain⟨⟨⟨h1,h2⟩,h3⟩,h4⟩:=h;refine⟨by omega,by omega,fun x hx=>?_,?_⟩
 ·have:=List.any_eq_false.1 h3 x hx;simp only[decide_eq_true_eq]at this;have:=Eu x.ty 15 (by omega);omega
 ·have:=Ik p 60 (by omega);omega
end Go.Proofs.YtdlkenpilhakfaaGreatDoor
namespace Go.Proofs.YtdlkenpilhakfaaGreatDoor
open Go.RowKit Go.Lamb
def M3:AC:=rsq [.o 2 (.box (.k (.agg [.ab [],.ab [],.ab []]))),.o 3 (.af (zK 0)),.o 4 (.af (zK 0))] (rsq [.k 10 108 [],.o 5 (.box (.k (.agg [.ab [],.ab [],.ab []]))),.s 3 5 10] (.seq (rsq [.m 11 0,.o 12 (.aO 11),.o 13 (.af (zK 0))] (.block 0 (.loop (rsq [.o 14 (.bin .lss 13 12)] (.seq (.cond 14 .skip (.exit 0)) (.seq (.block 1 (rsq [.m 15 13,.o 16 (.aI 16 11 13),.d 17 16 16,.o 7 (.box (.k (.agg [.c (.int .i64 0),.ab [],.c (.int .i64 0),.c (.int .i64 0),.c (.str []),.c (.int .i64 0),.ab [],.c (.str []),.c (.int .i64 0),.c (.int .i64 0),.c (.int .i64 0),.c (.str []),.c (.int .i64 0),.ab [],.c (.int .i64 0),.c (.int .i64 0)]))),.m 6 15,.s 16 7 17] (rsq [.d 19 3 5,.d 20 16 7,.k 21 16 [19,20],.m 18 21,.x 22 18 0,.x 23 18 1,.o 8 (.box (.k (.agg [.ab [],.ab [],.ab []]))),.s 3 8 22,.m 9 23] (.seq (rif [.m 24 9,.o 25 (.bin .neq 24 (zK 0))] 25 (rsq [.o 26 (.build [.ab [],.ab [],.ab []] []),.m 27 9,.m 28 6,.s 3 2 26,.m 3 27,.m 4 28] .ret) .skip) (.aG [.d 29 3 8,.s 3 5 29]))))) (.aG [.o 30 (.bin .add 13 (zK 1)),.m 13 30]))))))) (rsq [.d 31 3 5,.s 3 2 31,.o 3 (.af (zK 0)),.o 4 (.af (zK 0))] .ret)))
def M4:List aw:=[.bj 3 2,.tmp 3,.tmp 4]
theorem XR:az prog 57 1 Tryz.f57 M3 M4:=.auto func57
theorem XT(w0:World)(l:List (List C))(hl0:l≠[])(hb3:∀r∈l,r.length=4)(hn:l.length<=1000000)(σ:H):DC prog w0 185 [.c (.sl l)] σ (Same (.vec σ.length l.length) (σ++[.vec 41 4 l.flatten])):=by
 refine CD.dn rfl (fun hok hsz=>?_);have hb1:l.length*56<=140737488355328:=by omega
 have hb2:l.length<=140737488355328:=by omega
 (refine W.a ?_;simp only[go_sem,yv]);refine W.ja rfl rfl rfl (fun b hb=>?_);cases b
 ·(refine W.a ?_;simp only[go_sem]);refine W.no rfl ?_;refine W.skip (W.seq (W.aG (W.jy rfl rfl (W.jy rfl rfl ?_))));refine W.pf (olds:=[]) (news:=l) rfl rfl rfl rfl ⟨hl0,(fun r hr=>by cases hr),hb3,by simpa using hb1,by simpa using hb2⟩ ?_;(refine W.a ?_;simp only[go_sem,List.nil_append]);refine W.ret ⟨_,_,rfl,.rfl _,?_⟩;exact⟨rfl,rfl⟩
 ·exact absurd (hb rfl) hl0
noncomputable def zr:dD:=
 eC 58 D6 (eC 68 D9 (eC 62 Ec (eC 103 Ed (eC 24 Ee (eC 74 Eg (eC 183 Ef
 (eC 15 Eh (eC 121 Ei (eC 67 (Ej 34)
 (eC 203 (nG 60 3) (eC 211 (nG 50 5) (eC 178 (nG 41 4)
 (eC 98 (nH 60 3) (eC 97 (nH 106 2) (eC 81 (oy (vv 50 5) (nH 50 5)) (eC 185 (oy (vv 41 4) (D7 41))
 (eC 181 (vv 34 4) Io)))))))))))))))))
theorem Ev{w0:World}(hG:dm w0):dD.Ok prog w0 zr:=
 eV (WN hG) (eV (WS w0) (eV (WV w0) (eV (WW w0) (eV (WX w0) (eV (WZ w0) (eV (WY w0)
 (eV (W1 w0) (eV (W2 w0) (eV (W4 w0)
 (eV (WG w0) (eV (WH w0) (eV (WI w0)
 (eV (WJ w0) (eV (WK w0) (eV (rD (El MD w0) (WL w0)) (eV (rD (El XT w0) (WM w0))
 (eV (El WU w0) SJ)))))))))))))))))
end Go.Proofs.YtdlkenpilhakfaaGreatDoor
namespace Go.Lamb
open Go Go.RowKit
def nJ(d:V)(σ:H):Option (V×H)->Bool
 |some (v,τ)=>gh v d&&kq τ σ
 |none=>false
theorem qj{d:V}{σ:H}{r:Option (V×H)}(h:nJ d σ r=true):r=some (d,σ):=by
 unfold nJ at h;split at h
 ·simp only[bz]at h;rw[xz h.1,pF h.2]
 ·cases h
def K.all(w:World):K:={m:=fun b o=>w.cell? ⟨b,o,none⟩,n:=0,pos:=fun _=>0,fr:=fun _=>none,sv:=fun _=>undef,sz:=fun _=>0}
theorem aB.all(w:World):aB w (K.all w) [] w:=⟨rfl,Below.refl _ _,fun _ _ _ h=>h,fun b hb=>(by simp at hb),fun a b ha=>(by simp at ha),fun l o h=>(by cases h),bx _⟩
theorem Mem.M5{w0 w:World}{κ:K}{σ:H}(h:aB w0 κ σ w):κ.m.le (K.all w).m:=h.mem
theorem DC.still{P:Program}{f:FuncId}{G:World->Prop}(hG:∀w w',G w->Below w.heap.size w w'->G w'){args args':List V}{σ:H}{r:Bool}(hd:∀w,G w->DC P w f args' [] (Same (.c (.bool r)) []))(hfit:∀w0 κ w vs,aB w0 κ σ w->Fits κ args vs->Fits (K.all w) args' vs){w0:World}(h0:G w0):DC P w0 f args σ (Same (.c (.bool r)) σ):=by
 refine⟨(hd w0 h0).enters,fun κ w vs hrep hf=>?_⟩;refine((hd w (hG w0 w h0 hrep.ext)).run (K.all w) w vs (aB.all w) (hfit w0 κ w vs hrep hf)).mono ?_;rintro e w' ⟨v,d,σ',κ',rfl,⟨rfl,rfl⟩,h3,h4,h5⟩;refine⟨v,_,σ,κ,rfl,⟨rfl,rfl⟩,K.le_refl κ,hrep.grow h4.ext,?_⟩;cases h5 with
 |c h=>cases h;exact .c (.bool _)
def zt(σ:H):V->Option (List (List C))
 | .vec b k=>match σ[b]? with
   |some (.vec _ s cs)=>cond (Nat.ble (k*s) cs.length) (some (rowsOf s k cs)) none
   |_=>none
 |v=>v.rows
theorem M6{w0 w:World}{κ:K}{σ:H}{x:V}{v:Value}{r:List (List C)}(hrep:aB w0 κ σ w)(hv:RV κ x v)(h:zt σ x=some r):RC (K.all w).m (.sl r) v:=by
 unfold zt at h;split at h
 ·rename_i b k;split at h
  ·rename_i e s cs hb;cases hc:Nat.ble (k*s) cs.length with
   |false=>rw[hc]at h;cases h
   |true=>
    rw[hc]at h;injection h with h;subst h;obtain⟨κ',h1,h2,h3⟩:=aB.jD hrep hb;exact(h3 k v (Nat.le_of_ble_eq_true hc) (hv.mono h1)).mono (Mem.M5 h2)
  ·cases h
 ·exact(hv.kX h).mono (Mem.M5 hrep)
def vB(a b:List (List C)):List (List aa×List aa)->Bool
 |[]=>false
 |p::l=>cond (ln b (p.2.map aa.cs)&&ln a (p.1.map aa.cs)) true (vB a b l)
theorem M7{a b:List (List C)}:∀{l:List (List aa×List aa)},vB a b l=true->∃p∈l,a=p.1.map aa.cs/\b=p.2.map aa.cs
 |[],h=>by cases h
 |p::l,h=>by
  unfold vB at h;cases hc:(ln b (p.2.map aa.cs)&&ln a (p.1.map aa.cs))with
  |true=>
   simp only[bz]at hc;exact⟨p,by simp,rp hc.2,rp hc.1⟩
  |false=>
   rw[hc]at h;obtain⟨q,h1,h2⟩:=M7 (l:=l) h;exact⟨q,by simp[h1],h2⟩
def Ew(rt:List (List aa×List aa)):List V->H->Option (V×H)
 |[x,y],σ=>match zt σ x with
  |none=>none
  |some a=>match zt σ y with
   |none=>none
   |some b=>cond (vB a b rt) (some (.c (.bool true),σ)) none
 |_,_=>none
theorem XU{P:Program}{f:FuncId}{G:World->Prop}(hG:∀w w',G w->Below w.heap.size w w'->G w'){rt:List (List aa×List aa)}(hd:∀p∈rt,∀w,G w->DC P w f [.c (.sl (p.1.map aa.cs)),.c (.sl (p.2.map aa.cs))] [] (Same (.c (.bool true)) [])){w0:World}(h0:G w0)(as':List V)(σ:H)(v:V)(σ':H)(h:Ew rt as' σ=some (v,σ')):DC P w0 f as' σ (Same v σ'):=by
 unfold Ew at h;split at h
 ·split at h
  ·cases h
  ·rename_i a ha;split at h
   ·cases h
   ·rename_i b hb;cases hc:vB a b rt with
    |false=>rw[hc]at h;cases h
    |true=>
     rw[hc]at h;injection h with h;injection h with h1 h2;subst h1 h2;obtain⟨p,hp,rfl,rfl⟩:=M7 hc;refine DC.still hG (hd p hp) (fun w0 κ w vs hrep hf=>?_) h0;obtain⟨u,ys,rfl,hu,hf⟩:=hf.cons_inv;obtain⟨u2,zs,rfl,hu2,hf⟩:=hf.cons_inv;have:=hf.kS;subst this;exact Fits.cons (.c (M6 hrep hu ha)) (Fits.cons (.c (M6 hrep hu2 hb)) Fits.nil)
 ·cases h
def nK(as1:List V)(σ1:H)(r:V):List V->H->Option (V×H):=fun as_ σ=>cond (mq as_ as1&&kq σ σ1) (some (r,σ)) none
theorem qk{P:Program}{w0:World}{f:FuncId}{as1:List V}{σ1:H}{r:V}(hd:DC P w0 f as1 σ1 (Same r σ1))(as':List V)(σ:H)(v:V)(σ':H)(h:nK as1 σ1 r as' σ=some (v,σ')):DC P w0 f as' σ (Same v σ'):=by
 unfold nK at h;cases hc:(mq as' as1&&kq σ σ1)with
 |false=>rw[hc]at h;cases h
 |true=>
  rw[hc]at h;simp only[bz]at hc;have e1:=rq hc.1;have e2:=pF hc.2;subst e1 e2;injection h with h;injection h with h1 h2;subst h1 h2;exact hd
end Go.Lamb
namespace Go.Proofs.YtdlkenpilhakfaaGreatDoor
open Go.RowKit Go.Lamb
noncomputable def qm(X:XP):List (List aa×List aa)->Bool
 |[]=>true
 |p::l=>Lamb.isTrue (jK X 100000 132 [.c (.sl (p.1.map aa.cs)),.c (.sl (p.2.map aa.cs))] [])&&qm X l
noncomputable def M8:CT:=(.n 144 ⟨Cs,Ct,2,8⟩ (.n 73 ⟨Cl,Cm,2,8⟩ (.n 33 ⟨uV,uW,1,8⟩ (.n 25 ⟨qb,nF,2,8⟩ (.n 17 ⟨De,Df,2,8⟩ (.n 9 ⟨c9,r9,3,8⟩ (.n 6 ⟨c6,r6,0,8⟩ .e .e) (.n 16 ⟨yt,uq,2,8⟩ .e .e)) (.n 20 ⟨c20,JE,2,8⟩ (.n 19 ⟨MY,MZ,1,8⟩ .e .e) (.n 23 ⟨mz,kA,1,8⟩ .e .e))) (.n 29 ⟨uT,uU,2,8⟩ (.n 27 ⟨sa,sb,2,8⟩ (.n 26 ⟨uR,uS,3,8⟩ .e .e) (.n 28 ⟨c28,Md,3,8⟩ .e .e)) (.n 31 ⟨c31,Dk,2,8⟩ (.n 30 ⟨Di,Dj,1,8⟩ .e .e) (.n 32 ⟨Dl,yQ,1,8⟩ .e .e)))) (.n 63 ⟨nA,B7,1,8⟩ (.n 56 ⟨JC,JD,1,8⟩ (.n 53 ⟨c53,yp,2,8⟩ (.n 52 ⟨Cv,Cw,1,8⟩ .e .e) (.n 54 ⟨Cu,yr,3,8⟩ .e .e)) (.n 59 ⟨c59,Jj,3,8⟩ (.n 57 ⟨M3,M4,1,8⟩ .e .e) (.n 60 ⟨Jo,Jp,1,8⟩ .e .e))) (.n 70 ⟨c70,oF,2,8⟩ (.n 66 ⟨yR,yS,2,8⟩ (.n 64 ⟨rE,rF,2,8⟩ .e .e) (.n 69 ⟨rK,rL,2,8⟩ .e .e)) (.n 72 ⟨c72,Ck,1,8⟩ (.n 71 ⟨uX,uY,3,8⟩ .e .e) .e)))) (.n 112 ⟨I8,I9,1,8⟩ (.n 100 ⟨Cp,Cq,2,8⟩ (.n 78 ⟨u6,se,3,8⟩ (.n 76 ⟨c76,sd,1,8⟩ (.n 75 ⟨c75,uZ,2,8⟩ .e .e) (.n 77 ⟨eN,ur,1,8⟩ .e .e)) (.n 80 ⟨c80,B8,1,8⟩ (.n 79 ⟨Dq,Dr,2,8⟩ .e .e) (.n 99 ⟨rG,rH,2,8⟩ .e .e))) (.n 107 ⟨c107,JB,1,8⟩ (.n 104 ⟨Cz,CA,1,8⟩ (.n 101 ⟨yq,rI,3,8⟩ .e .e) (.n 106 ⟨Kx,Ky,0,8⟩ .e .e)) (.n 111 ⟨Jh,Ji,3,8⟩ (.n 108 ⟨Km,Kn,0,8⟩ .e .e) .e))) (.n 126 ⟨Ca,Cb,1,8⟩ (.n 122 ⟨u7,u9,2,8⟩ (.n 118 ⟨CF,CG,2,8⟩ (.n 117 ⟨c117,pV,2,8⟩ .e .e) (.n 120 ⟨CH,CI,1,8⟩ .e .e)) (.n 124 ⟨c124,oz,2,8⟩ (.n 123 ⟨sf,sg,3,8⟩ .e .e) (.n 125 ⟨yj,yk,2,8⟩ .e .e))) (.n 131 ⟨c131,p6,1,8⟩ (.n 129 ⟨yz,uE,3,8⟩ (.n 127 ⟨c127,Cn,2,8⟩ .e .e) (.n 130 ⟨c130,oC,2,8⟩ .e .e)) (.n 133 ⟨yC,uF,2,8⟩ (.n 132 ⟨yA,yB,2,8⟩ .e .e) .e))))) (.n 206 ⟨c206,Jt,2,8⟩ (.n 173 ⟨c173,I0,2,8⟩ (.n 158 ⟨Jz,JA,1,8⟩ (.n 151 ⟨Kt,Ku,3,8⟩ (.n 146 ⟨c146,Co,2,8⟩ (.n 145 ⟨c145,yo,2,8⟩ .e .e) (.n 150 ⟨Kv,Kw,1,8⟩ .e .e)) (.n 153 ⟨Jm,Jn,0,8⟩ (.n 152 ⟨c152,JF,2,8⟩ .e .e) (.n 155 ⟨Jw,Jy,1,8⟩ .e .e))) (.n 170 ⟨Jf,Jg,2,8⟩ (.n 160 ⟨c160,Mz,1,8⟩ (.n 159 ⟨c159,Kj,1,8⟩ .e .e) (.n 161 ⟨Kk,Kl,2,8⟩ .e .e)) (.n 172 ⟨I2,I3,2,8⟩ (.n 171 ⟨c171,I1,2,8⟩ .e .e) .e))) (.n 188 ⟨rQ,rR,2,8⟩ (.n 182 ⟨c182,oD,2,8⟩ (.n 176 ⟨Ja,Jb,4,8⟩ (.n 174 ⟨Jc,Jd,4,8⟩ .e .e) (.n 180 ⟨yD,K5,1,8⟩ .e .e)) (.n 186 ⟨DI,DJ,2,8⟩ (.n 184 ⟨CW,p7,2,8⟩ .e .e) (.n 187 ⟨CN,CO,3,8⟩ .e .e))) (.n 201 ⟨c201,IV,2,8⟩ (.n 190 ⟨CX,CY,1,8⟩ (.n 189 ⟨rS,rT,3,8⟩ .e .e) (.n 191 ⟨yF,yG,2,8⟩ .e .e)) (.n 205 ⟨Ju,Jv,1,8⟩ (.n 204 ⟨ID,IE,2,8⟩ .e .e) .e)))) (.n 237 ⟨C1,C2,3,8⟩ (.n 225 ⟨IY,IZ,3,8⟩ (.n 221 ⟨I6,I7,1,8⟩ (.n 209 ⟨IN,IP,2,8⟩ (.n 207 ⟨Jq,Jr,3,8⟩ .e .e) (.n 210 ⟨c210,Js,3,8⟩ .e .e)) (.n 223 ⟨I4,I5,1,8⟩ (.n 222 ⟨c222,Je,2,8⟩ .e .e) (.n 224 ⟨IW,IX,2,8⟩ .e .e))) (.n 233 ⟨c233,uB,4,8⟩ (.n 230 ⟨yH,yI,1,8⟩ (.n 227 ⟨c227,ia,3,8⟩ .e .e) (.n 232 ⟨c232,DH,2,8⟩ .e .e)) (.n 236 ⟨c236,yJ,2,8⟩ (.n 235 ⟨uA,nD,3,8⟩ .e .e) .e))) (.n 268 ⟨Iz,IA,1,8⟩ (.n 247 ⟨IL,IM,2,8⟩ (.n 245 ⟨IT,IU,2,8⟩ (.n 238 ⟨p8,p9,2,8⟩ .e .e) (.n 246 ⟨IQ,IS,2,8⟩ .e .e)) (.n 259 ⟨yK,yL,3,8⟩ (.n 248 ⟨JG,JH,2,8⟩ .e .e) (.n 261 ⟨sr,ss,2,8⟩ .e .e))) (.n 272 ⟨JI,JJ,2,8⟩ (.n 270 ⟨IB,IC,1,8⟩ (.n 269 ⟨IJ,IK,2,8⟩ .e .e) (.n 271 ⟨IG,II,3,8⟩ .e .e)) (.n 288 ⟨C5,C6,4,8⟩ (.n 279 ⟨rU,rV,4,8⟩ .e .e) .e))))))
theorem Ex:CT.Ok prog M8:=⟨⟨_,Kd⟩,⟨⟨_,JW⟩,⟨⟨_,Dm⟩,⟨⟨_,uQ⟩,⟨⟨_,LC⟩,⟨⟨_,k9⟩,⟨⟨_,k6⟩,trivial,trivial⟩,⟨⟨_,Ki⟩,trivial,trivial⟩⟩,⟨⟨_,Tq⟩,⟨⟨_,XM⟩,trivial,trivial⟩,⟨⟨_,LD⟩,trivial,trivial⟩⟩⟩,⟨⟨_,Dh⟩,⟨⟨_,Dg⟩,⟨⟨_,yP⟩,trivial,trivial⟩,⟨⟨_,Me⟩,trivial,trivial⟩⟩,⟨⟨_,LG⟩,⟨⟨_,LF⟩,trivial,trivial⟩,⟨⟨_,LH⟩,trivial,trivial⟩⟩⟩⟩,⟨⟨_,Ip⟩,⟨⟨_,Tp⟩,⟨⟨_,Ke⟩,⟨⟨_,Kh⟩,trivial,trivial⟩,⟨⟨_,Kg⟩,trivial,trivial⟩⟩,⟨⟨_,Tf⟩,⟨⟨_,XR⟩,trivial,trivial⟩,⟨⟨_,Th⟩,trivial,trivial⟩⟩⟩,⟨⟨_,sc⟩,⟨⟨_,LI⟩,⟨⟨_,yd⟩,trivial,trivial⟩,⟨⟨_,KL⟩,trivial,trivial⟩⟩,⟨⟨_,JU⟩,⟨⟨_,yT⟩,trivial,trivial⟩,trivial⟩⟩⟩⟩,⟨⟨_,S9⟩,⟨⟨_,J7⟩,⟨⟨_,Dp⟩,⟨⟨_,LJ⟩,⟨⟨_,Dn⟩,trivial,trivial⟩,⟨⟨_,KO⟩,trivial,trivial⟩⟩,⟨⟨_,Iq⟩,⟨⟨_,LK⟩,trivial,trivial⟩,⟨⟨_,Kc⟩,trivial,trivial⟩⟩⟩,⟨⟨_,To⟩,⟨⟨_,Kp⟩,⟨⟨_,Kf⟩,trivial,trivial⟩,⟨⟨_,TW⟩,trivial,trivial⟩⟩,⟨⟨_,Te⟩,⟨⟨_,TO⟩,trivial,trivial⟩,trivial⟩⟩⟩,⟨⟨_,IF⟩,⟨⟨_,Ds⟩,⟨⟨_,KM⟩,⟨⟨_,ye⟩,trivial,trivial⟩,⟨⟨_,KN⟩,trivial,trivial⟩⟩,⟨⟨_,B9⟩,⟨⟨_,yU⟩,trivial,trivial⟩,⟨⟨_,JV⟩,trivial,trivial⟩⟩⟩,⟨⟨_,K4⟩,⟨⟨_,CQ⟩,⟨⟨_,JX⟩,trivial,trivial⟩,⟨⟨_,K3⟩,trivial,trivial⟩⟩,⟨⟨_,CS⟩,⟨⟨_,CR⟩,trivial,trivial⟩,trivial⟩⟩⟩⟩⟩,⟨⟨_,Tk⟩,⟨⟨_,S4⟩,⟨⟨_,Tn⟩,⟨⟨_,TU⟩,⟨⟨_,J6⟩,⟨⟨_,J5⟩,trivial,trivial⟩,⟨⟨_,TV⟩,trivial,trivial⟩⟩,⟨⟨_,Tg⟩,⟨⟨_,Tr⟩,trivial,trivial⟩,⟨⟨_,Tm⟩,trivial,trivial⟩⟩⟩,⟨⟨_,Td⟩,⟨⟨_,Wz⟩,⟨⟨_,TM⟩,trivial,trivial⟩,⟨⟨_,TN⟩,trivial,trivial⟩⟩,⟨⟨_,S6⟩,⟨⟨_,S5⟩,trivial,trivial⟩,trivial⟩⟩⟩,⟨⟨_,uG⟩,⟨⟨_,CV⟩,⟨⟨_,Ta⟩,⟨⟨_,Tb⟩,trivial,trivial⟩,⟨⟨_,CU⟩,trivial,trivial⟩⟩,⟨⟨_,Mc⟩,⟨⟨_,K6⟩,trivial,trivial⟩,⟨⟨_,KX⟩,trivial,trivial⟩⟩⟩,⟨⟨_,SZ⟩,⟨⟨_,K7⟩,⟨⟨_,yE⟩,trivial,trivial⟩,⟨⟨_,CZ⟩,trivial,trivial⟩⟩,⟨⟨_,Tl⟩,⟨⟨_,SR⟩,trivial,trivial⟩,trivial⟩⟩⟩⟩,⟨⟨_,K9⟩,⟨⟨_,S3⟩,⟨⟨_,S8⟩,⟨⟨_,SW⟩,⟨⟨_,Ti⟩,trivial,trivial⟩,⟨⟨_,Tj⟩,trivial,trivial⟩⟩,⟨⟨_,S7⟩,⟨⟨_,Tc⟩,trivial,trivial⟩,⟨⟨_,S2⟩,trivial,trivial⟩⟩⟩,⟨⟨_,KY⟩,⟨⟨_,K8⟩,⟨⟨_,lp⟩,trivial,trivial⟩,⟨⟨_,Mb⟩,trivial,trivial⟩⟩,⟨⟨_,C0⟩,⟨⟨_,KW⟩,trivial,trivial⟩,trivial⟩⟩⟩,⟨⟨_,SP⟩,⟨⟨_,SV⟩,⟨⟨_,SY⟩,⟨⟨_,C3⟩,trivial,trivial⟩,⟨⟨_,SX⟩,trivial,trivial⟩⟩,⟨⟨_,C4⟩,⟨⟨_,Ts⟩,trivial,trivial⟩,⟨⟨_,Ma⟩,trivial,trivial⟩⟩⟩,⟨⟨_,Tt⟩,⟨⟨_,SQ⟩,⟨⟨_,SU⟩,trivial,trivial⟩,⟨⟨_,SS⟩,trivial,trivial⟩⟩,⟨⟨_,La⟩,⟨⟨_,uH⟩,trivial,trivial⟩,trivial⟩⟩⟩⟩⟩⟩
end Go.Proofs.YtdlkenpilhakfaaGreatDoor
namespace Go.Lamb
open Go Go.RowKit
def gp:V:=.c (.sl [[.str [111],.int .i64 (0)],[.str [105,110,116],.int .i64 (0)]])
def gq:V:=.c (.sl [[.str [58,45],.int .i64 (2),.str [],.int .i64 (0),.sl [[.int .i64 (0),.str [111],.int .i64 (0),.sl []],[.int .i64 (2),.str [],.int .i64 (0),.sl [[.int .i64 (0),.str [111],.int .i64 (0),.sl []],[.int .i64 (0),.str [111],.int .i64 (0),.sl []]]]]],[.str [44],.int .i64 (2),.str [],.int .i64 (0),.sl [[.int .i64 (0),.str [111],.int .i64 (0),.sl []],[.int .i64 (2),.str [],.int .i64 (0),.sl [[.int .i64 (0),.str [111],.int .i64 (0),.sl []],[.int .i64 (0),.str [111],.int .i64 (0),.sl []]]]]],[.str [59],.int .i64 (2),.str [],.int .i64 (0),.sl [[.int .i64 (0),.str [111],.int .i64 (0),.sl []],[.int .i64 (2),.str [],.int .i64 (0),.sl [[.int .i64 (0),.str [111],.int .i64 (0),.sl []],[.int .i64 (0),.str [111],.int .i64 (0),.sl []]]]]],[.str [61,62],.int .i64 (2),.str [],.int .i64 (0),.sl [[.int .i64 (0),.str [111],.int .i64 (0),.sl []],[.int .i64 (2),.str [],.int .i64 (0),.sl [[.int .i64 (0),.str [111],.int .i64 (0),.sl []],[.int .i64 (0),.str [111],.int .i64 (0),.sl []]]]]],[.str [61],.int .i64 (2),.str [],.int .i64 (0),.sl [[.int .i64 (1),.str [],.int .i64 (0),.sl []],[.int .i64 (2),.str [],.int .i64 (0),.sl [[.int .i64 (1),.str [],.int .i64 (0),.sl []],[.int .i64 (0),.str [111],.int .i64 (0),.sl []]]]]],[.str [105,115],.int .i64 (2),.str [],.int .i64 (0),.sl [[.int .i64 (0),.str [105,110,116],.int .i64 (0),.sl []],[.int .i64 (2),.str [],.int .i64 (0),.sl [[.int .i64 (0),.str [105,110,116],.int .i64 (0),.sl []],[.int .i64 (0),.str [111],.int .i64 (0),.sl []]]]]],[.str [60],.int .i64 (2),.str [],.int .i64 (0),.sl [[.int .i64 (0),.str [105,110,116],.int .i64 (0),.sl []],[.int .i64 (2),.str [],.int .i64 (0),.sl [[.int .i64 (0),.str [105,110,116],.int .i64 (0),.sl []],[.int .i64 (0),.str [111],.int .i64 (0),.sl []]]]]],[.str [61,60],.int .i64 (2),.str [],.int .i64 (0),.sl [[.int .i64 (0),.str [105,110,116],.int .i64 (0),.sl []],[.int .i64 (2),.str [],.int .i64 (0),.sl [[.int .i64 (0),.str [105,110,116],.int .i64 (0),.sl []],[.int .i64 (0),.str [111],.int .i64 (0),.sl []]]]]],[.str [62],.int .i64 (2),.str [],.int .i64 (0),.sl [[.int .i64 (0),.str [105,110,116],.int .i64 (0),.sl []],[.int .i64 (2),.str [],.int .i64 (0),.sl [[.int .i64 (0),.str [105,110,116],.int .i64 (0),.sl []],[.int .i64 (0),.str [111],.int .i64 (0),.sl []]]]]],[.str [62,61],.int .i64 (2),.str [],.int .i64 (0),.sl [[.int .i64 (0),.str [105,110,116],.int .i64 (0),.sl []],[.int .i64 (2),.str [],.int .i64 (0),.sl [[.int .i64 (0),.str [105,110,116],.int .i64 (0),.sl []],[.int .i64 (0),.str [111],.int .i64 (0),.sl []]]]]],[.str [43],.int .i64 (2),.str [],.int .i64 (0),.sl [[.int .i64 (0),.str [105,110,116],.int .i64 (0),.sl []],[.int .i64 (2),.str [],.int .i64 (0),.sl [[.int .i64 (0),.str [105,110,116],.int .i64 (0),.sl []],[.int .i64 (0),.str [105,110,116],.int .i64 (0),.sl []]]]]],[.str [45],.int .i64 (2),.str [],.int .i64 (0),.sl [[.int .i64 (0),.str [105,110,116],.int .i64 (0),.sl []],[.int .i64 (2),.str [],.int .i64 (0),.sl [[.int .i64 (0),.str [105,110,116],.int .i64 (0),.sl []],[.int .i64 (0),.str [105,110,116],.int .i64 (0),.sl []]]]]],[.str [42],.int .i64 (2),.str [],.int .i64 (0),.sl [[.int .i64 (0),.str [105,110,116],.int .i64 (0),.sl []],[.int .i64 (2),.str [],.int .i64 (0),.sl [[.int .i64 (0),.str [105,110,116],.int .i64 (0),.sl []],[.int .i64 (0),.str [105,110,116],.int .i64 (0),.sl []]]]]],[.str [100,105,118],.int .i64 (2),.str [],.int .i64 (0),.sl [[.int .i64 (0),.str [105,110,116],.int .i64 (0),.sl []],[.int .i64 (2),.str [],.int .i64 (0),.sl [[.int .i64 (0),.str [105,110,116],.int .i64 (0),.sl []],[.int .i64 (0),.str [105,110,116],.int .i64 (0),.sl []]]]]],[.str [109,111,100],.int .i64 (2),.str [],.int .i64 (0),.sl [[.int .i64 (0),.str [105,110,116],.int .i64 (0),.sl []],[.int .i64 (2),.str [],.int .i64 (0),.sl [[.int .i64 (0),.str [105,110,116],.int .i64 (0),.sl []],[.int .i64 (0),.str [105,110,116],.int .i64 (0),.sl []]]]]],[.str [126],.int .i64 (2),.str [],.int .i64 (0),.sl [[.int .i64 (0),.str [105,110,116],.int .i64 (0),.sl []],[.int .i64 (0),.str [105,110,116],.int .i64 (0),.sl []]]],[.str [116,114,117,101],.int .i64 (0),.str [111],.int .i64 (0),.sl []],[.str [102,97,105,108],.int .i64 (0),.str [111],.int .i64 (0),.sl []],[.str [33],.int .i64 (0),.str [111],.int .i64 (0),.sl []],[.str [112,105],.int .i64 (2),.str [],.int .i64 (0),.sl [[.int .i64 (2),.str [],.int .i64 (0),.sl [[.int .i64 (1),.str [],.int .i64 (0),.sl []],[.int .i64 (0),.str [111],.int .i64 (0),.sl []]]],[.int .i64 (0),.str [111],.int .i64 (0),.sl []]]],[.str [115,105,103,109,97],.int .i64 (2),.str [],.int .i64 (0),.sl [[.int .i64 (2),.str [],.int .i64 (0),.sl [[.int .i64 (1),.str [],.int .i64 (0),.sl []],[.int .i64 (0),.str [111],.int .i64 (0),.sl []]]],[.int .i64 (0),.str [111],.int .i64 (0),.sl []]]],[.str [102],.int .i64 (2),.str [],.int .i64 (0),.sl [[.int .i64 (0),.str [105,110,116],.int .i64 (0),.sl []],[.int .i64 (0),.str [111],.int .i64 (0),.sl []]]]])
def dQ:V:=.c (.sl [[.str [58,45],.int .i64 (10),.int .i64 (0)],[.str [59],.int .i64 (20),.int .i64 (2)],[.str [44],.int .i64 (30),.int .i64 (2)],[.str [61,62],.int .i64 (40),.int .i64 (2)],[.str [61],.int .i64 (60),.int .i64 (0)],[.str [105,115],.int .i64 (60),.int .i64 (0)],[.str [60],.int .i64 (60),.int .i64 (0)],[.str [61,60],.int .i64 (60),.int .i64 (0)],[.str [62],.int .i64 (60),.int .i64 (0)],[.str [62,61],.int .i64 (60),.int .i64 (0)],[.str [43],.int .i64 (80),.int .i64 (1)],[.str [45],.int .i64 (80),.int .i64 (1)],[.str [42],.int .i64 (90),.int .i64 (1)],[.str [100,105,118],.int .i64 (90),.int .i64 (1)],[.str [109,111,100],.int .i64 (90),.int .i64 (1)]])
def Ey:List UInt8:=[116,121,112,101,32,102,32,105,110,116,32,45,62,32,111,46]
def Ez:List UInt8:=[112,105,32,120,92,32,102,32,120]
def EA:List UInt8:=[102,32,102]
def EB:List UInt8:=[88,32,61,32,89,32,44,32,102,32,88]
def sB:V:=.agg [.c (.int .i64 (3)),.c (.str []),.c (.int .i64 (0)),.ab [[.int .i64 (0),.str [112,105],.int .i64 (0),.sl [],.int .i64 (0)],[.int .i64 (4),.str [120],.int .i64 (0),.sl [[.int .i64 (3),.str [],.int .i64 (0),.sl [[.int .i64 (0),.str [102],.int .i64 (0),.sl [],.int .i64 (6)],[.int .i64 (0),.str [120],.int .i64 (0),.sl [],.int .i64 (8)]],.int .i64 (6)]],.int .i64 (3)]],.c (.int .i64 (0))]
def sC:V:=.agg [.c (.int .i64 (3)),.c (.str []),.c (.int .i64 (0)),.ab [[.int .i64 (0),.str [102],.int .i64 (0),.sl [],.int .i64 (0)],[.int .i64 (0),.str [102],.int .i64 (0),.sl [],.int .i64 (2)]],.c (.int .i64 (0))]
def sD:V:=.agg [.c (.int .i64 (3)),.c (.str []),.c (.int .i64 (0)),.ab [[.int .i64 (3),.str [],.int .i64 (0),.sl [[.int .i64 (0),.str [44],.int .i64 (0),.sl [],.int .i64 (6)],[.int .i64 (3),.str [],.int .i64 (0),.sl [[.int .i64 (3),.str [],.int .i64 (0),.sl [[.int .i64 (0),.str [61],.int .i64 (0),.sl [],.int .i64 (2)],[.int .i64 (1),.str [88],.int .i64 (0),.sl [],.int .i64 (0)]],.int .i64 (2)],[.int .i64 (1),.str [89],.int .i64 (0),.sl [],.int .i64 (4)]],.int .i64 (2)]],.int .i64 (6)],[.int .i64 (3),.str [],.int .i64 (0),.sl [[.int .i64 (0),.str [102],.int .i64 (0),.sl [],.int .i64 (8)],[.int .i64 (1),.str [88],.int .i64 (0),.sl [],.int .i64 (10)]],.int .i64 (8)]],.c (.int .i64 (6))]
def EC:V:=.av [.agg [.c (.int .i64 (6)),.c (.str []),.c (.int .i64 (0)),.c (.sl [[.int .i64 (0),.str [112,105],.int .i64 (0),.sl []],[.int .i64 (0),.str [102],.int .i64 (0),.sl []]])],.c (.sl []),.c (.int .i64 (0)),.c (.int .i64 (0))]
def ED:V:=.av [.agg [.c (.int .i64 (0)),.c (.str []),.c (.int .i64 (0)),.ab []],.ab [],.c (.int .i64 (121)),.c (.int .i64 (0))]
def EE:V:=.av [.agg [.c (.int .i64 (6)),.c (.str []),.c (.int .i64 (0)),.c (.sl [[.int .i64 (0),.str [44],.int .i64 (0),.sl []],[.int .i64 (6),.str [],.int .i64 (0),.sl [[.int .i64 (0),.str [61],.int .i64 (0),.sl []],[.int .i64 (4),.str [],.int .i64 (0),.sl []],[.int .i64 (4),.str [],.int .i64 (1),.sl []]]],[.int .i64 (6),.str [],.int .i64 (0),.sl [[.int .i64 (0),.str [102],.int .i64 (0),.sl []],[.int .i64 (4),.str [],.int .i64 (0),.sl []]]]])],.c (.sl [[.str [88],.int .i64 (0),.str [105,110,116],.int .i64 (0),.sl []],[.str [89],.int .i64 (0),.str [105,110,116],.int .i64 (0),.sl []]]),.c (.int .i64 (0)),.c (.int .i64 (0))]
def vC:H:=[.cells [gp,gq,dQ] none]
def vD:H:=[.cells [gp,gq,dQ] none,.cells [.c (.int .i64 (3)),.c (.str []),.c (.int .i64 (0)),.ab [[.int .i64 (0),.str [112,105],.int .i64 (0),.sl [],.int .i64 (0)],[.int .i64 (4),.str [120],.int .i64 (0),.sl [[.int .i64 (3),.str [],.int .i64 (0),.sl [[.int .i64 (0),.str [102],.int .i64 (0),.sl [],.int .i64 (6)],[.int .i64 (0),.str [120],.int .i64 (0),.sl [],.int .i64 (8)]],.int .i64 (6)]],.int .i64 (3)]],.c (.int .i64 (0))] none,.cells [.c (.int .i64 (6)),.c (.str []),.c (.int .i64 (0)),.c (.sl [[.int .i64 (0),.str [112,105],.int .i64 (0),.sl []],[.int .i64 (0),.str [102],.int .i64 (0),.sl []]])] none]
def vE:H:=[.cells [gp,gq,dQ] none,.cells [.c (.int .i64 (3)),.c (.str []),.c (.int .i64 (0)),.ab [[.int .i64 (0),.str [112,105],.int .i64 (0),.sl [],.int .i64 (0)],[.int .i64 (4),.str [120],.int .i64 (0),.sl [[.int .i64 (3),.str [],.int .i64 (0),.sl [[.int .i64 (0),.str [102],.int .i64 (0),.sl [],.int .i64 (6)],[.int .i64 (0),.str [120],.int .i64 (0),.sl [],.int .i64 (8)]],.int .i64 (6)]],.int .i64 (3)]],.c (.int .i64 (0))] none,.cells [.c (.int .i64 (6)),.c (.str []),.c (.int .i64 (0)),.c (.sl [[.int .i64 (0),.str [112,105],.int .i64 (0),.sl []],[.int .i64 (0),.str [102],.int .i64 (0),.sl []]])] none,.cells [.c (.int .i64 (3)),.c (.str []),.c (.int .i64 (0)),.ab [[.int .i64 (0),.str [102],.int .i64 (0),.sl [],.int .i64 (0)],[.int .i64 (0),.str [102],.int .i64 (0),.sl [],.int .i64 (2)]],.c (.int .i64 (0))] none,.cells [.c (.int .i64 (0)),.c (.str []),.c (.int .i64 (0)),.ab []] none]
def vF:H:=[.cells [gp,gq,dQ] none,.cells [.c (.int .i64 (3)),.c (.str []),.c (.int .i64 (0)),.ab [[.int .i64 (0),.str [112,105],.int .i64 (0),.sl [],.int .i64 (0)],[.int .i64 (4),.str [120],.int .i64 (0),.sl [[.int .i64 (3),.str [],.int .i64 (0),.sl [[.int .i64 (0),.str [102],.int .i64 (0),.sl [],.int .i64 (6)],[.int .i64 (0),.str [120],.int .i64 (0),.sl [],.int .i64 (8)]],.int .i64 (6)]],.int .i64 (3)]],.c (.int .i64 (0))] none]
def vG:H:=[.cells [gp,gq,dQ] none,.cells [.c (.int .i64 (3)),.c (.str []),.c (.int .i64 (0)),.ab [[.int .i64 (0),.str [112,105],.int .i64 (0),.sl [],.int .i64 (0)],[.int .i64 (4),.str [120],.int .i64 (0),.sl [[.int .i64 (3),.str [],.int .i64 (0),.sl [[.int .i64 (0),.str [102],.int .i64 (0),.sl [],.int .i64 (6)],[.int .i64 (0),.str [120],.int .i64 (0),.sl [],.int .i64 (8)]],.int .i64 (6)]],.int .i64 (3)]],.c (.int .i64 (0))] none,.cells [.c (.int .i64 (6)),.c (.str []),.c (.int .i64 (0)),.c (.sl [[.int .i64 (0),.str [112,105],.int .i64 (0),.sl []],[.int .i64 (0),.str [102],.int .i64 (0),.sl []]])] none,.cells [.c (.int .i64 (3)),.c (.str []),.c (.int .i64 (0)),.ab [[.int .i64 (0),.str [102],.int .i64 (0),.sl [],.int .i64 (0)],[.int .i64 (0),.str [102],.int .i64 (0),.sl [],.int .i64 (2)]],.c (.int .i64 (0))] none]
def vH:H:=[.cells [gp,gq,dQ] none,.cells [.c (.int .i64 (3)),.c (.str []),.c (.int .i64 (0)),.ab [[.int .i64 (0),.str [112,105],.int .i64 (0),.sl [],.int .i64 (0)],[.int .i64 (4),.str [120],.int .i64 (0),.sl [[.int .i64 (3),.str [],.int .i64 (0),.sl [[.int .i64 (0),.str [102],.int .i64 (0),.sl [],.int .i64 (6)],[.int .i64 (0),.str [120],.int .i64 (0),.sl [],.int .i64 (8)]],.int .i64 (6)]],.int .i64 (3)]],.c (.int .i64 (0))] none,.cells [.c (.int .i64 (6)),.c (.str []),.c (.int .i64 (0)),.c (.sl [[.int .i64 (0),.str [112,105],.int .i64 (0),.sl []],[.int .i64 (0),.str [102],.int .i64 (0),.sl []]])] none,.cells [.c (.int .i64 (3)),.c (.str []),.c (.int .i64 (0)),.ab [[.int .i64 (0),.str [102],.int .i64 (0),.sl [],.int .i64 (0)],[.int .i64 (0),.str [102],.int .i64 (0),.sl [],.int .i64 (2)]],.c (.int .i64 (0))] none,.cells [.c (.int .i64 (0)),.c (.str []),.c (.int .i64 (0)),.ab []] none,.cells [.c (.int .i64 (3)),.c (.str []),.c (.int .i64 (0)),.ab [[.int .i64 (3),.str [],.int .i64 (0),.sl [[.int .i64 (0),.str [44],.int .i64 (0),.sl [],.int .i64 (6)],[.int .i64 (3),.str [],.int .i64 (0),.sl [[.int .i64 (3),.str [],.int .i64 (0),.sl [[.int .i64 (0),.str [61],.int .i64 (0),.sl [],.int .i64 (2)],[.int .i64 (1),.str [88],.int .i64 (0),.sl [],.int .i64 (0)]],.int .i64 (2)],[.int .i64 (1),.str [89],.int .i64 (0),.sl [],.int .i64 (4)]],.int .i64 (2)]],.int .i64 (6)],[.int .i64 (3),.str [],.int .i64 (0),.sl [[.int .i64 (0),.str [102],.int .i64 (0),.sl [],.int .i64 (8)],[.int .i64 (1),.str [88],.int .i64 (0),.sl [],.int .i64 (10)]],.int .i64 (8)]],.c (.int .i64 (6))] none]
def M9:List (List aa×List aa):=[([.mk 1 [] 0 [],.mk 1 [] 1 [],.mk 1 [] 2 []],[.mk 2 [] 0 [.mk 0 [105,110,116] 0 [],.mk 0 [111] 0 []]]),
 ([.mk 1 [] 0 [],.mk 1 [] 1 [],.mk 1 [] 2 []],[.mk 2 [] 0 [.mk 1 [] 1 [],.mk 1 [] 2 []]]),
 ([.mk 1 [] 0 [],.mk 0 [105,110,116] 0 [],.mk 0 [111] 0 [],.mk 1 [] 3 []],[.mk 2 [] 0 [.mk 2 [] 0 [.mk 1 [] 0 [],.mk 0 [111] 0 []],.mk 0 [111] 0 []]]),
 ([.mk 1 [] 0 [],.mk 0 [105,110,116] 0 [],.mk 0 [111] 0 [],.mk 1 [] 3 []],[.mk 2 [] 0 [.mk 2 [] 0 [.mk 1 [] 1 [],.mk 1 [] 2 []],.mk 1 [] 3 []]]),
 ([.mk 0 [105,110,116] 0 [],.mk 0 [105,110,116] 0 [],.mk 0 [111] 0 [],.mk 0 [111] 0 []],[.mk 1 [] 3 []]),
 ([.mk 0 [105,110,116] 0 [],.mk 0 [105,110,116] 0 [],.mk 0 [111] 0 [],.mk 0 [111] 0 []],[.mk 0 [111] 0 []])]
def Na:List (List aa×List aa):=[([.mk 1 [] 0 []],[.mk 2 [] 0 [.mk 0 [105,110,116] 0 [],.mk 0 [111] 0 []]]),
 ([.mk 1 [] 0 []],[.mk 2 [] 0 [.mk 2 [] 0 [.mk 0 [105,110,116] 0 [],.mk 0 [111] 0 []],.mk 1 [] 0 []]])]
def Nb:List (List aa×List aa):=[([.mk 1 [] 0 [],.mk 1 [] 1 [],.mk 1 [] 2 []],[.mk 2 [] 0 [.mk 1 [] 0 [],.mk 2 [] 0 [.mk 1 [] 0 [],.mk 0 [111] 0 []]]]),
 ([.mk 1 [] 0 [],.mk 1 [] 1 [],.mk 1 [] 2 []],[.mk 2 [] 0 [.mk 1 [] 1 [],.mk 1 [] 2 []]]),
 ([.mk 1 [] 0 [],.mk 1 [] 0 [],.mk 2 [] 0 [.mk 1 [] 0 [],.mk 0 [111] 0 []],.mk 1 [] 3 [],.mk 1 [] 4 []],[.mk 1 [] 2 []]),
 ([.mk 1 [] 0 [],.mk 1 [] 0 [],.mk 2 [] 0 [.mk 1 [] 0 [],.mk 0 [111] 0 []],.mk 1 [] 3 [],.mk 1 [] 4 []],[.mk 2 [] 0 [.mk 1 [] 3 [],.mk 1 [] 4 []]]),
 ([.mk 1 [] 0 [],.mk 1 [] 0 [],.mk 2 [] 0 [.mk 1 [] 0 [],.mk 0 [111] 0 []],.mk 1 [] 0 [],.mk 0 [111] 0 [],.mk 1 [] 5 []],[.mk 2 [] 0 [.mk 0 [111] 0 [],.mk 2 [] 0 [.mk 0 [111] 0 [],.mk 0 [111] 0 []]]]),
 ([.mk 1 [] 0 [],.mk 1 [] 0 [],.mk 2 [] 0 [.mk 1 [] 0 [],.mk 0 [111] 0 []],.mk 1 [] 0 [],.mk 0 [111] 0 [],.mk 1 [] 5 []],[.mk 2 [] 0 [.mk 1 [] 4 [],.mk 1 [] 5 []]]),
 ([.mk 1 [] 0 [],.mk 1 [] 0 [],.mk 2 [] 0 [.mk 1 [] 0 [],.mk 0 [111] 0 []],.mk 1 [] 0 [],.mk 0 [111] 0 [],.mk 2 [] 0 [.mk 0 [111] 0 [],.mk 0 [111] 0 []],.mk 1 [] 6 []],[.mk 2 [] 0 [.mk 0 [105,110,116] 0 [],.mk 0 [111] 0 []]]),
 ([.mk 1 [] 0 [],.mk 1 [] 0 [],.mk 2 [] 0 [.mk 1 [] 0 [],.mk 0 [111] 0 []],.mk 1 [] 0 [],.mk 0 [111] 0 [],.mk 2 [] 0 [.mk 0 [111] 0 [],.mk 0 [111] 0 []],.mk 1 [] 6 []],[.mk 2 [] 0 [.mk 1 [] 1 [],.mk 1 [] 6 []]]),
 ([.mk 0 [105,110,116] 0 [],.mk 1 [] 0 [],.mk 2 [] 0 [.mk 1 [] 0 [],.mk 0 [111] 0 []],.mk 1 [] 0 [],.mk 0 [111] 0 [],.mk 2 [] 0 [.mk 0 [111] 0 [],.mk 0 [111] 0 []],.mk 0 [111] 0 [],.mk 1 [] 7 []],[.mk 1 [] 5 []]),
 ([.mk 0 [105,110,116] 0 [],.mk 1 [] 0 [],.mk 2 [] 0 [.mk 1 [] 0 [],.mk 0 [111] 0 []],.mk 1 [] 0 [],.mk 0 [111] 0 [],.mk 2 [] 0 [.mk 0 [111] 0 [],.mk 0 [111] 0 []],.mk 0 [111] 0 [],.mk 1 [] 7 []],[.mk 2 [] 0 [.mk 1 [] 6 [],.mk 1 [] 7 []]]),
 ([.mk 0 [105,110,116] 0 [],.mk 1 [] 0 [],.mk 2 [] 0 [.mk 1 [] 0 [],.mk 0 [111] 0 []],.mk 1 [] 0 [],.mk 0 [111] 0 [],.mk 2 [] 0 [.mk 0 [111] 0 [],.mk 0 [111] 0 []],.mk 0 [111] 0 [],.mk 0 [111] 0 []],[.mk 1 [] 7 []]),
 ([.mk 0 [105,110,116] 0 [],.mk 1 [] 0 [],.mk 2 [] 0 [.mk 1 [] 0 [],.mk 0 [111] 0 []],.mk 1 [] 0 [],.mk 0 [111] 0 [],.mk 2 [] 0 [.mk 0 [111] 0 [],.mk 0 [111] 0 []],.mk 0 [111] 0 [],.mk 0 [111] 0 []],[.mk 0 [111] 0 []]),
 ([.mk 0 [105,110,116] 0 [],.mk 1 [] 0 [],.mk 2 [] 0 [.mk 1 [] 0 [],.mk 0 [111] 0 []],.mk 1 [] 0 [],.mk 0 [111] 0 [],.mk 2 [] 0 [.mk 0 [111] 0 [],.mk 0 [111] 0 []],.mk 0 [111] 0 [],.mk 0 [111] 0 []],[.mk 1 [] 1 []]),
 ([.mk 0 [105,110,116] 0 [],.mk 1 [] 0 [],.mk 2 [] 0 [.mk 1 [] 0 [],.mk 0 [111] 0 []],.mk 1 [] 0 [],.mk 0 [111] 0 [],.mk 2 [] 0 [.mk 0 [111] 0 [],.mk 0 [111] 0 []],.mk 0 [111] 0 [],.mk 0 [111] 0 []],[.mk 1 [] 3 []])]
end Go.Lamb
namespace Go.Proofs.YtdlkenpilhakfaaGreatDoor
open Go.RowKit Go.Lamb
noncomputable def jS:XP:=⟨prog,zr,M8,B6 [71,123,70,25,66,27,122,26,227],B6 [123,227,182]⟩
theorem vI{w0:World}(hG:dm w0):jS.Ok w0:=⟨Ev hG,Ex⟩
noncomputable def zu(rt:List (List aa×List aa)):XP:={jS with ext:=eC 132 (Ew rt) zr}
theorem XV{rt:List (List aa×List aa)}(h:qm jS rt=true):∀p∈rt,∀w,dm w->DC prog w 132 [.c (.sl (p.1.map aa.cs)),.c (.sl (p.2.map aa.cs))] [] (Same (.c (.bool true)) []):=by
 induction rt with
 |nil=>intro p hp;cases hp
 |cons q l ih=>
  unfold qm at h;simp only[bz]at h;intro p hp w hG;rcases List.mem_cons.1 hp with rfl|hp
  ·have hr:jK jS 100000 132 [.c (.sl (p.1.map aa.cs)),.c (.sl (p.2.map aa.cs))] []=some (.c (.bool true),[]):=by
    have h1:=h.1;unfold Lamb.isTrue at h1;split at h1
    ·assumption
    ·cases h1
   exact mr (vI hG) hr
  ·exact ih h.2 p hp w hG
theorem EF{rt:List (List aa×List aa)}(h:qm jS rt=true){w0:World}(hG:dm w0):(zu rt).Ok w0:=⟨eV (XU (fun _ _ h hb=>h.ext hb) (XV h) hG) (Ev hG),Ex⟩
theorem XW:nJ (.agg [gp,gq,dQ]) [] (jK jS 100000 19 [S Ey] [])=true:=by kernel_rfl
theorem XX:nJ (.av [sB,I 0,I 0]) vC (jK jS 100000 20 [dQ,S Ez] vC)=true:=by kernel_rfl
theorem XY:nJ (.av [sC,I 0,I 0]) vD (jK jS 100000 20 [dQ,S EA] vD)=true:=by kernel_rfl
theorem XZ:nJ (.av [sD,I 0,I 0]) vE (jK jS 100000 20 [dQ,S EB] vE)=true:=by kernel_rfl
theorem X0:qm jS M9=true:=by kernel_rfl
theorem X1:qm jS Na=true:=by kernel_rfl
theorem X2:qm jS Nb=true:=by kernel_rfl
theorem X3:nJ EC vF (jK (zu M9) 100000 17 [.agg [gp,gq,dQ],sB] vF)=true:=by kernel_rfl
theorem X4:nJ ED vG (jK (zu Na) 100000 17 [.agg [gp,gq,dQ],sC] vG)=true:=by kernel_rfl
theorem X5:nJ EE vH (jK (zu Nb) 100000 17 [.agg [gp,gq,dQ],sD] vH)=true:=by kernel_rfl
theorem X6{w0:World}(hG:dm w0):DC prog w0 19 [S Ey] [] (Same (.agg [gp,gq,dQ]) []):=mr (vI hG) (qj XW)
theorem X7{w0:World}(hG:dm w0):DC prog w0 20 [dQ,S Ez] vC (Same (.av [sB,I 0,I 0]) vC):=mr (vI hG) (qj XX)
theorem X8{w0:World}(hG:dm w0):DC prog w0 17 [.agg [gp,gq,dQ],sB] vF (Same EC vF):=mr (EF X0 hG) (qj X3)
theorem X9{w0:World}(hG:dm w0):DC prog w0 20 [dQ,S EA] vD (Same (.av [sC,I 0,I 0]) vD):=mr (vI hG) (qj XY)
theorem Ya{w0:World}(hG:dm w0):DC prog w0 17 [.agg [gp,gq,dQ],sC] vG (Same ED vG):=mr (EF X1 hG) (qj X4)
theorem Yb{w0:World}(hG:dm w0):DC prog w0 20 [dQ,S EB] vE (Same (.av [sD,I 0,I 0]) vE):=mr (vI hG) (qj XZ)
theorem Yc{w0:World}(hG:dm w0):DC prog w0 17 [.agg [gp,gq,dQ],sD] vH (Same EE vH):=mr (EF X2 hG) (qj X5)
def Nc:List V->H->Option (V×H):=oy (nK [dQ,S Ez] vC (.av [sB,I 0,I 0])) (oy (nK [dQ,S EA] vD (.av [sC,I 0,I 0])) (nK [dQ,S EB] vE (.av [sD,I 0,I 0])))
theorem Yd{w0:World}(hG:dm w0)(as':List V)(σ:H)(v:V)(σ':H)(h:Nc as' σ=some (v,σ')):DC prog w0 20 as' σ (Same v σ'):=
 rD (qk (X7 hG)) (rD (qk (X9 hG)) (qk (Yb hG))) as' σ v σ' h
def Nd:List V->H->Option (V×H):=oy (nK [.agg [gp,gq,dQ],sB] vF EC) (oy (nK [.agg [gp,gq,dQ],sC] vG ED) (nK [.agg [gp,gq,dQ],sD] vH EE))
theorem Ye{w0:World}(hG:dm w0)(as':List V)(σ:H)(v:V)(σ':H)(h:Nd as' σ=some (v,σ')):DC prog w0 17 as' σ (Same v σ'):=
 rD (qk (X8 hG)) (rD (qk (Ya hG)) (qk (Yc hG))) as' σ v σ' h
noncomputable def EG:XP:={jS with ext:=eC 19 (nK [S Ey] [] (.agg [gp,gq,dQ])) (eC 20 Nc (eC 17 Nd zr))}
theorem Yf{w0:World}(hG:dm w0):EG.Ok w0:=⟨eV (qk (X6 hG)) (eV (Yd hG) (eV (Ye hG) (Ev hG))),Ex⟩
theorem Yg:isTrue (jK EG 100000 6 [] [])=true:=by kernel_rfl
theorem Yh{w0:World}(hG:dm w0)(σ:H):DC prog w0 6 [] σ (Same (B true) σ):=
 Sy (X:=EG) (G:=dm) (fun _ _ h hb=>h.ext hb) (fun _ h=>Yf h) Yg hG σ
def Nf:AC:=rsq [.o 2 (.box 0),.o 3 (.box 1),.o 4 (.af zF)] (.seq (rif [.f 7 0 2,.l 8 7,.f 9 0 3,.l 10 9,.o 11 (.bin .neq 8 10),.m 12 11,.z 13 (.aX 1 2) 12,.z 14 (.aU 13) 12,.z 15 (.aX 1 3) 12,.z 16 (.aU 15) 12,.z 17 (.bin .neq 14 16) 12,.o 18 (.pick 12 zT 17),.m 19 18,.z 20 (.aX 2 2) 19,.z 21 (.aU 20) 19,.z 22 (.aX 2 3) 19,.z 23 (.aU 22) 19,.z 24 (.bin .neq 21 23) 19,.o 25 (.pick 19 zT 24),.m 26 25,.z 27 (.aX 3 2) 26,.z 28 (.aU 27) 26,.z 29 (.aO 28) 26,.z 30 (.aX 3 3) 26,.z 31 (.aU 30) 26,.z 32 (.aO 31) 26,.z 33 (.bin .neq 29 32) 26,.o 34 (.pick 26 zT 33)] 34 (rsq [.o 4 (.af zF)] .ret) .skip) (.seq (rsq [.o 5 (.af (zK 0))] (forL 0 1 [.m 35 5,.f 36 3 2,.l 37 36,.o 38 (.aO 37),.o 39 (.bin .lss 35 38)] 39 (.seq (drg [.f 42 3 2,.l 43 42,.m 44 5,.o 45 (.aI 4 43 44),.d 46 4 45,.f 47 3 3,.l 48 47,.m 49 5,.o 50 (.aI 4 48 49),.d 51 4 50,.k 52 11 [46,51],.m 6 52] [0,1,2,3,4,5,6,7,8,9,110,211]) (rif [.m 53 6,.o 54 (.un .not 53)] 54 (rsq [.o 4 (.af zF)] .ret) .skip)) [.m 40 5,.o 41 (.bin .add 40 (zK 1)),.m 5 41])) (rsq [.o 4 (.af zT)] .ret)))
def Ng:List aw:=[.tmp 4]
theorem Yi:az prog 11 2 Tryz.f11 Nf Ng:=.auto func11
attribute [local go_sem] aa.v aa.aM aY a7 aV aL aT uI.cs
theorem Yj(w0:World)(p:aa):∀(σ:H),DC prog w0 11 [p.v,p.v] σ (Same (B true) σ):=by
 refine aa.ind (P:=fun p=>∀(σ:H),DC prog w0 11 [p.v,p.v] σ (Same (B true) σ)) (fun p ih σ=>?_) p;refine Yi.go rfl (fun hok hsz=>?_);have hlen:=uk hsz (bp ..);((try refine W.a ?_);simp only[go_sem,Nf,bne_self_eq_false']);refine W.no rfl (W.a ?_);simp only[go_sem];refine W.bA (fun i=>i<=p.l.length) (fun i=>⟨((((base.put (some 2) (.ptr σ.length 0)).put (some 3) (.ptr (σ.length+1) 0)).put (some 4) (B false)).put (some 5) (I (i:Nat))),σ++[.cells p.v.ah,.cells p.v.ah]⟩) (fun i=>p.l.length-i) 0 (bx _) ?_ (fun i hi=>?_)
 ·(refine aq.env ?_;exact aE)
 by_cases hlt:i<p.l.length
 ·have h1:((i:Int)<(p.l.length:Int)):=by omega
  have hx:p.l[i]?=some p.l[i]:=aR hlt;have hw:aW.wrap ((i:Int)+1)=((i+1:Nat):Int):=ed hlt hlen;have hS:=fun σ=>ih p.l[i] (bw hlt) σ;generalize p.l[i]=u at*
  ((try refine W.a ?_);simp only[go_sem,h1]);refine W.yes rfl (W.a ?_);simp only[go_sem];apply W.aQ (aS _ _)
  case hc=>
   (apply ae.al;simp only[go_sem,h1,bP,hx]);(apply ae.call (hS _);(case hg=>rfl);(case hf=>rfl);(case ha=>first|rfl|simp));(apply ae.al;simp only[go_sem]);exact ae.nil
  ((try refine W.a ?_);simp only[go_sem]);refine W.no rfl (W.a ?_);simp only[go_sem,hw];refine .inv ⟨i+1,hlt,by omega,?_⟩;(refine aq.env ?_;exact aE)
 have h1:¬((i:Int)<(p.l.length:Int)):=by omega
 ((try refine W.a ?_);simp only[go_sem,h1]);refine W.no rfl (W.a ?_);simp only[go_sem];(refine W.fs (hok) (by simp only[Ng,go_sem];rfl) ?_;simp only[ak];try exact V.wk.rfl _)
end Go.Proofs.YtdlkenpilhakfaaGreatDoor
namespace Go.Proofs.YtdlkenpilhakfaaGreatDoor
open Go.RowKit Go.Lamb
attribute [local go_sem] aa.v aa.aM aY a7 aV aL aT bL.v bL.cs ay.v ay.cs fO ef Sg.v gg.v pz
theorem Yk(w0:World)(l:List cN)(σ:H):DC prog w0 55 [.c (iC l),.c (iC l)] σ (Same (B true) σ):=by
 refine TZ.go rfl (fun hok hsz=>?_);have hlen:l.length<=9223372036854775807:=pq (hsz _ (bp ..));have hll:((l.length:Int) !=(l.length:Int))=false:=by simp
 ((try refine W.a ?_);simp only[go_sem,KE,hll]);refine W.no rfl ?_;((try refine W.a ?_);simp only[go_sem]);refine W.bA (fun i=>i<=l.length) (fun i=>⟨(((base.put (some 0) (.c (iC l))).put (some 1) (.c (iC l))).put (some 5) (I (i:Nat))),σ⟩) (fun i=>l.length-i) 0 (bx _) ?_ (fun i hi=>?_)
 ·(refine aq.env ?_;exact aE)
 ·by_cases hlt:i<l.length
  ·have h1:((i:Int)<(l.length:Int)):=by omega
   have hx:l[i]?=some l[i]:=aR hlt;have hw:aW.wrap ((i:Int)+1)=((i+1:Nat):Int):=ed hlt hlen;((try refine W.a ?_);simp only[go_sem,h1]);refine W.yes rfl ?_;((try refine W.a ?_);simp only[go_sem]);(apply W.aQ (aS _ _);case hc=>((apply ae.al;simp only[go_sem,h1,bP,hx]);exact ae.nil));((try refine W.a ?_);simp only[go_sem]);refine W.no rfl ?_;((try refine W.a ?_);simp only[go_sem,hw]);refine .inv ⟨i+1,hlt,by omega,?_⟩;(refine aq.env ?_;exact aE)
  ·have h1:¬((i:Int)<(l.length:Int)):=by omega
   ((try refine W.a ?_);simp only[go_sem,h1]);refine W.no rfl ?_;((try refine W.a ?_);simp only[go_sem]);(refine W.fs (hok) (by simp only[KF,go_sem];rfl) ?_;simp only[ak];try exact V.wk.rfl _)
end Go.Proofs.YtdlkenpilhakfaaGreatDoor
