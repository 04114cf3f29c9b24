/- . -/
import Derived.Test.YtdlkenpilhakfaaGreatDoorQJ47
import Derived.Test.YtdlkenpilhakfaaGreatDoorQJ45
import Derived.Test.YtdlkenpilhakfaaGreatDoorQJ17
import Derived.Test.YtdlkenpilhakfaaGreatDoorQLexRow
import Derived.Test.YtdlkenpilhakfaaGreatDoorQOpenB
import Derived.Test.YtdlkenpilhakfaaGreatDoorQOpenS
set_option linter.unusedSimpArgs false
set_option linter.unusedVariables false
set_option maxHeartbeats 8000000
set_option maxRecDepth 20000
open Go.IntKind renaming i64->aW
open Int renaming toNat_natCast->jX
open List renaming cons_ne_nil->aS,getElem?_cons_zero->qw,getElem?_eq_getElem->aR,length_cons->bo,map_append->dX
open Nat renaming zero_le->bx
open Go.Proofs.Tryz
namespace Go.Proofs.YtdlkenpilhakfaaGreatDoor
open Go.RowKit Go.Lamb
attribute [local go_sem] aa.v aa.aM aY a7 aV aL aT bL.v bL.cs ay.v ay.cs fO ef Sg.v ao.v gg.v pz
theorem Yl(w0:World)(l:List cN)(hn:l.length<=2000000)(σ:H):DC prog w0 98 [.c (iC l)] σ (Same (.aF σ.length (l.map cN.cs)) (σ++[.spare 60 3 l.length])):=by
 refine JK.dn rfl (fun hok hsz=>?_);have hb1:l.length*32<=140737488355328:=by omega
 have hb2:l.length<=140737488355328:=by omega
 have hb3:∀r∈l.map cN.cs,r.length=3:=fun r hr=>by obtain⟨o,_,rfl⟩:=List.mem_map.1 hr;rfl
 ((try refine W.a ?_);simp only[go_sem,Ce]);refine W.ja rfl rfl rfl (fun b hb=>?_);cases b
 ·((try refine W.a ?_);simp only[go_sem]);refine W.no rfl ?_;((try refine W.a ?_);simp only[go_sem,hb1,hb2,eq_true hb3,true_or]);refine W.ret ⟨_,_,rfl,.rfl _,?_⟩;refine⟨rfl,?_⟩;simp only[List.length_map]
 ·have hl:l=[]:=by simpa using hb rfl
  subst hl;((try refine W.a ?_);simp only[go_sem]);refine W.yes rfl ?_;((try refine W.a ?_);simp only[go_sem]);refine W.own 2 60 3 rfl ?_;exact W.ret ⟨_,_,rfl,.rfl _,rfl,rfl⟩
theorem Ym(w0:World)(s:Sg)(hs1:s.kinds.length<=90000)(hs2:s.types.length<=90000)(σ:H):DC prog w0 18 [s.v,s.v] σ (Same (B true) σ):=by
 refine TS.go rfl (fun hok hsz=>?_);have hk:((s.kinds.length:Int) !=(s.kinds.length:Int))=false:=by simp
 have ht:((s.types.length:Int) !=(s.types.length:Int))=false:=by simp
 ((try refine W.a ?_);simp only[go_sem,Kq,hk,ht]);refine W.no rfl ?_;((try refine W.a ?_);simp only[go_sem]);refine W.bA (fun i=>i<=s.kinds.length) (fun i=>⟨((((base.put (some 2) (.ptr σ.length 0)).put (some 3) (.ptr (σ.length+1) 0)).put (some 4) (B false)).put (some 5) (I (i:Nat))),σ++[.cells s.v.ah,.cells s.v.ah]⟩) (fun i=>s.kinds.length-i) 0 (bx _) ?_ (fun i hi=>?_)
 ·(refine aq.env ?_;exact aE)
 ·by_cases hlt:i<s.kinds.length
  ·have h1:((i:Int)<(s.kinds.length:Int)):=by omega
   have hx:s.kinds[i]?=some s.kinds[i]:=aR hlt;have hw:aW.wrap ((i:Int)+1)=((i+1:Nat):Int):=ed hlt (by omega);((try refine W.a ?_);simp only[go_sem,h1]);refine W.yes rfl ?_;((try refine W.a ?_);simp only[go_sem]);(apply W.aQ (aS _ _);case hc=>((apply ae.al;simp only[go_sem,h1,bP,hx]);exact ae.nil));((try refine W.a ?_);simp only[go_sem]);refine W.no rfl ?_;((try refine W.a ?_);simp only[go_sem,hw]);refine .inv ⟨i+1,hlt,by omega,?_⟩;(refine aq.env ?_;exact aE)
  ·have h1:¬((i:Int)<(s.kinds.length:Int)):=by omega
   ((try refine W.a ?_);simp only[go_sem,h1]);refine W.no rfl ?_;((try refine W.a ?_);simp only[go_sem]);refine W.bA (fun i=>i<=s.types.length) (fun i=>⟨((((base.put (some 2) (.ptr σ.length 0)).put (some 3) (.ptr (σ.length+1) 0)).put (some 4) (B false)).put (some 6) (I (i:Nat))),σ++[.cells s.v.ah,.cells s.v.ah]⟩) (fun i=>s.types.length-i) 0 (bx _) ?_ (fun i hi=>?_)
   ·(refine aq.env ?_;exact aE)
   ·by_cases hlt:i<s.types.length
    ·have h1:((i:Int)<(s.types.length:Int)):=by omega
     have hx:s.types[i]?=some s.types[i]:=aR hlt;have hw:aW.wrap ((i:Int)+1)=((i+1:Nat):Int):=ed hlt (by omega);((try refine W.a ?_);simp only[go_sem,h1]);refine W.yes rfl ?_;((try refine W.a ?_);simp only[go_sem]);apply W.aQ (aS _ _)
     case hc=>
      (apply ae.al;simp only[go_sem,h1,bP,hx]);(apply ae.call (JR w0 s.types[i].ty s.types[i].ty _);(case hg=>rfl);(case hf=>rfl);(case ha=>first|rfl|simp));(apply ae.al;simp only[go_sem,GN]);exact ae.nil
     ((try refine W.a ?_);simp only[go_sem]);(apply W.aQ (aS _ _);case hc=>((apply ae.al;simp only[go_sem,h1,bP,hx]);exact ae.nil));((try refine W.a ?_);simp only[go_sem]);refine W.no rfl ?_;((try refine W.a ?_);simp only[go_sem,hw]);refine .inv ⟨i+1,hlt,by omega,?_⟩;(refine aq.env ?_;exact aE)
    ·have h1:¬((i:Int)<(s.types.length:Int)):=by omega
     ((try refine W.a ?_);simp only[go_sem,h1]);refine W.no rfl ?_;((try refine W.a ?_);simp only[go_sem]);(refine W.c1 (Yk w0 s.ops _) ?_;simp only[go_sem]);(refine W.fs (hok) (by simp only[Kr,go_sem];rfl) ?_;simp only[ak];try exact V.wk.rfl _)
theorem Yn(w0:World)(s:Sg)(h1:s.kinds.length<=90000)(h2:s.types.length<=90000)(h3:s.ops.length<=2000000)(σ:H):DC prog w0 52 [s.v] σ (Same s.v σ):=by
 refine Kh.go rfl (fun hok hsz=>?_);((try refine W.a ?_);simp only[go_sem,Cv]);apply W.aQ (aS _ _)
 case hc=>
  (apply ae.al;simp only[go_sem]);(apply ae.call (Ww w0 s.kinds (by omega) _);(case hg=>rfl);(case hf=>rfl);(case ha=>first|rfl|simp));(apply ae.al;simp only[go_sem]);(apply ae.call (Wx w0 s.types (by omega) _);(case hg=>rfl);(case hf=>rfl);(case ha=>first|rfl|simp));(apply ae.al;simp only[go_sem]);(apply ae.call (Yl w0 s.ops (by omega) _);(case hg=>rfl);(case hf=>rfl);(case ha=>first|rfl|simp));(apply ae.al;simp only[go_sem]);exact ae.nil
 ((try refine W.a ?_);simp only[go_sem]);(refine W.fg (hok) (d:=s.v) (by simp only[Cw,go_sem];rfl) (by simp only[ak,go_sem];exact au) ?_);exact⟨rfl,rfl⟩
theorem Yo(w0:World)(s:Sg)(hs:s.types.length<=90000)(x:gg)(h1:x.k=1)(name:bG)(σ:H):DC prog w0 54 [s.v,x.v,S name] σ (Same (.av [(ko s x name).1.v,I (ko s x name).2]) σ):=by
 refine Kg.go rfl (fun hok hsz=>?_);have n0:(x.k==0)=false:=by simp[h1]
 have k1:(x.k==1)=true:=by simpa using h1
 have hb1:(s.types.length+1)*72<=140737488355328:=by omega
 have hb2:s.types.length+1<=140737488355328:=by omega
 have hb3:=D5 (l:=s.types);have hF:=fun σ=>rJ w0 s name σ;rw[My h1];unfold oA at hF;generalize fP s.types name=r at hF⊢;((try refine W.a ?_);simp only[go_sem,Cu,n0]);refine W.no rfl ?_;((try refine W.a ?_);simp only[go_sem,k1]);refine W.yes rfl ?_;((try refine W.a ?_);simp only[go_sem]);(refine W.c1 (hF _) ?_;simp only[go_sem]);cases hN:iD name
 ·apply W.aQ (aS _ _)
  case hc=>
   (apply ae.al;simp only[go_sem]);(apply ae.call (uh w0 name _);(case hg=>rfl);(case hf=>rfl);(case ha=>first|rfl|simp));(apply ae.al;simp only[go_sem,hN]);(apply ae.call (Cf w0 name _);(case hg=>rfl);(case hf=>rfl);(case ha=>first|rfl|simp));(apply ae.al;simp only[go_sem]);(apply ae.call (Mx w0 (ll name) r.isSome s.types.length _);(case hg=>rfl);(case hf=>rfl);(case ha=>first|rfl|simp));(apply ae.al;simp only[go_sem]);exact ae.nil
  ((try refine W.a ?_);simp only[go_sem]);apply W.aQ (aS _ _)
  case hc=>
   (apply ae.al;simp only[go_sem]);(apply ae.call (Mw w0 s.types _);(case hg=>rfl);(case hf=>rfl);(case ha=>first|rfl|simp));(apply ae.al;simp only[go_sem,hb1,hb2,eq_true hb3,ne_eq,not_false_eq_true,or_true]);exact ae.nil
  ((try refine W.a ?_);simp only[go_sem]);(refine W.fg (hok) (d:=.av [Sg.v ⟨s.kinds,s.types++[⟨name,x.ty⟩],s.ops⟩,I (pD (ll name) r.isSome s.types.length)]) (by simp only[yr,go_sem,dX];rfl) (by simp only[ak,go_sem,dX];exact au) ?_ (hl:=by(first|exact .c _|(simp only[go_sem,dX];done))));exact⟨rfl,rfl⟩
 ·apply W.aQ (aS _ _)
  case hc=>
   (apply ae.al;simp only[go_sem]);(apply ae.call (uh w0 name _);(case hg=>rfl);(case hf=>rfl);(case ha=>first|rfl|simp));(apply ae.al;simp only[go_sem,hN]);(apply ae.call (Mx w0 true r.isSome s.types.length _);(case hg=>rfl);(case hf=>rfl);(case ha=>first|rfl|simp));(apply ae.al;simp only[go_sem]);exact ae.nil
  ((try refine W.a ?_);simp only[go_sem]);apply W.aQ (aS _ _)
  case hc=>
   (apply ae.al;simp only[go_sem]);(apply ae.call (Mw w0 s.types _);(case hg=>rfl);(case hf=>rfl);(case ha=>first|rfl|simp));(apply ae.al;simp only[go_sem,hb1,hb2,eq_true hb3,ne_eq,not_false_eq_true,or_true]);exact ae.nil
  ((try refine W.a ?_);simp only[go_sem]);(refine W.fg (hok) (d:=.av [Sg.v ⟨s.kinds,s.types++[⟨name,x.ty⟩],s.ops⟩,I (pD true r.isSome s.types.length)]) (by simp only[yr,go_sem,dX];rfl) (by simp only[ak,go_sem,dX];exact au) ?_ (hl:=by(first|exact .c _|(simp only[go_sem,dX];done))));exact⟨rfl,rfl⟩
def gu(name:bG)(t:aa):gg:=⟨1,[name],0,t,.zero,.none,0⟩
theorem Yp(w0:World)(s:Sg)(h1:s.kinds.length<=60)(h2:s.types.length<=60)(h3:s.ops.length<=2000000)(name:bG)(t:aa)(σ:H):DC prog w0 16 [s.v,(gu name t).v] σ (Same (.av [(kp s (gu name t)).1.v,I (kp s (gu name t)).2]) σ):=by
 refine Ki.go rfl (fun hok hsz=>?_);have hcp:=fun σ=>Yn w0 s (by omega) (by omega) h3 σ;have hF:=fun σ=>Ub w0 s t σ;have hA:=fun σ=>Yo w0 s (by omega) (gu name t) rfl name σ;have hv:(gu name t).v= .agg [I 1,.c (.sl [[.str name]]),I 0,I t.k,S t.name,I t.n,.c (aT t.l),S [],I 0,I 0,I 0,S [],I 0,.c (.sl []),I 0,I 0]:=rfl;have hAS:kp s (gu name t)=if pC s.kinds t=false then(s,111)else if(ko s (gu name t) name).2=0 then((ko s (gu name t) name).1,0)else(s,(ko s (gu name t) name).2):=by
  unfold kp;rw[if_neg (by show¬((1:Int)<0\/(3:Int)<1);omega)];by_cases hf:pC s.kinds t=false
  ·rw[if_pos ⟨rfl,hf⟩,if_pos hf]
  ·rw[if_neg (fun h=>hf h.2),if_neg hf];show Hk s (jH (gu name t) s [name])=_;unfold jH;split
   ·unfold jH;rfl
   ·rfl
 rw[hAS];rw[hv]at hA⊢;generalize ko s (gu name t) name=r at hA⊢;obtain⟨m,e⟩:=r;simp only at hA⊢;cases hf:pC s.kinds t
 ·rw[hf]at hF;rw[if_pos rfl];((try refine W.a ?_);simp only[go_sem,yt]);refine W.no rfl ?_;((try refine W.a ?_);simp only[go_sem]);(refine W.c1 (hF _) ?_;simp only[go_sem]);refine W.yes rfl ?_;((try refine W.a ?_);simp only[go_sem]);(refine W.c1 (hcp _) ?_;simp only[go_sem]);(refine W.fg (hok) (d:=.av [s.v,I 111]) (by simp only[uq,go_sem];rfl) (by simp only[ak,go_sem];exact au) ?_);exact⟨rfl,rfl⟩
 ·rw[hf]at hF;rw[if_neg (by simp)];((try refine W.a ?_);simp only[go_sem,yt]);refine W.no rfl ?_;((try refine W.a ?_);simp only[go_sem]);(refine W.c1 (hF _) ?_;simp only[go_sem]);refine W.no rfl ?_;((try refine W.a ?_);simp only[go_sem]);(refine W.c1 (hcp _) ?_;simp only[go_sem]);refine W.bA (α:=Nat×Sg) (fun y=>y=(0,s)\/(y=(1,m)/\e=0)) (fun y=>⟨((((((((base.put (some 2) (.ptr σ.length 0)).put (some 3) (.ptr (σ.length+1) 0)).put (some 4) (.ptr (σ.length+2) 0)).put (some 5) (I 0)).put (some 6) (.ptr (σ.length+3) 0)).put (some 38) (.c (.sl [[.str name]]))).put (some 39) (I 1)).put (some 40) (I (y.1:Nat))),σ++[.cells s.v.ah,.cells (V.agg [I 1,.c (.sl [[.str name]]),I 0,I t.k,S t.name,I t.n,.c (aT t.l),S [],I 0,I 0,I 0,S [],I 0,.c (.sl []),I 0,I 0]).ah,.cells [.ab [],.ab [],.ab []],.cells y.2.v.ah]⟩) (fun y=>1-y.1) (0,s) (.inl rfl) ?_ (fun y hy=>?_)
  ·simp only[go_sem];(refine aq.env ?_;exact aE)
  rcases hy with rfl|⟨rfl,rfl⟩
  ·have q1:(((0:Nat):Int)<1):=by decide
   have q0:(0:Int)<=((0:Nat):Int):=by decide
   have hw:aW.wrap (((0:Nat):Int)+1)=((1:Nat):Int):=by rfl
   by_cases he:e=0
   ·subst he;rw[if_pos rfl];((try refine W.a ?_);simp only[go_sem,q1]);refine W.yes rfl ?_;((try refine W.a ?_);simp only[go_sem,q1,q0,bP,jX,qw]);(refine W.c1 (hA _) ?_;simp only[go_sem]);refine W.no rfl ?_;((try refine W.a ?_);simp only[go_sem,hw]);refine .inv ⟨(1,m),by simp,by simp,?_⟩;simp only[go_sem];(refine aq.eS (hok) ?_ (by simp) (by simp) ?_ ?_ ?_;exact aE;((try simp only[okB,bu,go_sem])<;>omega);(simp only[bo,List.length_nil,Nat.reduceAdd,List.take_succ_cons,List.take_zero,bu,and_true];(repeat' (refine And.intro ?_ ?_))<;>(first|exact ad.wk.rfl _|exact ad.wk.gone _|(refine ad.eT ?_ rfl;(exact au))));(repeat' (first|exact aZ.base _|(refine aZ.put ?_ (by first|exact .c _|((try simp only[okB,bu,go_sem])<;>omega))))))
   ·have hb:(e !=0)=true:=by simpa using he
    rw[if_neg he];((try refine W.a ?_);simp only[go_sem,q1]);refine W.yes rfl ?_;((try refine W.a ?_);simp only[go_sem,q1,q0,bP,jX,qw]);(refine W.c1 (hA _) ?_;simp only[go_sem,hb]);refine W.yes rfl ?_;((try refine W.a ?_);simp only[go_sem]);(refine W.c1 (hcp _) ?_;simp only[go_sem]);(refine W.fg (hok) (d:=.av [s.v,I e]) (by simp only[uq,go_sem];rfl) (by simp only[ak,go_sem];exact au) ?_);exact⟨rfl,rfl⟩
  ·have q1:¬(((1:Nat):Int)<1):=by decide
   rw[if_pos rfl];((try refine W.a ?_);simp only[go_sem,q1]);refine W.no rfl ?_;((try refine W.a ?_);simp only[go_sem]);(refine W.fg (hok) (d:=.av [m.v,I 0]) (by simp only[uq,go_sem];rfl) (by simp only[ak,go_sem];exact au) ?_);exact⟨rfl,rfl⟩
end Go.Proofs.YtdlkenpilhakfaaGreatDoor
namespace Go.Proofs.YtdlkenpilhakfaaGreatDoor
open Go.RowKit Go.Lamb
attribute [local go_sem] aa.v aa.aM aY a7 aV aL aT bL.v bL.cs ay.v ay.cs fO ef Sg.v ao.v
theorem Yq{w0:World}(hwk:∀σ,DC prog w0 6 [] σ (Same (B true) σ))(g:Sg)(p:ao)(name:bG)(t:aa)(hq:mI g p=true\/dv t 15<0\/60<name.length\/(fP g.types name).isSome=true)(σ:H):DC prog w0 5 [g.v,p.v,S name,t.v] σ (Same (B true) σ):=by
 refine k5.go rfl (fun hok hsz=>?_);have o1:=fun σ=>M2 w0 g p σ;have o2:=fun σ=>Ci w0 t 15 (by decide) (by decide) σ;have o3:=fun σ=>rJ w0 g name σ;unfold oA at o3;have hq':mI g p=true\/decide (dv t 15<0)=true\/60<name.length\/(fP g.types name).isSome=true:=by simpa using hq
 clear hq;generalize mI g p=b1 at*
 generalize decide (dv t 15<0)=b2 at*
 generalize (fP g.types name).isSome=b3 at*
 ((try refine W.a ?_);simp only[go_sem,c5]);(refine W.c1 (hwk _) ?_;simp only[go_sem]);((try refine W.a ?_);simp only[go_sem]);refine W.no rfl ?_;((try refine W.a ?_);simp only[go_sem]);(refine W.c1 (o1 _) ?_;simp only[go_sem]);((try refine W.a ?_);simp only[go_sem]);(refine W.c1 (o2 _) ?_;simp only[go_sem]);clear o1 o2 hwk;cases b1
 ·cases b2
  ·by_cases hn:60<name.length
   ·have h1:((name.length:Int)>60):=by omega
    ((try refine W.a ?_);simp only[go_sem,h1]);refine W.yes rfl ?_;((try refine W.a ?_);simp only[go_sem]);(refine W.fs (hok) (by simp only[r5,go_sem];rfl) ?_;simp only[ak];try exact V.wk.rfl _)
   ·have h1:¬((name.length:Int)>60):=by omega
    cases b3
    ·exact absurd hq' (by simp[hn])
    ·((try refine W.a ?_);simp only[go_sem,h1]);refine W.no rfl ?_;((try refine W.a ?_);simp only[go_sem]);(refine W.c1 (o3 _) ?_;simp only[go_sem]);((try refine W.a ?_);simp only[go_sem]);refine W.yes rfl ?_;((try refine W.a ?_);simp only[go_sem]);(refine W.fs (hok) (by simp only[r5,go_sem];rfl) ?_;simp only[ak];try exact V.wk.rfl _)
  ·((try refine W.a ?_);simp only[go_sem]);refine W.yes rfl ?_;((try refine W.a ?_);simp only[go_sem]);(refine W.fs (hok) (by simp only[r5,go_sem];rfl) ?_;simp only[ak];try exact V.wk.rfl _)
 ·((try refine W.a ?_);simp only[go_sem]);refine W.yes rfl ?_;((try refine W.a ?_);simp only[go_sem]);(refine W.fs (hok) (by simp only[r5,go_sem];rfl) ?_;simp only[ak];try exact V.wk.rfl _)
theorem Yr{w0:World}(hwk:∀σ,DC prog w0 6 [] σ (Same (B true) σ))(g m:Sg)(p:ao)(name:bG)(t:aa)(e:Int)(t1 t2:aa)(v1 v2:List ay)(e1 e2 p1 p2:Int)
  (o1:∀σ,DC prog w0 7 [g.v,p.v] σ (Same (B false) σ)) (o2:∀σ,DC prog w0 8 [t.v,I 15] σ (Same (B false) σ)) (hn:¬60<name.length)
  (u:aa) (o3:∀σ,DC prog w0 15 [g.v,S name] σ (Same (.av [u.v,B false]) σ))
  (hA:∀σ,DC prog w0 16 [g.v,.agg [I 1,.c (.sl [[.str name]]),I 0,I t.k,S t.name,I t.n,.c (aT t.l),S [],I 0,I 0,I 0,S [],I 0,.c (.sl []),I 0,I 0]] σ (Same (.av [m.v,I e]) σ))
  (hC:∀σ,DC prog w0 17 [g.v,p.v] σ (Same (.av [t1.v,.c (.sl (v1.map ay.cs)),I e1,I p1]) σ))
  (hD:e=0->∀σ,DC prog w0 17 [m.v,p.v] σ (Same (.av [t2.v,.c (.sl (v2.map ay.cs)),I e2,I p2]) σ))
  (hS:e=0->∀σ,DC prog w0 18 [m.v,m.v] σ (Same (B true) σ))
  (heq:e=0->e1≠120->t2=t1/\v2=v1/\e2=e1/\p2=p1) (σ:H):DC prog w0 5 [g.v,p.v,S name,t.v] σ (Same (B true) σ):=by
 refine k5.go rfl (fun hok hsz=>?_);have h1:¬((name.length:Int)>60):=by omega
 have hT:=fun σ=>Yj w0 t1 σ;have hN:=fun σ=>XO w0 v1 σ;simp only[aa.v,Sg.v,ao.v]at hA hC hD hS hT o3;((try refine W.a ?_);simp only[go_sem,c5]);(refine W.c1 (hwk _) ?_;simp only[go_sem]);((try refine W.a ?_);simp only[go_sem]);refine W.no rfl ?_;((try refine W.a ?_);simp only[go_sem]);(refine W.c1 (o1 _) ?_;simp only[go_sem]);((try refine W.a ?_);simp only[go_sem]);(refine W.c1 (o2 _) ?_;simp only[go_sem]);((try refine W.a ?_);simp only[go_sem,h1]);refine W.no rfl ?_;((try refine W.a ?_);simp only[go_sem])
 (refine W.c1 (o3 _) ?_;simp only[go_sem]);((try refine W.a ?_);simp only[go_sem]);refine W.no rfl ?_;((try refine W.a ?_);simp only[go_sem]);(refine W.jE (hA _) ?_;simp only[go_sem]);by_cases he:e=0
 ·subst he;((try refine W.a ?_);simp only[go_sem,bne_self_eq_false']);refine W.no rfl ?_;((try refine W.a ?_);simp only[go_sem]);(refine W.c1 (hC _) ?_;simp only[go_sem]);((try refine W.a ?_);simp only[go_sem]);(refine W.c1 (hD rfl _) ?_;simp only[go_sem]);by_cases h12:e1=120
  ·subst h12;((try refine W.a ?_);simp only[go_sem,beq_self_eq_true]);refine W.yes rfl ?_;((try refine W.a ?_);simp only[go_sem]);(refine W.fs (hok) (by simp only[r5,go_sem];rfl) ?_;simp only[ak];try exact V.wk.rfl _)
  ·obtain⟨rfl,rfl,rfl,rfl⟩:=heq rfl h12;have hb:(e2==120)=false:=by simpa using h12
   ((try refine W.a ?_);simp only[go_sem,hb]);refine W.no rfl ?_;((try refine W.a ?_);simp only[go_sem]);(refine W.c1 (hT _) ?_;simp only[go_sem]);((try refine W.a ?_);simp only[go_sem]);(refine W.c1 (hN _) ?_;simp only[go_sem]);((try refine W.a ?_);simp only[go_sem]);(refine W.c1 (hS rfl _) ?_;simp only[go_sem]);((try refine W.a ?_);simp only[go_sem,beq_self_eq_true]);(refine W.fs (hok) (by simp only[r5,go_sem];rfl) ?_;simp only[ak];try exact V.wk.rfl _)
 ·have hb:(e !=0)=true:=by simpa using he
  ((try refine W.a ?_);simp only[go_sem,hb]);refine W.yes rfl ?_;((try refine W.a ?_);simp only[go_sem]);(refine W.fs (hok) (by simp only[r5,go_sem];rfl) ?_;simp only[ak];try exact V.wk.rfl _)
theorem OB{w0:World}(hG:dm w0)(g:Sg)(ho:g.ops.length<=2000000)(p:ao)(name:bG)(t:aa)(σ:H):DC prog w0 5 [g.v,p.v,S name,t.v] σ (Same (B true) σ):=by
 have hwk:=fun σ=>Yh hG σ;by_cases hq:mI g p=true\/dv t 15<0\/60<name.length\/(fP g.types name).isSome=true
 ·exact Yq hwk g p name t hq σ
 have h1:mI g p=false:=by cases h:mI g p<;>simp_all
 have h2:¬dv t 15<0:=fun h=>hq (.inr (.inl h));have h3:¬60<name.length:=fun h=>hq (.inr (.inr (.inl h)));have h4:fP g.types name=none:=by cases h:fP g.types name<;>simp_all
 obtain⟨k1,k2,k3,k4⟩:=XQ h1;have k5:aC t<=15:=by have:=Eu t 15 (by omega);omega
 have hA:=fun σ=>Yp w0 g (by omega) (by omega) ho name t σ;have hv:(gu name t).v= .agg [I 1,.c (.sl [[.str name]]),I 0,I t.k,S t.name,I t.n,.c (aT t.l),S [],I 0,I 0,I 0,S [],I 0,.c (.sl []),I 0,I 0]:=rfl;rw[hv]at hA;have hm:(kp g (gu name t)).2=0->(kp g (gu name t)).1.types=g.types++[⟨name,t⟩]/\(kp g (gu name t)).1.kinds=g.kinds:=fun h=>by
  have h:=(SK h).2;have hd:jH (gu name t) g [name]= .ok (kp g (gu name t)).1:=h;rw[jH]at hd;split at hd
  ·rw[jH,My rfl]at hd;injection hd with hd;rw[<-hd];exact⟨rfl,rfl⟩
  ·cases hd
 generalize kp g (gu name t)=r at hA hm;obtain⟨m,e⟩:=r;simp only at hA hm;have hC:=fun σ=>MX w0 (g:=g) (Wd:=15) k3 (by decide) (by decide) (p:=p) (by omega) (by omega) σ;have hD:e=0->∀σ,DC prog w0 17 [m.v,p.v] σ (Same (oP (fx m p oT)) σ):=fun h σ=>by
  refine MX w0 (g:=m) (Wd:=15) (fun x hx=>?_) (by decide) (by decide) (p:=p) (by omega) (by omega) σ;rw[(hm h).1]at hx;rcases List.mem_append.1 hx with hx|hx
  ·exact k3 x hx
  ·rw[List.mem_singleton.1 hx];exact k5
 have hS:e=0->∀σ,DC prog w0 18 [m.v,m.v] σ (Same (B true) σ):=fun h σ=>Ym w0 m (by rw[(hm h).2];omega) (by rw[(hm h).1,List.length_append,List.length_singleton];omega) σ;have heq:e=0->(fx g p oT).2.2.1≠120->fx m p oT=fx g p oT:=fun h h'=>XL (hm h).1 h4 p oT h';refine Yr hwk g m p name t e (fx g p oT).1 (fx m p oT).1 (fx g p oT).2.1 (fx m p oT).2.1 (fx g p oT).2.2.1 (fx m p oT).2.2.1 (fx g p oT).2.2.2 (fx m p oT).2.2.2 (fun σ=>?_) (fun σ=>?_) h3 aa.none (fun σ=>?_) hA hC hD hS (fun h h'=>?_) σ
 ·have:=M2 w0 g p σ;rwa [h1]at this
 ·have:=Ci w0 t 15 (by decide) (by decide) σ;rwa [decide_eq_false h2]at this
 ·have:=rJ w0 g name σ;rw[h4]at this;exact this
 ·rw[heq h h'];exact⟨rfl,rfl,rfl,rfl⟩
end Go.Proofs.YtdlkenpilhakfaaGreatDoor
namespace Go.Lamb
open Go Go.RowKit
theorem Ys{P:Program}(h:P.funcs.any Func.goes=false)(f:FuncId):P.goes f=false:=by
 unfold Program.goes;rw[h,Bool.and_false,Bool.or_false,List.any_eq_false];intro g _ hg;cases hf:P.funcs[g]? with
 |none=>rw[hf]at hg;cases hg
 |some fn=>
  rw[hf]at hg;have hg:fn.goes=true:=by simpa using hg
  obtain⟨hlt,e⟩:=Array.getElem?_eq_some_iff.1 hf;rw[Array.any_eq_false]at h;have:=h g hlt;rw[e,hg]at this;exact absurd rfl this
theorem OD{P:Program}(h:P.funcs.any Func.goes=false){c:OpenClaim}(hs:c.start= .entering):false=c.goesBy P:=by
 unfold OpenClaim.goesBy Program.goesAt Program.goesFrom;rw[hs];cases P.funcNamed c.func with
 |none=>rfl
 |some f=>simp[Ys h f]
end Go.Lamb
namespace Go.Proofs.YtdlkenpilhakfaaGreatDoor
open Go.RowKit Go.Lamb
theorem OE:Tryz.pinned.checked.prog.funcs.any Func.goes=false:=by kernel_rfl
end Go.Proofs.YtdlkenpilhakfaaGreatDoor
namespace Go.Lamb
open Go Go.RowKit
section
variable {H:Type} {enc:TypeId×Value->H} {P:Program} {w:World} {base:Nat} {spare:Nat->Bool} {held:Bool}
theorem Yt{bk:DataW H->Nat}(hB:zw bk){T:TypeId->Bool}(hT:∀t,T t=true->kH P T t=true){t:TypeId}{xs:Array Value}{d:DataW H}{ps:List MemPlace}(ht:T t=true)(h:DataW.Trod enc P w base spare held t (.agg xs) d ps):∃zs:List C,cV P t zs/\RV (K.start w) (.agg (zs.map .c)) (.agg xs)/\eQ zs<=bk d:=by
 obtain⟨fuel,h⟩:=h;obtain⟨zs,z1,z2,z3,z4⟩:=EH hB hT fuel t _ _ ht h;have e:(Value.agg xs).cells.toList=xs.toList:=rfl;rw[e]at z1 z3;refine⟨zs,z2,?_,z4⟩;have:=RV.agg (κ:=K.start w) (vs:=zs.map .c) (xs:=xs.toList) (by simp[z1]) (fun j hj=>by
  rw[List.getElem_map];exact .c (z3 j (by simpa using hj)))
 simpa using this
end
theorem Nh:∀(l:List cN),l.length<=mJ (l.map cN.cs)
 |[]=>bx _
 |x::l=>by
  rw[List.map_cons,mJ,bo];have:=Nh l;simp only[cN.cs,eQ,oQ];omega
end Go.Lamb
namespace Go.Proofs.YtdlkenpilhakfaaGreatDoor
open Go.ChangeShapes Go.WideShapes Go.ChangeAt Go.RowKit Go.Lamb
section
variable {H:Type} {enc:TypeId×Value->H} {w:World} {base:Nat} {spare:Nat->Bool} {held:Bool} {v:Value} {d:DataW H} {ps:List MemPlace} {r:Reach} {b0:Nat}
theorem Ow{bk:DataW H->Nat}(hB:zw bk)(hval:Value.okWide prog w r b0 26 v)(h:DataW.Trod enc prog w base spare held 26 v d ps):∃s:Sg,RV (K.start w) s.v v/\Ni s/\s.ops.length<=bk d:=by
 obtain⟨xs,rfl,_⟩:=okWide_struct underlying26 hval;obtain⟨zs,h1,h2,h3⟩:=Yt hB Yu (by decide) h;obtain⟨s,rfl,hs⟩:=Yv h1;refine⟨s,h2,hs,?_⟩;have:=Nh s.ops;simp only[iC,eQ,oQ]at h3;omega
end
end Go.Proofs.YtdlkenpilhakfaaGreatDoor
