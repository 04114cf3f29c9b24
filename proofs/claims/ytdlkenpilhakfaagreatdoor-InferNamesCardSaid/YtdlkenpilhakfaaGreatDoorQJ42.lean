/- . -/
import Derived.Test.YtdlkenpilhakfaaGreatDoorQJ41
import Derived.Test.YtdlkenpilhakfaaGreatDoorChecked
import Derived.Test.YtdlkenpilhakfaaGreatDoorQJ17
import Derived.Test.YtdlkenpilhakfaaGreatDoorQJ39
import Derived.Test.YtdlkenpilhakfaaGreatDoorQJ16
import Derived.Test.YtdlkenpilhakfaaGreatDoorQJ38
import Derived.Test.YtdlkenpilhakfaaGreatDoorQJ37
import Derived.Test.YtdlkenpilhakfaaGreatDoorQJ14
import Derived.Test.YtdlkenpilhakfaaGreatDoorQTyA2
import Derived.Test.YtdlkenpilhakfaaGreatDoorQLexA
import Derived.Lib.Builder
import Derived.Laws.Externs
import Derived.OwnWalk
import Derived.Handy
import Derived.BigRegion
import Derived.Lib.ItoaMem
import Derived.Test.YtdlkenpilhakfaaGreatDoorQLexC
import Derived.Test.YtdlkenpilhakfaaGreatDoorQRefH
import Derived.Test.YtdlkenpilhakfaaGreatDoorQRefI
import Derived.Test.YtdlkenpilhakfaaGreatDoorQLxD
set_option linter.unusedSimpArgs false
set_option linter.unusedVariables false
set_option maxHeartbeats 8000000
set_option maxRecDepth 20000
open Bool renaming and_eq_true->bG,false_eq_true->fe,true_and->sA
open Classical renaming choose->EW,choose_spec->EX
open Go.Builtin renaming zeroCells->qo
open Go.IntKind renaming i64->aN
open Go.Lib renaming run_append_grow_zeros->vQ,wpList_append_run->vR
open Go.RowKit.Below renaming refl->ep
open Int renaming eq_ofNat_of_zero_le->sD,le_refl->eU
open List renaming append_nil->cw,cons_append->iM,cons_ne_nil->aT,flatten_cons->dW,flatten_nil->lH,getElem?_append_left->cI,getElem?_append_right->cZ,getElem?_eq_getElem->aO,getElem?_eq_some_iff->aL,getElem?_set_ne->bX,getElem?_set_self->cr,getElem_mem->bt,headD_cons->zM,length_append->bD,length_cons->bk,length_nil->cN,length_set->bF,map_cons->cx,map_nil->du,mem_cons->cA,mem_cons_of_mem->bS,mem_cons_self->bu,mem_map->eu,take_succ_eq_append_getElem->il
open Nat renaming le_add_right->oW,le_refl->aA,le_trans->bE,mul_add->jl,mul_one->gM,sub_self->cq,zero_add->er,zero_le->bC
open Go.Proofs.Tryz
namespace Go.Lamb
open Go Go.RowKit
theorem W.heap{P:Program}{w0:World}{n0:Nat}{Q:St->Prop}{k:List It}{ρ:Env}{σ τ:H}(h:σ=τ)(hW:W P w0 n0 Q k ⟨ρ,τ⟩):W P w0 n0 Q k ⟨ρ,σ⟩:=h▸hW
end Go.Lamb
namespace Go.Proofs.YtdlkenpilhakfaaGreatDoor
open Go.RowKit Go.Lamb
section
variable {n0 p:Nat} {σ τ:H} {g:Sg} {f:av} {y3 y4 y5:V}
theorem bz.VM(h:bz n0 σ p g f y3 y4 y5)(hn:n0<=σ.length)(h0:f.vars=[])(x:az):
  bz n0 ((σ++[ad.spare 50 5 1]).set p (bK g (f.gJ x) y3 y4 (.aG σ.length [x.cs]))) p g (f.gJ x) y3 y4 (.aG σ.length [x.cs])/\Kept n0 p σ ((σ++[ad.spare 50 5 1]).set p (bK g (f.gJ x) y3 y4 (.aG σ.length [x.cs]))):=by
 have hA:=h.app [.spare 50 5 1];have e:(f.gJ x).vars=[x]:=by show f.vars++[x]=_;rw[h0];rfl
 have hP:=hA.put (f':=f.gJ x) (z3:=y3) (z4:=y4) (z5:=.aG σ.length [x.cs]) hA.sub hA.eh (.inr ⟨σ.length,hn,by rw[e];rfl,by rw[e];exact Go.Lamb.eM _ _⟩);exact⟨hP.1,((Kept.refl n0 p σ).app hn _).trans hP.2⟩
theorem bz.VN{b:Nat}(h:bz n0 σ p g f y3 y4 (.aG b (f.vars.map az.cs)))(hb0:n0<=b)(hb:σ[b]?=some (.spare 50 5 f.vars.length))(x:az):
  bz n0 ((σ.set b (.spare 50 5 (f.vars.length+1))).set p (bK g (f.gJ x) y3 y4 (.aG b (f.vars.map az.cs++[x.cs])))) p g (f.gJ x) y3 y4 (.aG b (f.vars.map az.cs++[x.cs]))/\Kept n0 p σ ((σ.set b (.spare 50 5 (f.vars.length+1))).set p (bK g (f.gJ x) y3 y4 (.aG b (f.vars.map az.cs++[x.cs])))):=by
 have hbl:=(aL.1 hb).1;have hpl:=h.lt;have hne:b≠p:=by rintro rfl;rw[h.here]at hb;cases hb
 have hk:∀(c:Nat) (B:ad),(∀cs tg,B≠ .cells cs tg)->(∀k,B≠ .spare 50 5 k)->σ[c]?=some B->((σ.set b (.spare 50 5 (f.vars.length+1))).set p (bK g (f.gJ x) y3 y4 (.aG b (f.vars.map az.cs++[x.cs]))))[c]?=some B:=fun c B h1 h2 hc=>by
  have hcp:p≠c:=by rintro rfl;rw[h.here]at hc;injection hc with hc;exact h1 _ _ hc.symm
  have hcb:b≠c:=by rintro rfl;rw[hb]at hc;injection hc with hc;exact h2 _ hc.symm
  rw[bX hcp,bX hcb];exact hc
 have e:(f.gJ x).vars=f.vars++[x]:=rfl;refine⟨⟨cr (by rw[bF];exact hpl),h.le,fun hl=>(h.sub hl).mono fun c d _ hc=>hk c _ (fun _ _ e=>by cases e) (fun _ e=>by cases e) hc,h.eh.mono fun c d _ hc=>hk c _ (fun _ _ e=>by cases e) (fun _ e=>by cases e) hc,.inr ⟨b,hb0,by rw[e,List.map_append];rfl,?_⟩⟩,((Kept.refl n0 p σ).set _ hb0 (.inr (.inr fun cs tg e=>by rw[hb]at e;cases e))).set _ h.le (.inl rfl)⟩;rw[bX (Ne.symm hne),cr hbl,e,bD];rfl
attribute [local go_sem] aa.v aa.aM a7 bh aW aQ aX
theorem VO(w0:World)(h:bz n0 σ p g f y3 y4 y5)(hn:n0<=σ.length)(hl:f.live=true)(hs:f.sub.length<=999999)(hbl:f.bound.length<=1000000)(hvl:f.vars.length<=1000000)(t:ah)(h1:t.k=1)(hlk:cy t.name 0 f.bound=-1)(hlv:cy t.name 0 f.vars=-1):
  DC prog w0 70 [.ptr p 0,t.v] σ (gn n0 p g σ (f.fresh.gJ ⟨t.name,aJ f.sub.length⟩) (.ay [(kl f t).1.v,(kl f t).2.1.v])):=by
 refine rS.dL rfl (fun hok hsz=>?_);have hp:=fun L=>hG h.here L;unfold bK at hp;have hlt:=h.lt;have k1:(t.k==1)=true:=by simp[h1]
 have hL:=fun a b c=>vd w0 (h.app [a,b,c]).eh hbl t.name;rw[hlk]at hL;have hV:=fun a b c=>LP w0 (h.app [a,b,c]).var hvl t.name;rw[hlv]at hV;have gz:¬(-1:Int)>=0:=by decide
 have gy:(-1:Int)<0:=by decide
 have hA0:=h.app [.cells t.v.ai,.cells [I 0,S [],I 0,.ab []],.cells [I 0,S [],I 0,.ab []]];have hK0:=(Kept.refl n0 p σ).app hn [.cells t.v.ai,.cells [I 0,S [],I 0,.ab []],.cells [I 0,S [],I 0,.ab []]];obtain⟨τ,c1,c2,c3⟩:=sb w0 hA0 (bE hn hK0.len) hl hs;have hn2:=bE (bE hn hK0.len) c3.len;have hq:=fun L=>hG c2.here L;have hq0:=c2.here;unfold bK at hq hq0;have hx3:τ[σ.length]?=some (.cells t.v.ai):=c3.cells _ _ _ (by omega) (Go.Lamb.eM _ _);have hx4:τ[σ.length+1]?=some (.cells [I 0,S [],I 0,.ab []]):=c3.cells _ _ _ (by omega) (Go.Lamb.bT _ _ 1)
 have hx5:τ[σ.length+2]?=some (.cells [I 0,S [],I 0,.ab []]):=c3.cells _ _ _ (by omega) (Go.Lamb.bT _ _ 2);have l3:=(aL.1 hx5).1;have hy3:=fun L=>hG hx3 L;have hpt:=c2.lt;generalize hz3:(V.vec (σ++[ad.cells t.v.ai,ad.cells [I 0,S [],I 0,.ab []],ad.cells [I 0,S [],I 0,.ab []]]).length (f.sub.length+1))=z3 at*
 unfold kl;rw[hlv,if_pos gy];simp only[aJ,aa.v,ah.v,V.ai]at c1 hy3 hx3;have hvf:f.fresh.vars=f.vars:=rfl;rcases c2.var with⟨h0,rfl⟩|⟨b,hb0,hy,hb⟩
 ·rw[hvf]at h0;have hv0:(f.vars.length:Int)=0:=by rw[h0];rfl
  rw[hv0];obtain⟨r1,r2⟩:=c2.VM hn2 h0 ⟨t.name,aJ f.sub.length⟩;obtain⟨E,hE⟩:∃E,((τ++[ad.spare 50 5 1]).set p (bK g (f.fresh.gJ ⟨t.name,aJ f.sub.length⟩) z3 y4 (.aG τ.length [(az.mk t.name (aJ f.sub.length)).cs])))=E:=⟨_,rfl⟩;rw[hE]at r1 r2;(refine W.a ?_;simp only[go_sem,c70,hp]);apply W.aS (aT _ _)
  case hc=>
   (apply ae.aq;simp only[go_sem,hp]);(apply ae.call (hL _ _ _);(case hg=>rfl);(case hf=>rfl);(case ha=>first|rfl|simp));(apply ae.aq;simp only[go_sem]);exact ae.nil
  (refine W.a ?_;simp only[go_sem,gz]);refine W.no rfl (W.a ?_);simp only[go_sem,k1];refine W.yes rfl (W.a ?_);simp only[go_sem];apply W.aS (aT _ _)
  case hc=>
   (apply ae.aq;simp only[go_sem,hp]);(apply ae.call (hV _ _ _);(case hg=>rfl);(case hf=>rfl);(case ha=>first|rfl|simp));(apply ae.aq;simp only[go_sem]);exact ae.nil
  (refine W.a ?_;simp only[go_sem,gy]);refine W.yes rfl (W.a ?_);simp only[go_sem,hp];apply W.aS (aT _ _)
  case hc=>
   (apply ae.aq;simp only[go_sem,hp]);(apply ae.call (c1);(case hg=>rfl);(case hf=>rfl);(case ha=>first|rfl|simp));(apply ae.aq;simp only[go_sem,hp,hq,hq0,hx3,hy3,true_or]);exact ae.nil
  refine W.heap hE ?_;have hE0:=r1.here;unfold bK at hE0;have e4:=r2.cells _ _ _ (by omega) hx4;have e5:=r2.cells _ _ _ (by omega) hx5;have l4:=(aL.1 e4).1;have l5:=(aL.1 e5).1;have s1:=fun A=>(bX (l:=E) (a:=A) (by omega:σ.length+1≠p)).trans hE0;have s2:=fun A=>(bX (l:=E) (a:=A) (by omega:σ.length+1≠σ.length+2)).trans e5;have s4:∀A B,((E.set (σ.length+1) A).set (σ.length+2) B)[σ.length+2]?=some B:=fun A B=>cr (by rw[bF];exact l5);have s3:∀A B,((E.set (σ.length+1) A).set (σ.length+2) B)[σ.length+1]?=some A:=fun A B=>by rw[bX (by omega)];exact cr l4
  have f1:=fun A B=>(r1.box e4 (by omega) A).box (s2 A) (by omega) B;have f2:=fun A B=>(((hK0.trans c3).trans r2).set A (a:=σ.length+1) (by omega) (.inr (.inl (by omega)))).set B (a:=σ.length+2) (by omega) (.inr (.inl (by omega)));(refine W.a ?_;simp only[go_sem]);apply W.aS (aT _ _)
  case hc=>
   (apply ae.aq;simp only[go_sem,hE0,s1,s2,e4,e5,az.cs,aJ]);exact ae.nil
  (refine W.a ?_;simp only[go_sem]);exact W.ret ⟨_,_,(by simp only[bA,oD,s3,s4,go_sem];rfl),au,rfl,⟨_,_,_,f1 _ _⟩,f2 _ _⟩
 ·rw[hvf]at hb hy;subst hy;have hb5:b<τ.length:=(aL.1 hb).1;have hbp:b≠p:=by rintro rfl;rw[hq0]at hb;cases hb
  obtain⟨r1,r2⟩:=c2.VN hb0 hb ⟨t.name,aJ f.sub.length⟩;obtain⟨E,hE⟩:∃E,((τ.set b (ad.spare 50 5 (f.vars.length+1))).set p (bK g (f.fresh.gJ ⟨t.name,aJ f.sub.length⟩) z3 y4 (.aG b (f.vars.map az.cs++[(az.mk t.name (aJ f.sub.length)).cs]))))=E:=⟨_,rfl⟩;rw[hvf]at r1 r2;rw[hE]at r1 r2;have hrl:(f.vars.map az.cs).length=f.vars.length:=List.length_map _;have hr5:(∀r∈f.vars.map az.cs,r.length=5)=True:=eq_true (rY f.vars);have b1:(f.vars.length+1)*72<=140737488355328:=by omega
  have b2:f.vars.length+1<=140737488355328:=by omega
  have b3:f.vars.length<=140737488355327:=by omega
  have hsp:∀B,(τ.set b B)[p]?=τ[p]?:=fun B=>bX hbp;have g1:(0:Int)<=(f.vars.length:Int):=by omega
  have g2:(f.vars.length:Int)<((f.vars.length+1:Nat):Int):=by omega
  have hrow:∀r:List C,(f.vars.map az.cs++[r])[f.vars.length]?=some r:=fun r=>by
   rw[cZ (by omega),hrl,cq];rfl
  generalize hR:f.vars.map az.cs=R at*
  (refine W.a ?_;simp only[go_sem,c70,hp]);apply W.aS (aT _ _)
  case hc=>
   (apply ae.aq;simp only[go_sem,hp]);(apply ae.call (hL _ _ _);(case hg=>rfl);(case hf=>rfl);(case ha=>first|rfl|simp));(apply ae.aq;simp only[go_sem]);exact ae.nil
  (refine W.a ?_;simp only[go_sem,gz]);refine W.no rfl (W.a ?_);simp only[go_sem,k1];refine W.yes rfl (W.a ?_);simp only[go_sem];apply W.aS (aT _ _)
  case hc=>
   (apply ae.aq;simp only[go_sem,hp]);(apply ae.call (hV _ _ _);(case hg=>rfl);(case hf=>rfl);(case ha=>first|rfl|simp));(apply ae.aq;simp only[go_sem]);exact ae.nil
  (refine W.a ?_;simp only[go_sem,gy]);refine W.yes rfl (W.a ?_);simp only[go_sem,hp];apply W.aS (aT _ _)
  case hc=>
   (apply ae.aq;simp only[go_sem,hp]);(apply ae.call (c1);(case hg=>rfl);(case hf=>rfl);(case ha=>first|rfl|simp));(apply ae.aq;simp only[go_sem,hp,hq,hq0,hx3,hy3,true_or,hb,hrl,hr5,b1,b2,b3,hsp]);exact ae.nil
  refine W.heap hE ?_;have hE0:=r1.here;unfold bK at hE0;have e4:=r2.cells _ _ _ (by omega) hx4;have e5:=r2.cells _ _ _ (by omega) hx5;have l4:=(aL.1 e4).1;have l5:=(aL.1 e5).1;have s1:=fun A=>(bX (l:=E) (a:=A) (by omega:σ.length+1≠p)).trans hE0;have s2:=fun A=>(bX (l:=E) (a:=A) (by omega:σ.length+1≠σ.length+2)).trans e5;have s4:∀A B,((E.set (σ.length+1) A).set (σ.length+2) B)[σ.length+2]?=some B:=fun A B=>cr (by rw[bF];exact l5);have s3:∀A B,((E.set (σ.length+1) A).set (σ.length+2) B)[σ.length+1]?=some A:=fun A B=>by rw[bX (by omega)];exact cr l4
  have f1:=fun A B=>(r1.box e4 (by omega) A).box (s2 A) (by omega) B;have f2:=fun A B=>(((hK0.trans c3).trans r2).set A (a:=σ.length+1) (by omega) (.inr (.inl (by omega)))).set B (a:=σ.length+2) (by omega) (.inr (.inl (by omega)));(refine W.a ?_;simp only[go_sem]);apply W.aS (aT _ _)
  case hc=>
   (apply ae.aq;simp only[go_sem,hE0,s1,s2,e4,e5,az.cs,aJ,hrl,hrow,g1,g2]);exact ae.nil
  (refine W.a ?_;simp only[go_sem]);exact W.ret ⟨_,_,(by simp only[bA,oD,s3,s4,go_sem];rfl),au,rfl,⟨_,_,_,f1 _ _⟩,f2 _ _⟩
end
section
variable {n0 p:Nat} {σ τ:H} {g:Sg} {f:av} {y3 y4 y5:V}
attribute [local go_sem] aa.v aa.aM a7 bh aW aQ aX
theorem VP(w0:World)(h:bz n0 σ p g f y3 y4 y5)(hn:n0<=σ.length)(hl:f.live=true)(hbl:f.bound.length<=1000000)(t:ah)(h1:t.k≠1)(hlk:cy t.name 0 f.bound=-1){u:aa}(hc:ln g t.name=some u)(hu:aD u<=10000)(hs:f.sub.length+aD u<=999999):
  DC prog w0 70 [.ptr p 0,t.v] σ (gn n0 p g σ (f.renew u) (.ay [(aa.mk 0 t.name 0 []).v,(f.di u).v])):=by
 refine rS.dL rfl (fun hok hsz=>?_);have hp:=fun L=>hG h.here L;unfold bK at hp;have hlt:=h.lt;have k1:(t.k==1)=false:=by simp[h1]
 have hL:=fun a b c=>vd w0 (h.app [a,b,c]).eh hbl t.name;rw[hlk]at hL;have gz:¬(-1:Int)>=0:=by decide
 have hA0:=h.app [.cells t.v.ai,.cells [I 0,S [],I 0,.ab []],.cells [I 0,S [],I 0,.ab []]];have hK0:=(Kept.refl n0 p σ).app hn [.cells t.v.ai,.cells [I 0,S [],I 0,.ab []],.cells [I 0,S [],I 0,.ab []]];have hC:=VI w0 hA0 (bE hn hK0.len) hl t.name hc hu hs;simp only[aa.v,ah.v,V.ai]at hC;(refine W.a ?_;simp only[go_sem,c70,hp]);apply W.aS (aT _ _)
 case hc=>
  (apply ae.aq;simp only[go_sem,hp]);(apply ae.call (hL _ _ _);(case hg=>rfl);(case hf=>rfl);(case ha=>first|rfl|simp));(apply ae.aq;simp only[go_sem]);exact ae.nil
 (refine W.a ?_;simp only[go_sem,gz]);refine W.no rfl (W.a ?_);simp only[go_sem,k1];refine W.no rfl (W.a ?_);simp only[go_sem];(refine W.call (hC) rfl rfl (by first|rfl|simp) ?_);rintro d τ ⟨rfl,⟨z3,c2⟩,c3⟩;have hn2:=bE (bE hn hK0.len) c3.len;have hx3:τ[σ.length]?=some (.cells t.v.ai):=c3.cells _ _ _ (by omega) (Go.Lamb.eM _ _);have hx4:τ[σ.length+1]?=some (.cells [I 0,S [],I 0,.ab []]):=c3.cells _ _ _ (by omega) (Go.Lamb.bT _ _ 1);have hx5:τ[σ.length+2]?=some (.cells [I 0,S [],I 0,.ab []]):=c3.cells _ _ _ (by omega) (Go.Lamb.bT _ _ 2)
 have l3:=(aL.1 hx5).1;simp only[ah.v,V.ai]at hx3;generalize f.di u=v at*
 obtain⟨E,hE⟩:∃E,(τ++[ad.cells v.v.ai])=E:=⟨_,rfl⟩;have r1:=c2.app [ad.cells v.v.ai];have r2:=(Kept.refl n0 p τ).app hn2 [ad.cells v.v.ai];have e8:(τ++[ad.cells v.v.ai])[τ.length]?=some (ad.cells v.v.ai):=Go.Lamb.eM _ _;rw[hE]at r1 r2 e8;simp only[aa.v,V.ai]at e8;have hml:σ.length+2<τ.length:=l3;have e4:=r2.cells _ _ _ (by omega) hx4;have e5:=r2.cells _ _ _ (by omega) hx5;have e3:=r2.cells _ _ _ (by omega) hx3;have l4:=(aL.1 e4).1;have l5:=(aL.1 e5).1;have s1:=fun A=>(bX (l:=E) (a:=A) (by omega:σ.length+1≠σ.length)).trans e3
 have s2:=fun A=>(bX (l:=E) (a:=A) (by omega:σ.length+1≠σ.length+2)).trans e5;have s8:=fun A=>(bX (l:=E) (a:=A) (by omega:σ.length+1≠τ.length)).trans e8;have s4:∀A B,((E.set (σ.length+1) A).set (σ.length+2) B)[σ.length+2]?=some B:=fun A B=>cr (by rw[bF];exact l5);have s3:∀A B,((E.set (σ.length+1) A).set (σ.length+2) B)[σ.length+1]?=some A:=fun A B=>by rw[bX (by omega)];exact cr l4
 have f1:=fun A B=>(r1.box e4 (by omega) A).box (s2 A) (by omega) B;have f2:=fun A B=>(((hK0.trans c3).trans r2).set A (a:=σ.length+1) (by omega) (.inr (.inl (by omega)))).set B (a:=σ.length+2) (by omega) (.inr (.inl (by omega)));(refine W.a ?_;simp only[go_sem]);refine W.no rfl (W.a ?_);simp only[go_sem];refine W.heap hE ?_;apply W.aS (aT _ _)
 case hc=>
  (apply ae.aq;simp only[go_sem,e3,e4,e5,e8,s1,s2,s8]);exact ae.nil
 (refine W.a ?_;simp only[go_sem]);exact W.ret ⟨_,_,(by simp only[bA,oD,s3,s4,go_sem];rfl),au,rfl,⟨_,_,_,f1 _ _⟩,f2 _ _⟩
theorem VQ(w0:World)(h:bz n0 σ p g f y3 y4 y5)(hn:n0<=σ.length)(hbl:f.bound.length<=1000000)(t:ah)(h1:t.k≠1)(hlk:cy t.name 0 f.bound=-1)(hc:ln g t.name=none):
  DC prog w0 70 [.ptr p 0,t.v] σ (gn n0 p g σ (f.fail 120 t.pos) (.ay [(aa.mk 0 t.name 0 []).v,aa.none.v])):=by
 refine rS.dL rfl (fun hok hsz=>?_);have hp:=fun L=>hG h.here L;unfold bK at hp;have hlt:=h.lt;have k1:(t.k==1)=false:=by simp[h1]
 have hL:=fun a b c=>vd w0 (h.app [a,b,c]).eh hbl t.name;rw[hlk]at hL;have gz:¬(-1:Int)>=0:=by decide
 have hA1:=h.app [.cells t.v.ai,.cells [I 0,S [],I 0,.ab []],.cells [I 0,S [],I 0,.ab []]];have hA0:=h.app [.cells t.v.ai,.cells [I 0,S [],I 0,.ab []],.cells [I 0,S [],I 0,.ab []],.cells [I 0,S [],I 0,.c (.sl [])]];have hK0:=(Kept.refl n0 p σ).app hn [.cells t.v.ai,.cells [I 0,S [],I 0,.ab []],.cells [I 0,S [],I 0,.ab []],.cells [I 0,S [],I 0,.c (.sl [])]];have hC:=VH w0 hA1 t.name hc _ rfl;have hF:=Dp w0 hA0 120 t.pos;simp only[aa.v,ah.v,V.ai,aa.none]at hC hF;(refine W.a ?_;simp only[go_sem,c70,hp])
 apply W.aS (aT _ _)
 case hc=>
  (apply ae.aq;simp only[go_sem,hp]);(apply ae.call (hL _ _ _);(case hg=>rfl);(case hf=>rfl);(case ha=>first|rfl|simp));(apply ae.aq;simp only[go_sem]);exact ae.nil
 (refine W.a ?_;simp only[go_sem,gz]);refine W.no rfl (W.a ?_);simp only[go_sem,k1];refine W.no rfl (W.a ?_);simp only[go_sem];(refine W.c1 (hC) ?_;simp only[go_sem]);(refine W.a ?_;simp only[go_sem]);refine W.yes rfl (W.a ?_);simp only[go_sem];(refine W.call (hF) rfl rfl (by first|rfl|simp) ?_);rintro d τ ⟨rfl,c2,c3⟩;have hn2:=bE (bE hn hK0.len) c3.len;have hx3:τ[σ.length]?=some (.cells t.v.ai):=c3.cells _ _ _ (by omega) (Go.Lamb.eM _ _);have hx4:τ[σ.length+1]?=some (.cells [I 0,S [],I 0,.ab []]):=c3.cells _ _ _ (by omega) (Go.Lamb.bT _ _ 1)
 have hx5:τ[σ.length+2]?=some (.cells [I 0,S [],I 0,.ab []]):=c3.cells _ _ _ (by omega) (Go.Lamb.bT _ _ 2);have e8:τ[σ.length+3]?=some (.cells [I 0,S [],I 0,.c (.sl [])]):=c3.cells _ _ _ (by omega) (Go.Lamb.bT _ _ 3);simp only[ah.v,V.ai]at hx3;obtain⟨E,hE⟩:∃E,τ=E:=⟨_,rfl⟩;subst hE;have hE:τ=τ:=rfl;have r1:=c2;have r2:=Kept.refl n0 p τ;have e4:=r2.cells _ _ _ (by omega) hx4;have e5:=r2.cells _ _ _ (by omega) hx5;have e3:=r2.cells _ _ _ (by omega) hx3;have l4:=(aL.1 e4).1;have l5:=(aL.1 e5).1;have s1:=fun A=>(bX (l:=τ) (a:=A) (by omega:σ.length+1≠σ.length)).trans e3
 have s2:=fun A=>(bX (l:=τ) (a:=A) (by omega:σ.length+1≠σ.length+2)).trans e5;have s8:=fun A=>(bX (l:=τ) (a:=A) (by omega:σ.length+1≠σ.length+3)).trans e8;have s4:∀A B,((τ.set (σ.length+1) A).set (σ.length+2) B)[σ.length+2]?=some B:=fun A B=>cr (by rw[bF];exact l5);have s3:∀A B,((τ.set (σ.length+1) A).set (σ.length+2) B)[σ.length+1]?=some A:=fun A B=>by rw[bX (by omega)];exact cr l4
 have f1:=fun A B=>(r1.box e4 (by omega) A).box (s2 A) (by omega) B;have f2:=fun A B=>(((hK0.trans c3).trans r2).set A (a:=σ.length+1) (by omega) (.inr (.inl (by omega)))).set B (a:=σ.length+2) (by omega) (.inr (.inl (by omega)));(refine W.a ?_;simp only[go_sem,aa.none]);apply W.aS (aT _ _)
 case hc=>
  (apply ae.aq;simp only[go_sem,e3,e4,e5,e8,s1,s2,s8]);exact ae.nil
 (refine W.a ?_;simp only[go_sem]);exact W.ret ⟨_,_,(by simp only[bA,oD,s3,s4,go_sem];rfl),au,rfl,⟨_,_,_,f1 _ _⟩,f2 _ _⟩
theorem VR{W:Nat}(w0:World)(hW:∀x∈g.types,aD x.ty<=W)(hW2:W<=10000)(h:bz n0 σ p g f y3 y4 y5)(hn:n0<=σ.length)(hl:f.live=true)(hs:f.sub.length+(W+1)<=999000)(hbl:f.bound.length<=1000000)(hvl:f.vars.length<=1000000)(t:ah):
  DC prog w0 70 [.ptr p 0,t.v] σ (gn n0 p g σ (ib g f t).2.2 (.ay [(ib g f t).1.v,(ib g f t).2.1.v])):=by
 unfold ib;rcases u9 t.name f.bound 0 with hb|⟨i,hi,hb⟩
 ·rw[if_neg (by rw[hb];decide)];by_cases h1:t.k=1
  ·rw[if_pos h1];rcases u9 t.name f.vars 0 with hv|⟨i,hi,hv⟩
   ·have:=VO w0 h hn hl (by omega) hbl hvl t h1 hb hv;unfold kl at this⊢;rw[hv,if_pos (by decide)]at this⊢;exact this
   ·rw[er]at hv;have:=VL w0 h hn hbl hvl t h1 hb i hi hv;unfold kl at this⊢;rw[hv,if_neg (by omega)]at this⊢;exact this
  ·rw[if_neg h1];unfold uX;cases hc:ln g t.name with
   |none=>exact VQ w0 h hn hbl t h1 hb hc
   |some u=>
    have hu:aD u<=W:=by
     unfold ln at hc;split at hc
     ·rename_i x hx;split at hc
      ·injection hc with hc;subst hc;exact hW x (List.mem_of_find?_eq_some hx)
      ·cases hc
     ·cases hc
    exact VP w0 h hn hl hbl t h1 hb hc (by omega) (by omega)
 ·rw[er]at hb;rw[hb,if_pos (by omega)];exact VK w0 h hn hbl t i hi hb
end
section
variable {n0 p:Nat} {σ τ:H} {g:Sg} {f:av} {y3 y4 y5:V}
theorem VS(h:bz n0 σ p g f y3 y4 y5)(hn:n0<=σ.length)(h0:f.bound=[])(x:az):
  bz n0 ((σ++[ad.vec 50 5 x.cs]).set p (bK g (f.push x) y3 (.vec σ.length 1) y5)) p g (f.push x) y3 (.vec σ.length 1) y5/\Kept n0 p σ ((σ++[ad.vec 50 5 x.cs]).set p (bK g (f.push x) y3 (.vec σ.length 1) y5)):=by
 have hA:=h.app [ad.vec 50 5 x.cs];have e:(f.push x).bound=[x]:=by show f.bound++[x]=_;rw[h0];rfl
 have hP:=hA.put (f':=f.push x) (z3:=y3) (z4:=.vec σ.length 1) (z5:=y5) hA.sub (.inr ⟨σ.length,[],hn,by rw[e];rfl,by rw[e];show _=some (ad.vec _ _ (cb [x]++[]));rw[cw];simp only[cb,cx,du,dW,lH,cw];exact Go.Lamb.eM _ _⟩) hA.var;exact⟨hP.1,((Kept.refl n0 p σ).app hn _).trans hP.2⟩
theorem VT{b:Nat}{J:List C}(h:bz n0 σ p g f y3 (.vec b f.bound.length) y5)(hn:n0<=σ.length)(hb0:n0<=b)(hb:σ[b]?=some (.vec 50 5 (cb f.bound++J)))(x:az):
  bz n0 ((σ.set b .gone++[ad.vec 50 5 (cb f.bound++x.cs)]).set p (bK g (f.push x) y3 (.vec σ.length (f.bound.length+1)) y5)) p g (f.push x) y3 (.vec σ.length (f.bound.length+1)) y5/\Kept n0 p σ ((σ.set b .gone++[ad.vec 50 5 (cb f.bound++x.cs)]).set p (bK g (f.push x) y3 (.vec σ.length (f.bound.length+1)) y5)):=by
 have hbl:=(aL.1 hb).1;have hpl:=h.lt;have hne:b≠p:=by rintro rfl;rw[h.here]at hb;cases hb
 have hk:∀(c:Nat) (B:ad),(∀cs tg,B≠ .cells cs tg)->(∀k,B≠ .vec 50 5 k)->σ[c]?=some B->((σ.set b .gone++[ad.vec 50 5 (cb f.bound++x.cs)]).set p (bK g (f.push x) y3 (.vec σ.length (f.bound.length+1)) y5))[c]?=some B:=fun c B h1 h2 hc=>by
  have hcp:p≠c:=by rintro rfl;rw[h.here]at hc;injection hc with hc;exact h1 _ _ hc.symm
  have hcb:b≠c:=by rintro rfl;rw[hb]at hc;injection hc with hc;exact h2 _ hc.symm
  rw[bX hcp,cI (by rw[bF];exact(aL.1 hc).1),bX hcb];exact hc
 have e:(f.push x).bound=f.bound++[x]:=rfl;have hlen:(σ.set b .gone).length=σ.length:=bF ..;refine⟨⟨cr (by rw[bD,hlen];omega),h.le,fun hl=>(h.sub hl).mono fun c d _ hc=>hk c _ (fun _ _ e=>by cases e) (fun _ e=>by cases e) hc,.inr ⟨σ.length,[],hn,by rw[e,bD];rfl,?_⟩,h.var.mono fun c d _ hc=>hk c _ (fun _ _ e=>by cases e) (fun _ e=>by cases e) hc⟩,((((Kept.refl n0 p σ).set ad.gone hb0 (.inr (.inr fun cs tg e=>by rw[hb]at e;cases e))).app hn _).set _ h.le (.inl rfl))⟩;rw[bX (by omega),cZ (by rw[hlen];exact aA _),hlen,cq,e,LC,cw]
 rfl
theorem LQ{b:Nat}{J:List C}{l:List az}{x:az}(h:bz n0 σ p g f y3 y4 y5)(hl:f.bound=l++[x])(hb0:n0<=b)(hb:σ[b]?=some (.vec 50 5 (cb f.bound++J))):
  bz n0 (σ.set p (bK g f.pop y3 (.vec b l.length) y5)) p g f.pop y3 (.vec b l.length) y5/\Kept n0 p σ (σ.set p (bK g f.pop y3 (.vec b l.length) y5)):=by
 have e:f.pop.bound=l:=by show f.bound.dropLast=l;rw[hl,List.dropLast_concat]
 exact h.put (f':=f.pop) h.sub (.inr ⟨b,x.cs++J,hb0,by rw[e],by rw[e,hb,hl,LC,List.append_assoc]⟩) h.var
end
def LR(v:Int)(gs:List aa)(any:Bool):V:=.agg [I v,.c (.sl (gs.map aa.cs)),B any]
attribute [local go_sem] aa.v aa.aM a7 bh aW aQ aX LR
end Go.Proofs.YtdlkenpilhakfaaGreatDoor
namespace Go.Proofs.YtdlkenpilhakfaaGreatDoor
open Go.RowKit Go.Lamb
attribute [local go_sem] aa.v aa.aM a7 bh aW aQ aX LR
theorem ve(w0:World)(t:aa)(σ:H):DC prog w0 118 [I 1,t.v] σ (Same (bJ t).v σ):=by
 refine Kl.go rfl (fun hok hsz=>?_);have hw:aN.wrap (0+1)=1:=by decide
 ((try refine W.a ?_);simp only[go_sem,Ck]);refine W.bB (α:=Bool) (fun _=>True) (fun d=>⟨((((base.put (some 3) (.ptr σ.length 0)).put (some 4) (.ptr (σ.length+1) 0)).put (some 6) (I 1)).put (some 7) (I (if d then 1 else 0))),σ++[.cells (if d then(bJ t).v.ai else t.v.ai),.cells [I 0,S [],I 0,.ab []]]⟩) (fun d=>if d then 0 else 1) false trivial ?_ (fun d _=>?_)
 ·simp only[fe,if_false];(refine ao.env ?_;exact aF)
 cases d
 ·simp only[fe,if_false];((try refine W.a ?_);simp only[go_sem]);refine W.yes rfl (W.a ?_);simp only[go_sem,hw];refine .inv ⟨true,by simp,?_⟩;simp only[if_true,bJ];simp only[go_sem];(refine ao.eN (hok) ?_ (by simp) (by simp) ?_ ?_ ?_;exact aF;((try simp only[okB,bx,go_sem])<;>omega);(simp only[bk,cN,Nat.reduceAdd,List.take_succ_cons,List.take_zero,bx,and_true];(repeat' (refine And.intro ?_ ?_))<;>(first|exact ad.wk.rfl _|exact ad.wk.gone _|(refine ad.eO ?_ rfl;(exact au))));(repeat' (first|exact aZ.base _|(refine aZ.put ?_ (by first|exact .c _|((try simp only[okB,bx,go_sem])<;>omega))))))
 ·simp only[if_true];((try refine W.a ?_);simp only[go_sem]);refine W.no rfl (W.a ?_);simp only[go_sem,bJ];(refine W.fs (hok) (by simp only[Cl,go_sem];rfl) ?_;simp only[al];try exact V.wk.rfl _)
  all_goals (all_goals exact au)
end Go.Proofs.YtdlkenpilhakfaaGreatDoor
namespace Go.Proofs.YtdlkenpilhakfaaGreatDoor
open Go.RowKit Go.Lamb
section
variable {n0 p:Nat} {σ τ:H} {g:Sg} {f:av} {y3 y4 y5:V}
attribute [local go_sem] aa.v aa.aM a7 bh aW aQ aX
theorem VU(w0:World)(h:bz n0 σ p g f y3 y4 y5)(hn:n0<=σ.length)(hl:f.live=true)(hs:f.sub.length<=999999)(hbl:f.bound.length<=1000000)(nm:aY)(n:Int)(b:ah)(pos:Int)(r:aa×aa×av)
  (hrb:r.2.2.bound=f.bound++[⟨nm,aJ f.sub.length⟩])
  (hrec:∀{E:H} {z3 z4 z5:V},bz n0 E p g (f.fresh.push ⟨nm,aJ f.sub.length⟩) z3 z4 z5->n0<=E.length->DC prog w0 25 [.ptr p 0,b.v] E (gn n0 p g E r.2.2 (.ay [r.1.v,r.2.1.v]))):
  DC prog w0 66 [.ptr p 0,(ah.mk 4 nm n [b] pos).v] σ (gn n0 p g σ (nB (aJ f.sub.length) r).2.2 (.ay [(nB (aJ f.sub.length) r).1.v,(nB (aJ f.sub.length) r).2.1.v])):=by
 refine Lk.dL rfl (fun hok hsz=>?_);have hlt:=h.lt;have hA0:=h.app [.cells (ah.mk 4 nm n [b] pos).v.ai,.cells [I 0,S [],I 0,.ab []],.cells [I 0,S [],I 0,.ab []]];have hK0:=(Kept.refl n0 p σ).app hn [.cells (ah.mk 4 nm n [b] pos).v.ai,.cells [I 0,S [],I 0,.ab []],.cells [I 0,S [],I 0,.ab []]];obtain⟨τ,c1,c2,c3⟩:=sb w0 hA0 (bE hn hK0.len) hl hs;have hn1:n0<=τ.length:=bE (bE hn hK0.len) c3.len;have hx3:τ[σ.length]?=some (.cells (ah.mk 4 nm n [b] pos).v.ai):=c3.cells _ _ _ (by omega) (Go.Lamb.eM _ _)
 have hx4:τ[σ.length+1]?=some (.cells [I 0,S [],I 0,.ab []]):=c3.cells _ _ _ (by omega) (Go.Lamb.bT _ _ 1);have hx5:τ[σ.length+2]?=some (.cells [I 0,S [],I 0,.ab []]):=c3.cells _ _ _ (by omega) (Go.Lamb.bT _ _ 2);have l3:=(aL.1 hx5).1;have hpt:=c2.lt;generalize hz3:(V.vec (σ++[ad.cells (ah.mk 4 nm n [b] pos).v.ai,ad.cells [I 0,S [],I 0,.ab []],ad.cells [I 0,S [],I 0,.ab []]]).length (f.sub.length+1))=z3 at*
 have hfb:f.fresh.bound=f.bound:=rfl;generalize aJ f.sub.length=v at*
 simp only[aa.v,ah.v,V.ai,xb,xc,xd,xe,pos_mk,cx,du,ah.aM]at c1 hx3;obtain⟨E1,hE1⟩:∃E,(τ++[ad.cells v.v.ai])=E:=⟨_,rfl⟩;have q1:=c2.app [ad.cells v.v.ai];have q2:=(Kept.refl n0 p τ).app hn1 [ad.cells v.v.ai];have x6:(τ++[ad.cells v.v.ai])[τ.length]?=some (ad.cells v.v.ai):=Go.Lamb.eM _ _;have hE1l:(τ++[ad.cells v.v.ai]).length=τ.length+1:=by simp
 rw[hE1]at q1 q2 x6 hE1l;have x3:=q2.cells _ _ _ (by omega) hx3;have x4:=q2.cells _ _ _ (by omega) hx4;have x5:=q2.cells _ _ _ (by omega) hx5;have hn1:n0<=E1.length:=by omega
 have hq0:=q1.here;have hq:=fun L=>hG q1.here L;unfold bK at hq0 hq;simp only[aa.v,V.ai]at x6;rcases q1.eh with⟨h0,hy⟩|⟨b0,J,hb0,hy,hb⟩
 ·subst hy;rw[hfb]at h0;obtain⟨r1,r2⟩:=VS q1 hn1 h0 ⟨nm,v⟩;obtain⟨E2,hE2⟩:∃E,((E1++[ad.vec 50 5 (az.mk nm v).cs]).set p (bK g (f.fresh.push ⟨nm,v⟩) z3 (.vec E1.length 1) y5))=E:=⟨_,rfl⟩;rw[hE2]at r1 r2;(refine W.a ?_;simp only[go_sem,yF]);(refine W.c1 (c1) ?_;simp only[go_sem]);(refine W.a ?_;simp only[go_sem]);refine W.heap hE1 ?_;apply W.aS (aT _ _)
  case hc=>
   iterate 9 (apply ae.quiet (dJ.step rfl (by(simp only[go_sem,hq0,x3,x6]);rfl));case hp=>(intro τ hτ;simp at hτ))
   apply ae.bL
   case h=>exact fh.vec (x:=.t 15) (y:=.t 20) (e:=50) (size:=5) (bytes:=72) (olds:=[]) (news:=[(az.mk nm v).cs]) rfl rfl rfl rfl ⟨by simp,(fun r hr=>by cases hr),(fun r hr=>by simp at hr;subst hr;rfl),by simp,by simp⟩
   (apply ae.aq;simp only[go_sem,dW,lH,az.cs,hq]);exact ae.nil
  have e3:=r2.cells _ _ _ (by omega) x3;have e4:=r2.cells _ _ _ (by omega) x4;have e5:=r2.cells _ _ _ (by omega) x5;have e6:=r2.cells _ _ _ (by omega) x6;have hE0:=r1.here;unfold bK at hE0;have hR:=hrec r1 (bE hn1 r2.len);refine W.heap hE2 ?_;clear hE2 hE1;(refine W.a ?_;simp only[go_sem,e3,hE0]);(refine W.call (hR) rfl rfl (by first|rfl|simp) ?_);rintro d τ2 ⟨rfl,⟨w3,w4,w5,d2⟩,d3⟩;have k3:=d3.cells _ _ _ (by omega) e3;have k4:=d3.cells _ _ _ (by omega) e4;have k5:=d3.cells _ _ _ (by omega) e5;have k6:=d3.cells _ _ _ (by omega) e6
  have hn2:n0<=τ2.length:=bE (bE hn1 r2.len) d3.len;have l6:=(aL.1 k6).1;obtain⟨E3,hE3⟩:∃E,(τ2++[ad.cells r.1.v.ai,ad.cells r.2.1.v.ai])=E:=⟨_,rfl⟩;have d4:=d2.app [ad.cells r.1.v.ai,ad.cells r.2.1.v.ai];have d5:=(Kept.refl n0 p τ2).app hn2 [ad.cells r.1.v.ai,ad.cells r.2.1.v.ai];have j7:(τ2++[ad.cells r.1.v.ai,ad.cells r.2.1.v.ai])[τ2.length]?=some (ad.cells r.1.v.ai):=Go.Lamb.eM _ _;have j8:(τ2++[ad.cells r.1.v.ai,ad.cells r.2.1.v.ai])[τ2.length+1]?=some (ad.cells r.2.1.v.ai):=Go.Lamb.bT _ _ 1
  rw[hE3]at d4 d5 j7 j8;have hE30:=d4.here;unfold bK at hE30;have hE3l:=(aL.1 j8).1;rcases d4.eh with⟨hb0,_⟩|⟨b3,J3,hbn,hw4,hb3⟩
  ·rw[hrb]at hb0;simp at hb0
  subst hw4;have hbl1:r.2.2.bound.length=f.bound.length+1:=by rw[hrb,bD];rfl
  obtain⟨p1,p2⟩:=LQ d4 hrb hbn hb3;obtain⟨E4,hE4⟩:∃E,(E3.set p (bK g r.2.2.pop w3 (.vec b3 f.bound.length) w5))=E:=⟨_,rfl⟩;rw[hE4]at p1 p2;rw[hbl1]at hE30;have m3:=d5.trans p2;have t3:=m3.cells _ _ _ (by omega) k3;have t4:=m3.cells _ _ _ (by omega) k4;have t5:=m3.cells _ _ _ (by omega) k5;have t6:=m3.cells _ _ _ (by omega) k6;have t7:=p2.cells _ _ _ (by omega) j7;have t8:=p2.cells _ _ _ (by omega) j8;have hw1:aN.wrap ((f.bound.length:Int)+1-1)=(f.bound.length:Int):=by rw[bn]<;>omega
  have hw2:aN.wrap (((f.bound.length+1:Nat):Int)-1)=(f.bound.length:Int):=by rw[bn]<;>omega
  have g1:(0:Int)<=(f.bound.length:Int):=by omega
  have g2:f.bound.length<=f.bound.length+1:=by omega
  have g3:(f.bound.length:Int)<=((f.bound.length+1:Nat):Int):=by omega
  (refine W.a ?_;simp only[go_sem]);refine W.heap hE3 ?_;apply W.aS (aT _ _)
  case hc=>
   (apply ae.aq;simp only[go_sem,hE30,hw1,hw2,g1,g2,g3]);exact ae.nil
  refine W.heap hE4 ?_;have hL:=fun σ=>ve w0 r.1 σ;have hAr:=fun σ=>B5 w0 r.2.1 v σ;have l4:=(aL.1 t4).1;have l5:=(aL.1 t5).1;have s5:=fun A=>(bX (l:=E4) (a:=A) (by omega:σ.length+1≠σ.length+2)).trans t5;have s4:∀A B,((E4.set (σ.length+1) A).set (σ.length+2) B)[σ.length+2]?=some B:=fun A B=>cr (by rw[bF];exact l5);have s3:∀A B,((E4.set (σ.length+1) A).set (σ.length+2) B)[σ.length+1]?=some A:=fun A B=>by rw[bX (by omega)];exact cr l4
  have f1:=fun A B=>(p1.box t4 (by omega) A).box (s5 A) (by omega) B;have f2:=fun A B=>(((((((hK0.trans c3).trans q2).trans r2).trans d3).trans d5).trans p2).set A (a:=σ.length+1) (by omega) (.inr (.inl (by omega)))).set B (a:=σ.length+2) (by omega) (.inr (.inl (by omega)));simp only[nB];generalize bJ r.1=z at*;generalize aa.arr v r.2.1=y at*;generalize r.2.1=u at*;generalize r.1=x at*
  (refine W.a ?_;simp only[go_sem]);apply W.aS (aT _ _)
  case hc=>
   (apply ae.aq;simp only[go_sem,t7,t8,t6]);(apply ae.call (hL _);(case hg=>rfl);(case hf=>rfl);(case ha=>first|rfl|simp));(apply ae.aq;simp only[go_sem,t7,t8,t6]);(apply ae.qT (hAr _);(case hg=>rfl);(case hf=>rfl);(case ha=>rfl);(case hw=>((exact au))));(apply ae.aq;simp only[go_sem,t4,s5]);exact ae.nil
  (refine W.a ?_;simp only[go_sem]);exact W.ret ⟨_,_,(by simp only[bA,yG,s3,s4,go_sem];rfl),au,rfl,⟨_,_,_,f1 _ _⟩,f2 _ _⟩
 ·rw[hfb]at hy hb;subst hy;have hbp:b0≠p:=by rintro rfl;rw[hq0]at hb;cases hb
  obtain⟨r1,r2⟩:=VT (f:=f.fresh) q1 hn1 hb0 hb ⟨nm,v⟩;rw[hfb]at r1 r2;obtain⟨E2,hE2⟩:∃E,((E1.set b0 .gone++[ad.vec 50 5 (cb f.bound++(az.mk nm v).cs)]).set p (bK g (f.fresh.push ⟨nm,v⟩) z3 (.vec E1.length (f.bound.length+1)) y5))=E:=⟨_,rfl⟩;rw[hE2]at r1 r2;have hnl:=pZ f.bound;have hle:f.bound.length*5<=(cb f.bound).length+J.length:=by omega
  have htake:List.take (f.bound.length*5) (cb f.bound++J)=cb f.bound:=by rw[<-hnl];exact List.take_left
  have b1:(f.bound.length+1)*72<=140737488355328:=by omega
  have b2:f.bound.length+1<=140737488355328:=by omega
  have b3:f.bound.length<=140737488355327:=by omega
  have hsp:∀L,(E1.set b0 .gone++L)[p]?=E1[p]?:=fun L=>by rw[cI (by rw[bF];exact q1.lt),bX hbp]
  (refine W.a ?_;simp only[go_sem,yF]);(refine W.c1 (c1) ?_;simp only[go_sem]);(refine W.a ?_;simp only[go_sem]);refine W.heap hE1 ?_;apply W.aS (aT _ _)
  case hc=>
   (apply ae.aq;simp only[go_sem,hq0,x3,x6,hb,hle,htake,b1,b2,b3,hsp,dW,lH,az.cs,ne_eq,not_false_eq_true]);exact ae.nil
  have e3:=r2.cells _ _ _ (by omega) x3;have e4:=r2.cells _ _ _ (by omega) x4;have e5:=r2.cells _ _ _ (by omega) x5;have e6:=r2.cells _ _ _ (by omega) x6;have hE0:=r1.here;unfold bK at hE0;have hR:=hrec r1 (bE hn1 r2.len);refine W.heap hE2 ?_;clear hE2 hE1;(refine W.a ?_;simp only[go_sem,e3,hE0]);(refine W.call (hR) rfl rfl (by first|rfl|simp) ?_);rintro d τ2 ⟨rfl,⟨w3,w4,w5,d2⟩,d3⟩;have k3:=d3.cells _ _ _ (by omega) e3;have k4:=d3.cells _ _ _ (by omega) e4;have k5:=d3.cells _ _ _ (by omega) e5;have k6:=d3.cells _ _ _ (by omega) e6
  have hn2:n0<=τ2.length:=bE (bE hn1 r2.len) d3.len;have l6:=(aL.1 k6).1;obtain⟨E3,hE3⟩:∃E,(τ2++[ad.cells r.1.v.ai,ad.cells r.2.1.v.ai])=E:=⟨_,rfl⟩;have d4:=d2.app [ad.cells r.1.v.ai,ad.cells r.2.1.v.ai];have d5:=(Kept.refl n0 p τ2).app hn2 [ad.cells r.1.v.ai,ad.cells r.2.1.v.ai];have j7:(τ2++[ad.cells r.1.v.ai,ad.cells r.2.1.v.ai])[τ2.length]?=some (ad.cells r.1.v.ai):=Go.Lamb.eM _ _;have j8:(τ2++[ad.cells r.1.v.ai,ad.cells r.2.1.v.ai])[τ2.length+1]?=some (ad.cells r.2.1.v.ai):=Go.Lamb.bT _ _ 1
  rw[hE3]at d4 d5 j7 j8;have hE30:=d4.here;unfold bK at hE30;have hE3l:=(aL.1 j8).1;rcases d4.eh with⟨hb0,_⟩|⟨b3,J3,hbn,hw4,hb3⟩
  ·rw[hrb]at hb0;simp at hb0
  subst hw4;have hbl1:r.2.2.bound.length=f.bound.length+1:=by rw[hrb,bD];rfl
  obtain⟨p1,p2⟩:=LQ d4 hrb hbn hb3;obtain⟨E4,hE4⟩:∃E,(E3.set p (bK g r.2.2.pop w3 (.vec b3 f.bound.length) w5))=E:=⟨_,rfl⟩;rw[hE4]at p1 p2;rw[hbl1]at hE30;have m3:=d5.trans p2;have t3:=m3.cells _ _ _ (by omega) k3;have t4:=m3.cells _ _ _ (by omega) k4;have t5:=m3.cells _ _ _ (by omega) k5;have t6:=m3.cells _ _ _ (by omega) k6;have t7:=p2.cells _ _ _ (by omega) j7;have t8:=p2.cells _ _ _ (by omega) j8;have hw1:aN.wrap ((f.bound.length:Int)+1-1)=(f.bound.length:Int):=by rw[bn]<;>omega
  have hw2:aN.wrap (((f.bound.length+1:Nat):Int)-1)=(f.bound.length:Int):=by rw[bn]<;>omega
  have g1:(0:Int)<=(f.bound.length:Int):=by omega
  have g2:f.bound.length<=f.bound.length+1:=by omega
  have g3:(f.bound.length:Int)<=((f.bound.length+1:Nat):Int):=by omega
  (refine W.a ?_;simp only[go_sem]);refine W.heap hE3 ?_;apply W.aS (aT _ _)
  case hc=>
   (apply ae.aq;simp only[go_sem,hE30,hw1,hw2,g1,g2,g3]);exact ae.nil
  refine W.heap hE4 ?_;have hL:=fun σ=>ve w0 r.1 σ;have hAr:=fun σ=>B5 w0 r.2.1 v σ;have l4:=(aL.1 t4).1;have l5:=(aL.1 t5).1;have s5:=fun A=>(bX (l:=E4) (a:=A) (by omega:σ.length+1≠σ.length+2)).trans t5;have s4:∀A B,((E4.set (σ.length+1) A).set (σ.length+2) B)[σ.length+2]?=some B:=fun A B=>cr (by rw[bF];exact l5);have s3:∀A B,((E4.set (σ.length+1) A).set (σ.length+2) B)[σ.length+1]?=some A:=fun A B=>by rw[bX (by omega)];exact cr l4
  have f1:=fun A B=>(p1.box t4 (by omega) A).box (s5 A) (by omega) B;have f2:=fun A B=>(((((((hK0.trans c3).trans q2).trans r2).trans d3).trans d5).trans p2).set A (a:=σ.length+1) (by omega) (.inr (.inl (by omega)))).set B (a:=σ.length+2) (by omega) (.inr (.inl (by omega)));simp only[nB];generalize bJ r.1=z at*;generalize aa.arr v r.2.1=y at*;generalize r.2.1=u at*;generalize r.1=x at*
  (refine W.a ?_;simp only[go_sem]);apply W.aS (aT _ _)
  case hc=>
   (apply ae.aq;simp only[go_sem,t7,t8,t6]);(apply ae.call (hL _);(case hg=>rfl);(case hf=>rfl);(case ha=>first|rfl|simp));(apply ae.aq;simp only[go_sem,t7,t8,t6]);(apply ae.qT (hAr _);(case hg=>rfl);(case hf=>rfl);(case ha=>rfl);(case hw=>((exact au))));(apply ae.aq;simp only[go_sem,t4,s5]);exact ae.nil
  (refine W.a ?_;simp only[go_sem]);exact W.ret ⟨_,_,(by simp only[bA,yG,s3,s4,go_sem];rfl),au,rfl,⟨_,_,_,f1 _ _⟩,f2 _ _⟩
end
section
variable {n0 p:Nat} {σ τ:H} {g:Sg} {f:av} {y3 y4 y5:V}
attribute [local go_sem] aa.v aa.aM a7 bh aW aQ aX
theorem VV(w0:World)(h:bz n0 σ p g f y3 y4 y5)(hn:n0<=σ.length)(he:f.e=0)(nm:aY)(n:Int)(a b:ah)(pos:Int)(r q:aa×aa×av)
  (hra:∀{E:H} {z3 z4 z5:V},bz n0 E p g f z3 z4 z5->n0<=E.length->DC prog w0 25 [.ptr p 0,a.v] E (gn n0 p g E r.2.2 (.ay [r.1.v,r.2.1.v])))
  (hrb:∀{E:H} {z3 z4 z5:V},bz n0 E p g r.2.2 z3 z4 z5->n0<=E.length->DC prog w0 25 [.ptr p 0,b.v] E (gn n0 p g E q.2.2 (.ay [q.1.v,q.2.1.v])))
  (hq:q.2.2.e=0->q.2.2.live=true/\q.2.2.sub.length<=999999/\ck 100000 q.2.2.fresh.sub/\ef q.2.2.fresh.sub.length 100000 (r.2.1,.arr q.2.1 (aJ q.2.2.sub.length))) (hrl:r.1.l.length<=100000000):
  DC prog w0 25 [.ptr p 0,(ah.mk 3 nm n [a,b] pos).v] σ (gn n0 p g σ (iX pos r q).2.2 (.ay [(iX pos r q).1.v,(iX pos r q).2.1.v])):=by
 refine uG.dL rfl (fun hok hsz=>?_);have hlt:=h.lt;have hp:=fun L=>hG h.here L;unfold bK at hp;have k0:(f.e !=0)=false:=by simp[he]
 have hA0:=h.app [.cells [.c (.int .i64 3),.c (.str nm),.c (.int .i64 n),.c (.sl [[.int .i64 a.k,.str a.name,.int .i64 a.n,.sl (a.l.map ah.cs),.int .i64 a.pos],[.int .i64 b.k,.str b.name,.int .i64 b.n,.sl (b.l.map ah.cs),.int .i64 b.pos]]),.c (.int .i64 pos)],.cells [I 0,S [],I 0,.ab []],.cells [I 0,S [],I 0,.ab []]];have hK0:=(Kept.refl n0 p σ).app hn [.cells [.c (.int .i64 3),.c (.str nm),.c (.int .i64 n),.c (.sl [[.int .i64 a.k,.str a.name,.int .i64 a.n,.sl (a.l.map ah.cs),.int .i64 a.pos],[.int .i64 b.k,.str b.name,.int .i64 b.n,.sl (b.l.map ah.cs),.int .i64 b.pos]]),.c (.int .i64 pos)],.cells [I 0,S [],I 0,.ab []],.cells [I 0,S [],I 0,.ab []]]
 have hR1:=hra hA0 (bE hn hK0.len);simp only[aa.v,ah.v,V.ai,xb,xc,xd,xe,pos_mk,cx,du,ah.aM]at hR1;(refine W.a ?_;simp only[go_sem,pY,hp,k0]);refine W.no rfl (W.a ?_);simp only[go_sem];refine W.no rfl (W.a ?_);simp only[go_sem];refine W.no rfl (W.a ?_);simp only[go_sem];refine W.yes rfl (W.a ?_);simp only[go_sem];(refine W.call (hR1) rfl rfl (by first|rfl|simp) ?_);rintro d τ1 ⟨rfl,⟨u3,u4,u5,c2⟩,c3⟩;have hn1:n0<=τ1.length:=bE (bE hn hK0.len) c3.len;have a3:τ1[σ.length]?=some (.cells [.c (.int .i64 3),.c (.str nm),.c (.int .i64 n),.c (.sl [[.int .i64 a.k,.str a.name,.int .i64 a.n,.sl (a.l.map ah.cs),.int .i64 a.pos],[.int .i64 b.k,.str b.name,.int .i64 b.n,.sl (b.l.map ah.cs),.int .i64 b.pos]]),.c (.int .i64 pos)]):=c3.cells _ _ _ (by omega) (Go.Lamb.eM _ _)
 have a4:τ1[σ.length+1]?=some (.cells [I 0,S [],I 0,.ab []]):=c3.cells _ _ _ (by omega) (Go.Lamb.bT _ _ 1);have a5:τ1[σ.length+2]?=some (.cells [I 0,S [],I 0,.ab []]):=c3.cells _ _ _ (by omega) (Go.Lamb.bT _ _ 2);have l3:=(aL.1 a5).1;have hpt1:=c2.lt;obtain⟨E1,hE1⟩:∃E,(τ1++[ad.cells r.1.v.ai,ad.cells r.2.1.v.ai])=E:=⟨_,rfl⟩;have d4:=c2.app [ad.cells r.1.v.ai,ad.cells r.2.1.v.ai];have d5:=(Kept.refl n0 p τ1).app hn1 [ad.cells r.1.v.ai,ad.cells r.2.1.v.ai];have b6:(τ1++[ad.cells r.1.v.ai,ad.cells r.2.1.v.ai])[τ1.length]?=some (ad.cells r.1.v.ai):=Go.Lamb.eM _ _
 have b7:(τ1++[ad.cells r.1.v.ai,ad.cells r.2.1.v.ai])[τ1.length+1]?=some (ad.cells r.2.1.v.ai):=Go.Lamb.bT _ _ 1;rw[hE1]at d4 d5 b6 b7;have b3:=d5.cells _ _ _ (by omega) a3;have b4:=d5.cells _ _ _ (by omega) a4;have b5:=d5.cells _ _ _ (by omega) a5;have hn2:n0<=E1.length:=bE hn1 d5.len;have hR2:=hrb d4 hn2;simp only[aa.v,ah.v,V.ai,xb,xc,xd,xe,pos_mk,cx,du,ah.aM]at hR2;have a3L:=fun L=>hG a3 L;(refine W.a ?_;simp only[go_sem,a3L]);refine W.heap hE1 ?_;clear hE1;(refine W.call (hR2) rfl rfl (by first|rfl|simp) ?_)
 rintro d τ2 ⟨rfl,⟨v3,v4,v5,e2⟩,e3⟩;have hn3:n0<=τ2.length:=bE hn2 e3.len;have g3:=e3.cells _ _ _ (by omega) b3;have g4:=e3.cells _ _ _ (by omega) b4;have g5:=e3.cells _ _ _ (by omega) b5;have g6:=e3.cells _ _ _ (by omega) b6;have g7:=e3.cells _ _ _ (by omega) b7;have l7:=(aL.1 g7).1;have hpt2:=e2.lt;obtain⟨E2,hE2⟩:∃E,(τ2++[ad.cells q.1.v.ai,ad.cells q.2.1.v.ai])=E:=⟨_,rfl⟩;have e4:=e2.app [ad.cells q.1.v.ai,ad.cells q.2.1.v.ai];have e5:=(Kept.refl n0 p τ2).app hn3 [ad.cells q.1.v.ai,ad.cells q.2.1.v.ai]
 have i8:(τ2++[ad.cells q.1.v.ai,ad.cells q.2.1.v.ai])[τ2.length]?=some (ad.cells q.1.v.ai):=Go.Lamb.eM _ _;have i9:(τ2++[ad.cells q.1.v.ai,ad.cells q.2.1.v.ai])[τ2.length+1]?=some (ad.cells q.2.1.v.ai):=Go.Lamb.bT _ _ 1;rw[hE2]at e4 e5 i8 i9;have i3:=e5.cells _ _ _ (by omega) g3;have i4:=e5.cells _ _ _ (by omega) g4;have i5:=e5.cells _ _ _ (by omega) g5;have i6:=e5.cells _ _ _ (by omega) g6;have i7:=e5.cells _ _ _ (by omega) g7;have l9:=(aL.1 i9).1;have hn4:n0<=E2.length:=bE hn3 e5.len;have hE20:=e4.here
 unfold bK at hE20;have hKE2:=((((hK0.trans c3).trans d5).trans e3).trans e5);have hE2L:=fun L=>hG e2.here L;unfold bK at hE2L;unfold iX;by_cases hqe:q.2.2.e=0
 ·rw[if_neg (not_not_intro hqe)];have k1:(q.2.2.e !=0)=false:=by simp[hqe]
  obtain⟨q1,q2,q3,q4⟩:=hq hqe;obtain⟨τ3,m1,m2,m3⟩:=sb w0 e4 hn4 q1 q2;have hn5:n0<=τ3.length:=bE hn4 m3.len;generalize hz3:(V.vec E2.length (q.2.2.sub.length+1))=z3 at*
  have j3:=m3.cells _ _ _ (by omega) i3;have j4:=m3.cells _ _ _ (by omega) i4;have j5:=m3.cells _ _ _ (by omega) i5;have j6:=m3.cells _ _ _ (by omega) i6;have j7:=m3.cells _ _ _ (by omega) i7;have j8:=m3.cells _ _ _ (by omega) i8;have j9:=m3.cells _ _ _ (by omega) i9;have l9':=(aL.1 j9).1;have hql:q.2.2.fresh.sub.length=q.2.2.sub.length+1:=q.2.2.p9;have hfl:q.2.2.fresh.live=true:=q1;generalize hV:aJ q.2.2.sub.length=v at*;obtain⟨E3,hE3⟩:∃E,(τ3++[ad.cells v.v.ai])=E:=⟨_,rfl⟩;have m4:=m2.app [ad.cells v.v.ai]
  have m5:=(Kept.refl n0 p τ3).app hn5 [ad.cells v.v.ai];have n10:(τ3++[ad.cells v.v.ai])[τ3.length]?=some (ad.cells v.v.ai):=Go.Lamb.eM _ _;rw[hE3]at m4 m5 n10;have n3:=m5.cells _ _ _ (by omega) j3;have n4:=m5.cells _ _ _ (by omega) j4;have n5:=m5.cells _ _ _ (by omega) j5;have n6:=m5.cells _ _ _ (by omega) j6;have n7:=m5.cells _ _ _ (by omega) j7;have n8:=m5.cells _ _ _ (by omega) j8;have n9:=m5.cells _ _ _ (by omega) j9;have l10:=(aL.1 n10).1;have hn6:n0<=E3.length:=bE hn5 m5.len;obtain⟨τ4,w3,o1,o2,o3⟩:=LG w0 m4 hn6 hfl (by omega) q3 q4
  have hAr:=fun σ=>B5 w0 v q.2.1 σ;have hAp:=fun σ=>ui w0 r.1 [q.1] (by simp only[bk,cN];omega) σ;simp only[cx,du,aa.aM]at hAp;have x3:=o3.cells _ _ _ (by omega) n3;have x4:=o3.cells _ _ _ (by omega) n4;have x5:=o3.cells _ _ _ (by omega) n5;have x6:=o3.cells _ _ _ (by omega) n6;have x8:=o3.cells _ _ _ (by omega) n8;have x10:=o3.cells _ _ _ (by omega) n10;have hKE4:=(((hKE2.trans m3).trans m5).trans o3);simp only[aa.v,V.ai]at m1 o1 n7 n9 n10 x6 x8 x10;generalize aa.arr q.2.1 v=ar at*
  (refine W.a ?_;simp only[go_sem,hE2L,k1]);refine W.heap hE2 ?_;refine W.no rfl (W.a ?_);simp only[go_sem];(refine W.c1 (m1) ?_;simp only[go_sem]);(refine W.a ?_;simp only[go_sem]);refine W.heap hE3 ?_;apply W.aS (aT _ _)
  case hc=>
   (apply ae.aq;simp only[go_sem,n9,n10,n7]);(apply ae.qT (hAr _);(case hg=>rfl);(case hf=>rfl);(case ha=>rfl);(case hw=>((exact au))));(apply ae.aq;simp only[go_sem,n9,n10,n7]);(apply ae.call (o1);(case hg=>rfl);(case hf=>rfl);(case ha=>first|rfl|simp));(apply ae.aq;simp only[go_sem]);exact ae.nil
  cases hob:q.2.2.fresh.lk r.2.1 ar
  ·rw[if_neg (by simp)];have hF:=Dp w0 o2 121 pos;(refine W.a ?_;simp only[go_sem]);refine W.yes rfl (W.a ?_);simp only[go_sem,x3];(refine W.call (hF) rfl rfl (by first|rfl|simp) ?_);rintro d τ5 ⟨rfl,p2,p3⟩;have t4:=p3.cells _ _ _ (by omega) x4;have t5:=p3.cells _ _ _ (by omega) x5;have t6:=p3.cells _ _ _ (by omega) x6;have t8:=p3.cells _ _ _ (by omega) x8;have t10:=p3.cells _ _ _ (by omega) x10;(refine W.a ?_;simp only[go_sem]);have l4:=(aL.1 t4).1;have l5:=(aL.1 t5).1;have s5:=fun A=>(bX (l:=τ5) (a:=A) (by omega:σ.length+1≠σ.length+2)).trans t5
   have s4:∀A B,((τ5.set (σ.length+1) A).set (σ.length+2) B)[σ.length+2]?=some B:=fun A B=>cr (by rw[bF];exact l5);have s3:∀A B,((τ5.set (σ.length+1) A).set (σ.length+2) B)[σ.length+1]?=some A:=fun A B=>by rw[bX (by omega)];exact cr l4
   have f1:=fun A B=>((p2).box t4 (by omega) A).box (s5 A) (by omega) B;have f2:=fun A B=>((hKE4.trans p3).set A (a:=σ.length+1) (by omega) (.inr (.inl (by omega)))).set B (a:=σ.length+2) (by omega) (.inr (.inl (by omega)));have s10:=fun A=>(bX (l:=τ5) (a:=A) (by omega:σ.length+1≠τ3.length)).trans t10;generalize ct r.1 [q.1]=z at*;apply W.aS (aT _ _)
   case hc=>
    (apply ae.aq;simp only[go_sem,t6,t8,t10]);(apply ae.qT (hAp _);(case hg=>rfl);(case hf=>rfl);(case ha=>rfl);(case hw=>((exact au))));(apply ae.aq;simp only[go_sem,t4,t10,s10,s5]);exact ae.nil
   (refine W.a ?_;simp only[go_sem]);exact W.ret ⟨_,_,(by simp only[bA,nA,s3,s4,go_sem];rfl),au,rfl,⟨_,_,_,f1 _ _⟩,f2 _ _⟩
  ·rw[if_pos rfl];(refine W.a ?_;simp only[go_sem]);refine W.no rfl ?_;have t4:=x4;have t5:=x5;have t6:=x6;have t8:=x8;have t10:=x10;(refine W.a ?_;simp only[go_sem]);have l4:=(aL.1 t4).1;have l5:=(aL.1 t5).1;have s5:=fun A=>(bX (l:=τ4) (a:=A) (by omega:σ.length+1≠σ.length+2)).trans t5;have s4:∀A B,((τ4.set (σ.length+1) A).set (σ.length+2) B)[σ.length+2]?=some B:=fun A B=>cr (by rw[bF];exact l5);have s3:∀A B,((τ4.set (σ.length+1) A).set (σ.length+2) B)[σ.length+1]?=some A:=fun A B=>by rw[bX (by omega)];exact cr l4
   have f1:=fun A B=>((o2).box t4 (by omega) A).box (s5 A) (by omega) B;have f2:=fun A B=>((hKE4).set A (a:=σ.length+1) (by omega) (.inr (.inl (by omega)))).set B (a:=σ.length+2) (by omega) (.inr (.inl (by omega)));have s10:=fun A=>(bX (l:=τ4) (a:=A) (by omega:σ.length+1≠τ3.length)).trans t10;generalize ct r.1 [q.1]=z at*;apply W.aS (aT _ _)
   case hc=>
    (apply ae.aq;simp only[go_sem,t6,t8,t10]);(apply ae.qT (hAp _);(case hg=>rfl);(case hf=>rfl);(case ha=>rfl);(case hw=>((exact au))));(apply ae.aq;simp only[go_sem,t4,t10,s10,s5]);exact ae.nil
   (refine W.a ?_;simp only[go_sem]);exact W.ret ⟨_,_,(by simp only[bA,nA,s3,s4,go_sem];rfl),au,rfl,⟨_,_,_,f1 _ _⟩,f2 _ _⟩
 ·rw[if_pos hqe];have k1:(q.2.2.e !=0)=true:=by simp[hqe]
  have t4:=i4;have t5:=i5;have l4:=(aL.1 t4).1;have l5:=(aL.1 t5).1;have s5:=fun A=>(bX (l:=E2) (a:=A) (by omega:σ.length+1≠σ.length+2)).trans t5;have s4:∀A B,((E2.set (σ.length+1) A).set (σ.length+2) B)[σ.length+2]?=some B:=fun A B=>cr (by rw[bF];exact l5);have s3:∀A B,((E2.set (σ.length+1) A).set (σ.length+2) B)[σ.length+1]?=some A:=fun A B=>by rw[bX (by omega)];exact cr l4
  have f1:=fun A B=>(e4.box t4 (by omega) A).box (s5 A) (by omega) B;have f2:=fun A B=>(hKE2.set A (a:=σ.length+1) (by omega) (.inr (.inl (by omega)))).set B (a:=σ.length+2) (by omega) (.inr (.inl (by omega)));(refine W.a ?_;simp only[go_sem,hE2L,k1]);refine W.heap hE2 ?_;refine W.yes rfl (W.a ?_);simp only[go_sem,t4,s5];exact W.ret ⟨_,_,(by simp only[bA,nA,s3,s4,go_sem];rfl),au,rfl,⟨_,_,_,f1 _ _⟩,f2 _ _⟩
end
end Go.Proofs.YtdlkenpilhakfaaGreatDoor
namespace Go.Proofs.YtdlkenpilhakfaaGreatDoor
open Go Go.RowKit Go.Lamb
theorem Ds{f:aa->Int->aa}{k:Int}{t:aa}(hv:bc t=true)(h6:t.k=6):bN f k t=ct (bN f k (t.l.headD .none)) (t.l.tail.map (bN f k)):=by
 obtain⟨e1,e2,a,b,l,hl,ha⟩:=iG hv h6;rw[kf,if_neg (by omega),if_pos h6,hl,zM,List.tail_cons,cx,cx,fz];by_cases hk:(bN f k a).k=6
 ·rw[if_pos ⟨h6,by simp,by simpa using hk,by rw[hl];simpa using ha⟩];rfl
 ·rw[if_neg (fun h=>hk (by simpa using h.2.2.1)),h6,e1,e2,Ks hk]
theorem Dt{f:aa->Int->aa}{k:Int}{t:aa}(hv:bc t=true)(h5:t.k=5):bN f k t= .mk 5 [] 0 (t.l.map (bN f (k+1))):=by
 obtain⟨e1,e2,_⟩:=pS hv h5;rw[kf,if_pos h5,fz,if_neg (fun h=>by have:=h.1;omega),h5,e1,e2]
theorem Du{f:aa->Int->aa}{k:Int}{t:aa}(h5:t.k≠5)(h6:t.k≠6):bN f k t=f t k:=by
 rw[kf,if_neg h5,if_neg h6]
theorem VW{Q:aa->Prop}(hQ:∀t,Q t->bc t=true/\∀u∈t.l,Q u){f:aa->Int->aa}{k0 D:Int}(hf:∀u (d:Int),k0<=d->d<=D->Q u->u.k≠5->u.k≠6->bc (f u d)=true)(t:aa):∀k,k0<=k->k+ax t<=D->Q t->bc (bN f k t)=true:=by
 refine aa.ind (P:=fun t=>∀k,k0<=k->k+ax t<=D->Q t->bc (bN f k t)=true) (fun t ih k hk hD hq=>?_) t;obtain⟨hv,hqk⟩:=hQ t hq;have hdn:∀x∈t.l,k+ax x<=D/\k+1+ax x<=D:=fun x hx=>by have:=jI hx;omega
 have hp:=uq t;by_cases h5:t.k=5
 ·rw[Dt hv h5];obtain⟨_,_,b,hl⟩:=pS hv h5;rw[hl];exact rC (ih b (by rw[hl];simp) (k+1) (by omega) (hdn b (by rw[hl];simp)).2 (hqk b (by rw[hl];simp)))
 ·by_cases h6:t.k=6
  ·rw[Ds hv h6];obtain⟨_,_,a,b,l,hl,ha⟩:=iG hv h6;rw[hl];refine uh (ih a (by rw[hl];simp) k hk (hdn a (by rw[hl];simp)).1 (hqk a (by rw[hl];simp))) (fun u hu=>?_);obtain⟨x,hx,rfl⟩:=eu.1 hu;have hx':x∈t.l:=by rw[hl];exact bS _ hx
   exact ih x hx' k hk (hdn x hx').1 (hqk x hx')
  ·rw[Du h5 h6];exact hf t k hk (by omega) hq h5 h6
def Nr(m:Int)(t:aa):Prop:=bc t=true/\bM m t=true
theorem Nr.mu(m:Int):∀t,Nr m t->bc t=true/\∀u∈t.l,Nr m u:=fun t h=>⟨h.1,fun u hu=>⟨gi h.1 u hu,iF h.2 u hu⟩⟩
theorem Dv{u:aa}(hv:bc u=true)(h3:u.k=3):u.name=[]/\u.l=[]/\0<=u.n/\u.n<=4611686018427387904:=by
 have hn:=ue hv;unfold dP at hn;simp[h3]at hn;exact⟨hn.1.2,hn.2,hn.1.1.1,hn.1.1.2⟩
theorem VX{s:aa}{m b:Int}(hs:Nr m s)(hm0:0<=m)(hmb:m+b<=4611686018427387904){u:aa}{d:Int}(hd:0<=d)(hd':d<=b)(hv:bc u=true):bc (eE 0 s u d)=true:=by
 unfold eE;split
 ·exact hv
 ·rename_i h;have h3:u.k=3:=by omega
  obtain⟨e1,e2,e3,e4⟩:=Dv hv h3;split
  ·exact(Ku (eU _) hd hm0 (by omega) _ 0 (eU _) hs.1 hs.2).1
  ·refine uf ?_ (fun x hx=>by rw[aQ,e2]at hx;cases hx);simp[dP,a7,aW,aQ,bh,h3,e1,e2];omega
theorem VY{Q:aa->Prop}(hQ:∀t,Q t->bc t=true/\∀u∈t.l,Q u){f:aa->Int->aa}{k0 D M:Int}(hM:0<=M)(hf:∀u (d:Int),k0<=d->d<=D->Q u->u.k≠5->u.k≠6->bM M (f u d)=true)(t:aa):∀k,k0<=k->k+ax t<=D->Q t->bM M (bN f k t)=true:=by
 refine aa.ind (P:=fun t=>∀k,k0<=k->k+ax t<=D->Q t->bM M (bN f k t)=true) (fun t ih k hk hD hq=>?_) t;obtain⟨hv,hqk⟩:=hQ t hq;have hdn:∀x∈t.l,k+ax x<=D/\k+1+ax x<=D:=fun x hx=>by have:=jI hx;omega
 have hp:=uq t;by_cases h5:t.k=5
 ·rw[Dt hv h5];refine gY (.inr (by simp[aW];omega)) (fun u hu=>?_);rw[aQ]at hu;obtain⟨x,hx,rfl⟩:=eu.1 hu;exact ih x hx (k+1) (by omega) (hdn x hx).2 (hqk x hx)
 ·by_cases h6:t.k=6
  ·rw[Ds hv h6];obtain⟨_,_,a,b,l,hl,ha⟩:=iG hv h6;rw[hl];refine rE hM (ih a (by rw[hl];simp) k hk (hdn a (by rw[hl];simp)).1 (hqk a (by rw[hl];simp))) (fun u hu=>?_);obtain⟨x,hx,rfl⟩:=eu.1 hu;have hx':x∈t.l:=by rw[hl];exact bS _ hx
   exact ih x hx' k hk (hdn x hx').1 (hqk x hx')
  ·rw[Du h5 h6];exact hf t k hk (by omega) hq h5 h6
mutual
def cu(i:Int):aa->Nat
 | .mk k _ n l=>if k=3/\n=i then 1 else cQ (if k=5 then i+1 else i) l
def cQ(i:Int):List aa->Nat
 |[]=>0
 |x::l=>cu i x+cQ i l
end
mutual
def cR:aa->Nat
 | .mk k _ _ l=>1+(if k=5\/k=6 then dY l else 0)
def dY:List aa->Nat
 |[]=>0
 |x::l=>cR x+dY l
end
theorem yV(i:Int)(t:aa):cu i t=if t.k=3/\t.n=i then 1 else cQ (if t.k=5 then i+1 else i) t.l:=by cases t;rw[cu];rfl
theorem Dw(t:aa):cR t=1+(if t.k=5\/t.k=6 then dY t.l else 0):=by cases t;rw[cR];rfl
theorem LS(i:Int):∀(a b:List aa),cQ i (a++b)=cQ i a+cQ i b
 |[],b=>by rw[cQ];simp
 |x::a,b=>by rw[iM,cQ,cQ,LS i a b];omega
theorem LU:∀(a b:List aa),dY (a++b)=dY a+dY b
 |[],b=>by rw[dY];simp
 |x::a,b=>by rw[iM,dY,dY,LU a b];omega
theorem Dx(i:Int){l:List aa}{j:Nat}(hj:j<l.length):cQ i (l.take (j+1))=cQ i (l.take j)+cu i l[j]:=by
 rw[il hj,LS,cQ,cQ];omega
theorem VZ{l:List aa}{j:Nat}(hj:j<l.length):dY (l.take (j+1))=dY (l.take j)+cR l[j]:=by
 rw[il hj,LU,dY,dY];omega
theorem Dy(l:List aa)(j:Nat):bj (l.take j)<=bj l:=by
 have h:=rF (l.take j) (l.drop j);rw[List.take_append_drop]at h;omega
theorem Dz(i:Int):∀(l:List aa),(∀u∈l,∀i,cu i u<=ax u)->cQ i l<=bj l
 |[],_=>by rw[cQ];exact bC _
 |x::l,h=>by
  have h1:=h x (bu ..) i;have h2:=Dz i l (fun u hu=>h u (bS _ hu));rw[cQ,bj];omega
theorem LV(t:aa):∀i,cu i t<=ax t:=by
 refine aa.ind (P:=fun t=>∀i,cu i t<=ax t) (fun t ih i=>?_) t;rw[yV,eS];split
 ·omega
 ·have:=Dz (if t.k=5 then i+1 else i) t.l ih;omega
theorem LW(i:Int)(l:List aa)(j:Nat):cQ i (l.take j)<=bj l:=bE (Dz i _ (fun u _=>LV u)) (Dy l j)
theorem DA:∀(l:List aa),(∀u∈l,cR u<=ax u)->dY l<=bj l
 |[],_=>by rw[dY];exact bC _
 |x::l,h=>by
  have h1:=h x (bu ..);have h2:=DA l (fun u hu=>h u (bS _ hu));rw[dY,bj];omega
theorem yW(t:aa):cR t<=ax t:=by
 refine aa.ind (P:=fun t=>cR t<=ax t) (fun t ih=>?_) t;rw[Dw,eS];have:=DA t.l ih;split<;>omega
theorem V0(l:List aa)(j:Nat):dY (l.take j)<=bj l:=bE (DA _ (fun u _=>yW u)) (Dy l j)
theorem LX(t:aa):bc t=true->cR t=ax t:=by
 refine aa.ind (P:=fun t=>bc t=true->cR t=ax t) (fun t ih hv=>?_) t;have hk:=gi hv;have key:∀l:List aa,(∀u∈l,u∈t.l)->dY l=bj l:=by
  intro l;induction l with
  |nil=>intro _;rw[dY,bj]
  |cons x l ihl=>
   intro h;have hx:=h x (bu ..);rw[dY,bj,ih x hx (hk x hx),ihl (fun u hu=>h u (bS _ hu))]
 rw[Dw,eS];by_cases h:t.k=5\/t.k=6
 ·rw[if_pos h,key t.l (fun _ h=>h)]
 ·rw[if_neg h,ug hv (fun e=>h (.inl e)) (fun e=>h (.inr e)),bj]
theorem V1(i:Int)(s:aa)(t:aa):∀(k:Nat),ax (bN (eE i s) (k:Int) t)<=ax t+cu ((k:Int)+i) t*ax s:=by
 refine aa.ind (P:=fun t=>∀(k:Nat),ax (bN (eE i s) (k:Int) t)<=ax t+cu ((k:Int)+i) t*ax s) (fun t ih k=>?_) t;have key:∀(j:Nat) (l:List aa),(∀u∈l,u∈t.l)->bj (l.map (bN (eE i s) (j:Int)))<=bj l+cQ ((j:Int)+i) l*ax s:=by
  intro j l;induction l with
  |nil=>intro _;rw[du,bj,cQ];omega
  |cons x l ihl=>
   intro h;have h1:=ih x (h x (bu ..)) j;have h2:=ihl (fun u hu=>h u (bS _ hu));rw[cx,bj,bj,cQ,Nat.add_mul];omega
 rw[kf,yV];by_cases h5:t.k=5
 ·rw[if_pos h5,if_neg (by omega),if_pos h5];have h1:=Cv t (t.l.map (bN (eE i s) ((k+1:Nat):Int)));have h2:=key (k+1) t.l (fun _ h=>h);have e:((k+1:Nat):Int)=(k:Int)+1:=by omega
  have e2:(k:Int)+1+i=(k:Int)+i+1:=by omega
  rw[e]at h1 h2;rw[e2]at h2;rw[eS t];omega
 ·rw[if_neg h5];by_cases h6:t.k=6
  ·rw[if_pos h6,if_neg (by omega),if_neg h5];have h1:=Cv t (t.l.map (bN (eE i s) (k:Int)));have h2:=key k t.l (fun _ h=>h);rw[eS t];omega
  ·rw[if_neg h6];unfold eE;split
   ·exact oW _ _
   ·rename_i hc;split
    ·rename_i he;rw[if_pos ⟨by omega,he⟩];have:=Cx 0 k s 0;have h0:np 0 (k:Int) s=bN (cH 0 (k:Int)) ((0:Nat):Int) s:=rfl;rw[h0];omega
    ·rw[iW,<-eS];exact oW _ _
theorem V2(s t:aa):ax (rB 0 s t)<=ax t+cu 0 t*ax s:=by
 have h:=V1 0 s t 0;have e:((0:Nat):Int)+0=0:=rfl;rw[e]at h;exact h
theorem V3{m:Int}{s t:aa}(hm0:0<=m)(hm:m<=4611686018427000000)(hs:Nr m s)(ht:Nr m t)(hn:ax t<=4096):Nr (m+4096) (rB 0 s t):=by
 refine⟨?_,?_⟩
 ·exact VW (Nr.mu m) (k0:=0) (D:=4096) (fun u d h0 h1 hq h5 h6=>VX (b:=4096) hs hm0 (by omega) h0 h1 hq.1) t 0 (eU _) (by omega) ht
 ·refine VY (Nr.mu m) (k0:=0) (D:=4096) (by omega) (fun u d h0 h1 hq h5 h6=>?_) t 0 (eU _) (by omega) ht;unfold eE;split
  ·exact oz (by omega) _ hq.2
  ·rename_i h;have h3:u.k=3:=by omega
   obtain⟨e1,e2,e3,e4⟩:=Dv hq.1 h3;split
   ·exact oz (by omega) _ (Ku (eU _) h0 hm0 (by omega) s 0 (eU _) hs.1 hs.2).2
   ·have:=pR hq.2 (by omega);refine gY (.inr (by rw[aW];omega)) (fun x hx=>by rw[aQ,e2]at hx;cases hx)
def jL(t:aa):Bool:=t.k==6&&(t.l.headD .none).k==5
def fV(b a:aa)(r:List aa):aa:=.mk 6 [] 0 (bJ b::a::r)
def qc(b a:aa):Option aa:=if cR b+cu 0 b*cR a>4096 then none else some (rB 0 a b)
theorem LY{t:aa}(hv:bc t=true)(h:jL t=true):∃b a r,t=fV b a r:=by
 unfold jL at h;rw[bG,beq_iff_eq,beq_iff_eq]at h;obtain⟨e1,e2,x,a,r,hl,_⟩:=iG hv h.1;have hx5:x.k=5:=by have:=h.2;rw[hl,zM]at this;exact this
 have hxv:=gi hv x (by rw[hl];simp);obtain⟨f1,f2,b,hb⟩:=pS hxv hx5;refine⟨b,a,r,?_⟩;have hx:x=bJ b:=by
  cases x;simp only[a7,aW,bh,aQ]at hx5 f1 f2 hb;rw[hx5,f1,f2,hb];rfl
 show t= .mk 6 [] 0 (bJ b::a::r);rw[<-hx];cases t;simp only[a7,aW,bh,aQ]at h e1 e2 hl;rw[h.1,e1,e2,hl]
theorem sf{t:aa}(hv:bc t=true)(h5:t.k=5):∃b,t=bJ b:=by
 obtain⟨f1,f2,b,hb⟩:=pS hv h5;refine⟨b,?_⟩;cases t;simp only[a7,aW,bh,aQ]at h5 f1 f2 hb;rw[h5,f1,f2,hb];rfl
theorem Nr.more{m m':Int}{t:aa}(h:Nr m t)(hm:m<=m'):Nr m' t:=⟨h.1,oz hm t h.2⟩
theorem ko(b:aa):ax (bJ b)=1+ax b:=by unfold bJ;rw[iW,bj,bj];omega
inductive kp:aa->Prop
 |lam {b:aa} (h:kp b):kp (bJ b)
 |rest {t:aa} (h5:t.k≠5) (h:∀u∈t.l,ax u<=4096):kp t
theorem kp.kids{t:aa}(h:kp t)(h5:t.k≠5):∀u∈t.l,ax u<=4096:=by
 cases h with
 |lam h=>exact absurd rfl h5
 |rest _ h=>exact h
theorem kp.body{b:aa}(h:kp (bJ b)):kp b:=by
 generalize ht:bJ b=t at h;cases h with
 |lam h=>unfold bJ at ht;injection ht with _ _ _ ht;injection ht with ht _;subst ht;exact h
 |rest h5 _=>subst ht;exact absurd rfl h5
theorem kp.vf(t:aa):bc t=true->ax t<=4096->kp t:=by
 refine aa.ind (P:=fun t=>bc t=true->ax t<=4096->kp t) (fun t ih hv hn=>?_) t;by_cases h5:t.k=5
 ·obtain⟨b,rfl⟩:=sf hv h5;have hb:b∈(bJ b).l:=by unfold bJ;simp[aQ]
  have:=ko b;exact .lam (ih b hb (gi hv b hb) (by omega))
 ·exact .rest h5 (fun u hu=>by have:=jI hu;omega)
structure cd (f:Nat) (t:aa):Prop where
 nr:Nr (2199023255552-8192*(f:Int)) t
 bd:kp t
theorem cd.vf{f:Nat}{t:aa}(h:Nr (2199023255552-8192*(f:Int)) t)(hn:ax t<=4096):cd f t:=⟨h,.vf t h.1 hn⟩
theorem cd.down{f g:Nat}{t:aa}(h:cd f t)(hg:g<=f):cd g t:=⟨h.nr.more (by omega),h.bd⟩
theorem cd.dO{f:Nat}{t u:aa}(h:cd f t)(h5:t.k≠5)(hu:u∈t.l):cd f u:=.vf ((Nr.mu _ _ h.nr).2 u hu) (h.bd.kids h5 u hu)
theorem cd.body{f:Nat}{b:aa}(h:cd f (bJ b)):cd f b:=⟨(Nr.mu _ _ h.nr).2 b (by unfold bJ;simp[aQ]),h.bd.body⟩
theorem cd.lam{f:Nat}{b:aa}(hf:f<=100000)(h:cd f b):cd f (bJ b):=⟨⟨rC h.nr.1,gY (.inr (by unfold bJ;rw[aW];omega)) (fun u hu=>by unfold bJ at hu;simp[aQ]at hu;rw[hu];exact h.nr.2)⟩,.lam h.bd⟩
theorem DB(f:aa)(xs:List aa):ax (ct f xs)<=ax f+bj xs+1:=by
 cases xs with
 |nil=>rw[Cq];omega
 |cons x xs=>
  rw[rD,iW,rF];split
  ·rw[eS f];omega
  ·rw[bj,bj];omega
theorem cd.beta{n:Nat}{b a:aa}{r:List aa}{u:aa}(hf:n+1<=100000)(h:cd (n+1) (fV b a r))(hc:qc b a=some u):cd n (ct u r)/\ax u<=4096/\ax (ct u r)+4097*n<=ax (fV b a r)+4097*(n+1):=by
 have hp1:=h.bd.kids (by simp[fV,a7]);have hb4:ax (bJ b)<=4096:=hp1 _ (bu ..);have ha4:ax a<=4096:=hp1 _ (bS _ (bu ..));have hbn:=ko b;have hlm:Nr _ (bJ b):=(Nr.mu _ _ h.nr).2 _ (bu ..);have hbr:=(Nr.mu _ _ hlm).2 b (by unfold bJ;simp[aQ]);have har:=(Nr.mu _ _ h.nr).2 a (bS _ (bu ..));have hrr:=fun u hu=>(Nr.mu _ _ h.nr).2 u (bS _ (bS _ hu));unfold qc at hc;split at hc
 ·cases hc
 ·rename_i hs;injection hc with hc;rw[LX b hbr.1,LX a har.1]at hs;have hu4:ax u<=4096:=by
   rw[<-hc];exact bE (V2 a b) (by omega)
  have hun:Nr (2199023255552-8192*((n:Nat):Int)) u:=by
   rw[<-hc];exact(V3 (by omega) (by omega) har hbr (by omega)).more (by omega)
  have hrn:∀v∈r,Nr (2199023255552-8192*((n:Nat):Int)) v:=fun v hv=>(hrr v hv).more (by omega);have hnr:Nr (2199023255552-8192*((n:Nat):Int)) (ct u r):=⟨uh hun.1 (fun v hv=>(hrn v hv).1),rE (by omega) hun.2 (fun v hv=>(hrn v hv).2)⟩;have hnd:=DB u r;have hbt:ax (fV b a r)=1+(ax (bJ b)+(ax a+bj r)):=by unfold fV;rw[iW,bj,bj]
  refine⟨⟨hnr,?_⟩,hu4,by omega⟩;cases r with
  |nil=>rw[Cq];exact .vf u hun.1 hu4
  |cons y r=>
   refine .rest (by rw[rD,a7];decide) ?_;rw[rD,aQ];intro v hv;rcases List.mem_append.1 hv with hv|hv
   ·split at hv
    ·have:=jI hv;omega
    ·simp only[cA,List.not_mem_nil,or_false]at hv;rw[hv];exact hu4
   ·exact hp1 v (bS _ (bS _ hv))
inductive fa:Nat->aa->Option aa->Nat->Prop
 |vg {b a:aa} {r:List aa}:fa 0 (fV b a r) none 0
 |nz {n:Nat} {b a:aa} {r:List aa} (h:qc b a=none):fa (n+1) (fV b a r) none (n+1)
 |step {n m:Nat} {b a u:aa} {r:List aa} {o:Option aa} (h:qc b a=some u) (k:fa n (ct u r) o m):fa (n+1) (fV b a r) o m
 |stop {n:Nat} {t:aa} (h:jL t=false) (h5:t.k≠5):fa n t (some t) n
 |lam {n m:Nat} {b:aa} {o:Option aa} (k:fa n b o m):fa n (bJ b) (o.map bJ) m
theorem sg{f m:Nat}{t:aa}{o:Option aa}(h:fa f t o m):f<=100000->cd f t->m<=f/\∀u,o=some u->cd m u/\(m<f\/u=t)/\ax u+4097*m<=ax t+4097*f:=by
 induction h with
 |vg=>intro _ _;exact⟨aA _,fun u hu=>by cases hu⟩
 |nz h=>intro _ _;exact⟨aA _,fun u hu=>by cases hu⟩
 |step h k ih=>
  intro hf hi;obtain⟨b1,_,b3⟩:=hi.beta hf h;obtain⟨h1,h2⟩:=ih (by omega) b1;exact⟨by omega,fun u hu=>⟨(h2 u hu).1,.inl (by omega),bE (h2 u hu).2.2 b3⟩⟩
 |stop h h5=>intro _ hi;exact⟨aA _,fun u hu=>by injection hu with hu;subst hu;exact⟨hi,.inr rfl,aA _⟩⟩
 |@lam n m b o k ih=>
  intro hf hi;obtain⟨h1,h2⟩:=ih hf hi.body;refine⟨h1,fun u hu=>?_⟩;cases o with
  |none=>cases hu
  |some v=>
   injection hu with hu;subst hu;obtain⟨hv,hw,hn⟩:=h2 v rfl;refine⟨hv.lam (by omega),hw.imp id (fun e=>by rw[e]),?_⟩;rw[ko,ko];omega
theorem V4(f:Nat):f<=100000->∀t,cd f t->∃o m,fa f t o m:=by
 induction f with
 |zero=>
  intro _ t;refine aa.ind (P:=fun t=>cd 0 t->∃o m,fa 0 t o m) (fun t ih hi=>?_) t;cases hr:jL t
  ·by_cases h5:t.k=5
   ·obtain⟨b,rfl⟩:=sf hi.nr.1 h5;have hb:b∈(bJ b).l:=by unfold bJ;simp[aQ]
    obtain⟨o,m,h⟩:=ih b hb hi.body;exact⟨_,_,.lam h⟩
   ·exact⟨_,_,.stop hr h5⟩
  ·obtain⟨b,a,r,rfl⟩:=LY hi.nr.1 hr;exact⟨_,_,.vg⟩
 |succ f ihf=>
  intro hf t;refine aa.ind (P:=fun t=>cd (f+1) t->∃o m,fa (f+1) t o m) (fun t ih hi=>?_) t;cases hr:jL t
  ·by_cases h5:t.k=5
   ·obtain⟨b,rfl⟩:=sf hi.nr.1 h5;have hb:b∈(bJ b).l:=by unfold bJ;simp[aQ]
    obtain⟨o,m,h⟩:=ih b hb hi.body;exact⟨_,_,.lam h⟩
   ·exact⟨_,_,.stop hr h5⟩
  ·obtain⟨b,a,r,rfl⟩:=LY hi.nr.1 hr;cases hc:qc b a with
   |none=>exact⟨_,_,.nz hc⟩
   |some u=>
    obtain⟨o,m,h⟩:=ihf (by omega) _ (hi.beta hf hc).1;exact⟨_,_,.step hc h⟩
mutual
inductive ei:Nat->aa->Option aa->Nat->Prop
 |bad {n m:Nat} {t:aa} (h:fa n t none m):ei n t none m
 |lam {n m q:Nat} {t b:aa} {o:Option aa} (h:fa n t (some (bJ b)) m) (k:ei m b o q):ei n t (o.map bJ) q
 |kids {n m q:Nat} {t u:aa} {o:Option (List aa)} (h:fa n t (some u) m) (h5:u.k≠5) (k:qd m u.l o q):ei n t (o.map fun l=>.mk u.k u.name u.n l) q
inductive qd:Nat->List aa->Option (List aa)->Nat->Prop
 |nil {n:Nat}:qd n [] (some []) n
 |bad {n m:Nat} {x:aa} {l:List aa} (h:ei n x none m):qd n (x::l) none m
 |cons {n m q:Nat} {x y:aa} {l:List aa} {o:Option (List aa)} (h:ei n x (some y) m) (k:qd m l o q):qd n (x::l) (o.map fun l=>y::l) q
end
theorem DD{n m:Nat}{t:aa}{o:Option aa}(h:fa n t o m)(h5:t.k≠5)(h6:t.k≠6):o=some t/\m=n:=by
 cases h with
 |stop _ _=>exact⟨rfl,rfl⟩
 |lam _=>exact absurd rfl h5
 |vg=>exact absurd rfl h6
 |nz _=>exact absurd rfl h6
 |step _ _=>exact absurd rfl h6
theorem V5{n m:Nat}{t:aa}{o:Option aa}(h:fa n t o m):∀u,o=some u->u.k≠5->jL u=false:=by
 induction h with
 |vg=>intro u hu;cases hu
 |nz _=>intro u hu;cases hu
 |step _ _ ih=>exact ih
 |stop h _=>intro u hu _;injection hu with hu;subst hu;exact h
 |@lam n m b o k ih=>
  intro u hu h5;cases o with
  |none=>cases hu
  |some v=>injection hu with hu;subst hu;exact absurd rfl h5
theorem V6{n m:Nat}{t:aa}{o:Option aa}(hv:bc t=true)(h:ei n t o m)(h5:t.k≠5)(h6:t.k≠6):o=some t/\m=n:=by
 cases h with
 |bad h=>have:=(DD h h5 h6).1;cases this
 |lam h k=>have:=(DD h h5 h6).1;injection this with this;subst this;exact absurd rfl h5
 |@kids _ _ _ _ u o h hu k=>
  obtain⟨e,rfl⟩:=DD h h5 h6;injection e with e;subst e;have hl:=ug hv h5 h6;rw[hl]at k;cases k with
  |nil=>
   refine⟨?_,rfl⟩;cases u with
   |mk a b c d=>simp only[aQ]at hl;subst hl;rfl
def LZ(f:Nat)(t:aa)(o:Option aa)(q:Nat):Prop:=f<=100000->cd f t->q<=f/\∀u,o=some u->Nr (2199023255552-8192*(q:Int)) u/\ax u+4097*q<=ax t+4097*f
def V7(f:Nat)(l:List aa)(o:Option (List aa))(q:Nat):Prop:=f<=100000->(∀x∈l,cd f x)->q<=f/\∀r,o=some r->r.length=l.length/\(∀y∈r,Nr (2199023255552-8192*(q:Int)) y)/\bj r+4097*q<=bj l+4097*f/\(∀x,l.head?=some x->x.k≠5->x.k≠6->r.head?=some x)
theorem yX{f q:Nat}{t:aa}{o:Option aa}(h:ei f t o q):LZ f t o q:=by
 refine ei.rec (motive_1:=fun f t o q _=>LZ f t o q) (motive_2:=fun f l o q _=>V7 f l o q) ?_ ?_ ?_ ?_ ?_ ?_ h
 ·intro n m t h hf hi;exact⟨(sg h hf hi).1,fun u hu=>by cases hu⟩
 ·intro n m q t b o h k ih hf hi;obtain⟨h1,h2⟩:=sg h hf hi;obtain⟨i1,i2,i3⟩:=h2 _ rfl;obtain⟨j1,j2⟩:=ih (by omega) i1.body;refine⟨by omega,fun u hu=>?_⟩;cases o with
  |none=>cases hu
  |some v=>
   injection hu with hu;subst hu;obtain⟨k1,k2⟩:=j2 v rfl;refine⟨⟨rC k1.1,gY (.inr (by unfold bJ;rw[aW];omega)) (fun u hu=>by unfold bJ at hu;simp[aQ]at hu;rw[hu];exact k1.2)⟩,?_⟩;rw[ko]at i3⊢;omega
 ·intro n m q t u o h h5 k ih hf hi;obtain⟨h1,h2⟩:=sg h hf hi;obtain⟨i1,i2,i3⟩:=h2 _ rfl;obtain⟨j1,j2⟩:=ih (by omega) (fun x hx=>i1.dO h5 hx);refine⟨by omega,fun v hv=>?_⟩;cases o with
  |none=>cases hv
  |some r=>
   injection hv with hv;subst hv;obtain⟨k1,k2,k3,k4⟩:=j2 r rfl;have hval:=i1.nr.1;refine⟨⟨?_,?_⟩,?_⟩
   ·by_cases h6:u.k=6
    ·obtain⟨e1,e2,a,b,l,hl,ha⟩:=iG hval h6;have hr:=V5 h u rfl h5;have ha5:a.k≠5:=by
      unfold jL at hr;rw[hl,zM,h6]at hr;simpa using hr
     have hh:=k4 a (by rw[hl];rfl) ha5 ha;rw[hl]at k1
     match r,k1,hh,k2 with
     |x::y::r,_,hh,k2=>
      injection hh with hh;subst hh;rw[h6,e1,e2];exact yj ha (fun v hv=>(k2 v hv).1)
    ·have hl:=ug hval h5 h6;rw[hl]at k1;have hr0:r=[]:=List.eq_nil_of_length_eq_zero k1;subst hr0;have e:aa.mk u.k u.name u.n []=u:=by
      cases u with
      |mk a b c d=>simp only[aQ]at hl;subst hl;rfl
     show bc (aa.mk u.k u.name u.n [])=true;rw[e];exact hval
   ·refine gY ?_ (fun x hx=>(k2 x hx).2);rw[a7,aW];by_cases hk2:u.k=2
    ·exact .inl hk2
    ·have:=pR i1.nr.2 hk2;right;omega
   ·rw[iW];rw[eS u]at i3;omega
 ·intro n hf hi;refine⟨aA _,fun r hr=>?_⟩;injection hr with hr;subst hr;exact⟨rfl,(fun y hy=>by cases hy),aA _,(fun x hx=>by cases hx)⟩
 ·intro n m x l h ih hf hi;exact⟨(ih hf (hi x (bu ..))).1,fun r hr=>by cases hr⟩
 ·intro n m q x y l o h k ih1 ih2 hf hi;have hx:=hi x (bu ..);obtain⟨h1,h2⟩:=ih1 hf hx;obtain⟨i1,i2⟩:=h2 y rfl;obtain⟨j1,j2⟩:=ih2 (by omega) (fun z hz=>(hi z (bS _ hz)).down h1);refine⟨by omega,fun r hr=>?_⟩;cases o with
  |none=>cases hr
  |some s=>
   injection hr with hr;subst hr;obtain⟨k1,k2,k3,k4⟩:=j2 s rfl;refine⟨by simp[k1],fun z hz=>?_,?_,fun z hz h5 h6=>?_⟩
   ·rcases cA.1 hz with rfl|hz
    ·exact i1.more (by omega)
    ·exact k2 z hz
   ·rw[bj,bj];omega
   ·injection hz with hz;subst hz;have:=(V6 hx.nr.1 h h5 h6).1;injection this with this;subst this;rfl
theorem V8{f N:Nat}(hf:f<=100000)(ih:∀(m:Nat) (x:aa),m<=f->(m<f\/ax x<N)->cd m x->∃o q,ei m x o q):∀(l:List aa) (m:Nat),m<=f->(m<f\/∀x∈l,ax x<N)->(∀x∈l,cd m x)->∃o q,qd m l o q:=by
 intro l;induction l with
 |nil=>intro m _ _ _;exact⟨_,_,.nil⟩
 |cons x l ihl=>
  intro m hm hs hi;have hx:=hi x (bu ..);obtain⟨o,q,h⟩:=ih m x hm (hs.imp id (fun h=>h x (bu ..))) hx;cases o with
  |none=>exact⟨_,_,.bad h⟩
  |some y=>
   have hq:=(yX h (by omega) hx).1;obtain⟨o,q',h'⟩:=ihl q (by omega) (by
    rcases hs with hs|hs
    ·exact .inl (by omega)
    ·exact .inr fun z hz=>hs z (bS _ hz)) (fun z hz=>(hi z (bS _ hz)).down hq)
   exact⟨_,_,.cons h h'⟩
theorem V9(f:Nat):f<=100000->∀t,cd f t->∃o q,ei f t o q:=by
 induction f using Nat.strongRecOn with
 |ind f ihf=>
  intro hf;have key:∀(N:Nat) (t:aa),ax t<N->cd f t->∃o q,ei f t o q:=by
   intro N;induction N with
   |zero=>intro t h;omega
   |succ N ihN=>
    intro t hN hi;obtain⟨o,m,h⟩:=V4 f hf t hi;cases o with
    |none=>exact⟨_,_,.bad h⟩
    |some u=>
     obtain⟨h1,h2⟩:=sg h hf hi;obtain⟨i1,i2,_⟩:=h2 u rfl;have ih:∀(m:Nat) (x:aa),m<=f->(m<f\/ax x<N)->cd m x->∃o q,ei m x o q:=fun m x hm hs hx=>by
      by_cases hmf:m<f
      ·exact ihf m hmf (by omega) x hx
      ·obtain rfl:m=f:=by omega
       exact ihN x (hs.resolve_left hmf) hx
     by_cases h5:u.k=5
     ·obtain⟨b,rfl⟩:=sf i1.nr.1 h5;obtain⟨o,q,k⟩:=ih m b h1 (by
       rcases i2 with i2|i2
       ·exact .inl i2
       ·rw[<-i2,ko]at hN;exact .inr (by omega)) i1.body
      exact⟨_,_,.lam h k⟩
     ·obtain⟨o,q,k⟩:=V8 hf ih u.l m h1 (by
       rcases i2 with i2|i2
       ·exact .inl i2
       ·subst i2;exact .inr fun x hx=>by have:=jI hx;omega) (fun x hx=>i1.dO h5 hx)
      exact⟨_,_,.kids h h5 k⟩
  intro t hi;exact key (ax t+1) t (by omega) hi
mutual
inductive mv (s:List aa):aa->Int->Int->Prop where
 |neg {t:aa} {n:Int} (h:n<0):mv s t n n
 |go {t u:aa} {n r:Int} {k:Nat} (h:0<=n) (d:gd s t u k) (a:iH s u.l (n-1) r):mv s t n r
inductive iH (s:List aa):List aa->Int->Int->Prop where
 |nil {n:Int}:iH s [] n n
 |cons {t:aa} {l:List aa} {n m r:Int} (a:mv s t n m) (b:iH s l m r):iH s (t::l) n r
end
theorem DE{s:List aa}{d:Int}(ih:∀(t:aa) (n:Int),aE s.length t->n<=d->∃r,mv s t n r/\r<=n):∀(l:List aa) (n:Int),(∀x∈l,aE s.length x)->n<=d->∃r,iH s l n r/\r<=n
 |[],n,_,_=>⟨n,.nil,eU _⟩
 |t::l,n,h,hn=>by
  obtain⟨m,a,hm⟩:=ih t n (h t (bu ..)) hn;obtain⟨r,b,hr⟩:=DE ih l m (fun x hx=>h x (bS _ hx)) (by omega);exact⟨r,.cons a b,by omega⟩
theorem L0{s:List aa}(hR:qV s):∀(d:Nat) (t:aa) (n:Int),aE s.length t->n<=(d:Int)-1->∃r,mv s t n r/\r<=n
 |0,t,n,_,hn=>⟨n,.neg (by omega),eU _⟩
 |d+1,t,n,ht,hn=>by
  by_cases h0:n<0
  ·exact⟨n,.neg h0,eU _⟩
  obtain⟨rk,hL⟩:=hR.less;obtain⟨m,hm⟩:=tw rk ht;obtain⟨u,k,r,_,hu,hst,_⟩:=xf hL m t ht hm;have hkids:∀x∈u.l,aE s.length x:=fun x hx=>by
   by_cases hk:u.k=1
   ·obtain⟨_,_,_,hl⟩:=hu.var hk;rw[hl]at hx;cases hx
   ·exact hu.dO hk hx
  obtain⟨r',a,hr⟩:=DE (fun t n ht hn=>L0 hR d t n ht hn) u.l (n-1) hkids (by omega);exact⟨r',.go (by omega) r a,by omega⟩
mutual
def bw:ah->Int
 | .mk k _ _ l _=>if k=0\/k=1\/k=2 then 1 else if(k=4/\l.length=1)\/(k=3/\l.length=2)then dQ 1 l else-1
def dQ(n:Int):List ah->Int
 |[]=>n
 |p::l=>if bw p<0 then-1 else dQ (n+bw p) l
end
open Classical in
noncomputable def vh(t:aa):Option aa:=if h:∃o q,ei 1000 t o q then EW h else none
theorem Wa{t:aa}(h:∃o q,ei 1000 t o q):∃q,ei 1000 t (vh t) q:=by
 unfold vh;rw[dif_pos h];exact EX h
open Classical in
noncomputable def vi(s:List aa)(l:List aa)(n:Int):Int:=if h:∃r,iH s l n r then EW h else 0
theorem Wb{s l:List aa}{n:Int}(h:∃r,iH s l n r):iH s l n (vi s l n):=by
 unfold vi;rw[dif_pos h];exact EX h
open Classical in
noncomputable def yY(s:List aa)(l:List aa):List aa:=if h:∃r,gk s l r then EW h else[]
theorem Wc{s l:List aa}(h:∃r,gk s l r):gk s l (yY s l):=by
 unfold yY;rw[dif_pos h];exact EX h
end Go.Proofs.YtdlkenpilhakfaaGreatDoor
namespace Go.Proofs.YtdlkenpilhakfaaGreatDoor
open Go.RowKit Go.Lamb
theorem L1:∀(l:List ah) (n:Int),1<=n->0<=dQ n l->∀q∈l,0<=bw q
 |[],_,_,_,q,hq=>by cases hq
 |x::l,n,hn,h,q,hq=>by
  rw[dQ]at h;split at h
  ·omega
  ·rename_i hx;rcases cA.1 hq with rfl|hq
   ·omega
   ·exact L1 l _ (by omega) h q hq
theorem L3{t:ah}(h:0<=bw t):(t.k=0\/t.k=1\/t.k=2)\/(∃nm n b pos,t= .mk 4 nm n [b] pos/\0<=bw b)\/(∃nm n a b pos,t= .mk 3 nm n [a,b] pos/\0<=bw a/\0<=bw b):=by
 obtain⟨k,nm,n,l,pos⟩:=t;rw[bw]at h;split at h
 ·rename_i hk;exact .inl hk
 ·split at h
  ·rename_i hk;have hs:=L1 l 1 (by decide) h;rcases hk with⟨rfl,hl⟩|⟨rfl,hl⟩
   ·match l,hl with
    |[b],_=>exact .inr (.inl ⟨nm,n,b,pos,rfl,hs b (by simp)⟩)
   ·match l,hl with
    |[a,b],_=>exact .inr (.inr ⟨nm,n,a,b,pos,rfl,hs a (by simp),hs b (by simp)⟩)
  ·omega
section
variable {g:Sg} {W:Nat}
attribute [local go_sem] aa.v aa.aM a7 bh aW aQ aX
theorem We(w0:World){n0 p:Nat}{σ:H}{f:av}{y3 y4 y5:V}(h:bz n0 σ p g f y3 y4 y5)(hn:n0<=σ.length)(he:f.e≠0)(t:ah):
  DC prog w0 25 [.ptr p 0,t.v] σ (gn n0 p g σ f (.ay [aa.none.v,aa.none.v])):=by
 refine uG.dL rfl (fun hok hsz=>?_);have hp:=fun L=>hG h.here L;unfold bK at hp;have k0:(f.e !=0)=true:=by simp[he]
 (refine W.a ?_;simp only[go_sem,pY,hp,k0]);refine W.yes rfl (W.a ?_);simp only[go_sem];exact W.ret ⟨_,_,(by simp only[bA,nA,go_sem];rfl),au,rfl,⟨_,_,_,h.app _⟩,(Kept.refl n0 p σ).app hn _⟩
theorem Wg(w0:World){n0 p:Nat}{σ:H}{f:av}{y3 y4 y5:V}(h:bz n0 σ p g f y3 y4 y5)(hn:n0<=σ.length)(he:f.e=0)(t:ah)(h2:t.k=2):
  DC prog w0 25 [.ptr p 0,t.v] σ (gn n0 p g σ f (.ay [(aa.mk 2 [] t.n []).v,(aa.mk 0 [105,110,116] 0 []).v])):=by
 refine uG.dL rfl (fun hok hsz=>?_);have hp:=fun L=>hG h.here L;unfold bK at hp;have k0:(f.e !=0)=false:=by simp[he]
 have k2:(t.k==2)=true:=by simp[h2]
 (refine W.a ?_;simp only[go_sem,pY,hp,k0]);refine W.no rfl (W.a ?_);simp only[go_sem,k2];refine W.yes rfl (W.a ?_);simp only[go_sem];exact W.ret ⟨_,_,(by simp only[bA,nA,go_sem];rfl),au,rfl,⟨_,_,_,h.app _⟩,(Kept.refl n0 p σ).app hn _⟩
theorem L4(w0:World){n0 p:Nat}{σ:H}{f f':av}{y3 y4 y5:V}(h:bz n0 σ p g f y3 y4 y5)(hn:n0<=σ.length)(he:f.e=0)(t:ah)(x u:aa)
  (hc:(t.k=4/\∀{E:H} {z3 z4 z5:V},bz n0 E p g f z3 z4 z5->n0<=E.length->DC prog w0 66 [.ptr p 0,t.v] E (gn n0 p g E f' (.ay [x.v,u.v])))\/(t.k≠2/\t.k≠3/\t.k≠4/\∀{E:H} {z3 z4 z5:V},bz n0 E p g f z3 z4 z5->n0<=E.length->DC prog w0 70 [.ptr p 0,t.v] E (gn n0 p g E f' (.ay [x.v,u.v])))):
  DC prog w0 25 [.ptr p 0,t.v] σ (gn n0 p g σ f' (.ay [x.v,u.v])):=by
 refine uG.dL rfl (fun hok hsz=>?_);have hp:=fun L=>hG h.here L;unfold bK at hp;have hlt:=h.lt;have k0:(f.e !=0)=false:=by simp[he]
 have hA0:=h.app [.cells t.v.ai,.cells [I 0,S [],I 0,.ab []],.cells [I 0,S [],I 0,.ab []]];have hK0:=(Kept.refl n0 p σ).app hn [.cells t.v.ai,.cells [I 0,S [],I 0,.ab []],.cells [I 0,S [],I 0,.ab []]];have hn1:=bE hn hK0.len;rcases hc with⟨h4,hc⟩|⟨h2,h3,h4,hc⟩
 ·have k2:(t.k==2)=false:=by simp[h4]
  have k4:(t.k==4)=true:=by simp[h4]
  have hR:=hc hA0 hn1;simp only[ah.v,aa.v,V.ai]at hR;clear h4;(refine W.a ?_;simp only[go_sem,pY,hp,k0]);refine W.no rfl (W.a ?_);simp only[go_sem,k2];refine W.no rfl (W.a ?_);simp only[go_sem,k4];refine W.yes rfl (W.a ?_);simp only[go_sem];(refine W.call (hR) rfl rfl (by first|rfl|simp) ?_);rintro d τ ⟨rfl,⟨w3,w4,w5,d2⟩,d3⟩;have t4:τ[σ.length+1]?=some (.cells [I 0,S [],I 0,.ab []]):=d3.cells _ _ _ (by omega) (Go.Lamb.bT _ _ 1);have t5:τ[σ.length+2]?=some (.cells [I 0,S [],I 0,.ab []]):=d3.cells _ _ _ (by omega) (Go.Lamb.bT _ _ 2)
  have l4:=(aL.1 t4).1;have l5:=(aL.1 t5).1;have s5:=fun A=>(bX (l:=τ) (a:=A) (by omega:σ.length+1≠σ.length+2)).trans t5;have s4:∀A B,((τ.set (σ.length+1) A).set (σ.length+2) B)[σ.length+2]?=some B:=fun A B=>cr (by rw[bF];exact l5);have s3:∀A B,((τ.set (σ.length+1) A).set (σ.length+2) B)[σ.length+1]?=some A:=fun A B=>by rw[bX (by omega)];exact cr l4
  have f1:=fun A B=>(d2.box t4 (by omega) A).box (s5 A) (by omega) B;have f2:=fun A B=>((hK0.trans d3).set A (a:=σ.length+1) (by omega) (.inr (.inl (by omega)))).set B (a:=σ.length+2) (by omega) (.inr (.inl (by omega)));(refine W.a ?_;simp only[go_sem,t4,s5]);exact W.ret ⟨_,_,(by simp only[bA,nA,s3,s4,go_sem];rfl),au,rfl,⟨_,_,_,f1 _ _⟩,f2 _ _⟩
 ·have k2:(t.k==2)=false:=by simp[h2]
  have k4:(t.k==4)=false:=by simp[h4]
  have k3:(t.k==3)=false:=by simp[h3]
  have hR:=hc hA0 hn1;simp only[ah.v,aa.v,V.ai]at hR;clear h2 h3 h4;(refine W.a ?_;simp only[go_sem,pY,hp,k0]);refine W.no rfl (W.a ?_);simp only[go_sem,k2];refine W.no rfl (W.a ?_);simp only[go_sem,k4];refine W.no rfl (W.a ?_);simp only[go_sem,k3];refine W.no rfl (W.a ?_);simp only[go_sem];(refine W.call (hR) rfl rfl (by first|rfl|simp) ?_);rintro d τ ⟨rfl,⟨w3,w4,w5,d2⟩,d3⟩;have t4:τ[σ.length+1]?=some (.cells [I 0,S [],I 0,.ab []]):=d3.cells _ _ _ (by omega) (Go.Lamb.bT _ _ 1);have t5:τ[σ.length+2]?=some (.cells [I 0,S [],I 0,.ab []]):=d3.cells _ _ _ (by omega) (Go.Lamb.bT _ _ 2)
  have l4:=(aL.1 t4).1;have l5:=(aL.1 t5).1;have s5:=fun A=>(bX (l:=τ) (a:=A) (by omega:σ.length+1≠σ.length+2)).trans t5;have s4:∀A B,((τ.set (σ.length+1) A).set (σ.length+2) B)[σ.length+2]?=some B:=fun A B=>cr (by rw[bF];exact l5);have s3:∀A B,((τ.set (σ.length+1) A).set (σ.length+2) B)[σ.length+1]?=some A:=fun A B=>by rw[bX (by omega)];exact cr l4
  have f1:=fun A B=>(d2.box t4 (by omega) A).box (s5 A) (by omega) B;have f2:=fun A B=>((hK0.trans d3).set A (a:=σ.length+1) (by omega) (.inr (.inl (by omega)))).set B (a:=σ.length+2) (by omega) (.inr (.inl (by omega)));(refine W.a ?_;simp only[go_sem,t4,s5]);exact W.ret ⟨_,_,(by simp only[bA,nA,s3,s4,go_sem];rfl),au,rfl,⟨_,_,_,f1 _ _⟩,f2 _ _⟩
theorem Wh(w0:World)(hW:∀x∈g.types,aD x.ty<=W)(hW1:1<=W)(hW2:W<=10000)(t:ah):∀{n0 p:Nat} {σ:H} {f:av} {y3 y4 y5:V},bz n0 σ p g f y3 y4 y5->n0<=σ.length->cX f->a8 t<=20000->f.sub.length+(W+1)*a8 t<=999000->f.bound.length+a8 t<=1000000->f.vars.length+a8 t<=1000000->0<=bw t->
  DC prog w0 25 [.ptr p 0,t.v] σ (gn n0 p g σ (bp g t f).2.2 (.ay [(bp g t f).1.v,(bp g t f).2.1.v])):=by
 refine ah.ind (P:=fun t=>∀{n0 p:Nat} {σ:H} {f:av} {y3 y4 y5:V},bz n0 σ p g f y3 y4 y5->n0<=σ.length->cX f->a8 t<=20000->f.sub.length+(W+1)*a8 t<=999000->f.bound.length+a8 t<=1000000->f.vars.length+a8 t<=1000000->0<=bw t->
  DC prog w0 25 [.ptr p 0,t.v] σ (gn n0 p g σ (bp g t f).2.2 (.ay [(bp g t f).1.v,(bp g t f).2.1.v]))) (fun t ih {n0 p σ f y3 y4 y5} h hn hok hnt hs hbl hvl hsz=>?_) t
 have hp1:1<=a8 t:=by rw[tT];omega
 have hW1':(W+1)*1<=(W+1)*a8 t:=Nat.mul_le_mul_left _ hp1;by_cases he:f.e=0
 ·rcases L3 hsz with hk|⟨nm,n,b,pos,rfl,hb⟩|⟨nm,n,a,b,pos,rfl,ha,hb⟩
  ·by_cases h2:t.k=2
   ·rw[uY g t f he h2];exact Wg w0 h hn he t h2
   ·rw[yQ g t f he h2 (by omega) (by omega)];exact L4 w0 h hn he t _ _ (.inr ⟨h2,by omega,by omega,fun hA hE=>VR w0 hW hW2 hA hE (hok.live he) (by omega) (by omega) (by omega) t⟩)
  ·have hnb:a8 (.mk 4 nm n [b] pos)=1+a8 b:=by rw[a8,cj,cj];omega
   rw[hnb]at hnt hs hbl hvl;rw[jl,gM]at hs;have hl:=f.p9;have hi:f.sub.length<f.fresh.sub.length:=by omega
   have hf2:=(hok.fresh (by omega)).push hi nm;have hbb:(f.fresh.push ⟨nm,aJ f.sub.length⟩).bound.length=f.bound.length+1:=by show(f.bound++[_]).length=_;rw[bD];rfl
   have hr:=yU hW hW1 hW2 b _ hf2 (by omega) (by show f.fresh.sub.length+_<=_;omega);have hrec:∀{E:H} {z3 z4 z5:V},bz n0 E p g (f.fresh.push ⟨nm,aJ f.sub.length⟩) z3 z4 z5->n0<=E.length->_:=fun hA hE=>ih b (by simp[ah.l]) hA hE hf2 (by omega) (by show f.fresh.sub.length+_<=_;omega) (by omega) (by show f.vars.length+_<=_;omega) hb;rw[uZ g nm n b pos f he];exact L4 w0 h hn he _ _ _ (.inl ⟨rfl,fun hA hE=>VU w0 hA hE (hok.live he) (by omega) (by omega) nm n b pos _ hr.bound hrec⟩)
  ·have hnb:a8 (.mk 3 nm n [a,b] pos)=1+a8 a+a8 b:=by rw[a8,cj,cj,cj];omega
   rw[hnb]at hnt hs hbl hvl;rw[jl,jl,gM]at hs;have hr:=yU hW hW1 hW2 a f hok (by omega) (by omega);have hrl:=hr.len;have hq:=yU hW hW1 hW2 b _ hr.ok (by omega) (by omega);have hra:∀{E:H} {z3 z4 z5:V},bz n0 E p g f z3 z4 z5->n0<=E.length->_:=fun hA hE=>ih a (by simp[ah.l]) hA hE hok (by omega) (by omega) (by omega) (by omega) ha;have hrb:∀{E:H} {z3 z4 z5:V},bz n0 E p g (bp g a f).2.2 z3 z4 z5->n0<=E.length->_:=fun hA hE=>ih b (by simp[ah.l]) hA hE hr.ok (by omega) (by omega) (by rw[hr.bound];omega) (by have:=hr.vars;omega) hb
   rw[u6 g nm n a b pos f he];refine VV w0 h hn he nm n a b pos _ _ hra hrb (fun hqe=>?_) ?_
   ·have hr0:(bp g a f).2.2.e=0:=by
     by_cases h0:(bp g a f).2.2.e=0
     ·exact h0
     ·rw[p7 g b _ h0]at hqe;exact absurd hqe h0
    obtain⟨t1,t2⟩:=hr.ty hr0;obtain⟨t3,t4⟩:=hq.ty hqe;have hl:=(bp g b (bp g a f).2.2).2.2.p9;have hge:=hq.ge;have hql:=hq.len;exact⟨hq.ok.live hqe,by omega,LF (by decide) (by omega) hq.ok.right,t1.mono (by omega),Di (t3.mono (by omega)) (iB (by omega) (by omega) (by omega)),by show aD (bp g a f).2.1<=_;omega,by show aD (.arr _ _)<=_;rw[yT,oJ];omega⟩
   ·have h1:=kg (bp g a f).1;have h2:=hr.nodes;omega
 ·rw[p7 g t f he];exact We w0 h hn he t
end
mutual
theorem DF{s:List aa}:∀{t:aa} {n r:Int},mv s t n r->r<=n
 |_,_,_,.neg _=>eU _
 |_,_,_,.go _ _ a=>by have:=DG a;omega
theorem DG{s:List aa}:∀{l:List aa} {n r:Int},iH s l n r->r<=n
 |_,_,_,.nil=>eU _
 |_,_,_,.cons a b=>by have h1:=DF a;have h2:=DG b;omega
end
mutual
theorem DH{s:List aa}:∀{t:aa} {n r:Int},mv s t n r->-1<=n->-1<=r
 |_,_,_,.neg _,hn=>hn
 |_,_,_,.go _ _ a,_=>L5 a (by omega)
theorem L5{s:List aa}:∀{l:List aa} {n r:Int},iH s l n r->-1<=n->-1<=r
 |_,_,_,.nil,hn=>hn
 |_,_,_,.cons a b,hn=>L5 b (DH a hn)
end
section
variable {n0 p:Nat} {g:Sg} {f:av}
attribute [local go_sem] aa.v aa.aM a7 bh aW aQ aX
theorem Wi(w0:World){N:Nat}(hR:ck N f.sub)(hN:N<=1000000)(hl:f.live=true):∀(d:Nat) (t:aa) (n r:Int),n<=(d:Int)-1->-1<=n->n<=1000000->mv f.sub t n r->aE f.sub.length t->aD t<=N->∀{σ:H} {y3 y4 y5:V},bz n0 σ p g f y3 y4 y5->DC prog w0 78 [.ptr p 0,t.v,I n] σ (Same (I r) σ):=by
 intro d;induction d with
 |zero=>
  intro t n r hn _ _ h _ _ σ y3 y4 y5 hA;cases h with
  |neg h=>
   refine C5.go rfl (fun hok hsz=>?_);(refine W.a ?_;simp only[go_sem,uQ,h]);refine W.yes rfl (W.a ?_);simp only[go_sem];(refine W.fs (hok) (by simp only[rU,go_sem];rfl) ?_;simp only[al];try exact V.wk.rfl _)
   all_goals (all_goals exact au)
  |go h _ _=>omega
 |succ d ihd=>
  intro t n r hn hn1 hn2 h ht htn σ y3 y4 y5 hA;refine C5.go rfl (fun hok hsz=>?_);have hp:=fun L=>hG hA.here L;unfold bK at hp;cases h with
  |neg h=>
   (refine W.a ?_;simp only[go_sem,uQ,h]);refine W.yes rfl (W.a ?_);simp only[go_sem];(refine W.fs (hok) (by simp only[rU,go_sem];rfl) ?_;simp only[al];try exact V.wk.rfl _)
   all_goals (all_goals exact au)
  |@go _ u _ _ k h dr a=>
   have hneg:¬n<0:=by omega
   have hw1:aN.wrap (n-1)=n-1:=by rw[bn]<;>omega
   (refine W.a ?_;simp only[go_sem,uQ,hneg]);refine W.no rfl (W.a ?_);simp only[go_sem];refine W.bB (α:=aa×Nat) (fun x=>gd f.sub x.1 u x.2/\aE f.sub.length x.1/\aD x.1<=N) (fun x=>⟨(((base.put (some 0) (.ptr p 0)).put (some 2) (I n)).put (some 4) (.ptr σ.length 0)),σ++[.cells x.1.v.ai]⟩) (fun x=>x.2) (t,k) ⟨dr,ht,htn⟩ ?_ (fun x hx=>?_)
   ·(refine ao.env ?_;exact aF)
   obtain⟨x,m⟩:=x;obtain⟨hr,hx,hxn⟩:=hx;dsimp only at hr hx hxn⊢;cases hr with
   |stop hst=>
    have hkids:∀y∈u.l,aE f.sub.length y:=fun y hy=>by
     by_cases hk:u.k=1
     ·obtain⟨_,_,_,hll⟩:=hx.var hk;rw[hll]at hy;cases hy
     ·exact hx.dO hk hy
    have hkn:∀y∈u.l,aD y<=N:=fun y hy=>by have:=ka hy;rw[da]at hxn;omega
    have hrec:∀(y:aa) (m m':Int),y∈u.l->m<=n-1->-1<=m->mv f.sub y m m'->∀L,DC prog w0 78 [.ptr p 0,y.v,I m] (σ++L) (Same (I m') (σ++L)):=fun y m m' hy hm hm1 hlt L=>ihd y m m' (by omega) hm1 (by omega) hlt (hkids y hy) (hkn y hy) (hA.app L);have hlen:u.l.length<=1000000:=by
     have h1:u.l.length<=bR u.l:=by
      have:∀l:List aa,l.length<=bR l:=by
       intro l;induction l with
       |nil=>exact bC _
       |cons x l ih=>rw[bk,bR,da];omega
      exact this _
     rw[da]at hxn;omega
    by_cases hk:u.k=1
    ·obtain⟨h0,hlt,hnm,hl0⟩:=hx.var hk;rw[hl0]at a;cases a;have k1:(u.k==1)=true:=by simp[hk]
     obtain⟨i,hi⟩:=sD h0;have hil:i<f.sub.length:=by omega
     unfold bI at hst;rw[hi,rM hil,k1,sA]at hst;have q1:(f.sub[i].k==1)=true:=by
      cases hq:(f.sub[i].k==1)
      ·rw[hq]at hst;simp at hst
      ·rfl
     have q2:(f.sub[i].n==(i:Int))=true:=by
      cases hq:(f.sub[i].n==(i:Int))
      ·rw[hq]at hst;simp at hst
      ·rfl
     obtain⟨x0,x2⟩:=CP hil;rcases hA.sub hl with⟨hs0,_⟩|⟨b,_,hy,hb,_⟩
     ·rw[hs0]at hil;cases hil
     subst hy;have hb2:=fun L=>hG hb L;have g0:(0:Int)<=(i:Int):=by omega
     have g1:(i:Int)<(f.sub.length:Int):=by omega
     generalize f.sub[i]=y at*;generalize aK f.sub=F at*;clear hst hk hkids hrec hkn;(refine W.a ?_;simp only[go_sem]);apply W.aS (aT _ _)
     case hc=>
      (apply ae.aq;simp only[go_sem,hp,hb2,hi,k1,q1,q2,x0,x2,g0,g1,bne]);exact ae.nil
     (refine W.a ?_;simp only[go_sem]);refine W.no rfl (W.a ?_);simp only[go_sem,hw1,hl0];refine W.bB (α:=Unit) (fun _=>True) (fun _=>⟨(((base.put (some 2) (I (n-1))).put (some 53) (I 0)).put (some 54) (I 0)),σ⟩) (fun _=>0) () trivial ?_ (fun _ _=>?_)
     ·(refine ao.drop ?_ (aA _) (hok) ?_;exact aF;(repeat' (first|exact aZ.base _|(refine aZ.put ?_ (by first|exact .c _|(simp only[go_sem];done)|exact V.gT _ _)))))
     have hz:¬((0:Int)<0):=by decide
     (refine W.a ?_;simp only[go_sem,hz]);refine W.no rfl (W.a ?_);simp only[go_sem];(refine W.fs (hok) (by simp only[rU,go_sem];rfl) ?_;simp only[al];try exact V.wk.rfl _)
     all_goals (all_goals exact au)
    ·have k1:(u.k==1)=false:=by simp[hk]
     clear hst hk;(refine W.a ?_;simp only[go_sem]);apply W.aS (aT _ _)
     case hc=>
      (apply ae.aq;simp only[go_sem,k1]);exact ae.nil
     (refine W.a ?_;simp only[go_sem]);refine W.no rfl (W.a ?_);simp only[go_sem,hw1];refine W.bB (α:=Nat×Int) (fun x=>x.1<=u.l.length/\x.2<=n-1/\-1<=x.2/\iH f.sub (u.l.drop x.1) x.2 r) (fun x=>⟨(((((base.put (some 0) (.ptr p 0)).put (some 2) (I x.2)).put (some 52) (.c (aX u.l))).put (some 53) (I (u.l.length:Int))).put (some 54) (I (x.1:Int))),σ⟩) (fun x=>u.l.length-x.1) (0,n-1) ⟨bC _,eU _,by show-1<=n-1;omega,a⟩ ?_ (fun x hx=>?_)
     ·refine ao.drop ?_ (aA _) hok ?_
      ·exact aF
      ·repeat' (first|exact aZ.base _|(refine aZ.put ?_ (by first|exact .c _|exact .ptr hA.lt)))
     obtain⟨i,m⟩:=x;obtain⟨x1,x2,x3,x4⟩:=hx;dsimp only at x1 x2 x3 x4⊢;by_cases hlt:i<u.l.length
     ·have z:(i:Int)<(u.l.length:Int):=by omega
      have hx0:u.l[i]?=some u.l[i]:=aO hlt;have hw:=eB hlt (by omega:u.l.length<=9223372036854775807);rw[List.drop_eq_getElem_cons hlt]at x4;cases x4 with
      |@cons _ _ _ m' _ a1 a2=>
       have hK:=fun L=>hrec u.l[i] m m' (bt hlt) x2 x3 a1 L;have hle:=DF a1;have hge:=DH a1 x3;(refine W.a ?_;simp only[go_sem,z]);refine W.yes rfl (W.a ?_);simp only[go_sem,z,bQ,hx0];(refine W.c1 (hK _) ?_;simp only[go_sem,hw]);refine .inv ⟨(i+1,m'),⟨hlt,by show m'<=n-1;omega,hge,a2⟩,by show u.l.length-(i+1)<u.l.length-i;omega,?_⟩;refine ao.drop ?_ (aA _) hok ?_
       ·exact aF
       ·repeat' (first|exact aZ.base _|(refine aZ.put ?_ (by first|exact .c _|exact .ptr hA.lt)))
     ·obtain rfl:i=u.l.length:=by omega
      rw[List.drop_length]at x4;cases x4;have z:¬((u.l.length:Nat):Int)<((u.l.length:Nat):Int):=by omega
      (refine W.a ?_;simp only[go_sem,z]);refine W.no rfl (W.a ?_);simp only[go_sem];(refine W.fs (hok) (by simp only[rU,go_sem];rfl) ?_;simp only[al];try exact V.wk.rfl _)
      all_goals (all_goals exact au)
   |@go _ _ m hst hr=>
    have hk:=gb hst;obtain⟨h0,hlt,_⟩:=hx.var hk;obtain⟨i,hi⟩:=sD h0;rw[hi]at hr h0 hlt;have hil:i<f.sub.length:=by omega
    have hu:aE f.sub.length (cc f.sub (i:Int)):=hR.right.holds _ (iA h0 hlt);have hun:aD (cc f.sub (i:Int))<=N:=hR.size _ (iA h0 hlt);unfold bI at hst;have k1:(x.k==1)=true:=by simp[hk]
    rw[hi,k1,sA]at hst;rw[rM hil]at hr hu hun hst;have hrow:=pX hil;have hle:i*4+4<=f.sub.length*4:=by omega
    have hFl:=lf f.sub;obtain⟨x0,x2⟩:=CP hil;rcases hA.sub hl with⟨hs0,_⟩|⟨b,_,hy,hb,_⟩
    ·rw[hs0]at hil;cases hil
    subst hy;have hb2:=fun L=>hG hb L;have g0:(0:Int)<=(i:Int):=by omega
    have g1:(i:Int)<(f.sub.length:Int):=by omega
    generalize f.sub[i]=y at*;generalize aK f.sub=F at*;clear hk;cases q1:(y.k==1)
    ·(refine W.a ?_;simp only[go_sem]);apply W.aS (aT _ _)
     case hc=>
      (apply ae.aq;simp only[go_sem,hp,hb2,hi,k1,q1,x0,x2,g0,g1,bne]);exact ae.nil
     (refine W.a ?_;simp only[go_sem]);refine W.yes rfl (W.a ?_);simp only[go_sem];apply W.aS (aT _ _)
     case hc=>
      (apply ae.aq;simp only[go_sem,hp,hb2,hi,g0,g1,hrow,hle,hFl]);exact ae.nil
     (refine W.a ?_;simp only[go_sem]);refine .inv ⟨(y,m),⟨hr,hu,hun⟩,by dsimp only;omega,?_⟩;(refine ao.env ?_;exact aF)
    ·rw[q1,sA]at hst;have q2:(y.n==(i:Int))=false:=by simpa using hst
     (refine W.a ?_;simp only[go_sem]);apply W.aS (aT _ _)
     case hc=>
      (apply ae.aq;simp only[go_sem,hp,hb2,hi,k1,q1,q2,x0,x2,g0,g1,bne]);exact ae.nil
     (refine W.a ?_;simp only[go_sem]);refine W.yes rfl (W.a ?_);simp only[go_sem];apply W.aS (aT _ _)
     case hc=>
      (apply ae.aq;simp only[go_sem,hp,hb2,hi,g0,g1,hrow,hle,hFl]);exact ae.nil
     (refine W.a ?_;simp only[go_sem]);refine .inv ⟨(y,m),⟨hr,hu,hun⟩,by dsimp only;omega,?_⟩;(refine ao.env ?_;exact aF)
end
end Go.Proofs.YtdlkenpilhakfaaGreatDoor
namespace Go.Proofs.YtdlkenpilhakfaaGreatDoor
open Go Go.RowKit Go.Lamb
theorem L6{s:List aa}{t u v:aa}{n m:Nat}(h:gd s t u n):gd s t v m->u=v:=by
 induction h generalizing m with
 |stop h=>intro k;cases k with
  |stop _=>rfl
  |go h' _=>rw[h]at h';cases h'
 |go h r ih=>intro k;cases k with
  |stop h'=>rw[h]at h';cases h'
  |go h' r'=>exact ih r'
theorem L7{N:Nat}{s:List aa}(hR:ck N s){t u:aa}{n:Nat}(h:gd s t u n):aE s.length t->aE s.length u:=by
 induction h with
 |stop _=>exact id
 |go h r ih=>intro ht;exact ih (Lr hR _ ht h).2
mutual
theorem Wj{N:Nat}{s:List aa}(hR:ck N s):∀{t u:aa} {n r:Int},mm s t u->mv s t n r->0<=r->aE s.length t->n=r+aD u/\aE s.length u
 |_,_,_,_,.var h hk,.neg h0,hr,_=>by omega
 |_,_,_,_,.gW h hk a,.neg h0,hr,_=>by omega
 |t,u,n,r,.var h hk,.go h0 d l,hr,ht=>by
  have e:=L6 h d;subst e;have hu:=L7 hR h ht;obtain⟨_,_,_,hl⟩:=hu.var hk;rw[hl]at l;cases l;rw[da,hl,bR];exact⟨by omega,hu⟩
 |t,_,n,r,.gW (u:=u) h hk a,.go h0 d l,hr,ht=>by
  have e:=L6 h d;subst e;have hu:=L7 hR h ht;obtain⟨q1,q2⟩:=DI hR a l hr (fun x hx=>hu.dO hk hx);have hlen:=a.len;refine⟨by rw[mq];omega,⟨?_,fun v hv=>?_⟩⟩
  ·have hv:=hu.valid;rw[jC,bG]at hv⊢;refine⟨?_,List.all_eq_true.2 fun x hx=>(q2 x hx).valid⟩;have hn:=hv.1;unfold kU at hn⊢;rw[a7,bh,aW,aQ,hlen];by_cases h0:u.k=0
   ·simp[h0]at hn⊢;exact hn.1
   ·by_cases h2:u.k=2
    ·simp[h2]at hn⊢;exact⟨hn.1.1,hn.2⟩
    ·simp[h0,hk,h2]at hn
  ·rw[kW (by rw[a7];exact hk),aQ]at hv;obtain⟨x,hx,ho⟩:=hv;exact(q2 x hx).vars v ho
theorem DI{N:Nat}{s:List aa}(hR:ck N s):∀{l w:List aa} {n r:Int},gk s l w->iH s l n r->0<=r->(∀x∈l,aE s.length x)->n=r+bR w/\∀x∈w,aE s.length x
 |_,_,_,_,.nil,.nil,_,_=>⟨by rw[bR];omega,fun x hx=>by cases hx⟩
 |_,_,_,_,.cons a b,.cons c d,hr,h=>by
  have hle:=DG d;obtain⟨q1,q2⟩:=Wj hR a c (by omega) (h _ (bu ..));obtain⟨q3,q4⟩:=DI hR b d hr (fun x hx=>h x (bS _ hx));refine⟨by rw[bR];omega,fun x hx=>?_⟩;rcases cA.1 hx with rfl|hx
  ·exact q2
  ·exact q4 x hx
end
end Go.Proofs.YtdlkenpilhakfaaGreatDoor
namespace Go.Proofs.YtdlkenpilhakfaaGreatDoor
open Go.RowKit Go.Lamb
def Wk(s:List UInt8):ad:=.spare 5 1 s.length
attribute [local go_sem] Wk ng tz tA tB tC tx
end Go.Proofs.YtdlkenpilhakfaaGreatDoor
namespace Go.Proofs.YtdlkenpilhakfaaGreatDoor
open Go.RowKit Go.Lamb
attribute [local go_sem] aa.v aa.aM a7 bh aW aQ aX eC.v eC.cs az.v az.cs kZ gg Sg.v xn.v xl
def Wl(b:Nat)(s:Sg):ad:=.cells [.aG (b+1) (s.kinds.map eC.cs),.aG (b+2) (s.types.map az.cs),.aG (b+3) (s.ops.map eA.cs)]
attribute [local go_sem] Wl tW Sl Sm Sn So
end Go.Proofs.YtdlkenpilhakfaaGreatDoor
namespace Go.Proofs.YtdlkenpilhakfaaGreatDoor
open Go.RowKit Go.Lamb
def c160:AC:=rsq [.o 2 (.af (.k (.ab [])))] (rsq [.o 3 (.af (zK 0))] (.seq (rsq [.m 9 0,.o 10 (.aR 9),.o 11 (.af (zK 0))] (.block 0 (.loop (rsq [.o 12 (.bin .lss 11 10)] (.seq (.cond 12 .skip (.exit 0)) (.seq (.block 1 (rsq [.o 13 (.aI 1 9 11),.l 14 13,.m 5 14] (rsq [.m 15 3,.m 16 5,.o 17 (.aR 16),.o 18 (.bin .add 15 17),.m 3 18] (rif [.m 19 3,.o 20 (.bin .lss 19 (zK 0))] 20 (.aH [.o 21 .bad,⟨none,.bad,none⟩]) .skip)))) (.aH [.o 22 (.bin .add 11 (zK 1)),.m 11 22]))))))) (rsq [.m 23 3,.k 24 211 [(.k (.ab [])),23],.m 6 24] (.seq (rsq [.m 25 0,.o 26 (.aR 25),.o 27 (.af (zK 0))] (.block 2 (.loop (rsq [.o 28 (.bin .lss 27 26)] (.seq (.cond 28 .skip (.exit 2)) (.seq (.block 3 (rsq [.o 29 (.aI 1 25 27),.l 30 29,.m 8 30] (.aH [.m 31 6,.m 32 8,.o 33 (.app 50 5 72 31 32),.m 6 33]))) (.aH [.o 34 (.bin .add 27 (zK 1)),.m 27 34]))))))) (rsq [.m 35 6,.m 2 35] .ret)))))
def L8:List aw:=[.tmp 2]
theorem Wm:aB prog 160 1 Tryz.f160 c160 L8:=.auto func160
attribute [local go_sem] aa.v aa.aM a7 bh aW aQ aX eC.v eC.cs az.v az.cs kZ gg Sg.v xn.v xl
theorem Wn:(prog.info? 50).map (fun i=>(i.zero,i.size,i.bytes))=some (some (.agg #[.string ⟨#[]⟩,.int .i64 0,.string ⟨#[]⟩,.int .i64 0,.slice none 0 0]),5,72):=by kernel_rfl
theorem L9(w:World)(n:Nat)(hn:n<=1000000)(zc:Array Value)(hz:zc.size=5):
  (w.alloc (.cells (qo zc n++qo zc (grownCap w n 0 50-n)) 50)).drew.ownsRow w.heap.size 50 5 (.slice (some ⟨w.heap.size,0,none⟩) 0 (grownCap w n 0 50)) 0 []:=by
 have hge:=grownCap_ge w n 0 50;refine⟨by simp,.inr ⟨w.heap.size,_,_,rfl,aA _,heap_alloc_new w _,bC _,grownCap_le_maxLen w n 0 50 (by unfold maxLen;omega),?_,by simp⟩⟩;simp only[Array.size_append,size_zeroCells,hz];omega
set_option maxHeartbeats 4000000 in
set_option maxRecDepth 100000 in
theorem Wo(A:Option Addr)(n:Nat)(w:World)(hn:n<=1000000):Calls prog 211 #[.slice A 0 0,.int .i64 n] w (fun e w'=>∃v,e= .returned v/\Below w.heap.size w w'/\Roomy w w' 50 5 v):=by
 by_cases h0:n=0
 ·subst h0;cases A
  ·go_enter func211,ntmps211
   go_wp2_with fail
   go_ret
   exact⟨_,rfl,ep _ _,.inl ⟨_,rfl⟩⟩
  ·go_enter func211,ntmps211
   go_wp2_with fail
   go_ret
   exact⟨_,rfl,ep _ _,.inl ⟨_,rfl⟩⟩
 ·obtain⟨i0,hi0,hz0,hz1,hz2⟩:=info_parts Wn;have h1:¬((n:Int)<0):=by omega
  have h2:(n:Int)>0:=by omega
  have hw:aN.wrap (n:Int)=n:=by rw[bn]<;>omega
  cases A
  case none=>
   have hr:=vQ (P:=prog) w 23 3 23 50 i0 _ .i64 .i64 underlying23 underlying3 hi0 hz0 none 0 0 [] (nQ (by simp) (by simp)) n (by omega) (by rw[hz1];decide) (by omega) (by omega) (by rw[hz2];omega) (growslice_fits (by omega) (by rw[hz2];omega))
   go_enter func211,ntmps211
   go_wp2_with (first
    |(at_builtin;refine vR w rfl (.tmp 20) (.tmp 21) 23 3 rfl _ _ rfl rfl _ _ hr ?_))
   go_ret
   exact⟨_,rfl,qy w _,.inr (L9 w n hn _ rfl)⟩
  case some a=>
   have hr:=vQ (P:=prog) w 23 3 23 50 i0 _ .i64 .i64 underlying23 underlying3 hi0 hz0 (some a) 0 0 [] (nQ (by simp) (by simp)) n (by omega) (by rw[hz1];decide) (by omega) (by omega) (by rw[hz2];omega) (growslice_fits (by omega) (by rw[hz2];omega))
   go_enter func211,ntmps211
   go_wp2_with (first
    |(at_builtin;refine vR w rfl (.tmp 20) (.tmp 21) 23 3 rfl _ _ rfl rfl _ _ hr ?_))
   go_ret
   exact⟨_,rfl,qy w _,.inr (L9 w n hn _ rfl)⟩
theorem Wp(w0:World)(n:Nat)(hn:n<=1000000)(σ:H):DC prog w0 211 [.ab [],I n] σ (Same (.aG σ.length []) (σ++[.spare 50 5 0])):=by
 refine DC.zR (lI func211 (by kernel_rfl) rfl) fun κ w vs hrep hfit=>?_;obtain⟨v,ys,rfl,hv,hfit⟩:=hfit.cons_inv;obtain⟨u,zs,rfl,hu,hfit⟩:=hfit.cons_inv;have:=hfit.kI;subst this;cases hv with
 |ab h1=>
  rename_i A;cases hu with
  |c hu=>
   cases hu with
   |int=>exact Wo A n w hn
end Go.Proofs.YtdlkenpilhakfaaGreatDoor
namespace Go.Proofs.YtdlkenpilhakfaaGreatDoor
open Go.RowKit Go.Lamb
theorem Wq(w0:World)(p:ah):∀(n:Int),0<=n->n<=1000000->∀(σ:H),DC prog w0 61 [p.v,I n] σ (Same (I (fZ p n)) σ):=by
 refine ah.ind (P:=fun p=>∀(n:Int),0<=n->n<=1000000->∀(σ:H),DC prog w0 61 [p.v,I n] σ (Same (I (fZ p n)) σ)) (fun p ih n hn hn' σ=>?_) p;refine TQ.go rfl (fun hok hsz=>?_);have hlen:=Kf hsz (bu ..);have hw0:aN.wrap (n-1)=n-1:=by rw[bn]<;>omega
 (refine W.a ?_;simp only[go_sem,Kb,hw0]);refine W.bB (α:=Nat×Int) (fun x=>x.1<=p.l.length/\-1<=x.2/\x.2<=1000000/\fQ (p.l.drop x.1) x.2=fZ p n) (fun x=>⟨((((base.put (some 2) (.ptr σ.length 0)).put (some 4) (I 0)).put (some 5) (I x.2)).put (some 6) (I (x.1:Nat))),σ++[.cells p.v.ai]⟩) (fun x=>p.l.length-x.1) (0,n-1) ⟨bC _,by simp only;omega,by simp only;omega,by rw[QE];rfl⟩ ?_ (fun x hi=>?_)
 ·(refine ao.env ?_;exact aF)
 ·obtain⟨i,m⟩:=x;obtain⟨hi,hm,hm',hinv⟩:=hi;simp only at hi hm hm' hinv;by_cases hlt:i<p.l.length
  ·have h1:((i:Int)<(p.l.length:Int)):=by omega
   have hx:p.l[i]?=some p.l[i]:=aO hlt;have hw:aN.wrap ((i:Int)+1)=((i+1:Nat):Int):=eB hlt hlen;by_cases h0:0<=m
   ·have h0':m>=0:=h0;(refine W.a ?_;simp only[go_sem,h1,h0']);refine W.yes rfl (W.a ?_);simp only[go_sem,h1,bQ,hx];(refine W.c1 (ih p.l[i] (bt hlt) m h0 hm' _) ?_;simp only[go_sem,hw]);have:=Gk p.l[i] m h0;refine .inv ⟨(i+1,fZ p.l[i] m),⟨hlt,this.1,by simp only;omega,by rw[<-hinv,QF hlt h0]⟩,by simp only;omega,?_⟩;(refine ao.env ?_;exact aF)
   ·have h0':¬m>=0:=h0;(refine W.a ?_;simp only[go_sem,h1,h0']);refine W.no rfl (W.a ?_);simp only[go_sem];(refine W.fs (hok) (by simp only[Ch,go_sem];rfl) ?_;simp only[al];try exact V.wk.rfl _);rw[<-hinv,Gj h0];exact .rfl _
  ·have h1:¬((i:Int)<(p.l.length:Int)):=by omega
   (refine W.a ?_;simp only[go_sem,h1]);refine W.no rfl (W.a ?_);simp only[go_sem];(refine W.fs (hok) (by simp only[Ch,go_sem];rfl) ?_;simp only[al];try exact V.wk.rfl _);rw[<-hinv,QG (by omega)];exact .rfl _
theorem Wr(w0:World)(p:ah)(n:Int)(hn:0<=n)(hn':n<=1000000)(σ:H):DC prog w0 21 [p.v,I n] σ (Same (B (decide (fZ p n<0))) σ):=by
 refine TS.go rfl (fun hok hsz=>?_);(refine W.a ?_;simp only[go_sem,c21]);(refine W.c1 (Wq w0 p n hn hn' _) ?_;simp only[go_sem]);(refine W.fs (hok) (by simp only[Kc,go_sem];rfl) ?_;simp only[al];try exact V.wk.rfl _)
end Go.Proofs.YtdlkenpilhakfaaGreatDoor
