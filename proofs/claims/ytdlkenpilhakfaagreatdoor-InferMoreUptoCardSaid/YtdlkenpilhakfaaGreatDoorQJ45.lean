/- . -/
import Derived.Test.YtdlkenpilhakfaaGreatDoorQJ44
import Derived.Test.YtdlkenpilhakfaaGreatDoorChecked
import Derived.Test.YtdlkenpilhakfaaGreatDoorQJ17
import Derived.Test.YtdlkenpilhakfaaGreatDoorQJ42
import Derived.Test.YtdlkenpilhakfaaGreatDoorQJ16
import Derived.Test.YtdlkenpilhakfaaGreatDoorQJ39
import Derived.Test.YtdlkenpilhakfaaGreatDoorQJ38
import Derived.Test.YtdlkenpilhakfaaGreatDoorQTm3
import Derived.Test.YtdlkenpilhakfaaGreatDoorQJ14
import Derived.Test.YtdlkenpilhakfaaGreatDoorQTyA2
import Derived.Test.YtdlkenpilhakfaaGreatDoorQLexA
import Derived.Lib.Builder
import Derived.Laws.Externs
import Derived.OwnWalk
import Derived.Handy
import Derived.BigRegion
import Derived.Lib.ItoaMem
import Derived.Test.YtdlkenpilhakfaaGreatDoorQLexC
import Derived.Test.YtdlkenpilhakfaaGreatDoorQRefH
import Derived.Test.YtdlkenpilhakfaaGreatDoorQRefI
set_option linter.unusedSimpArgs false
set_option linter.unusedVariables false
set_option maxHeartbeats 8000000
set_option maxRecDepth 20000
open Bool renaming and_eq_true->bz,false_eq_true->e9,true_and->qz
open Classical renaming choose->Fm,choose_spec->Fo
open Go.Builtin renaming zeroCells->qt
open Go.IntKind renaming i64->aW
open Go.Lib renaming run_append_grow_zeros->vV,wpList_append_run->vW
open Go.RowKit.Below renaming refl->ep
open Int renaming eq_ofNat_of_zero_le->sM,le_refl->eG
open List renaming append_nil->cq,cons_append->iR,cons_ne_nil->aS,flatten_cons->dU,flatten_nil->lN,getElem?_append_left->cF,getElem?_append_right->cY,getElem?_eq_getElem->aR,getElem?_eq_some_iff->aK,getElem?_set_ne->bX,getElem?_set_self->ct,getElem_mem->bw,headD_cons->z7,length_append->bt,length_cons->bo,length_map->cd,length_nil->cM,length_set->bC,map_cons->cE,map_nil->dT,mem_cons->cD,mem_cons_of_mem->bW,mem_cons_self->bp,mem_map->dK,take_succ_eq_append_getElem->jZ
open Nat renaming le_add_right->oY,le_refl->aA,le_trans->bB,mul_add->jn,mul_one->gN,sub_self->ck,zero_add->eF,zero_le->bx
open Go.Proofs.Tryz
namespace Go.Lamb
open Go Go.RowKit
theorem W.heap{P:Program}{w0:World}{n0:Nat}{Q:St->Prop}{k:List It}{ρ:Env}{σ τ:H}(h:σ=τ)(hW:W P w0 n0 Q k ⟨ρ,τ⟩):W P w0 n0 Q k ⟨ρ,σ⟩:=h▸hW
end Go.Lamb
namespace Go.Proofs.YtdlkenpilhakfaaGreatDoor
open Go.RowKit Go.Lamb
section
variable {n0 p:Nat} {σ τ:H} {g:Sg} {f:aH} {y3 y4 y5:V}
theorem bq.VW(h:bq n0 σ p g f y3 y4 y5)(hn:n0<=σ.length)(h0:f.vars=[])(x:ay):
  bq n0 ((σ++[ad.spare 50 5 1]).set p (bJ g (f.gK x) y3 y4 (.aF σ.length [x.cs]))) p g (f.gK x) y3 y4 (.aF σ.length [x.cs])/\Kept n0 p σ ((σ++[ad.spare 50 5 1]).set p (bJ g (f.gK x) y3 y4 (.aF σ.length [x.cs]))):=by
 have hA:=h.app [.spare 50 5 1];have e:(f.gK x).vars=[x]:=by show f.vars++[x]=_;rw[h0];rfl
 have hP:=hA.put (f':=f.gK x) (z3:=y3) (z4:=y4) (z5:=.aF σ.length [x.cs]) hA.sub hA.eh (.inr ⟨σ.length,hn,by rw[e];rfl,by rw[e];exact Go.Lamb.eB _ _⟩);exact⟨hP.1,((Kept.refl n0 p σ).app hn _).trans hP.2⟩
theorem bq.VX{b:Nat}(h:bq n0 σ p g f y3 y4 (.aF b (f.vars.map ay.cs)))(hb0:n0<=b)(hb:σ[b]?=some (.spare 50 5 f.vars.length))(x:ay):
  bq n0 ((σ.set b (.spare 50 5 (f.vars.length+1))).set p (bJ g (f.gK x) y3 y4 (.aF b (f.vars.map ay.cs++[x.cs])))) p g (f.gK x) y3 y4 (.aF b (f.vars.map ay.cs++[x.cs]))/\Kept n0 p σ ((σ.set b (.spare 50 5 (f.vars.length+1))).set p (bJ g (f.gK x) y3 y4 (.aF b (f.vars.map ay.cs++[x.cs])))):=by
 have hbl:=(aK.1 hb).1;have hpl:=h.lt;have hne:b≠p:=by rintro rfl;rw[h.here]at hb;cases hb
 have hk:∀(c:Nat) (B:ad),(∀cs tg,B≠ .cells cs tg)->(∀k,B≠ .spare 50 5 k)->σ[c]?=some B->((σ.set b (.spare 50 5 (f.vars.length+1))).set p (bJ g (f.gK x) y3 y4 (.aF b (f.vars.map ay.cs++[x.cs]))))[c]?=some B:=fun c B h1 h2 hc=>by
  have hcp:p≠c:=by rintro rfl;rw[h.here]at hc;injection hc with hc;exact h1 _ _ hc.symm
  have hcb:b≠c:=by rintro rfl;rw[hb]at hc;injection hc with hc;exact h2 _ hc.symm
  rw[bX hcp,bX hcb];exact hc
 have e:(f.gK x).vars=f.vars++[x]:=rfl;refine⟨⟨ct (by rw[bC];exact hpl),h.le,fun hl=>(h.sub hl).mono fun c d _ hc=>hk c _ (fun _ _ e=>by cases e) (fun _ e=>by cases e) hc,h.eh.mono fun c d _ hc=>hk c _ (fun _ _ e=>by cases e) (fun _ e=>by cases e) hc,.inr ⟨b,hb0,by rw[e,List.map_append];rfl,?_⟩⟩,((Kept.refl n0 p σ).set _ hb0 (.inr (.inr fun cs tg e=>by rw[hb]at e;cases e))).set _ h.le (.inl rfl)⟩;rw[bX (Ne.symm hne),ct hbl,e,bt];rfl
attribute [local go_sem] aa.v aa.aM aY a7 aV aL aT
theorem VY(w0:World)(h:bq n0 σ p g f y3 y4 y5)(hn:n0<=σ.length)(hl:f.live=true)(hs:f.sub.length<=999999)(hbl:f.bound.length<=1000000)(hvl:f.vars.length<=1000000)(t:ao)(h1:t.k=1)(hlk:dw t.name 0 f.bound=-1)(hlv:dw t.name 0 f.vars=-1):
  DC prog w0 70 [.ptr p 0,t.v] σ (gn n0 p g σ (f.fresh.gK ⟨t.name,aN f.sub.length⟩) (.av [(mD f t).1.v,(mD f t).2.1.v])):=by
 refine sc.dn rfl (fun hok hsz=>?_);have hp:=fun L=>hG h.here L;unfold bJ at hp;have hlt:=h.lt;have k1:(t.k==1)=true:=by simp[h1]
 have hL:=fun a b c=>vi w0 (h.app [a,b,c]).eh hbl t.name;rw[hlk]at hL;have hV:=fun a b c=>Mg w0 (h.app [a,b,c]).var hvl t.name;rw[hlv]at hV;have gz:¬(-1:Int)>=0:=by decide
 have gy:(-1:Int)<0:=by decide
 have hA0:=h.app [.cells t.v.ah,.cells [I 0,S [],I 0,.ab []],.cells [I 0,S [],I 0,.ab []]];have hK0:=(Kept.refl n0 p σ).app hn [.cells t.v.ah,.cells [I 0,S [],I 0,.ab []],.cells [I 0,S [],I 0,.ab []]];obtain⟨τ,c1,c2,c3⟩:=sn w0 hA0 (bB hn hK0.len) hl hs;have hn2:=bB (bB hn hK0.len) c3.len;have hq:=fun L=>hG c2.here L;have hq0:=c2.here;unfold bJ at hq hq0;have hx3:τ[σ.length]?=some (.cells t.v.ah):=c3.cells _ _ _ (by omega) (Go.Lamb.eB _ _);have hx4:τ[σ.length+1]?=some (.cells [I 0,S [],I 0,.ab []]):=c3.cells _ _ _ (by omega) (Go.Lamb.bY _ _ 1)
 have hx5:τ[σ.length+2]?=some (.cells [I 0,S [],I 0,.ab []]):=c3.cells _ _ _ (by omega) (Go.Lamb.bY _ _ 2);have l3:=(aK.1 hx5).1;have hy3:=fun L=>hG hx3 L;have hpt:=c2.lt;generalize hz3:(V.vec (σ++[ad.cells t.v.ah,ad.cells [I 0,S [],I 0,.ab []],ad.cells [I 0,S [],I 0,.ab []]]).length (f.sub.length+1))=z3 at*
 unfold mD;rw[hlv,if_pos gy];simp only[aN,aa.v,ao.v,V.ah]at c1 hy3 hx3;have hvf:f.fresh.vars=f.vars:=rfl;rcases c2.var with⟨h0,rfl⟩|⟨b,hb0,hy,hb⟩
 ·rw[hvf]at h0;have hv0:(f.vars.length:Int)=0:=by rw[h0];rfl
  rw[hv0];obtain⟨r1,r2⟩:=c2.VW hn2 h0 ⟨t.name,aN f.sub.length⟩;obtain⟨E,hE⟩:∃E,((τ++[ad.spare 50 5 1]).set p (bJ g (f.fresh.gK ⟨t.name,aN f.sub.length⟩) z3 y4 (.aF τ.length [(ay.mk t.name (aN f.sub.length)).cs])))=E:=⟨_,rfl⟩;rw[hE]at r1 r2;(refine W.a ?_;simp only[go_sem,c70,hp]);apply W.aQ (aS _ _)
  case hc=>
   (apply ae.al;simp only[go_sem,hp]);(apply ae.call (hL _ _ _);(case hg=>rfl);(case hf=>rfl);(case ha=>first|rfl|simp));(apply ae.al;simp only[go_sem]);exact ae.nil
  (refine W.a ?_;simp only[go_sem,gz]);refine W.no rfl (W.a ?_);simp only[go_sem,k1];refine W.yes rfl (W.a ?_);simp only[go_sem];apply W.aQ (aS _ _)
  case hc=>
   (apply ae.al;simp only[go_sem,hp]);(apply ae.call (hV _ _ _);(case hg=>rfl);(case hf=>rfl);(case ha=>first|rfl|simp));(apply ae.al;simp only[go_sem]);exact ae.nil
  (refine W.a ?_;simp only[go_sem,gy]);refine W.yes rfl (W.a ?_);simp only[go_sem,hp];apply W.aQ (aS _ _)
  case hc=>
   (apply ae.al;simp only[go_sem,hp]);(apply ae.call (c1);(case hg=>rfl);(case hf=>rfl);(case ha=>first|rfl|simp));(apply ae.al;simp only[go_sem,hp,hq,hq0,hx3,hy3,true_or]);exact ae.nil
  refine W.heap hE ?_;have hE0:=r1.here;unfold bJ at hE0;have e4:=r2.cells _ _ _ (by omega) hx4;have e5:=r2.cells _ _ _ (by omega) hx5;have l4:=(aK.1 e4).1;have l5:=(aK.1 e5).1;have s1:=fun A=>(bX (l:=E) (a:=A) (by omega:σ.length+1≠p)).trans hE0;have s2:=fun A=>(bX (l:=E) (a:=A) (by omega:σ.length+1≠σ.length+2)).trans e5;have s4:∀A B,((E.set (σ.length+1) A).set (σ.length+2) B)[σ.length+2]?=some B:=fun A B=>ct (by rw[bC];exact l5);have s3:∀A B,((E.set (σ.length+1) A).set (σ.length+2) B)[σ.length+1]?=some A:=fun A B=>by rw[bX (by omega)];exact ct l4
  have f1:=fun A B=>(r1.box e4 (by omega) A).box (s2 A) (by omega) B;have f2:=fun A B=>(((hK0.trans c3).trans r2).set A (a:=σ.length+1) (by omega) (.inr (.inl (by omega)))).set B (a:=σ.length+2) (by omega) (.inr (.inl (by omega)));(refine W.a ?_;simp only[go_sem]);apply W.aQ (aS _ _)
  case hc=>
   (apply ae.al;simp only[go_sem,hE0,s1,s2,e4,e5,ay.cs,aN]);exact ae.nil
  (refine W.a ?_;simp only[go_sem]);exact W.ret ⟨_,_,(by simp only[br,oF,s3,s4,go_sem];rfl),au,rfl,⟨_,_,_,f1 _ _⟩,f2 _ _⟩
 ·rw[hvf]at hb hy;subst hy;have hb5:b<τ.length:=(aK.1 hb).1;have hbp:b≠p:=by rintro rfl;rw[hq0]at hb;cases hb
  obtain⟨r1,r2⟩:=c2.VX hb0 hb ⟨t.name,aN f.sub.length⟩;obtain⟨E,hE⟩:∃E,((τ.set b (ad.spare 50 5 (f.vars.length+1))).set p (bJ g (f.fresh.gK ⟨t.name,aN f.sub.length⟩) z3 y4 (.aF b (f.vars.map ay.cs++[(ay.mk t.name (aN f.sub.length)).cs]))))=E:=⟨_,rfl⟩;rw[hvf]at r1 r2;rw[hE]at r1 r2;have hrl:(f.vars.map ay.cs).length=f.vars.length:=cd _;have hr5:(∀r∈f.vars.map ay.cs,r.length=5)=True:=eq_true (si f.vars);have b1:(f.vars.length+1)*72<=140737488355328:=by omega
  have b2:f.vars.length+1<=140737488355328:=by omega
  have b3:f.vars.length<=140737488355327:=by omega
  have hsp:∀B,(τ.set b B)[p]?=τ[p]?:=fun B=>bX hbp;have g1:(0:Int)<=(f.vars.length:Int):=by omega
  have g2:(f.vars.length:Int)<((f.vars.length+1:Nat):Int):=by omega
  have hrow:∀r:List C,(f.vars.map ay.cs++[r])[f.vars.length]?=some r:=fun r=>by
   rw[cY (by omega),hrl,ck];rfl
  generalize hR:f.vars.map ay.cs=R at*
  (refine W.a ?_;simp only[go_sem,c70,hp]);apply W.aQ (aS _ _)
  case hc=>
   (apply ae.al;simp only[go_sem,hp]);(apply ae.call (hL _ _ _);(case hg=>rfl);(case hf=>rfl);(case ha=>first|rfl|simp));(apply ae.al;simp only[go_sem]);exact ae.nil
  (refine W.a ?_;simp only[go_sem,gz]);refine W.no rfl (W.a ?_);simp only[go_sem,k1];refine W.yes rfl (W.a ?_);simp only[go_sem];apply W.aQ (aS _ _)
  case hc=>
   (apply ae.al;simp only[go_sem,hp]);(apply ae.call (hV _ _ _);(case hg=>rfl);(case hf=>rfl);(case ha=>first|rfl|simp));(apply ae.al;simp only[go_sem]);exact ae.nil
  (refine W.a ?_;simp only[go_sem,gy]);refine W.yes rfl (W.a ?_);simp only[go_sem,hp];apply W.aQ (aS _ _)
  case hc=>
   (apply ae.al;simp only[go_sem,hp]);(apply ae.call (c1);(case hg=>rfl);(case hf=>rfl);(case ha=>first|rfl|simp));(apply ae.al;simp only[go_sem,hp,hq,hq0,hx3,hy3,true_or,hb,hrl,hr5,b1,b2,b3,hsp]);exact ae.nil
  refine W.heap hE ?_;have hE0:=r1.here;unfold bJ at hE0;have e4:=r2.cells _ _ _ (by omega) hx4;have e5:=r2.cells _ _ _ (by omega) hx5;have l4:=(aK.1 e4).1;have l5:=(aK.1 e5).1;have s1:=fun A=>(bX (l:=E) (a:=A) (by omega:σ.length+1≠p)).trans hE0;have s2:=fun A=>(bX (l:=E) (a:=A) (by omega:σ.length+1≠σ.length+2)).trans e5;have s4:∀A B,((E.set (σ.length+1) A).set (σ.length+2) B)[σ.length+2]?=some B:=fun A B=>ct (by rw[bC];exact l5);have s3:∀A B,((E.set (σ.length+1) A).set (σ.length+2) B)[σ.length+1]?=some A:=fun A B=>by rw[bX (by omega)];exact ct l4
  have f1:=fun A B=>(r1.box e4 (by omega) A).box (s2 A) (by omega) B;have f2:=fun A B=>(((hK0.trans c3).trans r2).set A (a:=σ.length+1) (by omega) (.inr (.inl (by omega)))).set B (a:=σ.length+2) (by omega) (.inr (.inl (by omega)));(refine W.a ?_;simp only[go_sem]);apply W.aQ (aS _ _)
  case hc=>
   (apply ae.al;simp only[go_sem,hE0,s1,s2,e4,e5,ay.cs,aN,hrl,hrow,g1,g2]);exact ae.nil
  (refine W.a ?_;simp only[go_sem]);exact W.ret ⟨_,_,(by simp only[br,oF,s3,s4,go_sem];rfl),au,rfl,⟨_,_,_,f1 _ _⟩,f2 _ _⟩
end
section
variable {n0 p:Nat} {σ τ:H} {g:Sg} {f:aH} {y3 y4 y5:V}
attribute [local go_sem] aa.v aa.aM aY a7 aV aL aT
theorem VZ(w0:World)(h:bq n0 σ p g f y3 y4 y5)(hn:n0<=σ.length)(hl:f.live=true)(hbl:f.bound.length<=1000000)(t:ao)(h1:t.k≠1)(hlk:dw t.name 0 f.bound=-1){u:aa}(hc:iL g t.name=some u)(hu:aC u<=10000)(hs:f.sub.length+aC u<=999999):
  DC prog w0 70 [.ptr p 0,t.v] σ (gn n0 p g σ (f.renew u) (.av [(aa.mk 0 t.name 0 []).v,(f.db u).v])):=by
 refine sc.dn rfl (fun hok hsz=>?_);have hp:=fun L=>hG h.here L;unfold bJ at hp;have hlt:=h.lt;have k1:(t.k==1)=false:=by simp[h1]
 have hL:=fun a b c=>vi w0 (h.app [a,b,c]).eh hbl t.name;rw[hlk]at hL;have gz:¬(-1:Int)>=0:=by decide
 have hA0:=h.app [.cells t.v.ah,.cells [I 0,S [],I 0,.ab []],.cells [I 0,S [],I 0,.ab []]];have hK0:=(Kept.refl n0 p σ).app hn [.cells t.v.ah,.cells [I 0,S [],I 0,.ab []],.cells [I 0,S [],I 0,.ab []]];have hC:=VS w0 hA0 (bB hn hK0.len) hl t.name hc hu hs;simp only[aa.v,ao.v,V.ah]at hC;(refine W.a ?_;simp only[go_sem,c70,hp]);apply W.aQ (aS _ _)
 case hc=>
  (apply ae.al;simp only[go_sem,hp]);(apply ae.call (hL _ _ _);(case hg=>rfl);(case hf=>rfl);(case ha=>first|rfl|simp));(apply ae.al;simp only[go_sem]);exact ae.nil
 (refine W.a ?_;simp only[go_sem,gz]);refine W.no rfl (W.a ?_);simp only[go_sem,k1];refine W.no rfl (W.a ?_);simp only[go_sem];(refine W.call (hC) rfl rfl (by first|rfl|simp) ?_);rintro d τ ⟨rfl,⟨z3,c2⟩,c3⟩;have hn2:=bB (bB hn hK0.len) c3.len;have hx3:τ[σ.length]?=some (.cells t.v.ah):=c3.cells _ _ _ (by omega) (Go.Lamb.eB _ _);have hx4:τ[σ.length+1]?=some (.cells [I 0,S [],I 0,.ab []]):=c3.cells _ _ _ (by omega) (Go.Lamb.bY _ _ 1);have hx5:τ[σ.length+2]?=some (.cells [I 0,S [],I 0,.ab []]):=c3.cells _ _ _ (by omega) (Go.Lamb.bY _ _ 2)
 have l3:=(aK.1 hx5).1;simp only[ao.v,V.ah]at hx3;generalize f.db u=v at*
 obtain⟨E,hE⟩:∃E,(τ++[ad.cells v.v.ah])=E:=⟨_,rfl⟩;have r1:=c2.app [ad.cells v.v.ah];have r2:=(Kept.refl n0 p τ).app hn2 [ad.cells v.v.ah];have e8:(τ++[ad.cells v.v.ah])[τ.length]?=some (ad.cells v.v.ah):=Go.Lamb.eB _ _;rw[hE]at r1 r2 e8;simp only[aa.v,V.ah]at e8;have hml:σ.length+2<τ.length:=l3;have e4:=r2.cells _ _ _ (by omega) hx4;have e5:=r2.cells _ _ _ (by omega) hx5;have e3:=r2.cells _ _ _ (by omega) hx3;have l4:=(aK.1 e4).1;have l5:=(aK.1 e5).1;have s1:=fun A=>(bX (l:=E) (a:=A) (by omega:σ.length+1≠σ.length)).trans e3
 have s2:=fun A=>(bX (l:=E) (a:=A) (by omega:σ.length+1≠σ.length+2)).trans e5;have s8:=fun A=>(bX (l:=E) (a:=A) (by omega:σ.length+1≠τ.length)).trans e8;have s4:∀A B,((E.set (σ.length+1) A).set (σ.length+2) B)[σ.length+2]?=some B:=fun A B=>ct (by rw[bC];exact l5);have s3:∀A B,((E.set (σ.length+1) A).set (σ.length+2) B)[σ.length+1]?=some A:=fun A B=>by rw[bX (by omega)];exact ct l4
 have f1:=fun A B=>(r1.box e4 (by omega) A).box (s2 A) (by omega) B;have f2:=fun A B=>(((hK0.trans c3).trans r2).set A (a:=σ.length+1) (by omega) (.inr (.inl (by omega)))).set B (a:=σ.length+2) (by omega) (.inr (.inl (by omega)));(refine W.a ?_;simp only[go_sem]);refine W.no rfl (W.a ?_);simp only[go_sem];refine W.heap hE ?_;apply W.aQ (aS _ _)
 case hc=>
  (apply ae.al;simp only[go_sem,e3,e4,e5,e8,s1,s2,s8]);exact ae.nil
 (refine W.a ?_;simp only[go_sem]);exact W.ret ⟨_,_,(by simp only[br,oF,s3,s4,go_sem];rfl),au,rfl,⟨_,_,_,f1 _ _⟩,f2 _ _⟩
theorem V0(w0:World)(h:bq n0 σ p g f y3 y4 y5)(hn:n0<=σ.length)(hbl:f.bound.length<=1000000)(t:ao)(h1:t.k≠1)(hlk:dw t.name 0 f.bound=-1)(hc:iL g t.name=none):
  DC prog w0 70 [.ptr p 0,t.v] σ (gn n0 p g σ (f.fail 120 t.pos) (.av [(aa.mk 0 t.name 0 []).v,aa.none.v])):=by
 refine sc.dn rfl (fun hok hsz=>?_);have hp:=fun L=>hG h.here L;unfold bJ at hp;have hlt:=h.lt;have k1:(t.k==1)=false:=by simp[h1]
 have hL:=fun a b c=>vi w0 (h.app [a,b,c]).eh hbl t.name;rw[hlk]at hL;have gz:¬(-1:Int)>=0:=by decide
 have hA1:=h.app [.cells t.v.ah,.cells [I 0,S [],I 0,.ab []],.cells [I 0,S [],I 0,.ab []]];have hA0:=h.app [.cells t.v.ah,.cells [I 0,S [],I 0,.ab []],.cells [I 0,S [],I 0,.ab []],.cells [I 0,S [],I 0,.c (.sl [])]];have hK0:=(Kept.refl n0 p σ).app hn [.cells t.v.ah,.cells [I 0,S [],I 0,.ab []],.cells [I 0,S [],I 0,.ab []],.cells [I 0,S [],I 0,.c (.sl [])]];have hC:=VR w0 hA1 t.name hc _ rfl;have hF:=DK w0 hA0 120 t.pos;simp only[aa.v,ao.v,V.ah,aa.none]at hC hF;(refine W.a ?_;simp only[go_sem,c70,hp])
 apply W.aQ (aS _ _)
 case hc=>
  (apply ae.al;simp only[go_sem,hp]);(apply ae.call (hL _ _ _);(case hg=>rfl);(case hf=>rfl);(case ha=>first|rfl|simp));(apply ae.al;simp only[go_sem]);exact ae.nil
 (refine W.a ?_;simp only[go_sem,gz]);refine W.no rfl (W.a ?_);simp only[go_sem,k1];refine W.no rfl (W.a ?_);simp only[go_sem];(refine W.c1 (hC) ?_;simp only[go_sem]);(refine W.a ?_;simp only[go_sem]);refine W.yes rfl (W.a ?_);simp only[go_sem];(refine W.call (hF) rfl rfl (by first|rfl|simp) ?_);rintro d τ ⟨rfl,c2,c3⟩;have hn2:=bB (bB hn hK0.len) c3.len;have hx3:τ[σ.length]?=some (.cells t.v.ah):=c3.cells _ _ _ (by omega) (Go.Lamb.eB _ _);have hx4:τ[σ.length+1]?=some (.cells [I 0,S [],I 0,.ab []]):=c3.cells _ _ _ (by omega) (Go.Lamb.bY _ _ 1)
 have hx5:τ[σ.length+2]?=some (.cells [I 0,S [],I 0,.ab []]):=c3.cells _ _ _ (by omega) (Go.Lamb.bY _ _ 2);have e8:τ[σ.length+3]?=some (.cells [I 0,S [],I 0,.c (.sl [])]):=c3.cells _ _ _ (by omega) (Go.Lamb.bY _ _ 3);simp only[ao.v,V.ah]at hx3;obtain⟨E,hE⟩:∃E,τ=E:=⟨_,rfl⟩;subst hE;have hE:τ=τ:=rfl;have r1:=c2;have r2:=Kept.refl n0 p τ;have e4:=r2.cells _ _ _ (by omega) hx4;have e5:=r2.cells _ _ _ (by omega) hx5;have e3:=r2.cells _ _ _ (by omega) hx3;have l4:=(aK.1 e4).1;have l5:=(aK.1 e5).1;have s1:=fun A=>(bX (l:=τ) (a:=A) (by omega:σ.length+1≠σ.length)).trans e3
 have s2:=fun A=>(bX (l:=τ) (a:=A) (by omega:σ.length+1≠σ.length+2)).trans e5;have s8:=fun A=>(bX (l:=τ) (a:=A) (by omega:σ.length+1≠σ.length+3)).trans e8;have s4:∀A B,((τ.set (σ.length+1) A).set (σ.length+2) B)[σ.length+2]?=some B:=fun A B=>ct (by rw[bC];exact l5);have s3:∀A B,((τ.set (σ.length+1) A).set (σ.length+2) B)[σ.length+1]?=some A:=fun A B=>by rw[bX (by omega)];exact ct l4
 have f1:=fun A B=>(r1.box e4 (by omega) A).box (s2 A) (by omega) B;have f2:=fun A B=>(((hK0.trans c3).trans r2).set A (a:=σ.length+1) (by omega) (.inr (.inl (by omega)))).set B (a:=σ.length+2) (by omega) (.inr (.inl (by omega)));(refine W.a ?_;simp only[go_sem,aa.none]);apply W.aQ (aS _ _)
 case hc=>
  (apply ae.al;simp only[go_sem,e3,e4,e5,e8,s1,s2,s8]);exact ae.nil
 (refine W.a ?_;simp only[go_sem]);exact W.ret ⟨_,_,(by simp only[br,oF,s3,s4,go_sem];rfl),au,rfl,⟨_,_,_,f1 _ _⟩,f2 _ _⟩
theorem V1{W:Nat}(w0:World)(hW:∀x∈g.types,aC x.ty<=W)(hW2:W<=10000)(h:bq n0 σ p g f y3 y4 y5)(hn:n0<=σ.length)(hl:f.live=true)(hs:f.sub.length+(W+1)<=999000)(hbl:f.bound.length<=1000000)(hvl:f.vars.length<=1000000)(t:ao):
  DC prog w0 70 [.ptr p 0,t.v] σ (gn n0 p g σ (jP g f t).2.2 (.av [(jP g f t).1.v,(jP g f t).2.1.v])):=by
 unfold jP;rcases zf t.name f.bound 0 with hb|⟨i,hi,hb⟩
 ·rw[if_neg (by rw[hb];decide)];by_cases h1:t.k=1
  ·rw[if_pos h1];rcases zf t.name f.vars 0 with hv|⟨i,hi,hv⟩
   ·have:=VY w0 h hn hl (by omega) hbl hvl t h1 hb hv;unfold mD at this⊢;rw[hv,if_pos (by decide)]at this⊢;exact this
   ·rw[eF]at hv;have:=VV w0 h hn hbl hvl t h1 hb i hi hv;unfold mD at this⊢;rw[hv,if_neg (by omega)]at this⊢;exact this
  ·rw[if_neg h1];unfold y9;cases hc:iL g t.name with
   |none=>exact V0 w0 h hn hbl t h1 hb hc
   |some u=>
    have hu:aC u<=W:=by
     unfold iL at hc;split at hc
     ·rename_i x hx;split at hc
      ·injection hc with hc;subst hc;exact hW x (List.mem_of_find?_eq_some hx)
      ·cases hc
     ·cases hc
    exact VZ w0 h hn hl hbl t h1 hb hc (by omega) (by omega)
 ·rw[eF]at hb;rw[hb,if_pos (by omega)];exact VU w0 h hn hbl t i hi hb
end
section
variable {n0 p:Nat} {σ τ:H} {g:Sg} {f:aH} {y3 y4 y5:V}
theorem V2(h:bq n0 σ p g f y3 y4 y5)(hn:n0<=σ.length)(h0:f.bound=[])(x:ay):
  bq n0 ((σ++[ad.vec 50 5 x.cs]).set p (bJ g (f.push x) y3 (.vec σ.length 1) y5)) p g (f.push x) y3 (.vec σ.length 1) y5/\Kept n0 p σ ((σ++[ad.vec 50 5 x.cs]).set p (bJ g (f.push x) y3 (.vec σ.length 1) y5)):=by
 have hA:=h.app [ad.vec 50 5 x.cs];have e:(f.push x).bound=[x]:=by show f.bound++[x]=_;rw[h0];rfl
 have hP:=hA.put (f':=f.push x) (z3:=y3) (z4:=.vec σ.length 1) (z5:=y5) hA.sub (.inr ⟨σ.length,[],hn,by rw[e];rfl,by rw[e];show _=some (ad.vec _ _ (cb [x]++[]));rw[cq];simp only[cb,cE,dT,dU,lN,cq];exact Go.Lamb.eB _ _⟩) hA.var;exact⟨hP.1,((Kept.refl n0 p σ).app hn _).trans hP.2⟩
theorem V3{b:Nat}{J:List C}(h:bq n0 σ p g f y3 (.vec b f.bound.length) y5)(hn:n0<=σ.length)(hb0:n0<=b)(hb:σ[b]?=some (.vec 50 5 (cb f.bound++J)))(x:ay):
  bq n0 ((σ.set b .gone++[ad.vec 50 5 (cb f.bound++x.cs)]).set p (bJ g (f.push x) y3 (.vec σ.length (f.bound.length+1)) y5)) p g (f.push x) y3 (.vec σ.length (f.bound.length+1)) y5/\Kept n0 p σ ((σ.set b .gone++[ad.vec 50 5 (cb f.bound++x.cs)]).set p (bJ g (f.push x) y3 (.vec σ.length (f.bound.length+1)) y5)):=by
 have hbl:=(aK.1 hb).1;have hpl:=h.lt;have hne:b≠p:=by rintro rfl;rw[h.here]at hb;cases hb
 have hk:∀(c:Nat) (B:ad),(∀cs tg,B≠ .cells cs tg)->(∀k,B≠ .vec 50 5 k)->σ[c]?=some B->((σ.set b .gone++[ad.vec 50 5 (cb f.bound++x.cs)]).set p (bJ g (f.push x) y3 (.vec σ.length (f.bound.length+1)) y5))[c]?=some B:=fun c B h1 h2 hc=>by
  have hcp:p≠c:=by rintro rfl;rw[h.here]at hc;injection hc with hc;exact h1 _ _ hc.symm
  have hcb:b≠c:=by rintro rfl;rw[hb]at hc;injection hc with hc;exact h2 _ hc.symm
  rw[bX hcp,cF (by rw[bC];exact(aK.1 hc).1),bX hcb];exact hc
 have e:(f.push x).bound=f.bound++[x]:=rfl;have hlen:(σ.set b .gone).length=σ.length:=bC ..;refine⟨⟨ct (by rw[bt,hlen];omega),h.le,fun hl=>(h.sub hl).mono fun c d _ hc=>hk c _ (fun _ _ e=>by cases e) (fun _ e=>by cases e) hc,.inr ⟨σ.length,[],hn,by rw[e,bt];rfl,?_⟩,h.var.mono fun c d _ hc=>hk c _ (fun _ _ e=>by cases e) (fun _ e=>by cases e) hc⟩,((((Kept.refl n0 p σ).set ad.gone hb0 (.inr (.inr fun cs tg e=>by rw[hb]at e;cases e))).app hn _).set _ h.le (.inl rfl))⟩;rw[bX (by omega),cY (by rw[hlen];exact aA _),hlen,ck,e,L3,cq]
 rfl
theorem Mh{b:Nat}{J:List C}{l:List ay}{x:ay}(h:bq n0 σ p g f y3 y4 y5)(hl:f.bound=l++[x])(hb0:n0<=b)(hb:σ[b]?=some (.vec 50 5 (cb f.bound++J))):
  bq n0 (σ.set p (bJ g f.pop y3 (.vec b l.length) y5)) p g f.pop y3 (.vec b l.length) y5/\Kept n0 p σ (σ.set p (bJ g f.pop y3 (.vec b l.length) y5)):=by
 have e:f.pop.bound=l:=by show f.bound.dropLast=l;rw[hl,List.dropLast_concat]
 exact h.put (f':=f.pop) h.sub (.inr ⟨b,x.cs++J,hb0,by rw[e],by rw[e,hb,hl,L3,List.append_assoc]⟩) h.var
end
def Mi(v:Int)(gs:List aa)(any:Bool):V:=.agg [I v,.c (.sl (gs.map aa.cs)),B any]
attribute [local go_sem] aa.v aa.aM aY a7 aV aL aT Mi
end Go.Proofs.YtdlkenpilhakfaaGreatDoor
namespace Go.Proofs.YtdlkenpilhakfaaGreatDoor
open Go.RowKit Go.Lamb
attribute [local go_sem] aa.v aa.aM aY a7 aV aL aT Mi
theorem vj(w0:World)(t:aa)(σ:H):DC prog w0 118 [I 1,t.v] σ (Same (bI t).v σ):=by
 refine KM.go rfl (fun hok hsz=>?_);have hw:aW.wrap (0+1)=1:=by decide
 ((try refine W.a ?_);simp only[go_sem,CF]);refine W.bA (α:=Bool) (fun _=>True) (fun d=>⟨((((base.put (some 3) (.ptr σ.length 0)).put (some 4) (.ptr (σ.length+1) 0)).put (some 6) (I 1)).put (some 7) (I (if d then 1 else 0))),σ++[.cells (if d then(bI t).v.ah else t.v.ah),.cells [I 0,S [],I 0,.ab []]]⟩) (fun d=>if d then 0 else 1) false trivial ?_ (fun d _=>?_)
 ·simp only[e9,if_false];(refine aq.env ?_;exact aE)
 cases d
 ·simp only[e9,if_false];((try refine W.a ?_);simp only[go_sem]);refine W.yes rfl (W.a ?_);simp only[go_sem,hw];refine .inv ⟨true,by simp,?_⟩;simp only[if_true,bI];simp only[go_sem];(refine aq.eS (hok) ?_ (by simp) (by simp) ?_ ?_ ?_;exact aE;((try simp only[okB,bu,go_sem])<;>omega);(simp only[bo,cM,Nat.reduceAdd,List.take_succ_cons,List.take_zero,bu,and_true];(repeat' (refine And.intro ?_ ?_))<;>(first|exact ad.wk.rfl _|exact ad.wk.gone _|(refine ad.eT ?_ rfl;(exact au))));(repeat' (first|exact aZ.base _|(refine aZ.put ?_ (by first|exact .c _|((try simp only[okB,bu,go_sem])<;>omega))))))
 ·simp only[if_true];((try refine W.a ?_);simp only[go_sem]);refine W.no rfl (W.a ?_);simp only[go_sem,bI];(refine W.fs (hok) (by simp only[CG,go_sem];rfl) ?_;simp only[ak];try exact V.wk.rfl _)
  all_goals (all_goals exact au)
end Go.Proofs.YtdlkenpilhakfaaGreatDoor
namespace Go.Proofs.YtdlkenpilhakfaaGreatDoor
open Go.RowKit Go.Lamb
section
variable {n0 p:Nat} {σ τ:H} {g:Sg} {f:aH} {y3 y4 y5:V}
attribute [local go_sem] aa.v aa.aM aY a7 aV aL aT
theorem V4(w0:World)(h:bq n0 σ p g f y3 y4 y5)(hn:n0<=σ.length)(hl:f.live=true)(hs:f.sub.length<=999999)(hbl:f.bound.length<=1000000)(nm:bG)(n:Int)(b:ao)(pos:Int)(r:aa×aa×aH)
  (hrb:r.2.2.bound=f.bound++[⟨nm,aN f.sub.length⟩])
  (hrec:∀{E:H} {z3 z4 z5:V},bq n0 E p g (f.fresh.push ⟨nm,aN f.sub.length⟩) z3 z4 z5->n0<=E.length->DC prog w0 25 [.ptr p 0,b.v] E (gn n0 p g E r.2.2 (.av [r.1.v,r.2.1.v]))):
  DC prog w0 66 [.ptr p 0,(ao.mk 4 nm n [b] pos).v] σ (gn n0 p g σ (oI (aN f.sub.length) r).2.2 (.av [(oI (aN f.sub.length) r).1.v,(oI (aN f.sub.length) r).2.1.v])):=by
 refine LI.dn rfl (fun hok hsz=>?_);have hlt:=h.lt;have hA0:=h.app [.cells (ao.mk 4 nm n [b] pos).v.ah,.cells [I 0,S [],I 0,.ab []],.cells [I 0,S [],I 0,.ab []]];have hK0:=(Kept.refl n0 p σ).app hn [.cells (ao.mk 4 nm n [b] pos).v.ah,.cells [I 0,S [],I 0,.ab []],.cells [I 0,S [],I 0,.ab []]];obtain⟨τ,c1,c2,c3⟩:=sn w0 hA0 (bB hn hK0.len) hl hs;have hn1:n0<=τ.length:=bB (bB hn hK0.len) c3.len;have hx3:τ[σ.length]?=some (.cells (ao.mk 4 nm n [b] pos).v.ah):=c3.cells _ _ _ (by omega) (Go.Lamb.eB _ _)
 have hx4:τ[σ.length+1]?=some (.cells [I 0,S [],I 0,.ab []]):=c3.cells _ _ _ (by omega) (Go.Lamb.bY _ _ 1);have hx5:τ[σ.length+2]?=some (.cells [I 0,S [],I 0,.ab []]):=c3.cells _ _ _ (by omega) (Go.Lamb.bY _ _ 2);have l3:=(aK.1 hx5).1;have hpt:=c2.lt;generalize hz3:(V.vec (σ++[ad.cells (ao.mk 4 nm n [b] pos).v.ah,ad.cells [I 0,S [],I 0,.ab []],ad.cells [I 0,S [],I 0,.ab []]]).length (f.sub.length+1))=z3 at*
 have hfb:f.fresh.bound=f.bound:=rfl;generalize aN f.sub.length=v at*
 simp only[aa.v,ao.v,V.ah,xj,xk,xl,xn,pos_mk,cE,dT,ao.aM]at c1 hx3;obtain⟨E1,hE1⟩:∃E,(τ++[ad.cells v.v.ah])=E:=⟨_,rfl⟩;have q1:=c2.app [ad.cells v.v.ah];have q2:=(Kept.refl n0 p τ).app hn1 [ad.cells v.v.ah];have x6:(τ++[ad.cells v.v.ah])[τ.length]?=some (ad.cells v.v.ah):=Go.Lamb.eB _ _;have hE1l:(τ++[ad.cells v.v.ah]).length=τ.length+1:=by simp
 rw[hE1]at q1 q2 x6 hE1l;have x3:=q2.cells _ _ _ (by omega) hx3;have x4:=q2.cells _ _ _ (by omega) hx4;have x5:=q2.cells _ _ _ (by omega) hx5;have hn1:n0<=E1.length:=by omega
 have hq0:=q1.here;have hq:=fun L=>hG q1.here L;unfold bJ at hq0 hq;simp only[aa.v,V.ah]at x6;rcases q1.eh with⟨h0,hy⟩|⟨b0,J,hb0,hy,hb⟩
 ·subst hy;rw[hfb]at h0;obtain⟨r1,r2⟩:=V2 q1 hn1 h0 ⟨nm,v⟩;obtain⟨E2,hE2⟩:∃E,((E1++[ad.vec 50 5 (ay.mk nm v).cs]).set p (bJ g (f.fresh.push ⟨nm,v⟩) z3 (.vec E1.length 1) y5))=E:=⟨_,rfl⟩;rw[hE2]at r1 r2;(refine W.a ?_;simp only[go_sem,yR]);(refine W.c1 (c1) ?_;simp only[go_sem]);(refine W.a ?_;simp only[go_sem]);refine W.heap hE1 ?_;apply W.aQ (aS _ _)
  case hc=>
   iterate 9 (apply ae.quiet (dF.step rfl (by(simp only[go_sem,hq0,x3,x6]);rfl));case hp=>(intro τ hτ;simp at hτ))
   apply ae.bK
   case h=>exact fc.vec (x:=.t 15) (y:=.t 20) (e:=50) (size:=5) (bytes:=72) (olds:=[]) (news:=[(ay.mk nm v).cs]) rfl rfl rfl rfl ⟨by simp,(fun r hr=>by cases hr),(fun r hr=>by simp at hr;subst hr;rfl),by simp,by simp⟩
   (apply ae.al;simp only[go_sem,dU,lN,ay.cs,hq]);exact ae.nil
  have e3:=r2.cells _ _ _ (by omega) x3;have e4:=r2.cells _ _ _ (by omega) x4;have e5:=r2.cells _ _ _ (by omega) x5;have e6:=r2.cells _ _ _ (by omega) x6;have hE0:=r1.here;unfold bJ at hE0;have hR:=hrec r1 (bB hn1 r2.len);refine W.heap hE2 ?_;clear hE2 hE1;(refine W.a ?_;simp only[go_sem,e3,hE0]);(refine W.call (hR) rfl rfl (by first|rfl|simp) ?_);rintro d τ2 ⟨rfl,⟨w3,w4,w5,d2⟩,d3⟩;have k3:=d3.cells _ _ _ (by omega) e3;have k4:=d3.cells _ _ _ (by omega) e4;have k5:=d3.cells _ _ _ (by omega) e5;have k6:=d3.cells _ _ _ (by omega) e6
  have hn2:n0<=τ2.length:=bB (bB hn1 r2.len) d3.len;have l6:=(aK.1 k6).1;obtain⟨E3,hE3⟩:∃E,(τ2++[ad.cells r.1.v.ah,ad.cells r.2.1.v.ah])=E:=⟨_,rfl⟩;have d4:=d2.app [ad.cells r.1.v.ah,ad.cells r.2.1.v.ah];have d5:=(Kept.refl n0 p τ2).app hn2 [ad.cells r.1.v.ah,ad.cells r.2.1.v.ah];have j7:(τ2++[ad.cells r.1.v.ah,ad.cells r.2.1.v.ah])[τ2.length]?=some (ad.cells r.1.v.ah):=Go.Lamb.eB _ _;have j8:(τ2++[ad.cells r.1.v.ah,ad.cells r.2.1.v.ah])[τ2.length+1]?=some (ad.cells r.2.1.v.ah):=Go.Lamb.bY _ _ 1
  rw[hE3]at d4 d5 j7 j8;have hE30:=d4.here;unfold bJ at hE30;have hE3l:=(aK.1 j8).1;rcases d4.eh with⟨hb0,_⟩|⟨b3,J3,hbn,hw4,hb3⟩
  ·rw[hrb]at hb0;simp at hb0
  subst hw4;have hbl1:r.2.2.bound.length=f.bound.length+1:=by rw[hrb,bt];rfl
  obtain⟨p1,p2⟩:=Mh d4 hrb hbn hb3;obtain⟨E4,hE4⟩:∃E,(E3.set p (bJ g r.2.2.pop w3 (.vec b3 f.bound.length) w5))=E:=⟨_,rfl⟩;rw[hE4]at p1 p2;rw[hbl1]at hE30;have m3:=d5.trans p2;have t3:=m3.cells _ _ _ (by omega) k3;have t4:=m3.cells _ _ _ (by omega) k4;have t5:=m3.cells _ _ _ (by omega) k5;have t6:=m3.cells _ _ _ (by omega) k6;have t7:=p2.cells _ _ _ (by omega) j7;have t8:=p2.cells _ _ _ (by omega) j8;have hw1:aW.wrap ((f.bound.length:Int)+1-1)=(f.bound.length:Int):=by rw[bD]<;>omega
  have hw2:aW.wrap (((f.bound.length+1:Nat):Int)-1)=(f.bound.length:Int):=by rw[bD]<;>omega
  have g1:(0:Int)<=(f.bound.length:Int):=by omega
  have g2:f.bound.length<=f.bound.length+1:=by omega
  have g3:(f.bound.length:Int)<=((f.bound.length+1:Nat):Int):=by omega
  (refine W.a ?_;simp only[go_sem]);refine W.heap hE3 ?_;apply W.aQ (aS _ _)
  case hc=>
   (apply ae.al;simp only[go_sem,hE30,hw1,hw2,g1,g2,g3]);exact ae.nil
  refine W.heap hE4 ?_;have hL:=fun σ=>vj w0 r.1 σ;have hAr:=fun σ=>Cd w0 r.2.1 v σ;have l4:=(aK.1 t4).1;have l5:=(aK.1 t5).1;have s5:=fun A=>(bX (l:=E4) (a:=A) (by omega:σ.length+1≠σ.length+2)).trans t5;have s4:∀A B,((E4.set (σ.length+1) A).set (σ.length+2) B)[σ.length+2]?=some B:=fun A B=>ct (by rw[bC];exact l5);have s3:∀A B,((E4.set (σ.length+1) A).set (σ.length+2) B)[σ.length+1]?=some A:=fun A B=>by rw[bX (by omega)];exact ct l4
  have f1:=fun A B=>(p1.box t4 (by omega) A).box (s5 A) (by omega) B;have f2:=fun A B=>(((((((hK0.trans c3).trans q2).trans r2).trans d3).trans d5).trans p2).set A (a:=σ.length+1) (by omega) (.inr (.inl (by omega)))).set B (a:=σ.length+2) (by omega) (.inr (.inl (by omega)));simp only[oI];generalize bI r.1=z at*;generalize aa.arr v r.2.1=y at*;generalize r.2.1=u at*;generalize r.1=x at*
  (refine W.a ?_;simp only[go_sem]);apply W.aQ (aS _ _)
  case hc=>
   (apply ae.al;simp only[go_sem,t7,t8,t6]);(apply ae.call (hL _);(case hg=>rfl);(case hf=>rfl);(case ha=>first|rfl|simp));(apply ae.al;simp only[go_sem,t7,t8,t6]);(apply ae.tD (hAr _);(case hg=>rfl);(case hf=>rfl);(case ha=>rfl);(case hw=>((exact au))));(apply ae.al;simp only[go_sem,t4,s5]);exact ae.nil
  (refine W.a ?_;simp only[go_sem]);exact W.ret ⟨_,_,(by simp only[br,yS,s3,s4,go_sem];rfl),au,rfl,⟨_,_,_,f1 _ _⟩,f2 _ _⟩
 ·rw[hfb]at hy hb;subst hy;have hbp:b0≠p:=by rintro rfl;rw[hq0]at hb;cases hb
  obtain⟨r1,r2⟩:=V3 (f:=f.fresh) q1 hn1 hb0 hb ⟨nm,v⟩;rw[hfb]at r1 r2;obtain⟨E2,hE2⟩:∃E,((E1.set b0 .gone++[ad.vec 50 5 (cb f.bound++(ay.mk nm v).cs)]).set p (bJ g (f.fresh.push ⟨nm,v⟩) z3 (.vec E1.length (f.bound.length+1)) y5))=E:=⟨_,rfl⟩;rw[hE2]at r1 r2;have hnl:=qc f.bound;have hle:f.bound.length*5<=(cb f.bound).length+J.length:=by omega
  have htake:List.take (f.bound.length*5) (cb f.bound++J)=cb f.bound:=by rw[<-hnl];exact List.take_left
  have b1:(f.bound.length+1)*72<=140737488355328:=by omega
  have b2:f.bound.length+1<=140737488355328:=by omega
  have b3:f.bound.length<=140737488355327:=by omega
  have hsp:∀L,(E1.set b0 .gone++L)[p]?=E1[p]?:=fun L=>by rw[cF (by rw[bC];exact q1.lt),bX hbp]
  (refine W.a ?_;simp only[go_sem,yR]);(refine W.c1 (c1) ?_;simp only[go_sem]);(refine W.a ?_;simp only[go_sem]);refine W.heap hE1 ?_;apply W.aQ (aS _ _)
  case hc=>
   (apply ae.al;simp only[go_sem,hq0,x3,x6,hb,hle,htake,b1,b2,b3,hsp,dU,lN,ay.cs,ne_eq,not_false_eq_true]);exact ae.nil
  have e3:=r2.cells _ _ _ (by omega) x3;have e4:=r2.cells _ _ _ (by omega) x4;have e5:=r2.cells _ _ _ (by omega) x5;have e6:=r2.cells _ _ _ (by omega) x6;have hE0:=r1.here;unfold bJ at hE0;have hR:=hrec r1 (bB hn1 r2.len);refine W.heap hE2 ?_;clear hE2 hE1;(refine W.a ?_;simp only[go_sem,e3,hE0]);(refine W.call (hR) rfl rfl (by first|rfl|simp) ?_);rintro d τ2 ⟨rfl,⟨w3,w4,w5,d2⟩,d3⟩;have k3:=d3.cells _ _ _ (by omega) e3;have k4:=d3.cells _ _ _ (by omega) e4;have k5:=d3.cells _ _ _ (by omega) e5;have k6:=d3.cells _ _ _ (by omega) e6
  have hn2:n0<=τ2.length:=bB (bB hn1 r2.len) d3.len;have l6:=(aK.1 k6).1;obtain⟨E3,hE3⟩:∃E,(τ2++[ad.cells r.1.v.ah,ad.cells r.2.1.v.ah])=E:=⟨_,rfl⟩;have d4:=d2.app [ad.cells r.1.v.ah,ad.cells r.2.1.v.ah];have d5:=(Kept.refl n0 p τ2).app hn2 [ad.cells r.1.v.ah,ad.cells r.2.1.v.ah];have j7:(τ2++[ad.cells r.1.v.ah,ad.cells r.2.1.v.ah])[τ2.length]?=some (ad.cells r.1.v.ah):=Go.Lamb.eB _ _;have j8:(τ2++[ad.cells r.1.v.ah,ad.cells r.2.1.v.ah])[τ2.length+1]?=some (ad.cells r.2.1.v.ah):=Go.Lamb.bY _ _ 1
  rw[hE3]at d4 d5 j7 j8;have hE30:=d4.here;unfold bJ at hE30;have hE3l:=(aK.1 j8).1;rcases d4.eh with⟨hb0,_⟩|⟨b3,J3,hbn,hw4,hb3⟩
  ·rw[hrb]at hb0;simp at hb0
  subst hw4;have hbl1:r.2.2.bound.length=f.bound.length+1:=by rw[hrb,bt];rfl
  obtain⟨p1,p2⟩:=Mh d4 hrb hbn hb3;obtain⟨E4,hE4⟩:∃E,(E3.set p (bJ g r.2.2.pop w3 (.vec b3 f.bound.length) w5))=E:=⟨_,rfl⟩;rw[hE4]at p1 p2;rw[hbl1]at hE30;have m3:=d5.trans p2;have t3:=m3.cells _ _ _ (by omega) k3;have t4:=m3.cells _ _ _ (by omega) k4;have t5:=m3.cells _ _ _ (by omega) k5;have t6:=m3.cells _ _ _ (by omega) k6;have t7:=p2.cells _ _ _ (by omega) j7;have t8:=p2.cells _ _ _ (by omega) j8;have hw1:aW.wrap ((f.bound.length:Int)+1-1)=(f.bound.length:Int):=by rw[bD]<;>omega
  have hw2:aW.wrap (((f.bound.length+1:Nat):Int)-1)=(f.bound.length:Int):=by rw[bD]<;>omega
  have g1:(0:Int)<=(f.bound.length:Int):=by omega
  have g2:f.bound.length<=f.bound.length+1:=by omega
  have g3:(f.bound.length:Int)<=((f.bound.length+1:Nat):Int):=by omega
  (refine W.a ?_;simp only[go_sem]);refine W.heap hE3 ?_;apply W.aQ (aS _ _)
  case hc=>
   (apply ae.al;simp only[go_sem,hE30,hw1,hw2,g1,g2,g3]);exact ae.nil
  refine W.heap hE4 ?_;have hL:=fun σ=>vj w0 r.1 σ;have hAr:=fun σ=>Cd w0 r.2.1 v σ;have l4:=(aK.1 t4).1;have l5:=(aK.1 t5).1;have s5:=fun A=>(bX (l:=E4) (a:=A) (by omega:σ.length+1≠σ.length+2)).trans t5;have s4:∀A B,((E4.set (σ.length+1) A).set (σ.length+2) B)[σ.length+2]?=some B:=fun A B=>ct (by rw[bC];exact l5);have s3:∀A B,((E4.set (σ.length+1) A).set (σ.length+2) B)[σ.length+1]?=some A:=fun A B=>by rw[bX (by omega)];exact ct l4
  have f1:=fun A B=>(p1.box t4 (by omega) A).box (s5 A) (by omega) B;have f2:=fun A B=>(((((((hK0.trans c3).trans q2).trans r2).trans d3).trans d5).trans p2).set A (a:=σ.length+1) (by omega) (.inr (.inl (by omega)))).set B (a:=σ.length+2) (by omega) (.inr (.inl (by omega)));simp only[oI];generalize bI r.1=z at*;generalize aa.arr v r.2.1=y at*;generalize r.2.1=u at*;generalize r.1=x at*
  (refine W.a ?_;simp only[go_sem]);apply W.aQ (aS _ _)
  case hc=>
   (apply ae.al;simp only[go_sem,t7,t8,t6]);(apply ae.call (hL _);(case hg=>rfl);(case hf=>rfl);(case ha=>first|rfl|simp));(apply ae.al;simp only[go_sem,t7,t8,t6]);(apply ae.tD (hAr _);(case hg=>rfl);(case hf=>rfl);(case ha=>rfl);(case hw=>((exact au))));(apply ae.al;simp only[go_sem,t4,s5]);exact ae.nil
  (refine W.a ?_;simp only[go_sem]);exact W.ret ⟨_,_,(by simp only[br,yS,s3,s4,go_sem];rfl),au,rfl,⟨_,_,_,f1 _ _⟩,f2 _ _⟩
end
section
variable {n0 p:Nat} {σ τ:H} {g:Sg} {f:aH} {y3 y4 y5:V}
attribute [local go_sem] aa.v aa.aM aY a7 aV aL aT
theorem V5(w0:World)(h:bq n0 σ p g f y3 y4 y5)(hn:n0<=σ.length)(he:f.e=0)(nm:bG)(n:Int)(a b:ao)(pos:Int)(r q:aa×aa×aH)
  (hra:∀{E:H} {z3 z4 z5:V},bq n0 E p g f z3 z4 z5->n0<=E.length->DC prog w0 25 [.ptr p 0,a.v] E (gn n0 p g E r.2.2 (.av [r.1.v,r.2.1.v])))
  (hrb:∀{E:H} {z3 z4 z5:V},bq n0 E p g r.2.2 z3 z4 z5->n0<=E.length->DC prog w0 25 [.ptr p 0,b.v] E (gn n0 p g E q.2.2 (.av [q.1.v,q.2.1.v])))
  (hq:q.2.2.e=0->q.2.2.live=true/\q.2.2.sub.length<=999999/\cl 100000 q.2.2.fresh.sub/\ee q.2.2.fresh.sub.length 100000 (r.2.1,.arr q.2.1 (aN q.2.2.sub.length))) (hrl:r.1.l.length<=100000000):
  DC prog w0 25 [.ptr p 0,(ao.mk 3 nm n [a,b] pos).v] σ (gn n0 p g σ (mE pos r q).2.2 (.av [(mE pos r q).1.v,(mE pos r q).2.1.v])):=by
 refine uQ.dn rfl (fun hok hsz=>?_);have hlt:=h.lt;have hp:=fun L=>hG h.here L;unfold bJ at hp;have k0:(f.e !=0)=false:=by simp[he]
 have hA0:=h.app [.cells [.c (.int .i64 3),.c (.str nm),.c (.int .i64 n),.c (.sl [[.int .i64 a.k,.str a.name,.int .i64 a.n,.sl (a.l.map ao.cs),.int .i64 a.pos],[.int .i64 b.k,.str b.name,.int .i64 b.n,.sl (b.l.map ao.cs),.int .i64 b.pos]]),.c (.int .i64 pos)],.cells [I 0,S [],I 0,.ab []],.cells [I 0,S [],I 0,.ab []]];have hK0:=(Kept.refl n0 p σ).app hn [.cells [.c (.int .i64 3),.c (.str nm),.c (.int .i64 n),.c (.sl [[.int .i64 a.k,.str a.name,.int .i64 a.n,.sl (a.l.map ao.cs),.int .i64 a.pos],[.int .i64 b.k,.str b.name,.int .i64 b.n,.sl (b.l.map ao.cs),.int .i64 b.pos]]),.c (.int .i64 pos)],.cells [I 0,S [],I 0,.ab []],.cells [I 0,S [],I 0,.ab []]]
 have hR1:=hra hA0 (bB hn hK0.len);simp only[aa.v,ao.v,V.ah,xj,xk,xl,xn,pos_mk,cE,dT,ao.aM]at hR1;(refine W.a ?_;simp only[go_sem,qb,hp,k0]);refine W.no rfl (W.a ?_);simp only[go_sem];refine W.no rfl (W.a ?_);simp only[go_sem];refine W.no rfl (W.a ?_);simp only[go_sem];refine W.yes rfl (W.a ?_);simp only[go_sem];(refine W.call (hR1) rfl rfl (by first|rfl|simp) ?_);rintro d τ1 ⟨rfl,⟨u3,u4,u5,c2⟩,c3⟩;have hn1:n0<=τ1.length:=bB (bB hn hK0.len) c3.len;have a3:τ1[σ.length]?=some (.cells [.c (.int .i64 3),.c (.str nm),.c (.int .i64 n),.c (.sl [[.int .i64 a.k,.str a.name,.int .i64 a.n,.sl (a.l.map ao.cs),.int .i64 a.pos],[.int .i64 b.k,.str b.name,.int .i64 b.n,.sl (b.l.map ao.cs),.int .i64 b.pos]]),.c (.int .i64 pos)]):=c3.cells _ _ _ (by omega) (Go.Lamb.eB _ _)
 have a4:τ1[σ.length+1]?=some (.cells [I 0,S [],I 0,.ab []]):=c3.cells _ _ _ (by omega) (Go.Lamb.bY _ _ 1);have a5:τ1[σ.length+2]?=some (.cells [I 0,S [],I 0,.ab []]):=c3.cells _ _ _ (by omega) (Go.Lamb.bY _ _ 2);have l3:=(aK.1 a5).1;have hpt1:=c2.lt;obtain⟨E1,hE1⟩:∃E,(τ1++[ad.cells r.1.v.ah,ad.cells r.2.1.v.ah])=E:=⟨_,rfl⟩;have d4:=c2.app [ad.cells r.1.v.ah,ad.cells r.2.1.v.ah];have d5:=(Kept.refl n0 p τ1).app hn1 [ad.cells r.1.v.ah,ad.cells r.2.1.v.ah];have b6:(τ1++[ad.cells r.1.v.ah,ad.cells r.2.1.v.ah])[τ1.length]?=some (ad.cells r.1.v.ah):=Go.Lamb.eB _ _
 have b7:(τ1++[ad.cells r.1.v.ah,ad.cells r.2.1.v.ah])[τ1.length+1]?=some (ad.cells r.2.1.v.ah):=Go.Lamb.bY _ _ 1;rw[hE1]at d4 d5 b6 b7;have b3:=d5.cells _ _ _ (by omega) a3;have b4:=d5.cells _ _ _ (by omega) a4;have b5:=d5.cells _ _ _ (by omega) a5;have hn2:n0<=E1.length:=bB hn1 d5.len;have hR2:=hrb d4 hn2;simp only[aa.v,ao.v,V.ah,xj,xk,xl,xn,pos_mk,cE,dT,ao.aM]at hR2;have a3L:=fun L=>hG a3 L;(refine W.a ?_;simp only[go_sem,a3L]);refine W.heap hE1 ?_;clear hE1;(refine W.call (hR2) rfl rfl (by first|rfl|simp) ?_)
 rintro d τ2 ⟨rfl,⟨v3,v4,v5,e2⟩,e3⟩;have hn3:n0<=τ2.length:=bB hn2 e3.len;have g3:=e3.cells _ _ _ (by omega) b3;have g4:=e3.cells _ _ _ (by omega) b4;have g5:=e3.cells _ _ _ (by omega) b5;have g6:=e3.cells _ _ _ (by omega) b6;have g7:=e3.cells _ _ _ (by omega) b7;have l7:=(aK.1 g7).1;have hpt2:=e2.lt;obtain⟨E2,hE2⟩:∃E,(τ2++[ad.cells q.1.v.ah,ad.cells q.2.1.v.ah])=E:=⟨_,rfl⟩;have e4:=e2.app [ad.cells q.1.v.ah,ad.cells q.2.1.v.ah];have e5:=(Kept.refl n0 p τ2).app hn3 [ad.cells q.1.v.ah,ad.cells q.2.1.v.ah]
 have i8:(τ2++[ad.cells q.1.v.ah,ad.cells q.2.1.v.ah])[τ2.length]?=some (ad.cells q.1.v.ah):=Go.Lamb.eB _ _;have i9:(τ2++[ad.cells q.1.v.ah,ad.cells q.2.1.v.ah])[τ2.length+1]?=some (ad.cells q.2.1.v.ah):=Go.Lamb.bY _ _ 1;rw[hE2]at e4 e5 i8 i9;have i3:=e5.cells _ _ _ (by omega) g3;have i4:=e5.cells _ _ _ (by omega) g4;have i5:=e5.cells _ _ _ (by omega) g5;have i6:=e5.cells _ _ _ (by omega) g6;have i7:=e5.cells _ _ _ (by omega) g7;have l9:=(aK.1 i9).1;have hn4:n0<=E2.length:=bB hn3 e5.len;have hE20:=e4.here
 unfold bJ at hE20;have hKE2:=((((hK0.trans c3).trans d5).trans e3).trans e5);have hE2L:=fun L=>hG e2.here L;unfold bJ at hE2L;unfold mE;by_cases hqe:q.2.2.e=0
 ·rw[if_neg (not_not_intro hqe)];have k1:(q.2.2.e !=0)=false:=by simp[hqe]
  obtain⟨q1,q2,q3,q4⟩:=hq hqe;obtain⟨τ3,m1,m2,m3⟩:=sn w0 e4 hn4 q1 q2;have hn5:n0<=τ3.length:=bB hn4 m3.len;generalize hz3:(V.vec E2.length (q.2.2.sub.length+1))=z3 at*
  have j3:=m3.cells _ _ _ (by omega) i3;have j4:=m3.cells _ _ _ (by omega) i4;have j5:=m3.cells _ _ _ (by omega) i5;have j6:=m3.cells _ _ _ (by omega) i6;have j7:=m3.cells _ _ _ (by omega) i7;have j8:=m3.cells _ _ _ (by omega) i8;have j9:=m3.cells _ _ _ (by omega) i9;have l9':=(aK.1 j9).1;have hql:q.2.2.fresh.sub.length=q.2.2.sub.length+1:=q.2.2.qf;have hfl:q.2.2.fresh.live=true:=q1;generalize hV:aN q.2.2.sub.length=v at*;obtain⟨E3,hE3⟩:∃E,(τ3++[ad.cells v.v.ah])=E:=⟨_,rfl⟩;have m4:=m2.app [ad.cells v.v.ah]
  have m5:=(Kept.refl n0 p τ3).app hn5 [ad.cells v.v.ah];have n10:(τ3++[ad.cells v.v.ah])[τ3.length]?=some (ad.cells v.v.ah):=Go.Lamb.eB _ _;rw[hE3]at m4 m5 n10;have n3:=m5.cells _ _ _ (by omega) j3;have n4:=m5.cells _ _ _ (by omega) j4;have n5:=m5.cells _ _ _ (by omega) j5;have n6:=m5.cells _ _ _ (by omega) j6;have n7:=m5.cells _ _ _ (by omega) j7;have n8:=m5.cells _ _ _ (by omega) j8;have n9:=m5.cells _ _ _ (by omega) j9;have l10:=(aK.1 n10).1;have hn6:n0<=E3.length:=bB hn5 m5.len;obtain⟨τ4,w3,o1,o2,o3⟩:=L6 w0 m4 hn6 hfl (by omega) q3 q4
  have hAr:=fun σ=>Cd w0 v q.2.1 σ;have hAp:=fun σ=>uz w0 r.1 [q.1] (by simp only[bo,cM];omega) σ;simp only[cE,dT,aa.aM]at hAp;have x3:=o3.cells _ _ _ (by omega) n3;have x4:=o3.cells _ _ _ (by omega) n4;have x5:=o3.cells _ _ _ (by omega) n5;have x6:=o3.cells _ _ _ (by omega) n6;have x8:=o3.cells _ _ _ (by omega) n8;have x10:=o3.cells _ _ _ (by omega) n10;have hKE4:=(((hKE2.trans m3).trans m5).trans o3);simp only[aa.v,V.ah]at m1 o1 n7 n9 n10 x6 x8 x10;generalize aa.arr q.2.1 v=ar at*
  (refine W.a ?_;simp only[go_sem,hE2L,k1]);refine W.heap hE2 ?_;refine W.no rfl (W.a ?_);simp only[go_sem];(refine W.c1 (m1) ?_;simp only[go_sem]);(refine W.a ?_;simp only[go_sem]);refine W.heap hE3 ?_;apply W.aQ (aS _ _)
  case hc=>
   (apply ae.al;simp only[go_sem,n9,n10,n7]);(apply ae.tD (hAr _);(case hg=>rfl);(case hf=>rfl);(case ha=>rfl);(case hw=>((exact au))));(apply ae.al;simp only[go_sem,n9,n10,n7]);(apply ae.call (o1);(case hg=>rfl);(case hf=>rfl);(case ha=>first|rfl|simp));(apply ae.al;simp only[go_sem]);exact ae.nil
  cases hob:q.2.2.fresh.mB r.2.1 ar
  ·rw[if_neg (by simp)];have hF:=DK w0 o2 121 pos;(refine W.a ?_;simp only[go_sem]);refine W.yes rfl (W.a ?_);simp only[go_sem,x3];(refine W.call (hF) rfl rfl (by first|rfl|simp) ?_);rintro d τ5 ⟨rfl,p2,p3⟩;have t4:=p3.cells _ _ _ (by omega) x4;have t5:=p3.cells _ _ _ (by omega) x5;have t6:=p3.cells _ _ _ (by omega) x6;have t8:=p3.cells _ _ _ (by omega) x8;have t10:=p3.cells _ _ _ (by omega) x10;(refine W.a ?_;simp only[go_sem]);have l4:=(aK.1 t4).1;have l5:=(aK.1 t5).1;have s5:=fun A=>(bX (l:=τ5) (a:=A) (by omega:σ.length+1≠σ.length+2)).trans t5
   have s4:∀A B,((τ5.set (σ.length+1) A).set (σ.length+2) B)[σ.length+2]?=some B:=fun A B=>ct (by rw[bC];exact l5);have s3:∀A B,((τ5.set (σ.length+1) A).set (σ.length+2) B)[σ.length+1]?=some A:=fun A B=>by rw[bX (by omega)];exact ct l4
   have f1:=fun A B=>((p2).box t4 (by omega) A).box (s5 A) (by omega) B;have f2:=fun A B=>((hKE4.trans p3).set A (a:=σ.length+1) (by omega) (.inr (.inl (by omega)))).set B (a:=σ.length+2) (by omega) (.inr (.inl (by omega)));have s10:=fun A=>(bX (l:=τ5) (a:=A) (by omega:σ.length+1≠τ3.length)).trans t10;generalize cv r.1 [q.1]=z at*;apply W.aQ (aS _ _)
   case hc=>
    (apply ae.al;simp only[go_sem,t6,t8,t10]);(apply ae.tD (hAp _);(case hg=>rfl);(case hf=>rfl);(case ha=>rfl);(case hw=>((exact au))));(apply ae.al;simp only[go_sem,t4,t10,s10,s5]);exact ae.nil
   (refine W.a ?_;simp only[go_sem]);exact W.ret ⟨_,_,(by simp only[br,nF,s3,s4,go_sem];rfl),au,rfl,⟨_,_,_,f1 _ _⟩,f2 _ _⟩
  ·rw[if_pos rfl];(refine W.a ?_;simp only[go_sem]);refine W.no rfl ?_;have t4:=x4;have t5:=x5;have t6:=x6;have t8:=x8;have t10:=x10;(refine W.a ?_;simp only[go_sem]);have l4:=(aK.1 t4).1;have l5:=(aK.1 t5).1;have s5:=fun A=>(bX (l:=τ4) (a:=A) (by omega:σ.length+1≠σ.length+2)).trans t5;have s4:∀A B,((τ4.set (σ.length+1) A).set (σ.length+2) B)[σ.length+2]?=some B:=fun A B=>ct (by rw[bC];exact l5);have s3:∀A B,((τ4.set (σ.length+1) A).set (σ.length+2) B)[σ.length+1]?=some A:=fun A B=>by rw[bX (by omega)];exact ct l4
   have f1:=fun A B=>((o2).box t4 (by omega) A).box (s5 A) (by omega) B;have f2:=fun A B=>((hKE4).set A (a:=σ.length+1) (by omega) (.inr (.inl (by omega)))).set B (a:=σ.length+2) (by omega) (.inr (.inl (by omega)));have s10:=fun A=>(bX (l:=τ4) (a:=A) (by omega:σ.length+1≠τ3.length)).trans t10;generalize cv r.1 [q.1]=z at*;apply W.aQ (aS _ _)
   case hc=>
    (apply ae.al;simp only[go_sem,t6,t8,t10]);(apply ae.tD (hAp _);(case hg=>rfl);(case hf=>rfl);(case ha=>rfl);(case hw=>((exact au))));(apply ae.al;simp only[go_sem,t4,t10,s10,s5]);exact ae.nil
   (refine W.a ?_;simp only[go_sem]);exact W.ret ⟨_,_,(by simp only[br,nF,s3,s4,go_sem];rfl),au,rfl,⟨_,_,_,f1 _ _⟩,f2 _ _⟩
 ·rw[if_pos hqe];have k1:(q.2.2.e !=0)=true:=by simp[hqe]
  have t4:=i4;have t5:=i5;have l4:=(aK.1 t4).1;have l5:=(aK.1 t5).1;have s5:=fun A=>(bX (l:=E2) (a:=A) (by omega:σ.length+1≠σ.length+2)).trans t5;have s4:∀A B,((E2.set (σ.length+1) A).set (σ.length+2) B)[σ.length+2]?=some B:=fun A B=>ct (by rw[bC];exact l5);have s3:∀A B,((E2.set (σ.length+1) A).set (σ.length+2) B)[σ.length+1]?=some A:=fun A B=>by rw[bX (by omega)];exact ct l4
  have f1:=fun A B=>(e4.box t4 (by omega) A).box (s5 A) (by omega) B;have f2:=fun A B=>(hKE2.set A (a:=σ.length+1) (by omega) (.inr (.inl (by omega)))).set B (a:=σ.length+2) (by omega) (.inr (.inl (by omega)));(refine W.a ?_;simp only[go_sem,hE2L,k1]);refine W.heap hE2 ?_;refine W.yes rfl (W.a ?_);simp only[go_sem,t4,s5];exact W.ret ⟨_,_,(by simp only[br,nF,s3,s4,go_sem];rfl),au,rfl,⟨_,_,_,f1 _ _⟩,f2 _ _⟩
end
end Go.Proofs.YtdlkenpilhakfaaGreatDoor
namespace Go.Proofs.YtdlkenpilhakfaaGreatDoor
open Go Go.RowKit Go.Lamb
theorem DN{f:aa->Int->aa}{k:Int}{t:aa}(hv:ba t=true)(h6:t.k=6):bN f k t=cv (bN f k (t.l.headD .none)) (t.l.tail.map (bN f k)):=by
 obtain⟨e1,e2,a,b,l,hl,ha⟩:=iK hv h6;rw[ku,if_neg (by omega),if_pos h6,hl,z7,List.tail_cons,cE,cE,fw];by_cases hk:(bN f k a).k=6
 ·rw[if_pos ⟨h6,by simp,by simpa using hk,by rw[hl];simpa using ha⟩];rfl
 ·rw[if_neg (fun h=>hk (by simpa using h.2.2.1)),h6,e1,e2,KT hk]
theorem DO{f:aa->Int->aa}{k:Int}{t:aa}(hv:ba t=true)(h5:t.k=5):bN f k t= .mk 5 [] 0 (t.l.map (bN f (k+1))):=by
 obtain⟨e1,e2,_⟩:=pZ hv h5;rw[ku,if_pos h5,fw,if_neg (fun h=>by have:=h.1;omega),h5,e1,e2]
theorem DP{f:aa->Int->aa}{k:Int}{t:aa}(h5:t.k≠5)(h6:t.k≠6):bN f k t=f t k:=by
 rw[ku,if_neg h5,if_neg h6]
theorem V6{Q:aa->Prop}(hQ:∀t,Q t->ba t=true/\∀u∈t.l,Q u){f:aa->Int->aa}{k0 D:Int}(hf:∀u (d:Int),k0<=d->d<=D->Q u->u.k≠5->u.k≠6->ba (f u d)=true)(t:aa):∀k,k0<=k->k+ax t<=D->Q t->ba (bN f k t)=true:=by
 refine aa.ind (P:=fun t=>∀k,k0<=k->k+ax t<=D->Q t->ba (bN f k t)=true) (fun t ih k hk hD hq=>?_) t;obtain⟨hv,hqk⟩:=hQ t hq;have hdn:∀x∈t.l,k+ax x<=D/\k+1+ax x<=D:=fun x hx=>by have:=jM hx;omega
 have hp:=vk t;by_cases h5:t.k=5
 ·rw[DO hv h5];obtain⟨_,_,b,hl⟩:=pZ hv h5;rw[hl];exact rN (ih b (by rw[hl];simp) (k+1) (by omega) (hdn b (by rw[hl];simp)).2 (hqk b (by rw[hl];simp)))
 ·by_cases h6:t.k=6
  ·rw[DN hv h6];obtain⟨_,_,a,b,l,hl,ha⟩:=iK hv h6;rw[hl];refine uy (ih a (by rw[hl];simp) k hk (hdn a (by rw[hl];simp)).1 (hqk a (by rw[hl];simp))) (fun u hu=>?_);obtain⟨x,hx,rfl⟩:=dK.1 hu;have hx':x∈t.l:=by rw[hl];exact bW _ hx
   exact ih x hx' k hk (hdn x hx').1 (hqk x hx')
  ·rw[DP h5 h6];exact hf t k hk (by omega) hq h5 h6
def Nr(m:Int)(t:aa):Prop:=ba t=true/\bM m t=true
theorem Nr.mF(m:Int):∀t,Nr m t->ba t=true/\∀u∈t.l,Nr m u:=fun t h=>⟨h.1,fun u hu=>⟨gi h.1 u hu,iJ h.2 u hu⟩⟩
theorem DQ{u:aa}(hv:ba u=true)(h3:u.k=3):u.name=[]/\u.l=[]/\0<=u.n/\u.n<=4611686018427387904:=by
 have hn:=uv hv;unfold dP at hn;simp[h3]at hn;exact⟨hn.1.2,hn.2,hn.1.1.1,hn.1.1.2⟩
theorem V7{s:aa}{m b:Int}(hs:Nr m s)(hm0:0<=m)(hmb:m+b<=4611686018427387904){u:aa}{d:Int}(hd:0<=d)(hd':d<=b)(hv:ba u=true):ba (eD 0 s u d)=true:=by
 unfold eD;split
 ·exact hv
 ·rename_i h;have h3:u.k=3:=by omega
  obtain⟨e1,e2,e3,e4⟩:=DQ hv h3;split
  ·exact(KV (eG _) hd hm0 (by omega) _ 0 (eG _) hs.1 hs.2).1
  ·refine uw ?_ (fun x hx=>by rw[aL,e2]at hx;cases hx);simp[dP,aY,aV,aL,a7,h3,e1,e2];omega
theorem V8{Q:aa->Prop}(hQ:∀t,Q t->ba t=true/\∀u∈t.l,Q u){f:aa->Int->aa}{k0 D M:Int}(hM:0<=M)(hf:∀u (d:Int),k0<=d->d<=D->Q u->u.k≠5->u.k≠6->bM M (f u d)=true)(t:aa):∀k,k0<=k->k+ax t<=D->Q t->bM M (bN f k t)=true:=by
 refine aa.ind (P:=fun t=>∀k,k0<=k->k+ax t<=D->Q t->bM M (bN f k t)=true) (fun t ih k hk hD hq=>?_) t;obtain⟨hv,hqk⟩:=hQ t hq;have hdn:∀x∈t.l,k+ax x<=D/\k+1+ax x<=D:=fun x hx=>by have:=jM hx;omega
 have hp:=vk t;by_cases h5:t.k=5
 ·rw[DO hv h5];refine gZ (.inr (by simp[aV];omega)) (fun u hu=>?_);rw[aL]at hu;obtain⟨x,hx,rfl⟩:=dK.1 hu;exact ih x hx (k+1) (by omega) (hdn x hx).2 (hqk x hx)
 ·by_cases h6:t.k=6
  ·rw[DN hv h6];obtain⟨_,_,a,b,l,hl,ha⟩:=iK hv h6;rw[hl];refine rP hM (ih a (by rw[hl];simp) k hk (hdn a (by rw[hl];simp)).1 (hqk a (by rw[hl];simp))) (fun u hu=>?_);obtain⟨x,hx,rfl⟩:=dK.1 hu;have hx':x∈t.l:=by rw[hl];exact bW _ hx
   exact ih x hx' k hk (hdn x hx').1 (hqk x hx')
  ·rw[DP h5 h6];exact hf t k hk (by omega) hq h5 h6
mutual
def cu(i:Int):aa->Nat
 | .mk k _ n l=>if k=3/\n=i then 1 else cQ (if k=5 then i+1 else i) l
def cQ(i:Int):List aa->Nat
 |[]=>0
 |x::l=>cu i x+cQ i l
end
mutual
def cR:aa->Nat
 | .mk k _ _ l=>1+(if k=5\/k=6 then dW l else 0)
def dW:List aa->Nat
 |[]=>0
 |x::l=>cR x+dW l
end
theorem zi(i:Int)(t:aa):cu i t=if t.k=3/\t.n=i then 1 else cQ (if t.k=5 then i+1 else i) t.l:=by cases t;rw[cu];rfl
theorem DR(t:aa):cR t=1+(if t.k=5\/t.k=6 then dW t.l else 0):=by cases t;rw[cR];rfl
theorem Mj(i:Int):∀(a b:List aa),cQ i (a++b)=cQ i a+cQ i b
 |[],b=>by rw[cQ];simp
 |x::a,b=>by rw[iR,cQ,cQ,Mj i a b];omega
theorem Mk:∀(a b:List aa),dW (a++b)=dW a+dW b
 |[],b=>by rw[dW];simp
 |x::a,b=>by rw[iR,dW,dW,Mk a b];omega
theorem DS(i:Int){l:List aa}{j:Nat}(hj:j<l.length):cQ i (l.take (j+1))=cQ i (l.take j)+cu i l[j]:=by
 rw[jZ hj,Mj,cQ,cQ];omega
theorem V9{l:List aa}{j:Nat}(hj:j<l.length):dW (l.take (j+1))=dW (l.take j)+cR l[j]:=by
 rw[jZ hj,Mk,dW,dW];omega
theorem DT(l:List aa)(j:Nat):bg (l.take j)<=bg l:=by
 have h:=sq (l.take j) (l.drop j);rw[List.take_append_drop]at h;omega
theorem DU(i:Int):∀(l:List aa),(∀u∈l,∀i,cu i u<=ax u)->cQ i l<=bg l
 |[],_=>by rw[cQ];exact bx _
 |x::l,h=>by
  have h1:=h x (bp ..) i;have h2:=DU i l (fun u hu=>h u (bW _ hu));rw[cQ,bg];omega
theorem Ml(t:aa):∀i,cu i t<=ax t:=by
 refine aa.ind (P:=fun t=>∀i,cu i t<=ax t) (fun t ih i=>?_) t;rw[zi,eO];split
 ·omega
 ·have:=DU (if t.k=5 then i+1 else i) t.l ih;omega
theorem Mm(i:Int)(l:List aa)(j:Nat):cQ i (l.take j)<=bg l:=bB (DU i _ (fun u _=>Ml u)) (DT l j)
theorem DV:∀(l:List aa),(∀u∈l,cR u<=ax u)->dW l<=bg l
 |[],_=>by rw[dW];exact bx _
 |x::l,h=>by
  have h1:=h x (bp ..);have h2:=DV l (fun u hu=>h u (bW _ hu));rw[dW,bg];omega
theorem zj(t:aa):cR t<=ax t:=by
 refine aa.ind (P:=fun t=>cR t<=ax t) (fun t ih=>?_) t;rw[DR,eO];have:=DV t.l ih;split<;>omega
theorem Wa(l:List aa)(j:Nat):dW (l.take j)<=bg l:=bB (DV _ (fun u _=>zj u)) (DT l j)
theorem Mn(t:aa):ba t=true->cR t=ax t:=by
 refine aa.ind (P:=fun t=>ba t=true->cR t=ax t) (fun t ih hv=>?_) t;have hk:=gi hv;have key:∀l:List aa,(∀u∈l,u∈t.l)->dW l=bg l:=by
  intro l;induction l with
  |nil=>intro _;rw[dW,bg]
  |cons x l ihl=>
   intro h;have hx:=h x (bp ..);rw[dW,bg,ih x hx (hk x hx),ihl (fun u hu=>h u (bW _ hu))]
 rw[DR,eO];by_cases h:t.k=5\/t.k=6
 ·rw[if_pos h,key t.l (fun _ h=>h)]
 ·rw[if_neg h,ux hv (fun e=>h (.inl e)) (fun e=>h (.inr e)),bg]
theorem Wb(i:Int)(s:aa)(t:aa):∀(k:Nat),ax (bN (eD i s) (k:Int) t)<=ax t+cu ((k:Int)+i) t*ax s:=by
 refine aa.ind (P:=fun t=>∀(k:Nat),ax (bN (eD i s) (k:Int) t)<=ax t+cu ((k:Int)+i) t*ax s) (fun t ih k=>?_) t;have key:∀(j:Nat) (l:List aa),(∀u∈l,u∈t.l)->bg (l.map (bN (eD i s) (j:Int)))<=bg l+cQ ((j:Int)+i) l*ax s:=by
  intro j l;induction l with
  |nil=>intro _;rw[dT,bg,cQ];omega
  |cons x l ihl=>
   intro h;have h1:=ih x (h x (bp ..)) j;have h2:=ihl (fun u hu=>h u (bW _ hu));rw[cE,bg,bg,cQ,Nat.add_mul];omega
 rw[ku,zi];by_cases h5:t.k=5
 ·rw[if_pos h5,if_neg (by omega),if_pos h5];have h1:=DW t (t.l.map (bN (eD i s) ((k+1:Nat):Int)));have h2:=key (k+1) t.l (fun _ h=>h);have e:((k+1:Nat):Int)=(k:Int)+1:=by omega
  have e2:(k:Int)+1+i=(k:Int)+i+1:=by omega
  rw[e]at h1 h2;rw[e2]at h2;rw[eO t];omega
 ·rw[if_neg h5];by_cases h6:t.k=6
  ·rw[if_pos h6,if_neg (by omega),if_neg h5];have h1:=DW t (t.l.map (bN (eD i s) (k:Int)));have h2:=key k t.l (fun _ h=>h);rw[eO t];omega
  ·rw[if_neg h6];unfold eD;split
   ·exact oY _ _
   ·rename_i hc;split
    ·rename_i he;rw[if_pos ⟨by omega,he⟩];have:=DX 0 k s 0;have h0:nC 0 (k:Int) s=bN (cB 0 (k:Int)) ((0:Nat):Int) s:=rfl;rw[h0];omega
    ·rw[jc,<-eO];exact oY _ _
theorem Wc(s t:aa):ax (rM 0 s t)<=ax t+cu 0 t*ax s:=by
 have h:=Wb 0 s t 0;have e:((0:Nat):Int)+0=0:=rfl;rw[e]at h;exact h
theorem We{m:Int}{s t:aa}(hm0:0<=m)(hm:m<=4611686018427000000)(hs:Nr m s)(ht:Nr m t)(hn:ax t<=4096):Nr (m+4096) (rM 0 s t):=by
 refine⟨?_,?_⟩
 ·exact V6 (Nr.mF m) (k0:=0) (D:=4096) (fun u d h0 h1 hq h5 h6=>V7 (b:=4096) hs hm0 (by omega) h0 h1 hq.1) t 0 (eG _) (by omega) ht
 ·refine V8 (Nr.mF m) (k0:=0) (D:=4096) (by omega) (fun u d h0 h1 hq h5 h6=>?_) t 0 (eG _) (by omega) ht;unfold eD;split
  ·exact oB (by omega) _ hq.2
  ·rename_i h;have h3:u.k=3:=by omega
   obtain⟨e1,e2,e3,e4⟩:=DQ hq.1 h3;split
   ·exact oB (by omega) _ (KV (eG _) h0 hm0 (by omega) s 0 (eG _) hs.1 hs.2).2
   ·have:=pY hq.2 (by omega);refine gZ (.inr (by rw[aV];omega)) (fun x hx=>by rw[aL,e2]at hx;cases hx)
def jQ(t:aa):Bool:=t.k==6&&(t.l.headD .none).k==5
def fQ(b a:aa)(r:List aa):aa:=.mk 6 [] 0 (bI b::a::r)
def qh(b a:aa):Option aa:=if cR b+cu 0 b*cR a>4096 then none else some (rM 0 a b)
theorem Mo{t:aa}(hv:ba t=true)(h:jQ t=true):∃b a r,t=fQ b a r:=by
 unfold jQ at h;rw[bz,beq_iff_eq,beq_iff_eq]at h;obtain⟨e1,e2,x,a,r,hl,_⟩:=iK hv h.1;have hx5:x.k=5:=by have:=h.2;rw[hl,z7]at this;exact this
 have hxv:=gi hv x (by rw[hl];simp);obtain⟨f1,f2,b,hb⟩:=pZ hxv hx5;refine⟨b,a,r,?_⟩;have hx:x=bI b:=by
  cases x;simp only[aY,aV,a7,aL]at hx5 f1 f2 hb;rw[hx5,f1,f2,hb];rfl
 show t= .mk 6 [] 0 (bI b::a::r);rw[<-hx];cases t;simp only[aY,aV,a7,aL]at h e1 e2 hl;rw[h.1,e1,e2,hl]
theorem su{t:aa}(hv:ba t=true)(h5:t.k=5):∃b,t=bI b:=by
 obtain⟨f1,f2,b,hb⟩:=pZ hv h5;refine⟨b,?_⟩;cases t;simp only[aY,aV,a7,aL]at h5 f1 f2 hb;rw[h5,f1,f2,hb];rfl
theorem Nr.more{m m':Int}{t:aa}(h:Nr m t)(hm:m<=m'):Nr m' t:=⟨h.1,oB hm t h.2⟩
theorem kB(b:aa):ax (bI b)=1+ax b:=by unfold bI;rw[jc,bg,bg];omega
inductive kC:aa->Prop
 |lam {b:aa} (h:kC b):kC (bI b)
 |rest {t:aa} (h5:t.k≠5) (h:∀u∈t.l,ax u<=4096):kC t
theorem kC.kids{t:aa}(h:kC t)(h5:t.k≠5):∀u∈t.l,ax u<=4096:=by
 cases h with
 |lam h=>exact absurd rfl h5
 |rest _ h=>exact h
theorem kC.body{b:aa}(h:kC (bI b)):kC b:=by
 generalize ht:bI b=t at h;cases h with
 |lam h=>unfold bI at ht;injection ht with _ _ _ ht;injection ht with ht _;subst ht;exact h
 |rest h5 _=>subst ht;exact absurd rfl h5
theorem kC.vl(t:aa):ba t=true->ax t<=4096->kC t:=by
 refine aa.ind (P:=fun t=>ba t=true->ax t<=4096->kC t) (fun t ih hv hn=>?_) t;by_cases h5:t.k=5
 ·obtain⟨b,rfl⟩:=su hv h5;have hb:b∈(bI b).l:=by unfold bI;simp[aL]
  have:=kB b;exact .lam (ih b hb (gi hv b hb) (by omega))
 ·exact .rest h5 (fun u hu=>by have:=jM hu;omega)
structure cg (f:Nat) (t:aa):Prop where
 nr:Nr (2199023255552-8192*(f:Int)) t
 bd:kC t
theorem cg.vl{f:Nat}{t:aa}(h:Nr (2199023255552-8192*(f:Int)) t)(hn:ax t<=4096):cg f t:=⟨h,.vl t h.1 hn⟩
theorem cg.down{f g:Nat}{t:aa}(h:cg f t)(hg:g<=f):cg g t:=⟨h.nr.more (by omega),h.bd⟩
theorem cg.dO{f:Nat}{t u:aa}(h:cg f t)(h5:t.k≠5)(hu:u∈t.l):cg f u:=.vl ((Nr.mF _ _ h.nr).2 u hu) (h.bd.kids h5 u hu)
theorem cg.body{f:Nat}{b:aa}(h:cg f (bI b)):cg f b:=⟨(Nr.mF _ _ h.nr).2 b (by unfold bI;simp[aL]),h.bd.body⟩
theorem cg.lam{f:Nat}{b:aa}(hf:f<=100000)(h:cg f b):cg f (bI b):=⟨⟨rN h.nr.1,gZ (.inr (by unfold bI;rw[aV];omega)) (fun u hu=>by unfold bI at hu;simp[aL]at hu;rw[hu];exact h.nr.2)⟩,.lam h.bd⟩
theorem DY(f:aa)(xs:List aa):ax (cv f xs)<=ax f+bg xs+1:=by
 cases xs with
 |nil=>rw[CL];omega
 |cons x xs=>
  rw[rO,jc,sq];split
  ·rw[eO f];omega
  ·rw[bg,bg];omega
theorem cg.beta{n:Nat}{b a:aa}{r:List aa}{u:aa}(hf:n+1<=100000)(h:cg (n+1) (fQ b a r))(hc:qh b a=some u):cg n (cv u r)/\ax u<=4096/\ax (cv u r)+4097*n<=ax (fQ b a r)+4097*(n+1):=by
 have hp1:=h.bd.kids (by simp[fQ,aY]);have hb4:ax (bI b)<=4096:=hp1 _ (bp ..);have ha4:ax a<=4096:=hp1 _ (bW _ (bp ..));have hbn:=kB b;have hlm:Nr _ (bI b):=(Nr.mF _ _ h.nr).2 _ (bp ..);have hbr:=(Nr.mF _ _ hlm).2 b (by unfold bI;simp[aL]);have har:=(Nr.mF _ _ h.nr).2 a (bW _ (bp ..));have hrr:=fun u hu=>(Nr.mF _ _ h.nr).2 u (bW _ (bW _ hu));unfold qh at hc;split at hc
 ·cases hc
 ·rename_i hs;injection hc with hc;rw[Mn b hbr.1,Mn a har.1]at hs;have hu4:ax u<=4096:=by
   rw[<-hc];exact bB (Wc a b) (by omega)
  have hun:Nr (2199023255552-8192*((n:Nat):Int)) u:=by
   rw[<-hc];exact(We (by omega) (by omega) har hbr (by omega)).more (by omega)
  have hrn:∀v∈r,Nr (2199023255552-8192*((n:Nat):Int)) v:=fun v hv=>(hrr v hv).more (by omega);have hnr:Nr (2199023255552-8192*((n:Nat):Int)) (cv u r):=⟨uy hun.1 (fun v hv=>(hrn v hv).1),rP (by omega) hun.2 (fun v hv=>(hrn v hv).2)⟩;have hnd:=DY u r;have hbt:ax (fQ b a r)=1+(ax (bI b)+(ax a+bg r)):=by unfold fQ;rw[jc,bg,bg]
  refine⟨⟨hnr,?_⟩,hu4,by omega⟩;cases r with
  |nil=>rw[CL];exact .vl u hun.1 hu4
  |cons y r=>
   refine .rest (by rw[rO,aY];decide) ?_;rw[rO,aL];intro v hv;rcases List.mem_append.1 hv with hv|hv
   ·split at hv
    ·have:=jM hv;omega
    ·simp only[cD,List.not_mem_nil,or_false]at hv;rw[hv];exact hu4
   ·exact hp1 v (bW _ (bW _ hv))
inductive eZ:Nat->aa->Option aa->Nat->Prop
 |vn {b a:aa} {r:List aa}:eZ 0 (fQ b a r) none 0
 |nE {n:Nat} {b a:aa} {r:List aa} (h:qh b a=none):eZ (n+1) (fQ b a r) none (n+1)
 |step {n m:Nat} {b a u:aa} {r:List aa} {o:Option aa} (h:qh b a=some u) (k:eZ n (cv u r) o m):eZ (n+1) (fQ b a r) o m
 |stop {n:Nat} {t:aa} (h:jQ t=false) (h5:t.k≠5):eZ n t (some t) n
 |lam {n m:Nat} {b:aa} {o:Option aa} (k:eZ n b o m):eZ n (bI b) (o.map bI) m
theorem sw{f m:Nat}{t:aa}{o:Option aa}(h:eZ f t o m):f<=100000->cg f t->m<=f/\∀u,o=some u->cg m u/\(m<f\/u=t)/\ax u+4097*m<=ax t+4097*f:=by
 induction h with
 |vn=>intro _ _;exact⟨aA _,fun u hu=>by cases hu⟩
 |nE h=>intro _ _;exact⟨aA _,fun u hu=>by cases hu⟩
 |step h k ih=>
  intro hf hi;obtain⟨b1,_,b3⟩:=hi.beta hf h;obtain⟨h1,h2⟩:=ih (by omega) b1;exact⟨by omega,fun u hu=>⟨(h2 u hu).1,.inl (by omega),bB (h2 u hu).2.2 b3⟩⟩
 |stop h h5=>intro _ hi;exact⟨aA _,fun u hu=>by injection hu with hu;subst hu;exact⟨hi,.inr rfl,aA _⟩⟩
 |@lam n m b o k ih=>
  intro hf hi;obtain⟨h1,h2⟩:=ih hf hi.body;refine⟨h1,fun u hu=>?_⟩;cases o with
  |none=>cases hu
  |some v=>
   injection hu with hu;subst hu;obtain⟨hv,hw,hn⟩:=h2 v rfl;refine⟨hv.lam (by omega),hw.imp id (fun e=>by rw[e]),?_⟩;rw[kB,kB];omega
theorem Wg(f:Nat):f<=100000->∀t,cg f t->∃o m,eZ f t o m:=by
 induction f with
 |zero=>
  intro _ t;refine aa.ind (P:=fun t=>cg 0 t->∃o m,eZ 0 t o m) (fun t ih hi=>?_) t;cases hr:jQ t
  ·by_cases h5:t.k=5
   ·obtain⟨b,rfl⟩:=su hi.nr.1 h5;have hb:b∈(bI b).l:=by unfold bI;simp[aL]
    obtain⟨o,m,h⟩:=ih b hb hi.body;exact⟨_,_,.lam h⟩
   ·exact⟨_,_,.stop hr h5⟩
  ·obtain⟨b,a,r,rfl⟩:=Mo hi.nr.1 hr;exact⟨_,_,.vn⟩
 |succ f ihf=>
  intro hf t;refine aa.ind (P:=fun t=>cg (f+1) t->∃o m,eZ (f+1) t o m) (fun t ih hi=>?_) t;cases hr:jQ t
  ·by_cases h5:t.k=5
   ·obtain⟨b,rfl⟩:=su hi.nr.1 h5;have hb:b∈(bI b).l:=by unfold bI;simp[aL]
    obtain⟨o,m,h⟩:=ih b hb hi.body;exact⟨_,_,.lam h⟩
   ·exact⟨_,_,.stop hr h5⟩
  ·obtain⟨b,a,r,rfl⟩:=Mo hi.nr.1 hr;cases hc:qh b a with
   |none=>exact⟨_,_,.nE hc⟩
   |some u=>
    obtain⟨o,m,h⟩:=ihf (by omega) _ (hi.beta hf hc).1;exact⟨_,_,.step hc h⟩
mutual
inductive ei:Nat->aa->Option aa->Nat->Prop
 |bad {n m:Nat} {t:aa} (h:eZ n t none m):ei n t none m
 |lam {n m q:Nat} {t b:aa} {o:Option aa} (h:eZ n t (some (bI b)) m) (k:ei m b o q):ei n t (o.map bI) q
 |kids {n m q:Nat} {t u:aa} {o:Option (List aa)} (h:eZ n t (some u) m) (h5:u.k≠5) (k:qi m u.l o q):ei n t (o.map fun l=>.mk u.k u.name u.n l) q
inductive qi:Nat->List aa->Option (List aa)->Nat->Prop
 |nil {n:Nat}:qi n [] (some []) n
 |bad {n m:Nat} {x:aa} {l:List aa} (h:ei n x none m):qi n (x::l) none m
 |cons {n m q:Nat} {x y:aa} {l:List aa} {o:Option (List aa)} (h:ei n x (some y) m) (k:qi m l o q):qi n (x::l) (o.map fun l=>y::l) q
end
theorem DZ{n m:Nat}{t:aa}{o:Option aa}(h:eZ n t o m)(h5:t.k≠5)(h6:t.k≠6):o=some t/\m=n:=by
 cases h with
 |stop _ _=>exact⟨rfl,rfl⟩
 |lam _=>exact absurd rfl h5
 |vn=>exact absurd rfl h6
 |nE _=>exact absurd rfl h6
 |step _ _=>exact absurd rfl h6
theorem Wh{n m:Nat}{t:aa}{o:Option aa}(h:eZ n t o m):∀u,o=some u->u.k≠5->jQ u=false:=by
 induction h with
 |vn=>intro u hu;cases hu
 |nE _=>intro u hu;cases hu
 |step _ _ ih=>exact ih
 |stop h _=>intro u hu _;injection hu with hu;subst hu;exact h
 |@lam n m b o k ih=>
  intro u hu h5;cases o with
  |none=>cases hu
  |some v=>injection hu with hu;subst hu;exact absurd rfl h5
theorem Wi{n m:Nat}{t:aa}{o:Option aa}(hv:ba t=true)(h:ei n t o m)(h5:t.k≠5)(h6:t.k≠6):o=some t/\m=n:=by
 cases h with
 |bad h=>have:=(DZ h h5 h6).1;cases this
 |lam h k=>have:=(DZ h h5 h6).1;injection this with this;subst this;exact absurd rfl h5
 |@kids _ _ _ _ u o h hu k=>
  obtain⟨e,rfl⟩:=DZ h h5 h6;injection e with e;subst e;have hl:=ux hv h5 h6;rw[hl]at k;cases k with
  |nil=>
   refine⟨?_,rfl⟩;cases u with
   |mk a b c d=>simp only[aL]at hl;subst hl;rfl
def Mp(f:Nat)(t:aa)(o:Option aa)(q:Nat):Prop:=f<=100000->cg f t->q<=f/\∀u,o=some u->Nr (2199023255552-8192*(q:Int)) u/\ax u+4097*q<=ax t+4097*f
def Wj(f:Nat)(l:List aa)(o:Option (List aa))(q:Nat):Prop:=f<=100000->(∀x∈l,cg f x)->q<=f/\∀r,o=some r->r.length=l.length/\(∀y∈r,Nr (2199023255552-8192*(q:Int)) y)/\bg r+4097*q<=bg l+4097*f/\(∀x,l.head?=some x->x.k≠5->x.k≠6->r.head?=some x)
theorem zk{f q:Nat}{t:aa}{o:Option aa}(h:ei f t o q):Mp f t o q:=by
 refine ei.rec (motive_1:=fun f t o q _=>Mp f t o q) (motive_2:=fun f l o q _=>Wj f l o q) ?_ ?_ ?_ ?_ ?_ ?_ h
 ·intro n m t h hf hi;exact⟨(sw h hf hi).1,fun u hu=>by cases hu⟩
 ·intro n m q t b o h k ih hf hi;obtain⟨h1,h2⟩:=sw h hf hi;obtain⟨i1,i2,i3⟩:=h2 _ rfl;obtain⟨j1,j2⟩:=ih (by omega) i1.body;refine⟨by omega,fun u hu=>?_⟩;cases o with
  |none=>cases hu
  |some v=>
   injection hu with hu;subst hu;obtain⟨k1,k2⟩:=j2 v rfl;refine⟨⟨rN k1.1,gZ (.inr (by unfold bI;rw[aV];omega)) (fun u hu=>by unfold bI at hu;simp[aL]at hu;rw[hu];exact k1.2)⟩,?_⟩;rw[kB]at i3⊢;omega
 ·intro n m q t u o h h5 k ih hf hi;obtain⟨h1,h2⟩:=sw h hf hi;obtain⟨i1,i2,i3⟩:=h2 _ rfl;obtain⟨j1,j2⟩:=ih (by omega) (fun x hx=>i1.dO h5 hx);refine⟨by omega,fun v hv=>?_⟩;cases o with
  |none=>cases hv
  |some r=>
   injection hv with hv;subst hv;obtain⟨k1,k2,k3,k4⟩:=j2 r rfl;have hval:=i1.nr.1;refine⟨⟨?_,?_⟩,?_⟩
   ·by_cases h6:u.k=6
    ·obtain⟨e1,e2,a,b,l,hl,ha⟩:=iK hval h6;have hr:=Wh h u rfl h5;have ha5:a.k≠5:=by
      unfold jQ at hr;rw[hl,z7,h6]at hr;simpa using hr
     have hh:=k4 a (by rw[hl];rfl) ha5 ha;rw[hl]at k1
     match r,k1,hh,k2 with
     |x::y::r,_,hh,k2=>
      injection hh with hh;subst hh;rw[h6,e1,e2];exact yy ha (fun v hv=>(k2 v hv).1)
    ·have hl:=ux hval h5 h6;rw[hl]at k1;have hr0:r=[]:=List.eq_nil_of_length_eq_zero k1;subst hr0;have e:aa.mk u.k u.name u.n []=u:=by
      cases u with
      |mk a b c d=>simp only[aL]at hl;subst hl;rfl
     show ba (aa.mk u.k u.name u.n [])=true;rw[e];exact hval
   ·refine gZ ?_ (fun x hx=>(k2 x hx).2);rw[aY,aV];by_cases hk2:u.k=2
    ·exact .inl hk2
    ·have:=pY i1.nr.2 hk2;right;omega
   ·rw[jc];rw[eO u]at i3;omega
 ·intro n hf hi;refine⟨aA _,fun r hr=>?_⟩;injection hr with hr;subst hr;exact⟨rfl,(fun y hy=>by cases hy),aA _,(fun x hx=>by cases hx)⟩
 ·intro n m x l h ih hf hi;exact⟨(ih hf (hi x (bp ..))).1,fun r hr=>by cases hr⟩
 ·intro n m q x y l o h k ih1 ih2 hf hi;have hx:=hi x (bp ..);obtain⟨h1,h2⟩:=ih1 hf hx;obtain⟨i1,i2⟩:=h2 y rfl;obtain⟨j1,j2⟩:=ih2 (by omega) (fun z hz=>(hi z (bW _ hz)).down h1);refine⟨by omega,fun r hr=>?_⟩;cases o with
  |none=>cases hr
  |some s=>
   injection hr with hr;subst hr;obtain⟨k1,k2,k3,k4⟩:=j2 s rfl;refine⟨by simp[k1],fun z hz=>?_,?_,fun z hz h5 h6=>?_⟩
   ·rcases cD.1 hz with rfl|hz
    ·exact i1.more (by omega)
    ·exact k2 z hz
   ·rw[bg,bg];omega
   ·injection hz with hz;subst hz;have:=(Wi hx.nr.1 h h5 h6).1;injection this with this;subst this;rfl
theorem Wk{f N:Nat}(hf:f<=100000)(ih:∀(m:Nat) (x:aa),m<=f->(m<f\/ax x<N)->cg m x->∃o q,ei m x o q):∀(l:List aa) (m:Nat),m<=f->(m<f\/∀x∈l,ax x<N)->(∀x∈l,cg m x)->∃o q,qi m l o q:=by
 intro l;induction l with
 |nil=>intro m _ _ _;exact⟨_,_,.nil⟩
 |cons x l ihl=>
  intro m hm hs hi;have hx:=hi x (bp ..);obtain⟨o,q,h⟩:=ih m x hm (hs.imp id (fun h=>h x (bp ..))) hx;cases o with
  |none=>exact⟨_,_,.bad h⟩
  |some y=>
   have hq:=(zk h (by omega) hx).1;obtain⟨o,q',h'⟩:=ihl q (by omega) (by
    rcases hs with hs|hs
    ·exact .inl (by omega)
    ·exact .inr fun z hz=>hs z (bW _ hz)) (fun z hz=>(hi z (bW _ hz)).down hq)
   exact⟨_,_,.cons h h'⟩
theorem Wl(f:Nat):f<=100000->∀t,cg f t->∃o q,ei f t o q:=by
 induction f using Nat.strongRecOn with
 |ind f ihf=>
  intro hf;have key:∀(N:Nat) (t:aa),ax t<N->cg f t->∃o q,ei f t o q:=by
   intro N;induction N with
   |zero=>intro t h;omega
   |succ N ihN=>
    intro t hN hi;obtain⟨o,m,h⟩:=Wg f hf t hi;cases o with
    |none=>exact⟨_,_,.bad h⟩
    |some u=>
     obtain⟨h1,h2⟩:=sw h hf hi;obtain⟨i1,i2,_⟩:=h2 u rfl;have ih:∀(m:Nat) (x:aa),m<=f->(m<f\/ax x<N)->cg m x->∃o q,ei m x o q:=fun m x hm hs hx=>by
      by_cases hmf:m<f
      ·exact ihf m hmf (by omega) x hx
      ·obtain rfl:m=f:=by omega
       exact ihN x (hs.resolve_left hmf) hx
     by_cases h5:u.k=5
     ·obtain⟨b,rfl⟩:=su i1.nr.1 h5;obtain⟨o,q,k⟩:=ih m b h1 (by
       rcases i2 with i2|i2
       ·exact .inl i2
       ·rw[<-i2,kB]at hN;exact .inr (by omega)) i1.body
      exact⟨_,_,.lam h k⟩
     ·obtain⟨o,q,k⟩:=Wk hf ih u.l m h1 (by
       rcases i2 with i2|i2
       ·exact .inl i2
       ·subst i2;exact .inr fun x hx=>by have:=jM hx;omega) (fun x hx=>i1.dO h5 hx)
      exact⟨_,_,.kids h h5 k⟩
  intro t hi;exact key (ax t+1) t (by omega) hi
mutual
inductive mG (s:List aa):aa->Int->Int->Prop where
 |neg {t:aa} {n:Int} (h:n<0):mG s t n n
 |go {t u:aa} {n r:Int} {k:Nat} (h:0<=n) (d:gd s t u k) (a:iM s u.l (n-1) r):mG s t n r
inductive iM (s:List aa):List aa->Int->Int->Prop where
 |nil {n:Int}:iM s [] n n
 |cons {t:aa} {l:List aa} {n m r:Int} (a:mG s t n m) (b:iM s l m r):iM s (t::l) n r
end
theorem D0{s:List aa}{d:Int}(ih:∀(t:aa) (n:Int),aD s.length t->n<=d->∃r,mG s t n r/\r<=n):∀(l:List aa) (n:Int),(∀x∈l,aD s.length x)->n<=d->∃r,iM s l n r/\r<=n
 |[],n,_,_=>⟨n,.nil,eG _⟩
 |t::l,n,h,hn=>by
  obtain⟨m,a,hm⟩:=ih t n (h t (bp ..)) hn;obtain⟨r,b,hr⟩:=D0 ih l m (fun x hx=>h x (bW _ hx)) (by omega);exact⟨r,.cons a b,by omega⟩
theorem Mq{s:List aa}(hR:rj s):∀(d:Nat) (t:aa) (n:Int),aD s.length t->n<=(d:Int)-1->∃r,mG s t n r/\r<=n
 |0,t,n,_,hn=>⟨n,.neg (by omega),eG _⟩
 |d+1,t,n,ht,hn=>by
  by_cases h0:n<0
  ·exact⟨n,.neg h0,eG _⟩
  obtain⟨rk,hL⟩:=hR.less;obtain⟨m,hm⟩:=tH rk ht;obtain⟨u,k,r,_,hu,hst,_⟩:=xp hL m t ht hm;have hkids:∀x∈u.l,aD s.length x:=fun x hx=>by
   by_cases hk:u.k=1
   ·obtain⟨_,_,_,hl⟩:=hu.var hk;rw[hl]at hx;cases hx
   ·exact hu.dO hk hx
  obtain⟨r',a,hr⟩:=D0 (fun t n ht hn=>Mq hR d t n ht hn) u.l (n-1) hkids (by omega);exact⟨r',.go (by omega) r a,by omega⟩
mutual
def bR:ao->Int
 | .mk k _ _ l _=>if k=0\/k=1\/k=2 then 1 else if(k=4/\l.length=1)\/(k=3/\l.length=2)then eP 1 l else-1
def eP(n:Int):List ao->Int
 |[]=>n
 |p::l=>if bR p<0 then-1 else eP (n+bR p) l
end
open Classical in
noncomputable def vo(t:aa):Option aa:=if h:∃o q,ei 1000 t o q then Fm h else none
theorem Wm{t:aa}(h:∃o q,ei 1000 t o q):∃q,ei 1000 t (vo t) q:=by
 unfold vo;rw[dif_pos h];exact Fo h
open Classical in
noncomputable def vp(s:List aa)(l:List aa)(n:Int):Int:=if h:∃r,iM s l n r then Fm h else 0
theorem Wn{s l:List aa}{n:Int}(h:∃r,iM s l n r):iM s l n (vp s l n):=by
 unfold vp;rw[dif_pos h];exact Fo h
open Classical in
noncomputable def zl(s:List aa)(l:List aa):List aa:=if h:∃r,gk s l r then Fm h else[]
theorem Wo{s l:List aa}(h:∃r,gk s l r):gk s l (zl s l):=by
 unfold zl;rw[dif_pos h];exact Fo h
end Go.Proofs.YtdlkenpilhakfaaGreatDoor
namespace Go.Proofs.YtdlkenpilhakfaaGreatDoor
open Go.RowKit Go.Lamb
theorem Mr:∀(l:List ao) (n:Int),1<=n->0<=eP n l->∀q∈l,0<=bR q
 |[],_,_,_,q,hq=>by cases hq
 |x::l,n,hn,h,q,hq=>by
  rw[eP]at h;split at h
  ·omega
  ·rename_i hx;rcases cD.1 hq with rfl|hq
   ·omega
   ·exact Mr l _ (by omega) h q hq
theorem Wp{t:ao}(h:0<=bR t):(t.k=0\/t.k=1\/t.k=2)\/(∃nm n b pos,t= .mk 4 nm n [b] pos/\0<=bR b)\/(∃nm n a b pos,t= .mk 3 nm n [a,b] pos/\0<=bR a/\0<=bR b):=by
 obtain⟨k,nm,n,l,pos⟩:=t;rw[bR]at h;split at h
 ·rename_i hk;exact .inl hk
 ·split at h
  ·rename_i hk;have hs:=Mr l 1 (by decide) h;rcases hk with⟨rfl,hl⟩|⟨rfl,hl⟩
   ·match l,hl with
    |[b],_=>exact .inr (.inl ⟨nm,n,b,pos,rfl,hs b (by simp)⟩)
   ·match l,hl with
    |[a,b],_=>exact .inr (.inr ⟨nm,n,a,b,pos,rfl,hs a (by simp),hs b (by simp)⟩)
  ·omega
section
variable {g:Sg} {W:Nat}
attribute [local go_sem] aa.v aa.aM aY a7 aV aL aT
theorem Wq(w0:World){n0 p:Nat}{σ:H}{f:aH}{y3 y4 y5:V}(h:bq n0 σ p g f y3 y4 y5)(hn:n0<=σ.length)(he:f.e≠0)(t:ao):
  DC prog w0 25 [.ptr p 0,t.v] σ (gn n0 p g σ f (.av [aa.none.v,aa.none.v])):=by
 refine uQ.dn rfl (fun hok hsz=>?_);have hp:=fun L=>hG h.here L;unfold bJ at hp;have k0:(f.e !=0)=true:=by simp[he]
 (refine W.a ?_;simp only[go_sem,qb,hp,k0]);refine W.yes rfl (W.a ?_);simp only[go_sem];exact W.ret ⟨_,_,(by simp only[br,nF,go_sem];rfl),au,rfl,⟨_,_,_,h.app _⟩,(Kept.refl n0 p σ).app hn _⟩
theorem Wr(w0:World){n0 p:Nat}{σ:H}{f:aH}{y3 y4 y5:V}(h:bq n0 σ p g f y3 y4 y5)(hn:n0<=σ.length)(he:f.e=0)(t:ao)(h2:t.k=2):
  DC prog w0 25 [.ptr p 0,t.v] σ (gn n0 p g σ f (.av [(aa.mk 2 [] t.n []).v,(aa.mk 0 [105,110,116] 0 []).v])):=by
 refine uQ.dn rfl (fun hok hsz=>?_);have hp:=fun L=>hG h.here L;unfold bJ at hp;have k0:(f.e !=0)=false:=by simp[he]
 have k2:(t.k==2)=true:=by simp[h2]
 (refine W.a ?_;simp only[go_sem,qb,hp,k0]);refine W.no rfl (W.a ?_);simp only[go_sem,k2];refine W.yes rfl (W.a ?_);simp only[go_sem];exact W.ret ⟨_,_,(by simp only[br,nF,go_sem];rfl),au,rfl,⟨_,_,_,h.app _⟩,(Kept.refl n0 p σ).app hn _⟩
theorem Ms(w0:World){n0 p:Nat}{σ:H}{f f':aH}{y3 y4 y5:V}(h:bq n0 σ p g f y3 y4 y5)(hn:n0<=σ.length)(he:f.e=0)(t:ao)(x u:aa)
  (hc:(t.k=4/\∀{E:H} {z3 z4 z5:V},bq n0 E p g f z3 z4 z5->n0<=E.length->DC prog w0 66 [.ptr p 0,t.v] E (gn n0 p g E f' (.av [x.v,u.v])))\/(t.k≠2/\t.k≠3/\t.k≠4/\∀{E:H} {z3 z4 z5:V},bq n0 E p g f z3 z4 z5->n0<=E.length->DC prog w0 70 [.ptr p 0,t.v] E (gn n0 p g E f' (.av [x.v,u.v])))):
  DC prog w0 25 [.ptr p 0,t.v] σ (gn n0 p g σ f' (.av [x.v,u.v])):=by
 refine uQ.dn rfl (fun hok hsz=>?_);have hp:=fun L=>hG h.here L;unfold bJ at hp;have hlt:=h.lt;have k0:(f.e !=0)=false:=by simp[he]
 have hA0:=h.app [.cells t.v.ah,.cells [I 0,S [],I 0,.ab []],.cells [I 0,S [],I 0,.ab []]];have hK0:=(Kept.refl n0 p σ).app hn [.cells t.v.ah,.cells [I 0,S [],I 0,.ab []],.cells [I 0,S [],I 0,.ab []]];have hn1:=bB hn hK0.len;rcases hc with⟨h4,hc⟩|⟨h2,h3,h4,hc⟩
 ·have k2:(t.k==2)=false:=by simp[h4]
  have k4:(t.k==4)=true:=by simp[h4]
  have hR:=hc hA0 hn1;simp only[ao.v,aa.v,V.ah]at hR;clear h4;(refine W.a ?_;simp only[go_sem,qb,hp,k0]);refine W.no rfl (W.a ?_);simp only[go_sem,k2];refine W.no rfl (W.a ?_);simp only[go_sem,k4];refine W.yes rfl (W.a ?_);simp only[go_sem];(refine W.call (hR) rfl rfl (by first|rfl|simp) ?_);rintro d τ ⟨rfl,⟨w3,w4,w5,d2⟩,d3⟩;have t4:τ[σ.length+1]?=some (.cells [I 0,S [],I 0,.ab []]):=d3.cells _ _ _ (by omega) (Go.Lamb.bY _ _ 1);have t5:τ[σ.length+2]?=some (.cells [I 0,S [],I 0,.ab []]):=d3.cells _ _ _ (by omega) (Go.Lamb.bY _ _ 2)
  have l4:=(aK.1 t4).1;have l5:=(aK.1 t5).1;have s5:=fun A=>(bX (l:=τ) (a:=A) (by omega:σ.length+1≠σ.length+2)).trans t5;have s4:∀A B,((τ.set (σ.length+1) A).set (σ.length+2) B)[σ.length+2]?=some B:=fun A B=>ct (by rw[bC];exact l5);have s3:∀A B,((τ.set (σ.length+1) A).set (σ.length+2) B)[σ.length+1]?=some A:=fun A B=>by rw[bX (by omega)];exact ct l4
  have f1:=fun A B=>(d2.box t4 (by omega) A).box (s5 A) (by omega) B;have f2:=fun A B=>((hK0.trans d3).set A (a:=σ.length+1) (by omega) (.inr (.inl (by omega)))).set B (a:=σ.length+2) (by omega) (.inr (.inl (by omega)));(refine W.a ?_;simp only[go_sem,t4,s5]);exact W.ret ⟨_,_,(by simp only[br,nF,s3,s4,go_sem];rfl),au,rfl,⟨_,_,_,f1 _ _⟩,f2 _ _⟩
 ·have k2:(t.k==2)=false:=by simp[h2]
  have k4:(t.k==4)=false:=by simp[h4]
  have k3:(t.k==3)=false:=by simp[h3]
  have hR:=hc hA0 hn1;simp only[ao.v,aa.v,V.ah]at hR;clear h2 h3 h4;(refine W.a ?_;simp only[go_sem,qb,hp,k0]);refine W.no rfl (W.a ?_);simp only[go_sem,k2];refine W.no rfl (W.a ?_);simp only[go_sem,k4];refine W.no rfl (W.a ?_);simp only[go_sem,k3];refine W.no rfl (W.a ?_);simp only[go_sem];(refine W.call (hR) rfl rfl (by first|rfl|simp) ?_);rintro d τ ⟨rfl,⟨w3,w4,w5,d2⟩,d3⟩;have t4:τ[σ.length+1]?=some (.cells [I 0,S [],I 0,.ab []]):=d3.cells _ _ _ (by omega) (Go.Lamb.bY _ _ 1);have t5:τ[σ.length+2]?=some (.cells [I 0,S [],I 0,.ab []]):=d3.cells _ _ _ (by omega) (Go.Lamb.bY _ _ 2)
  have l4:=(aK.1 t4).1;have l5:=(aK.1 t5).1;have s5:=fun A=>(bX (l:=τ) (a:=A) (by omega:σ.length+1≠σ.length+2)).trans t5;have s4:∀A B,((τ.set (σ.length+1) A).set (σ.length+2) B)[σ.length+2]?=some B:=fun A B=>ct (by rw[bC];exact l5);have s3:∀A B,((τ.set (σ.length+1) A).set (σ.length+2) B)[σ.length+1]?=some A:=fun A B=>by rw[bX (by omega)];exact ct l4
  have f1:=fun A B=>(d2.box t4 (by omega) A).box (s5 A) (by omega) B;have f2:=fun A B=>((hK0.trans d3).set A (a:=σ.length+1) (by omega) (.inr (.inl (by omega)))).set B (a:=σ.length+2) (by omega) (.inr (.inl (by omega)));(refine W.a ?_;simp only[go_sem,t4,s5]);exact W.ret ⟨_,_,(by simp only[br,nF,s3,s4,go_sem];rfl),au,rfl,⟨_,_,_,f1 _ _⟩,f2 _ _⟩
theorem Ws(w0:World)(hW:∀x∈g.types,aC x.ty<=W)(hW1:1<=W)(hW2:W<=10000)(t:ao):∀{n0 p:Nat} {σ:H} {f:aH} {y3 y4 y5:V},bq n0 σ p g f y3 y4 y5->n0<=σ.length->cU f->bT t<=20000->f.sub.length+(W+1)*bT t<=999000->f.bound.length+bT t<=1000000->f.vars.length+bT t<=1000000->0<=bR t->
  DC prog w0 25 [.ptr p 0,t.v] σ (gn n0 p g σ (bE g t f).2.2 (.av [(bE g t f).1.v,(bE g t f).2.1.v])):=by
 refine ao.ind (P:=fun t=>∀{n0 p:Nat} {σ:H} {f:aH} {y3 y4 y5:V},bq n0 σ p g f y3 y4 y5->n0<=σ.length->cU f->bT t<=20000->f.sub.length+(W+1)*bT t<=999000->f.bound.length+bT t<=1000000->f.vars.length+bT t<=1000000->0<=bR t->
  DC prog w0 25 [.ptr p 0,t.v] σ (gn n0 p g σ (bE g t f).2.2 (.av [(bE g t f).1.v,(bE g t f).2.1.v]))) (fun t ih {n0 p σ f y3 y4 y5} h hn hok hnt hs hbl hvl hsz=>?_) t
 have hp1:1<=bT t:=by rw[ya];omega
 have hW1':(W+1)*1<=(W+1)*bT t:=Nat.mul_le_mul_left _ hp1;by_cases he:f.e=0
 ·rcases Wp hsz with hk|⟨nm,n,b,pos,rfl,hb⟩|⟨nm,n,a,b,pos,rfl,ha,hb⟩
  ·by_cases h2:t.k=2
   ·rw[za g t f he h2];exact Wr w0 h hn he t h2
   ·rw[VF g t f he h2 (by omega) (by omega)];exact Ms w0 h hn he t _ _ (.inr ⟨h2,by omega,by omega,fun hA hE=>V1 w0 hW hW2 hA hE (hok.live he) (by omega) (by omega) (by omega) t⟩)
  ·have hnb:bT (.mk 4 nm n [b] pos)=1+bT b:=by rw[bT,dh,dh];omega
   rw[hnb]at hnt hs hbl hvl;rw[jn,gN]at hs;have hl:=f.qf;have hi:f.sub.length<f.fresh.sub.length:=by omega
   have hf2:=(hok.fresh (by omega)).push hi nm;have hbb:(f.fresh.push ⟨nm,aN f.sub.length⟩).bound.length=f.bound.length+1:=by show(f.bound++[_]).length=_;rw[bt];rfl
   have hr:=zh hW hW1 hW2 b _ hf2 (by omega) (by show f.fresh.sub.length+_<=_;omega);have hrec:∀{E:H} {z3 z4 z5:V},bq n0 E p g (f.fresh.push ⟨nm,aN f.sub.length⟩) z3 z4 z5->n0<=E.length->_:=fun hA hE=>ih b (by simp[ao.l]) hA hE hf2 (by omega) (by show f.fresh.sub.length+_<=_;omega) (by omega) (by show f.vars.length+_<=_;omega) hb;rw[zb g nm n b pos f he];exact Ms w0 h hn he _ _ _ (.inl ⟨rfl,fun hA hE=>V4 w0 hA hE (hok.live he) (by omega) (by omega) nm n b pos _ hr.bound hrec⟩)
  ·have hnb:bT (.mk 3 nm n [a,b] pos)=1+bT a+bT b:=by rw[bT,dh,dh,dh];omega
   rw[hnb]at hnt hs hbl hvl;rw[jn,jn,gN]at hs;have hr:=zh hW hW1 hW2 a f hok (by omega) (by omega);have hrl:=hr.len;have hq:=zh hW hW1 hW2 b _ hr.ok (by omega) (by omega);have hra:∀{E:H} {z3 z4 z5:V},bq n0 E p g f z3 z4 z5->n0<=E.length->_:=fun hA hE=>ih a (by simp[ao.l]) hA hE hok (by omega) (by omega) (by omega) (by omega) ha;have hrb:∀{E:H} {z3 z4 z5:V},bq n0 E p g (bE g a f).2.2 z3 z4 z5->n0<=E.length->_:=fun hA hE=>ih b (by simp[ao.l]) hA hE hr.ok (by omega) (by omega) (by rw[hr.bound];omega) (by have:=hr.vars;omega) hb
   rw[zd g nm n a b pos f he];refine V5 w0 h hn he nm n a b pos _ _ hra hrb (fun hqe=>?_) ?_
   ·have hr0:(bE g a f).2.2.e=0:=by
     by_cases h0:(bE g a f).2.2.e=0
     ·exact h0
     ·rw[qe g b _ h0]at hqe;exact absurd hqe h0
    obtain⟨t1,t2⟩:=hr.ty hr0;obtain⟨t3,t4⟩:=hq.ty hqe;have hl:=(bE g b (bE g a f).2.2).2.2.qf;have hge:=hq.ge;have hql:=hq.len;exact⟨hq.ok.live hqe,by omega,L5 (by decide) (by omega) hq.ok.right,t1.mono (by omega),DE (t3.mono (by omega)) (iF (by omega) (by omega) (by omega)),by show aC (bE g a f).2.1<=_;omega,by show aC (.arr _ _)<=_;rw[zg,oM];omega⟩
   ·have h1:=kD (bE g a f).1;have h2:=hr.nodes;omega
 ·rw[qe g t f he];exact Wq w0 h hn he t
end
mutual
theorem D1{s:List aa}:∀{t:aa} {n r:Int},mG s t n r->r<=n
 |_,_,_,.neg _=>eG _
 |_,_,_,.go _ _ a=>by have:=D2 a;omega
theorem D2{s:List aa}:∀{l:List aa} {n r:Int},iM s l n r->r<=n
 |_,_,_,.nil=>eG _
 |_,_,_,.cons a b=>by have h1:=D1 a;have h2:=D2 b;omega
end
mutual
theorem D3{s:List aa}:∀{t:aa} {n r:Int},mG s t n r->-1<=n->-1<=r
 |_,_,_,.neg _,hn=>hn
 |_,_,_,.go _ _ a,_=>Mt a (by omega)
theorem Mt{s:List aa}:∀{l:List aa} {n r:Int},iM s l n r->-1<=n->-1<=r
 |_,_,_,.nil,hn=>hn
 |_,_,_,.cons a b,hn=>Mt b (D3 a hn)
end
section
variable {n0 p:Nat} {g:Sg} {f:aH}
attribute [local go_sem] aa.v aa.aM aY a7 aV aL aT
theorem Wt(w0:World){N:Nat}(hR:cl N f.sub)(hN:N<=1000000)(hl:f.live=true):∀(d:Nat) (t:aa) (n r:Int),n<=(d:Int)-1->-1<=n->n<=1000000->mG f.sub t n r->aD f.sub.length t->aC t<=N->∀{σ:H} {y3 y4 y5:V},bq n0 σ p g f y3 y4 y5->DC prog w0 78 [.ptr p 0,t.v,I n] σ (Same (I r) σ):=by
 intro d;induction d with
 |zero=>
  intro t n r hn _ _ h _ _ σ y3 y4 y5 hA;cases h with
  |neg h=>
   refine Dp.go rfl (fun hok hsz=>?_);(refine W.a ?_;simp only[go_sem,u6,h]);refine W.yes rfl (W.a ?_);simp only[go_sem];(refine W.fs (hok) (by simp only[se,go_sem];rfl) ?_;simp only[ak];try exact V.wk.rfl _)
   all_goals (all_goals exact au)
  |go h _ _=>omega
 |succ d ihd=>
  intro t n r hn hn1 hn2 h ht htn σ y3 y4 y5 hA;refine Dp.go rfl (fun hok hsz=>?_);have hp:=fun L=>hG hA.here L;unfold bJ at hp;cases h with
  |neg h=>
   (refine W.a ?_;simp only[go_sem,u6,h]);refine W.yes rfl (W.a ?_);simp only[go_sem];(refine W.fs (hok) (by simp only[se,go_sem];rfl) ?_;simp only[ak];try exact V.wk.rfl _)
   all_goals (all_goals exact au)
  |@go _ u _ _ k h dr a=>
   have hneg:¬n<0:=by omega
   have hw1:aW.wrap (n-1)=n-1:=by rw[bD]<;>omega
   (refine W.a ?_;simp only[go_sem,u6,hneg]);refine W.no rfl (W.a ?_);simp only[go_sem];refine W.bA (α:=aa×Nat) (fun x=>gd f.sub x.1 u x.2/\aD f.sub.length x.1/\aC x.1<=N) (fun x=>⟨(((base.put (some 0) (.ptr p 0)).put (some 2) (I n)).put (some 4) (.ptr σ.length 0)),σ++[.cells x.1.v.ah]⟩) (fun x=>x.2) (t,k) ⟨dr,ht,htn⟩ ?_ (fun x hx=>?_)
   ·(refine aq.env ?_;exact aE)
   obtain⟨x,m⟩:=x;obtain⟨hr,hx,hxn⟩:=hx;dsimp only at hr hx hxn⊢;cases hr with
   |stop hst=>
    have hkids:∀y∈u.l,aD f.sub.length y:=fun y hy=>by
     by_cases hk:u.k=1
     ·obtain⟨_,_,_,hll⟩:=hx.var hk;rw[hll]at hy;cases hy
     ·exact hx.dO hk hy
    have hkn:∀y∈u.l,aC y<=N:=fun y hy=>by have:=kl hy;rw[cW]at hxn;omega
    have hrec:∀(y:aa) (m m':Int),y∈u.l->m<=n-1->-1<=m->mG f.sub y m m'->∀L,DC prog w0 78 [.ptr p 0,y.v,I m] (σ++L) (Same (I m') (σ++L)):=fun y m m' hy hm hm1 hlt L=>ihd y m m' (by omega) hm1 (by omega) hlt (hkids y hy) (hkn y hy) (hA.app L);have hlen:u.l.length<=1000000:=by
     have h1:u.l.length<=bS u.l:=by
      have:∀l:List aa,l.length<=bS l:=by
       intro l;induction l with
       |nil=>exact bx _
       |cons x l ih=>rw[bo,bS,cW];omega
      exact this _
     rw[cW]at hxn;omega
    by_cases hk:u.k=1
    ·obtain⟨h0,hlt,hnm,hl0⟩:=hx.var hk;rw[hl0]at a;cases a;have k1:(u.k==1)=true:=by simp[hk]
     obtain⟨i,hi⟩:=sM h0;have hil:i<f.sub.length:=by omega
     unfold bH at hst;rw[hi,rW hil,k1,qz]at hst;have q1:(f.sub[i].k==1)=true:=by
      cases hq:(f.sub[i].k==1)
      ·rw[hq]at hst;simp at hst
      ·rfl
     have q2:(f.sub[i].n==(i:Int))=true:=by
      cases hq:(f.sub[i].n==(i:Int))
      ·rw[hq]at hst;simp at hst
      ·rfl
     obtain⟨x0,x2⟩:=C7 hil;rcases hA.sub hl with⟨hs0,_⟩|⟨b,_,hy,hb,_⟩
     ·rw[hs0]at hil;cases hil
     subst hy;have hb2:=fun L=>hG hb L;have g0:(0:Int)<=(i:Int):=by omega
     have g1:(i:Int)<(f.sub.length:Int):=by omega
     generalize f.sub[i]=y at*;generalize aJ f.sub=F at*;clear hst hk hkids hrec hkn;(refine W.a ?_;simp only[go_sem]);apply W.aQ (aS _ _)
     case hc=>
      (apply ae.al;simp only[go_sem,hp,hb2,hi,k1,q1,q2,x0,x2,g0,g1,bne]);exact ae.nil
     (refine W.a ?_;simp only[go_sem]);refine W.no rfl (W.a ?_);simp only[go_sem,hw1,hl0];refine W.bA (α:=Unit) (fun _=>True) (fun _=>⟨(((base.put (some 2) (I (n-1))).put (some 53) (I 0)).put (some 54) (I 0)),σ⟩) (fun _=>0) () trivial ?_ (fun _ _=>?_)
     ·(refine aq.drop ?_ (aA _) (hok) ?_;exact aE;(repeat' (first|exact aZ.base _|(refine aZ.put ?_ (by first|exact .c _|(simp only[go_sem];done)|exact V.gU _ _)))))
     have hz:¬((0:Int)<0):=by decide
     (refine W.a ?_;simp only[go_sem,hz]);refine W.no rfl (W.a ?_);simp only[go_sem];(refine W.fs (hok) (by simp only[se,go_sem];rfl) ?_;simp only[ak];try exact V.wk.rfl _)
     all_goals (all_goals exact au)
    ·have k1:(u.k==1)=false:=by simp[hk]
     clear hst hk;(refine W.a ?_;simp only[go_sem]);apply W.aQ (aS _ _)
     case hc=>
      (apply ae.al;simp only[go_sem,k1]);exact ae.nil
     (refine W.a ?_;simp only[go_sem]);refine W.no rfl (W.a ?_);simp only[go_sem,hw1];refine W.bA (α:=Nat×Int) (fun x=>x.1<=u.l.length/\x.2<=n-1/\-1<=x.2/\iM f.sub (u.l.drop x.1) x.2 r) (fun x=>⟨(((((base.put (some 0) (.ptr p 0)).put (some 2) (I x.2)).put (some 52) (.c (aT u.l))).put (some 53) (I (u.l.length:Int))).put (some 54) (I (x.1:Int))),σ⟩) (fun x=>u.l.length-x.1) (0,n-1) ⟨bx _,eG _,by show-1<=n-1;omega,a⟩ ?_ (fun x hx=>?_)
     ·refine aq.drop ?_ (aA _) hok ?_
      ·exact aE
      ·repeat' (first|exact aZ.base _|(refine aZ.put ?_ (by first|exact .c _|exact .ptr hA.lt)))
     obtain⟨i,m⟩:=x;obtain⟨x1,x2,x3,x4⟩:=hx;dsimp only at x1 x2 x3 x4⊢;by_cases hlt:i<u.l.length
     ·have z:(i:Int)<(u.l.length:Int):=by omega
      have hx0:u.l[i]?=some u.l[i]:=aR hlt;have hw:=ed hlt (by omega:u.l.length<=9223372036854775807);rw[List.drop_eq_getElem_cons hlt]at x4;cases x4 with
      |@cons _ _ _ m' _ a1 a2=>
       have hK:=fun L=>hrec u.l[i] m m' (bw hlt) x2 x3 a1 L;have hle:=D1 a1;have hge:=D3 a1 x3;(refine W.a ?_;simp only[go_sem,z]);refine W.yes rfl (W.a ?_);simp only[go_sem,z,bP,hx0];(refine W.c1 (hK _) ?_;simp only[go_sem,hw]);refine .inv ⟨(i+1,m'),⟨hlt,by show m'<=n-1;omega,hge,a2⟩,by show u.l.length-(i+1)<u.l.length-i;omega,?_⟩;refine aq.drop ?_ (aA _) hok ?_
       ·exact aE
       ·repeat' (first|exact aZ.base _|(refine aZ.put ?_ (by first|exact .c _|exact .ptr hA.lt)))
     ·obtain rfl:i=u.l.length:=by omega
      rw[List.drop_length]at x4;cases x4;have z:¬((u.l.length:Nat):Int)<((u.l.length:Nat):Int):=by omega
      (refine W.a ?_;simp only[go_sem,z]);refine W.no rfl (W.a ?_);simp only[go_sem];(refine W.fs (hok) (by simp only[se,go_sem];rfl) ?_;simp only[ak];try exact V.wk.rfl _)
      all_goals (all_goals exact au)
   |@go _ _ m hst hr=>
    have hk:=gb hst;obtain⟨h0,hlt,_⟩:=hx.var hk;obtain⟨i,hi⟩:=sM h0;rw[hi]at hr h0 hlt;have hil:i<f.sub.length:=by omega
    have hu:aD f.sub.length (cf f.sub (i:Int)):=hR.right.holds _ (iE h0 hlt);have hun:aC (cf f.sub (i:Int))<=N:=hR.size _ (iE h0 hlt);unfold bH at hst;have k1:(x.k==1)=true:=by simp[hk]
    rw[hi,k1,qz]at hst;rw[rW hil]at hr hu hun hst;have hrow:=qa hil;have hle:i*4+4<=f.sub.length*4:=by omega
    have hFl:=lq f.sub;obtain⟨x0,x2⟩:=C7 hil;rcases hA.sub hl with⟨hs0,_⟩|⟨b,_,hy,hb,_⟩
    ·rw[hs0]at hil;cases hil
    subst hy;have hb2:=fun L=>hG hb L;have g0:(0:Int)<=(i:Int):=by omega
    have g1:(i:Int)<(f.sub.length:Int):=by omega
    generalize f.sub[i]=y at*;generalize aJ f.sub=F at*;clear hk;cases q1:(y.k==1)
    ·(refine W.a ?_;simp only[go_sem]);apply W.aQ (aS _ _)
     case hc=>
      (apply ae.al;simp only[go_sem,hp,hb2,hi,k1,q1,x0,x2,g0,g1,bne]);exact ae.nil
     (refine W.a ?_;simp only[go_sem]);refine W.yes rfl (W.a ?_);simp only[go_sem];apply W.aQ (aS _ _)
     case hc=>
      (apply ae.al;simp only[go_sem,hp,hb2,hi,g0,g1,hrow,hle,hFl]);exact ae.nil
     (refine W.a ?_;simp only[go_sem]);refine .inv ⟨(y,m),⟨hr,hu,hun⟩,by dsimp only;omega,?_⟩;(refine aq.env ?_;exact aE)
    ·rw[q1,qz]at hst;have q2:(y.n==(i:Int))=false:=by simpa using hst
     (refine W.a ?_;simp only[go_sem]);apply W.aQ (aS _ _)
     case hc=>
      (apply ae.al;simp only[go_sem,hp,hb2,hi,k1,q1,q2,x0,x2,g0,g1,bne]);exact ae.nil
     (refine W.a ?_;simp only[go_sem]);refine W.yes rfl (W.a ?_);simp only[go_sem];apply W.aQ (aS _ _)
     case hc=>
      (apply ae.al;simp only[go_sem,hp,hb2,hi,g0,g1,hrow,hle,hFl]);exact ae.nil
     (refine W.a ?_;simp only[go_sem]);refine .inv ⟨(y,m),⟨hr,hu,hun⟩,by dsimp only;omega,?_⟩;(refine aq.env ?_;exact aE)
end
end Go.Proofs.YtdlkenpilhakfaaGreatDoor
namespace Go.Proofs.YtdlkenpilhakfaaGreatDoor
open Go Go.RowKit Go.Lamb
theorem Mu{s:List aa}{t u v:aa}{n m:Nat}(h:gd s t u n):gd s t v m->u=v:=by
 induction h generalizing m with
 |stop h=>intro k;cases k with
  |stop _=>rfl
  |go h' _=>rw[h]at h';cases h'
 |go h r ih=>intro k;cases k with
  |stop h'=>rw[h]at h';cases h'
  |go h' r'=>exact ih r'
theorem Mv{N:Nat}{s:List aa}(hR:cl N s){t u:aa}{n:Nat}(h:gd s t u n):aD s.length t->aD s.length u:=by
 induction h with
 |stop _=>exact id
 |go h r ih=>intro ht;exact ih (LP hR _ ht h).2
mutual
theorem Wu{N:Nat}{s:List aa}(hR:cl N s):∀{t u:aa} {n r:Int},mA s t u->mG s t n r->0<=r->aD s.length t->n=r+aC u/\aD s.length u
 |_,_,_,_,.var h hk,.neg h0,hr,_=>by omega
 |_,_,_,_,.gX h hk a,.neg h0,hr,_=>by omega
 |t,u,n,r,.var h hk,.go h0 d l,hr,ht=>by
  have e:=Mu h d;subst e;have hu:=Mv hR h ht;obtain⟨_,_,_,hl⟩:=hu.var hk;rw[hl]at l;cases l;rw[cW,hl,bS];exact⟨by omega,hu⟩
 |t,_,n,r,.gX (u:=u) h hk a,.go h0 d l,hr,ht=>by
  have e:=Mu h d;subst e;have hu:=Mv hR h ht;obtain⟨q1,q2⟩:=D4 hR a l hr (fun x hx=>hu.dO hk hx);have hlen:=a.len;refine⟨by rw[lz];omega,⟨?_,fun v hv=>?_⟩⟩
  ·have hv:=hu.valid;rw[jF,bz]at hv⊢;refine⟨?_,List.all_eq_true.2 fun x hx=>(q2 x hx).valid⟩;have hn:=hv.1;unfold lf at hn⊢;rw[aY,a7,aV,aL,hlen];by_cases h0:u.k=0
   ·simp[h0]at hn⊢;exact hn.1
   ·by_cases h2:u.k=2
    ·simp[h2]at hn⊢;exact⟨hn.1.1,hn.2⟩
    ·simp[h0,hk,h2]at hn
  ·rw[lh (by rw[aY];exact hk),aL]at hv;obtain⟨x,hx,ho⟩:=hv;exact(q2 x hx).vars v ho
theorem D4{N:Nat}{s:List aa}(hR:cl N s):∀{l w:List aa} {n r:Int},gk s l w->iM s l n r->0<=r->(∀x∈l,aD s.length x)->n=r+bS w/\∀x∈w,aD s.length x
 |_,_,_,_,.nil,.nil,_,_=>⟨by rw[bS];omega,fun x hx=>by cases hx⟩
 |_,_,_,_,.cons a b,.cons c d,hr,h=>by
  have hle:=D2 d;obtain⟨q1,q2⟩:=Wu hR a c (by omega) (h _ (bp ..));obtain⟨q3,q4⟩:=D4 hR b d hr (fun x hx=>h x (bW _ hx));refine⟨by rw[bS];omega,fun x hx=>?_⟩;rcases cD.1 hx with rfl|hx
  ·exact q2
  ·exact q4 x hx
end
end Go.Proofs.YtdlkenpilhakfaaGreatDoor
namespace Go.Proofs.YtdlkenpilhakfaaGreatDoor
open Go.RowKit Go.Lamb
def Wv(s:List UInt8):ad:=.spare 5 1 s.length
attribute [local go_sem] Wv nk tJ tK tL tM tI
end Go.Proofs.YtdlkenpilhakfaaGreatDoor
namespace Go.Proofs.YtdlkenpilhakfaaGreatDoor
open Go.RowKit Go.Lamb
attribute [local go_sem] aa.v aa.aM aY a7 aV aL aT bL.v bL.cs ay.v ay.cs fO ef Sg.v gg.v
theorem Ww(w0:World)(l:List bL)(hn:l.length<=1000000)(σ:H):DC prog w0 97 [.c (fO l)] σ (Same (.aF σ.length (l.map bL.cs)) (σ++[.spare 106 2 l.length])):=by
 refine Ko.dn rfl (fun hok hsz=>?_);have hb1:l.length*24<=140737488355328:=by omega
 have hb2:l.length<=140737488355328:=by omega
 have hb3:∀r∈l.map bL.cs,r.length=2:=fun r hr=>by obtain⟨o,_,rfl⟩:=dK.1 hr;rfl
 (refine W.a ?_;simp only[go_sem,Cx]);refine W.ja rfl rfl rfl (fun b hb=>?_);cases b
 ·(refine W.a ?_;simp only[go_sem]);refine W.no rfl (W.a ?_);simp only[go_sem,hb1,hb2,eq_true hb3,true_or];refine W.ret ⟨_,_,rfl,.rfl _,?_⟩;refine⟨rfl,?_⟩;simp only[cd]
 ·have hl:l=[]:=by simpa using hb rfl
  subst hl;(refine W.a ?_;simp only[go_sem]);refine W.yes rfl (W.a ?_);simp only[go_sem];refine W.own 2 106 2 rfl ?_;exact W.ret ⟨_,_,rfl,.rfl _,rfl,rfl⟩
theorem D5{l:List ay}:∀r∈l.map ay.cs,r.length=5:=fun r hr=>by obtain⟨o,_,rfl⟩:=dK.1 hr;rfl
theorem Wx(w0:World)(l:List ay)(hn:l.length<=1000000)(σ:H):DC prog w0 81 [.c (ef l)] σ (Same (.aF σ.length (l.map ay.cs)) (σ++[.spare 50 5 l.length])):=by
 refine Cy.dn rfl (fun hok hsz=>?_);have hb1:l.length*72<=140737488355328:=by omega
 have hb2:l.length<=140737488355328:=by omega
 have hb3:=D5 (l:=l);(refine W.a ?_;simp only[go_sem,yu]);refine W.ja rfl rfl rfl (fun b hb=>?_);cases b
 ·(refine W.a ?_;simp only[go_sem]);refine W.no rfl (W.a ?_);simp only[go_sem,hb1,hb2,eq_true hb3,true_or];refine W.ret ⟨_,_,rfl,.rfl _,?_⟩;refine⟨rfl,?_⟩;simp only[cd]
 ·have hl:l=[]:=by simpa using hb rfl
  subst hl;(refine W.a ?_;simp only[go_sem]);refine W.yes rfl (W.a ?_);simp only[go_sem];refine W.own 2 50 5 rfl ?_;exact W.ret ⟨_,_,rfl,.rfl _,rfl,rfl⟩
theorem Mw(w0:World)(l:List ay)(σ:H):DC prog w0 104 [.c (ef l)] σ (Same (.ab (l.map ay.cs)) σ):=by
 refine Kp.go rfl (fun hok hsz=>?_);have hb3:=D5 (l:=l);have hle:(l.length:Int)<=(l.length:Int):=eG _;have htk:(l.map ay.cs).take l.length=l.map ay.cs:=List.take_of_length_le (by simp);(refine W.a ?_;simp only[go_sem,Cz,eq_true hb3,bP,hle,htk]);(refine W.fs (hok) (by simp only[CA,go_sem];rfl) ?_;simp only[ak];try exact V.wk.rfl _)
theorem Mx(w0:World)(ok there:Bool)(n:Nat)(σ:H):DC prog w0 101 [B ok,B there,I n] σ (Same (I (pD ok there n)) σ):=by
 refine Kf.go rfl (fun hok hsz=>?_);unfold pD;cases ok
 ·(refine W.a ?_;simp only[go_sem,yq]);refine W.yes rfl (W.a ?_);simp only[go_sem];(refine W.fs (hok) (by simp only[rI,go_sem];rfl) ?_;simp only[ak];try exact V.wk.rfl _)
 ·(refine W.a ?_;simp only[go_sem,yq]);refine W.no rfl (W.a ?_);simp only[go_sem];cases there
  ·refine W.no rfl (W.a ?_);simp only[go_sem];by_cases h:1024<=n
   ·have h':(n:Int)>=1024:=by omega
    (refine W.a ?_;simp only[go_sem,h']);refine W.yes rfl (W.a ?_);simp only[go_sem];rw[if_pos h];(refine W.fs (hok) (by simp only[rI,go_sem];rfl) ?_;simp only[ak];try exact V.wk.rfl _)
   ·have h':¬(n:Int)>=1024:=by omega
    (refine W.a ?_;simp only[go_sem,h']);refine W.no rfl (W.a ?_);simp only[go_sem];rw[if_neg h];(refine W.fs (hok) (by simp only[rI,go_sem];rfl) ?_;simp only[ak];try exact V.wk.rfl _)
  ·refine W.yes rfl (W.a ?_);simp only[go_sem];(refine W.fs (hok) (by simp only[rI,go_sem];rfl) ?_;simp only[ak];try exact V.wk.rfl _)
end Go.Proofs.YtdlkenpilhakfaaGreatDoor
namespace Go.Proofs.YtdlkenpilhakfaaGreatDoor
open Go.RowKit Go.Lamb
attribute [local go_sem] aa.v aa.aM aY a7 aV aL aT bL.v bL.cs ay.v ay.cs fO ef Sg.v gg.v pz
theorem My{s:Sg}{x:gg}{name:bG}(h:x.k=1):ko s x name=(⟨s.kinds,s.types++[⟨name,x.ty⟩],s.ops⟩,pD (iD name||ll name) (fP s.types name).isSome s.types.length):=by
 unfold ko;rw[if_neg (by omega),if_pos h]
end Go.Proofs.YtdlkenpilhakfaaGreatDoor
namespace Go.Proofs.YtdlkenpilhakfaaGreatDoor
open Go.RowKit Go.Lamb
attribute [local go_sem] aa.v aa.aM aY a7 aV aL aT bL.v bL.cs ay.v ay.cs fO ef Sg.v gg.v pz
def Wy(b:Nat)(s:Sg):ad:=.cells [.aF (b+1) (s.kinds.map bL.cs),.aF (b+2) (s.types.map ay.cs),.aF (b+3) (s.ops.map cN.cs)]
attribute [local go_sem] Wy ug SF SG SH SI
end Go.Proofs.YtdlkenpilhakfaaGreatDoor
namespace Go.Proofs.YtdlkenpilhakfaaGreatDoor
open Go.RowKit Go.Lamb
def c160:AC:=rsq [.o 2 (.af (.k (.ab [])))] (rsq [.o 3 (.af (zK 0))] (.seq (rsq [.m 9 0,.o 10 (.aO 9),.o 11 (.af (zK 0))] (.block 0 (.loop (rsq [.o 12 (.bin .lss 11 10)] (.seq (.cond 12 .skip (.exit 0)) (.seq (.block 1 (rsq [.o 13 (.aI 1 9 11),.l 14 13,.m 5 14] (rsq [.m 15 3,.m 16 5,.o 17 (.aO 16),.o 18 (.bin .add 15 17),.m 3 18] (rif [.m 19 3,.o 20 (.bin .lss 19 (zK 0))] 20 (.aG [.o 21 .bad,⟨none,.bad,none⟩]) .skip)))) (.aG [.o 22 (.bin .add 11 (zK 1)),.m 11 22]))))))) (rsq [.m 23 3,.k 24 211 [(.k (.ab [])),23],.m 6 24] (.seq (rsq [.m 25 0,.o 26 (.aO 25),.o 27 (.af (zK 0))] (.block 2 (.loop (rsq [.o 28 (.bin .lss 27 26)] (.seq (.cond 28 .skip (.exit 2)) (.seq (.block 3 (rsq [.o 29 (.aI 1 25 27),.l 30 29,.m 8 30] (.aG [.m 31 6,.m 32 8,.o 33 (.app 50 5 72 31 32),.m 6 33]))) (.aG [.o 34 (.bin .add 27 (zK 1)),.m 27 34]))))))) (rsq [.m 35 6,.m 2 35] .ret)))))
def Mz:List aw:=[.tmp 2]
theorem Wz:az prog 160 1 Tryz.f160 c160 Mz:=.auto func160
attribute [local go_sem] aa.v aa.aM aY a7 aV aL aT bL.v bL.cs ay.v ay.cs fO ef Sg.v gg.v pz
theorem WA:(prog.info? 50).map (fun i=>(i.zero,i.size,i.bytes))=some (some (.agg #[.string ⟨#[]⟩,.int .i64 0,.string ⟨#[]⟩,.int .i64 0,.slice none 0 0]),5,72):=by kernel_rfl
theorem MA(w:World)(n:Nat)(hn:n<=1000000)(zc:Array Value)(hz:zc.size=5):
  (w.alloc (.cells (qt zc n++qt zc (grownCap w n 0 50-n)) 50)).drew.ownsRow w.heap.size 50 5 (.slice (some ⟨w.heap.size,0,none⟩) 0 (grownCap w n 0 50)) 0 []:=by
 have hge:=grownCap_ge w n 0 50;refine⟨by simp,.inr ⟨w.heap.size,_,_,rfl,aA _,heap_alloc_new w _,bx _,grownCap_le_maxLen w n 0 50 (by unfold maxLen;omega),?_,by simp⟩⟩;simp only[Array.size_append,size_zeroCells,hz];omega
set_option maxHeartbeats 4000000 in
set_option maxRecDepth 100000 in
theorem WB(A:Option Addr)(n:Nat)(w:World)(hn:n<=1000000):Calls prog 211 #[.slice A 0 0,.int .i64 n] w (fun e w'=>∃v,e= .returned v/\Below w.heap.size w w'/\Roomy w w' 50 5 v):=by
 by_cases h0:n=0
 ·subst h0;cases A
  ·go_enter func211,ntmps211
   go_wp2_with fail
   go_ret
   exact⟨_,rfl,ep _ _,.inl ⟨_,rfl⟩⟩
  ·go_enter func211,ntmps211
   go_wp2_with fail
   go_ret
   exact⟨_,rfl,ep _ _,.inl ⟨_,rfl⟩⟩
 ·obtain⟨i0,hi0,hz0,hz1,hz2⟩:=info_parts WA;have h1:¬((n:Int)<0):=by omega
  have h2:(n:Int)>0:=by omega
  have hw:aW.wrap (n:Int)=n:=by rw[bD]<;>omega
  cases A
  case none=>
   have hr:=vV (P:=prog) w 23 3 23 50 i0 _ .i64 .i64 underlying23 underlying3 hi0 hz0 none 0 0 [] (nT (by simp) (by simp)) n (by omega) (by rw[hz1];decide) (by omega) (by omega) (by rw[hz2];omega) (growslice_fits (by omega) (by rw[hz2];omega))
   go_enter func211,ntmps211
   go_wp2_with (first
    |(at_builtin;refine vW w rfl (.tmp 20) (.tmp 21) 23 3 rfl _ _ rfl rfl _ _ hr ?_))
   go_ret
   exact⟨_,rfl,qI w _,.inr (MA w n hn _ rfl)⟩
  case some a=>
   have hr:=vV (P:=prog) w 23 3 23 50 i0 _ .i64 .i64 underlying23 underlying3 hi0 hz0 (some a) 0 0 [] (nT (by simp) (by simp)) n (by omega) (by rw[hz1];decide) (by omega) (by omega) (by rw[hz2];omega) (growslice_fits (by omega) (by rw[hz2];omega))
   go_enter func211,ntmps211
   go_wp2_with (first
    |(at_builtin;refine vW w rfl (.tmp 20) (.tmp 21) 23 3 rfl _ _ rfl rfl _ _ hr ?_))
   go_ret
   exact⟨_,rfl,qI w _,.inr (MA w n hn _ rfl)⟩
theorem WC(w0:World)(n:Nat)(hn:n<=1000000)(σ:H):DC prog w0 211 [.ab [],I n] σ (Same (.aF σ.length []) (σ++[.spare 50 5 0])):=by
 refine DC.z8 (lO func211 (by kernel_rfl) rfl) fun κ w vs hrep hfit=>?_;obtain⟨v,ys,rfl,hv,hfit⟩:=hfit.cons_inv;obtain⟨u,zs,rfl,hu,hfit⟩:=hfit.cons_inv;have:=hfit.kS;subst this;cases hv with
 |ab h1=>
  rename_i A;cases hu with
  |c hu=>
   cases hu with
   |int=>exact WB A n w hn
end Go.Proofs.YtdlkenpilhakfaaGreatDoor
namespace Go.Proofs.YtdlkenpilhakfaaGreatDoor
open Go.RowKit Go.Lamb
theorem WD(w0:World)(p:ao):∀(n:Int),0<=n->n<=1000000->∀(σ:H),DC prog w0 61 [p.v,I n] σ (Same (I (fZ p n)) σ):=by
 refine ao.ind (P:=fun p=>∀(n:Int),0<=n->n<=1000000->∀(σ:H),DC prog w0 61 [p.v,I n] σ (Same (I (fZ p n)) σ)) (fun p ih n hn hn' σ=>?_) p;refine TX.go rfl (fun hok hsz=>?_);have hlen:=T0 hsz (bp ..);have hw0:aW.wrap (n-1)=n-1:=by rw[bD]<;>omega
 (refine W.a ?_;simp only[go_sem,Kz,hw0]);refine W.bA (α:=Nat×Int) (fun x=>x.1<=p.l.length/\-1<=x.2/\x.2<=1000000/\fK (p.l.drop x.1) x.2=fZ p n) (fun x=>⟨((((base.put (some 2) (.ptr σ.length 0)).put (some 4) (I 0)).put (some 5) (I x.2)).put (some 6) (I (x.1:Nat))),σ++[.cells p.v.ah]⟩) (fun x=>p.l.length-x.1) (0,n-1) ⟨bx _,by simp only;omega,by simp only;omega,by rw[QV];rfl⟩ ?_ (fun x hi=>?_)
 ·(refine aq.env ?_;exact aE)
 ·obtain⟨i,m⟩:=x;obtain⟨hi,hm,hm',hinv⟩:=hi;simp only at hi hm hm' hinv;by_cases hlt:i<p.l.length
  ·have h1:((i:Int)<(p.l.length:Int)):=by omega
   have hx:p.l[i]?=some p.l[i]:=aR hlt;have hw:aW.wrap ((i:Int)+1)=((i+1:Nat):Int):=ed hlt hlen;by_cases h0:0<=m
   ·have h0':m>=0:=h0;(refine W.a ?_;simp only[go_sem,h1,h0']);refine W.yes rfl (W.a ?_);simp only[go_sem,h1,bP,hx];(refine W.c1 (ih p.l[i] (bw hlt) m h0 hm' _) ?_;simp only[go_sem,hw]);have:=GK p.l[i] m h0;refine .inv ⟨(i+1,fZ p.l[i] m),⟨hlt,this.1,by simp only;omega,by rw[<-hinv,QW hlt h0]⟩,by simp only;omega,?_⟩;(refine aq.env ?_;exact aE)
   ·have h0':¬m>=0:=h0;(refine W.a ?_;simp only[go_sem,h1,h0']);refine W.no rfl (W.a ?_);simp only[go_sem];(refine W.fs (hok) (by simp only[CB,go_sem];rfl) ?_;simp only[ak];try exact V.wk.rfl _);rw[<-hinv,GJ h0];exact .rfl _
  ·have h1:¬((i:Int)<(p.l.length:Int)):=by omega
   (refine W.a ?_;simp only[go_sem,h1]);refine W.no rfl (W.a ?_);simp only[go_sem];(refine W.fs (hok) (by simp only[CB,go_sem];rfl) ?_;simp only[ak];try exact V.wk.rfl _);rw[<-hinv,QX (by omega)];exact .rfl _
theorem WE(w0:World)(p:ao)(n:Int)(hn:0<=n)(hn':n<=1000000)(σ:H):DC prog w0 21 [p.v,I n] σ (Same (B (decide (fZ p n<0))) σ):=by
 refine TY.go rfl (fun hok hsz=>?_);(refine W.a ?_;simp only[go_sem,c21]);(refine W.c1 (WD w0 p n hn hn' _) ?_;simp only[go_sem]);(refine W.fs (hok) (by simp only[KA,go_sem];rfl) ?_;simp only[ak];try exact V.wk.rfl _)
end Go.Proofs.YtdlkenpilhakfaaGreatDoor
