/- . -/
import Derived.Test.YtdlkenpilhakfaaGreatDoorQJ13
import Derived.Test.YtdlkenpilhakfaaGreatDoorQRd1
set_option linter.unusedSimpArgs false
set_option linter.unusedVariables false
set_option maxHeartbeats 8000000
set_option maxRecDepth 20000
open Classical renaming choice->fk
open List renaming append_nil->cq,find?_eq_some_iff_getElem->Oj,findIdx?_eq_none_iff->Fh,findIdx?_eq_some_iff_getElem->Fg,getElem_of_mem->fU,length_set->bC
namespace Go.Lamb
open Go Go.RowKit
abbrev lX:=List It->St->Prop
def qY(K:lX)(f:Nat)(k:List It)(s:St):Prop:=K (Lamb.eK f k s).1 (Lamb.eK f k s).2
def xb(x:Option (V×H))(K:lX)(f:Nat)(o:aj)(l:List aj)(k:List It)(s:St):Prop:=match x with
 |some (v,σ')=>qY K f (.ops l::k) ⟨s.ρ.put o.dst v,σ'⟩
 |none=>K (.ops (o::l)::k) s
def AS(x:Option Bool)(K:lX)(f:Nat)(o:aj)(l:List aj)(k:List It)(s:St):Prop:=match x with
 |some true=>xb (step s.ρ s.σ o.ins) K f o l k s
 |some false=>qY K f (.ops l::k) ⟨s.ρ.put o.dst .void,s.σ⟩
 |none=>K (.ops (o::l)::k) s
theorem qZ:Nonempty {g:(lX->Nat->List It->St->Prop)×(Option Bool->lX->Nat->aj->List aj->List It->St->Prop)×(Option (V×H)->lX->Nat->aj->List aj->List It->St->Prop)//g=(qY,AS,xb)}:=⟨⟨_,rfl⟩⟩
noncomputable def da:lX->Nat->List It->St->Prop:=(fk qZ).1.1
noncomputable def kf:Option Bool->lX->Nat->aj->List aj->List It->St->Prop:=(fk qZ).1.2.1
noncomputable def tz:Option (V×H)->lX->Nat->aj->List aj->List It->St->Prop:=(fk qZ).1.2.2
theorem fJ:da=qY:=by unfold da;rw[(fk qZ).2]
theorem xc:kf=AS:=by unfold kf;rw[(fk qZ).2]
theorem AT:tz=xb:=by unfold tz;rw[(fk qZ).2]
section
variable (K:lX) (f:Nat) (k:List It) (s:St)
theorem Qj:da K (f+1) (.code .skip::k) s=da K f k s:=by rw[fJ];rfl
theorem Qk(l:List aj):da K (f+1) (.code (.aG l)::k) s=da K f (.ops l::k) s:=by rw[fJ];rfl
theorem Ql(a b:AC):da K (f+1) (.code (.seq a b)::k) s=da K f (.code a:: .code b::k) s:=by rw[fJ];rfl
theorem Qm(id:Nat)(c:AC):da K (f+1) (.code (.block id c)::k) s=da K f (.code c:: .fF id::k) s:=by rw[fJ];rfl
theorem Qn(id:Nat):da K (f+1) (.code (.exit id)::k) s=(match iA id k with
  |some k'=>da K f k' s
  |none=>K (.code (.exit id)::k) s):=by
 rw[fJ];unfold qY;simp only[Lamb.eK];generalize iA id k=x;cases x<;>rfl
theorem Qo(id:Nat):da K (f+1) (.fF id::k) s=da K f k s:=by rw[fJ];rfl
theorem Qp:da K (f+1) (.ops []::k) s=da K f k s:=by rw[fJ];rfl
theorem Qq(o:aj)(l:List aj):da K (f+1) (.ops (o::l)::k) s=kf (bU s.ρ o.guard) K f o l k s:=by
 rw[fJ,xc];unfold qY AS xb;simp only[Lamb.eK];generalize bU s.ρ o.guard=x;generalize step s.ρ s.σ o.ins=y;rcases x with _|b
 ·rfl
 ·cases b
  ·rfl
  ·rcases y with _|⟨v,τ⟩<;>rfl
theorem Qr(o:aj)(l:List aj):kf (some true) K f o l k s=tz (step s.ρ s.σ o.ins) K f o l k s:=by rw[xc,AT];rfl
theorem Qs(o:aj)(l:List aj):kf (some false) K f o l k s=da K f (.ops l::k) ⟨s.ρ.put o.dst .void,s.σ⟩:=by rw[xc,fJ];rfl
theorem Qt(o:aj)(l:List aj):kf none K f o l k s=K (.ops (o::l)::k) s:=by rw[xc];rfl
theorem Qu(v:V)(σ':H)(o:aj)(l:List aj):tz (some (v,σ')) K f o l k s=da K f (.ops l::k) ⟨s.ρ.put o.dst v,σ'⟩:=by rw[AT,fJ];rfl
theorem Qv(o:aj)(l:List aj):tz none K f o l k s=K (.ops (o::l)::k) s:=by rw[AT];rfl
theorem Qw(c:ai)(x y:AC):da K (f+1) (.code (.cond c x y)::k) s=K (.code (.cond c x y)::k) s:=by rw[fJ];rfl
theorem Qx(c:AC):da K (f+1) (.code (.loop c)::k) s=K (.code (.loop c)::k) s:=by rw[fJ];rfl
theorem Qy(l:List aj)(e:List cA):da K (f+1) (.code (.ft l e)::k) s=K (.code (.ft l e)::k) s:=by rw[fJ];rfl
theorem Qz:da K (f+1) (.code .ret::k) s=K (.code .ret::k) s:=by rw[fJ];rfl
theorem QA:da K (f+1) (.code .bad::k) s=K (.code .bad::k) s:=by rw[fJ];rfl
theorem QB(I:St->Prop):da K (f+1) (.inv I::k) s=K (.inv I::k) s:=by rw[fJ];rfl
theorem QC:da K (f+1) [] s=K [] s:=by rw[fJ];rfl
theorem QD:da K 0 k s=K k s:=by rw[fJ];rfl
theorem la{b:Bool}{o:aj}{l:List aj}(h1:b=true->kf (some true) K f o l k s)(h2:b=false->kf (some false) K f o l k s):kf (some b) K f o l k s:=by
 cases b
 ·exact h2 rfl
 ·exact h1 rfl
theorem ld{b:Bool}{o:aj}{l:List aj}(h1:b=true->kf (some false) K f o l k s)(h2:b=false->kf (some true) K f o l k s):kf (some (!b)) K f o l k s:=by
 cases b
 ·exact h2 rfl
 ·exact h1 rfl
end
theorem W.kg{P:Program}{w0:World}{n0:Nat}{Q:St->Prop}{c:ai}{x y:AC}{k:List It}{s:St}{t:Bool}(hc:c.ev s.ρ= .c (.bool (!t)))(h1:t=true->W P w0 n0 Q (.code y::k) s)(h2:t=false->W P w0 n0 Q (.code x::k) s):W P w0 n0 Q (.code (.cond c x y)::k) s:=by
 cases t
 ·exact .cond hc (fun _=>h2 rfl) (fun e=>by cases e)
 ·exact .cond hc (fun e=>by cases e) (fun _=>h1 rfl)
theorem W.da{P:Program}{w0:World}{n0:Nat}{Q:St->Prop}(f:Nat)(k:List It)(s:St)(h:Lamb.da (W P w0 n0 Q) f k s):W P w0 n0 Q k s:=W.eK f k s (by rw[fJ]at h;exact h)
abbrev dZ:=List cA->Env->H->List H->Prop
def xd(x:Option (V×H))(K:dZ)(o:aj)(lo:Nat)(l:List cA)(ρ:Env)(σ:H)(past:List H):Prop:=match x with
 |some (v,σ1)=>Lamb.fv K l (ρ.put o.dst v) σ1 (σ::past)
 |none=>K (⟨o,true,lo⟩::l) ρ σ past
def AU(x:Option Bool)(K:dZ)(o:aj)(lo:Nat)(l:List cA)(ρ:Env)(σ:H)(past:List H):Prop:=match x with
 |some true=>xd (step ρ σ o.ins) K o lo l ρ σ past
 |some false=>Lamb.fv K l (ρ.put o.dst .void) σ (σ::past)
 |none=>K (⟨o,true,lo⟩::l) ρ σ past
def xe(q:Bool)(x:Option (V×H))(K:dZ)(o:aj)(lo:Nat)(l:List cA)(ρ:Env)(σ:H)(past:List H):Prop:=match q with
 |true=>match x with
  |some (v,_)=>(∀τ∈past.take (past.length-lo),Lamb.step ρ τ o.ins=some (v,τ))/\Lamb.fv K l (ρ.put o.dst v) σ past
  |none=>K (⟨o,false,lo⟩::l) ρ σ past
 |false=>K (⟨o,false,lo⟩::l) ρ σ past
def AV(x:Option Bool)(K:dZ)(o:aj)(lo:Nat)(l:List cA)(ρ:Env)(σ:H)(past:List H):Prop:=match x with
 |some true=>xe o.ins.quiet (step ρ σ o.ins) K o lo l ρ σ past
 |some false=>Lamb.fv K l (ρ.put o.dst .void) σ past
 |none=>K (⟨o,false,lo⟩::l) ρ σ past
theorem lY:Nonempty {g:(dZ->dZ)×(Option (V×H)->dZ->aj->Nat->dZ)×(Option Bool->dZ->aj->Nat->dZ)×(Bool->Option (V×H)->dZ->aj->Nat->dZ)×(Option Bool->dZ->aj->Nat->dZ)//g=(Lamb.fv,xd,AU,xe,AV)}:=⟨⟨_,rfl⟩⟩
noncomputable def al:dZ->dZ:=(fk lY).1.1
noncomputable def tA:Option (V×H)->dZ->aj->Nat->dZ:=(fk lY).1.2.1
noncomputable def pL:Option Bool->dZ->aj->Nat->dZ:=(fk lY).1.2.2.1
noncomputable def tB:Bool->Option (V×H)->dZ->aj->Nat->dZ:=(fk lY).1.2.2.2.1
noncomputable def pQ:Option Bool->dZ->aj->Nat->dZ:=(fk lY).1.2.2.2.2
theorem oe:al=Lamb.fv:=by unfold al;rw[(fk lY).2]
theorem AW:tA=xd:=by unfold tA;rw[(fk lY).2]
theorem AX:pL=AU:=by unfold pL;rw[(fk lY).2]
theorem AY:tB=xe:=by unfold tB;rw[(fk lY).2]
theorem AZ:pQ=AV:=by unfold pQ;rw[(fk lY).2]
section
variable (K:dZ) (o:aj) (lo:Nat) (l:List cA) (ρ:Env) (σ:H) (past:List H)
theorem QE:al K [] ρ σ past=K [] ρ σ past:=by rw[oe];rfl
theorem QF:al K (⟨o,true,lo⟩::l) ρ σ past=pL (bU ρ o.guard) K o lo l ρ σ past:=by
 rw[oe,AX];unfold AU xd;simp only[Lamb.fv]<;>rfl
theorem QG:pL (some true) K o lo l ρ σ past=tA (step ρ σ o.ins) K o lo l ρ σ past:=by rw[AX,AW];rfl
theorem QH:pL (some false) K o lo l ρ σ past=al K l (ρ.put o.dst .void) σ (σ::past):=by rw[AX,oe];rfl
theorem QI(v:V)(σ1:H):tA (some (v,σ1)) K o lo l ρ σ past=al K l (ρ.put o.dst v) σ1 (σ::past):=by rw[AW,oe];rfl
theorem QJ:tA none K o lo l ρ σ past=K (⟨o,true,lo⟩::l) ρ σ past:=by rw[AW];rfl
theorem QK:al K (⟨o,false,lo⟩::l) ρ σ past=pQ (bU ρ o.guard) K o lo l ρ σ past:=by
 rw[oe,AZ];unfold AV xe;simp only[Lamb.fv]<;>rfl
theorem QL:pQ (some true) K o lo l ρ σ past=tB o.ins.quiet (step ρ σ o.ins) K o lo l ρ σ past:=by rw[AZ,AY];rfl
theorem QM:pQ (some false) K o lo l ρ σ past=al K l (ρ.put o.dst .void) σ past:=by rw[AZ,oe];rfl
theorem QN(v:V)(σ1:H):tB true (some (v,σ1)) K o lo l ρ σ past=((∀τ∈past.take (past.length-lo),Lamb.step ρ τ o.ins=some (v,τ))/\al K l (ρ.put o.dst v) σ past):=by rw[AY,oe];rfl
theorem QO(x:Option (V×H)):tB false x K o lo l ρ σ past=K (⟨o,false,lo⟩::l) ρ σ past:=by rw[AY];rfl
end
abbrev lZ:=List aj->Env->Prop
def re(K:lZ)(σ:H)(l:List aj)(ρ:Env):Prop:=K (Lamb.od σ l ρ).1 (Lamb.od σ l ρ).2
def xf(q:Bool)(x:Option (V×H))(K:lZ)(σ:H)(o:aj)(l:List aj)(ρ:Env):Prop:=match q with
 |true=>match x with
  |some (v,_)=>re K σ l (ρ.put o.dst v)
  |none=>K (o::l) ρ
 |false=>K (o::l) ρ
def A2(x:Option Bool)(K:lZ)(σ:H)(o:aj)(l:List aj)(ρ:Env):Prop:=match x with
 |some true=>xf o.ins.quiet (step ρ σ o.ins) K σ o l ρ
 |some false=>re K σ l (ρ.put o.dst .void)
 |none=>K (o::l) ρ
theorem rf:Nonempty {g:(lZ->H->List aj->Env->Prop)×(Bool->Option (V×H)->lZ->H->aj->List aj->Env->Prop)×(Option Bool->lZ->H->aj->List aj->Env->Prop)//g=(re,xf,A2)}:=⟨⟨_,rfl⟩⟩
noncomputable def fX:lZ->H->List aj->Env->Prop:=(fk rf).1.1
noncomputable def cS:Bool->Option (V×H)->lZ->H->aj->List aj->Env->Prop:=(fk rf).1.2.1
noncomputable def cG:Option Bool->lZ->H->aj->List aj->Env->Prop:=(fk rf).1.2.2
theorem tC:fX=re:=by unfold fX;rw[(fk rf).2]
theorem A3:cS=xf:=by unfold cS;rw[(fk rf).2]
theorem A4:cG=A2:=by unfold cG;rw[(fk rf).2]
section
variable (K:lZ) (σ:H) (o:aj) (l:List aj) (ρ:Env)
theorem l8:fX K σ [] ρ=K [] ρ:=by rw[tC];rfl
theorem ma:fX K σ (o::l) ρ=cG (bU ρ o.guard) K σ o l ρ:=by
 rw[tC,A4];unfold re A2 xf re;simp only[Lamb.od];generalize bU ρ o.guard=x;generalize step ρ σ o.ins=y;generalize o.ins.quiet=q;rcases x with _|b
 ·rfl
 ·cases b
  ·rfl
  ·cases q
   ·rfl
   ·rcases y with _|⟨v,τ⟩<;>rfl
theorem mb:cG (some true) K σ o l ρ=cS o.ins.quiet (step ρ σ o.ins) K σ o l ρ:=by rw[A4,A3];rfl
theorem mc:cG (some false) K σ o l ρ=fX K σ l (ρ.put o.dst .void):=by rw[A4,tC];rfl
theorem me(v:V)(σ1:H):cS true (some (v,σ1)) K σ o l ρ=fX K σ l (ρ.put o.dst v):=by rw[A3,tC];rfl
theorem mf(x:Option (V×H)):cS false x K σ o l ρ=K (o::l) ρ:=by rw[A3];rfl
end
section
variable {P:Program} {w0:World}
theorem ae.al{ρ':Env}{σ':H}{past':List H}(l:List cA)(ρ:Env)(σ:H)(past:List H)(h:Lamb.al (fun l ρ σ past=>ae P w0 l ρ σ past ρ' σ' past') l ρ σ past):ae P w0 l ρ σ past ρ' σ' past':=ae.fv l ρ σ past (by rw[<-oe];exact h)
theorem Canon.fX{σ:H}{ρ':Env}(l:List aj)(ρ:Env)(h:Lamb.fX (fun l ρ=>Canon P w0 σ l ρ ρ') σ l ρ):Canon P w0 σ l ρ ρ':=Canon.eK l ρ (by rw[tC]at h;exact h)
end
theorem DC.fY{P:Program}{w0:World}{f:FuncId}{args args':List V}{σ:H}{R:V->H->Prop}(h:DC P w0 f args' σ R)(hw:V.wk (.agg args) (.agg args')):DC P w0 f args σ R:=
 ⟨h.enters,fun κ w vs hrep hf=>h.run κ w vs hrep (by
   have h1:RV κ (.agg args) (.agg vs.toArray):=.agg hf.1 hf.2;have h2:=RV.wk hw h1;generalize hx:vs.toArray=x at h2;cases h2 with
   |agg k1 k2=>
    have:vs=_:=List.toArray_inj hx;subst this;exact⟨k1,k2⟩)⟩
theorem W.QP{P:Program}{w0:World}{n0:Nat}{Q:St->Prop}{d:Option Nat}{f:ai}{as:List ai}{g:Option (Nat×Bool)}{l:List aj}{k:List It}{s:St}{fid:FuncId}{caps:List V}{args args':List V}{v:V}{σ':H}(hc:DC P w0 fid args' s.σ (Same v σ'))(hg:bU s.ρ g=some true)(hf:f.ev s.ρ= .fn fid caps)
  (ha:as.map (·.ev s.ρ)++caps=args) (hw:V.wk (.agg args) (.agg args')) (h:W P w0 n0 Q (.ops l::k) ⟨s.ρ.put d v,σ'⟩):W P w0 n0 Q (.ops (⟨d,.call f as,g⟩::l)::k) s:=
 W.Gx (hc.fY hw) hg hf ha h
theorem ae.tD{P:Program}{w0:World}{σ σ' σ1:H}{past past':List H}{ρ ρ':Env}{d:Option Nat}{f:ai}{as:List ai}{g:Option (Nat×Bool)}{lo:Nat}{l:List cA}{fid:FuncId}{caps args args':List V}{v:V}(hc:DC P w0 fid args' σ (Same v σ1))(hg:bU ρ g=some true)(hf:f.ev ρ= .fn fid caps)
  (ha:as.map (·.ev ρ)++caps=args) (hw:V.wk (.agg args) (.agg args')) (h:ae P w0 l (ρ.put d v) σ1 (σ::past) ρ' σ' past'):ae P w0 (⟨⟨d,.call f as,g⟩,true,lo⟩::l) ρ σ past ρ' σ' past':=
 ae.call (hc.fY hw) hg hf ha h
theorem og{a b:Bool}(h:a=b):V.wk (.c (.bool a)) (.c (.bool b)):=by subst h;exact .rfl _
theorem V.gU(n f:Nat):V.low n (.fn f []):=.fn (by simp)
abbrev aj.o(d:Nat)(i:bh):aj:=⟨some d,i,none⟩
abbrev aj.m(d s:Nat):aj:=⟨some d,.af (.t s),none⟩
abbrev aj.f(d k s:Nat):aj:=⟨some d,.aX k (.t s),none⟩
abbrev aj.l(d s:Nat):aj:=⟨some d,.aU (.t s),none⟩
abbrev aj.d(d n s:Nat):aj:=⟨some d,.eJ n (.t s),none⟩
abbrev aj.n(d s:Nat):aj:=⟨some d,.gO (.t s),none⟩
abbrev aj.x(d s k:Nat):aj:=⟨some d,.ext (.t s) k,none⟩
abbrev aj.s(n a b:Nat):aj:=⟨none,.store n (.t a) (.t b),none⟩
abbrev aj.k(d f:Nat)(l:List ai):aj:=⟨some d,.call (.k (.fn f [])) l,none⟩
abbrev aj.y(d:Nat)(i:bh)(g:Nat):aj:=⟨some d,i,some (g,true)⟩
abbrev aj.z(d:Nat)(i:bh)(g:Nat):aj:=⟨some d,i,some (g,false)⟩
abbrev cA.q(o:aj):cA:=⟨o,false,0⟩
structure az (P:Program) (f:FuncId) (n:Nat) (fn:Func) (x:AC) (r:List aw):Prop where
 hm:P.follows .mixedOrders=true
 hf:P.funcs[f]?=some fn
 hb:fn.body=some (fn.body.getD .skip)
 ag:tr P fn.ntmps (fn.body.getD .skip)=some x
 dN:jB P fn.results.toList=some r
 hn:n<=fn.ntmps
 en:Enters P f
def zK(n:Int):ai:=.k (.c (.int .i64 n))
def zT:ai:=.k (.c (.bool true))
def zF:ai:=.k (.c (.bool false))
def zS4:List V:=[.c (.int .i64 0),.c (.str []),.c (.int .i64 0),.ab []]
instance(n:Nat):OfNat ai n:=⟨.t n⟩
theorem opdN(n:Nat):(OfNat.ofNat n:ai)=.t (OfNat.ofNat n):=rfl
def rsq(l:List aj)(x:AC):AC:=.seq (.aG l) x
def rif(l:List aj)(t:ai)(x y:AC):AC:=.seq (.aG l) (.cond t x y)
def forL(i j:Nat)(a:List aj)(t:ai)(x:AC)(b:List aj):AC:=.block i (.loop (.seq (.seq (.aG a) (.cond t .skip (.exit i))) (.seq (.block j x) (.aG b))))
def eopAt(l:List aj)(k:Nat):cA:=⟨l.getD (k%100) (.n 0 0),k/100%2==1,k/200⟩
def drg(l:List aj)(e:List Nat):AC:=.ft l (e.map (eopAt l))
theorem az.auto{P:Program}{f:FuncId}{n:Nat}{fn:Func}{x:AC}{r:List aw}(hf:P.funcs[f]?=some fn)(hm:P.follows .mixedOrders=true:=by kernel_rfl)(hb:fn.body=some (fn.body.getD .skip):=by rfl)(ag:tr P fn.ntmps (fn.body.getD .skip)=some x:=by kernel_rfl)
 (dN:jB P fn.results.toList=some r:=by kernel_rfl) (hn:n<=fn.ntmps:=by decide) (he:(fn.name== "runtime.NumGoroutine")=false:=by kernel_rfl):az P f n fn x r:=⟨hm,hf,hb,ag,dN,hn,lO hf he hb⟩
theorem az.go{P:Program}{f:FuncId}{n:Nat}{fn:Func}{x:AC}{r:List aw}(K:az P f n fn x r){w0:World}{args:List V}{σ:H}{R:V->H->Prop}(ha:args.length=n)(h:H.ok σ->(∀x∈args,V.Sz x)->W P w0 σ.length (Fin r σ.length R) [.code x] ⟨iB args,σ⟩):DC P w0 f args σ R:=
 DC.PX K.hm K.hf K.hb K.ag K.dN (by rw[ha];exact K.hn) K.en h
section
variable {P:Program} {w0:World} {n0:Nat} {Q:St->Prop}
theorem W.a{k:List It}{s:St}(h:Lamb.da (W P w0 n0 Q) 5000 k s):W P w0 n0 Q k s:=W.da 5000 k s h
theorem W.c1{d:Option Nat}{f:ai}{as:List ai}{g:Option (Nat×Bool)}{l:List aj}{k:List It}{s:St}{fid:FuncId}{caps:List V}{args:List V}{v:V}{σ':H}(hc:DC P w0 fid args s.σ (Same v σ'))(h:Lamb.da (W P w0 n0 Q) 5000 (.ops l::k) ⟨s.ρ.put d v,σ'⟩)
 (hg:bU s.ρ g=some true:=by rfl) (hf:f.ev s.ρ= .fn fid caps:=by rfl) (ha:as.map (·.ev s.ρ)++caps=args:=by first|rfl|simp):W P w0 n0 Q (.ops (⟨d,.call f as,g⟩::l)::k) s:=W.Gx hc hg hf ha (W.a h)
theorem au{a b:V}(h:V.wk a b:=by(repeat' (first|exact Go.Lamb.V.wk.rfl _|exact Go.Lamb.V.wk.ab _|exact Go.Lamb.V.wk.aF _ _|exact Go.Lamb.aaj|exact Go.Lamb.aak|refine Go.Lamb.xa ?_ ?_|refine Go.Lamb.Qh ?_ ?_))):V.wk a b:=h
theorem aE{a b:Env}(h:jC a b:=by(repeat' (first|exact Go.Lamb.jC.base _|(refine Go.Lamb.jC.put ?_ (by first|exact Go.Lamb.V.wk.rfl _|exact Go.Lamb.V.wk.aF _ _|exact Go.Lamb.V.wk.ab _))))):jC a b:=h
theorem W.jE{d:Option Nat}{f:ai}{as:List ai}{g:Option (Nat×Bool)}{l:List aj}{k:List It}{s:St}{fid:FuncId}{caps:List V}{args args':List V}{v:V}{σ':H}(hc:DC P w0 fid args' s.σ (Same v σ'))(h:Lamb.da (W P w0 n0 Q) 5000 (.ops l::k) ⟨s.ρ.put d v,σ'⟩)
 (hg:bU s.ρ g=some true:=by rfl) (hf:f.ev s.ρ= .fn fid caps:=by rfl) (ha:as.map (·.ev s.ρ)++caps=args:=by rfl) (hw:V.wk (.agg args) (.agg args'):=by exact Go.Lamb.au):W P w0 n0 Q (.ops (⟨d,.call f as,g⟩::l)::k) s:=W.QP hc hg hf ha hw (W.a h)
theorem W.fg{r:List aw}{k:List It}{s:St}{σ' τ:H}{vs:List V}{d:V}{R:V->H->Prop}(hok:H.ok σ')(h:br s r=some vs)(hd:V.wk (ak vs) d)(hR:R d σ')(hn:σ'.length=n0:=by first|rfl|exact List.length_set ..|simp)
 (hl:V.low n0 d:=by first|exact .c _|(simp only[go_sem];done)) (hσ:s.σ=σ'++τ:=by first|rfl|exact(List.append_nil _).symm):W P w0 n0 (Fin r n0 R) (.code .ret::k) s:=W.ret (Fin.gen hok hn h hd hl hσ hR)
theorem W.fs{r:List aw}{k:List It}{s:St}{σ' τ:H}{vs:List V}{d:V}(hok:H.ok σ')(h:br s r=some vs)(hd:V.wk (ak vs) d)(hn:σ'.length=n0:=by first|rfl|exact List.length_set ..|simp)
 (hl:V.low n0 d:=by first|exact .c _|(simp only[go_sem];done)) (hσ:s.σ=σ'++τ:=by first|rfl|exact(List.append_nil _).symm):W P w0 n0 (Fin r n0 (Same d σ')) (.code .ret::k) s:=W.ret (Fin.lW hok hn h hd hl hσ)
end
theorem QQ(b:Bool):(b==true)=b:=by cases b<;>rfl
theorem QR(b:Bool):(b==false)=!b:=by cases b<;>rfl
def I(n:Int):V:=.c (.int .i64 n)
def S(l:List UInt8):V:=.c (.str l)
def B(b:Bool):V:=.c (.bool b)
def cN.cs(o:cN):List C:=[.str o.name,.int .i64 o.prec,.int .i64 o.fix]
def cN.v(o:cN):V:=.agg [.c (.str o.name),.c (.int .i64 o.prec),.c (.int .i64 o.fix)]
def iC(l:List cN):C:=.sl (l.map cN.cs)
def Tok.cs(t:Tok):List C:=[.int .i64 t.kind,.str t.text,.int .i64 t.n,.int .i64 t.pos]
def Tok.v(t:Tok):V:=.agg [.c (.int .i64 t.kind),.c (.str t.text),.c (.int .i64 t.n),.c (.int .i64 t.pos)]
def po(l:List Tok):C:=.sl (l.map Tok.cs)
mutual
def ao.cs:ao->List C
 | .mk k s n l a=>[.int .i64 k,.str s,.int .i64 n,.sl (ao.rows l),.int .i64 a]
def ao.rows:List ao->List (List C)
 |[]=>[]
 |p::l=>p.cs::ao.rows l
end
theorem ao.A5(l:List ao):ao.rows l=l.map ao.cs:=by
 induction l with
 |nil=>rfl
 |cons p l ih=>simp[ao.rows,ih]
def ao.v(p:ao):V:=.agg [.c (.int .i64 p.k),.c (.str p.name),.c (.int .i64 p.n),.c (.sl (p.l.map ao.cs)),.c (.int .i64 p.pos)]
theorem ao.aM(p:ao):p.cs=[.int .i64 p.k,.str p.name,.int .i64 p.n,.sl (p.l.map ao.cs),.int .i64 p.pos]:=by
 cases p;simp[ao.cs,ao.k,ao.name,ao.n,ao.l,ao.pos,ao.A5]
def mg{α:Type}(p:α->Bool)(l:List α)(i:Nat):Prop:=∀j (hj:j<l.length),j<i->p l[j]=false
def ki{α:Type}(p:α->Bool)(l:List α):Int:=match l.findIdx? p with
 |some k=>k
 |none=>-1
theorem GB{α:Type}{p:α->Bool}{l:List α}{i:Nat}(h:mg p l i)(hi:i<l.length)(hp:p l[i]=true):ki p l=i:=by
 unfold ki;rw[Fg.2 ⟨hi,hp,fun j hj=>by rw[h j (by omega) hj];simp⟩]
theorem GC{α:Type}{p:α->Bool}{l:List α}(h:∀j (hj:j<l.length),p l[j]=false):ki p l=-1:=by
 unfold ki;rw[Fh.2 fun x hx=>by obtain⟨j,hj,rfl⟩:=fU hx;exact h j hj]
theorem QS{α:Type}(p:α->Bool)(l:List α):(ki p l=-1/\l.find? p=none)\/∃i,∃(hi:i<l.length),ki p l=(i:Int)/\l.find? p=some l[i]:=by
 unfold ki;cases h:l.findIdx? p with
 |none=>
  left;rw[Fh]at h;exact⟨rfl,List.find?_eq_none.2 fun x hx=>by rw[h x hx];simp⟩
 |some k=>
  right;obtain⟨hk,h1,h2⟩:=Fg.1 h;refine⟨k,hk,rfl,?_⟩;rw[Oj];exact⟨h1,k,hk,rfl,fun j hj=>by simpa using h2 j hj⟩
theorem QT{α:Type}{p:α->Bool}{l:List α}:ki p l=-1↔∀x∈l,p x=false:=by
 unfold ki;cases h:l.findIdx? p with
 |none=>simpa[Fh]using h
 |some k=>
  obtain⟨hk,h1,_⟩:=Fg.1 h;constructor
  ·intro e;simp only at e;omega
  ·intro e;rw[e _ (List.getElem_mem hk)]at h1;cases h1
def cN.zero:cN:=⟨[],0,0⟩
def aal(o:Option cN):V:=.av [(o.getD cN.zero).v,B o.isSome]
theorem GD{α:Type}{p:α->Bool}{l:List α}{i:Nat}(h:mg p l i)(hi:i<l.length)(hp:p l[i]=true):l.find? p=some l[i]:=by
 rw[Oj];exact⟨hp,i,hi,rfl,fun j hj=>by rw[h j (by omega) hj];rfl⟩
theorem GF{α:Type}{p:α->Bool}{l:List α}{i:Nat}(h:mg p l i)(hi:l.length<=i):l.find? p=none:=by
 rw[List.find?_eq_none];intro x hx;obtain⟨j,hj,rfl⟩:=fU hx;rw[h j hj (by omega)];simp
theorem xg{α:Type}{p:α->Bool}{l:List α}{i:Nat}(h:mg p l i)(hi:i<l.length)(hp:p l[i]=false):mg p l (i+1):=fun j hj hji=>by
 rcases Nat.lt_succ_iff_lt_or_eq.1 hji with h'|h'
 ·exact h j hj h'
 ·subst h';exact hp
theorem xi{α:Type}{p:α->Bool}{l:List α}:mg p l 0:=fun j _ h=>absurd h (by omega)
theorem pq{α:Type}{f:α->List C}{l:List α}(h:V.Sz (.c (.sl (l.map f)))):l.length<=9223372036854775807:=by
 rw[Qe,Qf]at h;simpa[maxLen]using h.1
theorem ed{i n:Nat}(h:i<n)(hn:n<=9223372036854775807):IntKind.i64.wrap ((i:Int)+1)=((i+1:Nat):Int):=by rw[bD]<;>omega
theorem bP(i:Nat):(0:Int)<=(i:Int):=by omega
theorem rh:((0:Nat):Int)=0:=rfl
theorem GG:((1:Nat):Int)=1:=rfl
theorem A6:((2:Nat):Int)=2:=rfl
theorem xj(k:Int)(s:List UInt8)(n:Int)(l:List ao)(a:Int):(ao.mk k s n l a).k=k:=rfl
theorem xk(k:Int)(s:List UInt8)(n:Int)(l:List ao)(a:Int):(ao.mk k s n l a).name=s:=rfl
theorem xl(k:Int)(s:List UInt8)(n:Int)(l:List ao)(a:Int):(ao.mk k s n l a).n=n:=rfl
theorem xn(k:Int)(s:List UInt8)(n:Int)(l:List ao)(a:Int):(ao.mk k s n l a).l=l:=rfl
theorem pos_mk(k:Int)(s:List UInt8)(n:Int)(l:List ao)(a:Int):(ao.mk k s n l a).pos=a:=rfl
attribute [go_sem] Qj Qk Ql Qm Qn Qo Qp Qq Qr Qs Qt Qu Qv Qw Qx Qy Qz QA QB QC QD bU Lamb.step PV PW tw PU iB iA iV V.ah V.rows V.sub V.fW fq kV nV mZ nc iW gC jt wB Ac Ad qL kW V.isNil leaves V.leaf bh.quiet bh.pure List.getD_cons_zero List.getD_cons_succ List.getD_nil List.all_cons List.all_nil List.length_cons List.length_nil List.take_succ_cons List.take_zero List.drop_succ_cons List.drop_zero List.cons_append List.nil_append cq List.append_assoc List.map_cons List.map_nil List.getElem?_cons_zero List.getElem?_cons_succ List.length_append bC eB bY qW de Qd AP AQ AR iz List.set_cons_zero List.set_cons_succ List.forall_mem_cons List.not_mem_nil false_implies implies_true Option.map_some Bool.and_true Bool.true_and Bool.not_not Bool.not_true Bool.not_false Bool.and_self Bool.or_true Bool.true_or Bool.or_false Bool.false_or Bool.and_false Bool.false_and Bool.false_eq_true beq_self_eq_true and_self and_true true_and if_true if_false Nat.zero_add Nat.add_zero Nat.le_refl Int.toNat_natCast decide_true decide_false QQ QR List.length_map List.getElem?_map I S B iC po cN.v cN.cs cN.zero Tok.v Tok.cs ao.v ao.aM xj xk xl xn pos_mk ao.app QU rh GG A6 aj.o aj.m aj.f aj.l aj.d aj.n aj.x aj.s aj.k aj.y aj.z cA.q PY PZ P0 P4 P5 P6 P7 P8 AO w8 br QE QF QK QG QH QI QJ QL QM QN QO eq_self Nat.sub_zero Nat.reduceAdd Nat.reduceMul Nat.reduceSub Nat.reduceDiv Nat.reduceMod Nat.reducePow Nat.reduceLT Nat.reduceGT Nat.reduceBEq Nat.reduceBNe Nat.reduceEqDiff Nat.reduceBeqDiff Nat.reduceBneDiff Nat.reduceLeDiff Nat.reduceSubDiff Nat.reduceSucc Nat.isValue Int.reduceNeg Int.isPosValue Int.reduceAdd Int.reduceMul Int.reduceSub Int.reduceDiv Int.reduceMod Int.reduceTDiv Int.reduceTMod Int.reducePow Int.reduceLT Int.reduceLE Int.reduceGT Int.reduceGE Int.reduceEq Int.reduceNe Int.reduceBEq Int.reduceBNe Int.reduceToNat Int.reduceNegSucc Int.reduceOfNat Int.reduceNatCast Int.reduceNatCast' reduceCtorEq UInt8.reduceAdd UInt8.reduceSub UInt8.reduceLT UInt8.reduceLE UInt8.reduceGT UInt8.reduceGE UInt8.reduceOfNat UInt8.reduceToNat UInt32.reduceAdd UInt32.reduceSub UInt32.reduceLT UInt32.reduceLE UInt32.reduceGT UInt32.reduceGE UInt32.reduceOfNat UInt32.reduceToNat UInt64.reduceAdd UInt64.reduceSub UInt64.reduceLT UInt64.reduceLE UInt64.reduceGT UInt64.reduceGE UInt64.reduceOfNat UInt64.reduceToNat zK zT zF zS4 opdN rsq rif forL eopAt drg
attribute [go_sem ↓] reduceIte reduceDIte
end Go.Lamb
