/- . -/
import Derived.Test.YtdlkenpilhakfaaGreatDoorQJ13
import Derived.Test.YtdlkenpilhakfaaGreatDoorQRd1
set_option linter.unusedSimpArgs false
set_option linter.unusedVariables false
set_option maxHeartbeats 8000000
set_option maxRecDepth 20000
open Classical renaming choice->fq
open List renaming append_nil->cw,find?_eq_some_iff_getElem->N0,findIdx?_eq_none_iff->ES,findIdx?_eq_some_iff_getElem->ER,getElem_of_mem->fD,length_set->bF
namespace Go.Lamb
open Go Go.RowKit
abbrev lR:=List It->St->Prop
def qP(K:lR)(f:Nat)(k:List It)(s:St):Prop:=K (Lamb.eL f k s).1 (Lamb.eL f k s).2
def wZ(x:Option (V×H))(K:lR)(f:Nat)(o:ak)(l:List ak)(k:List It)(s:St):Prop:=match x with
 |some (v,σ')=>qP K f (.ops l::k) ⟨s.ρ.put o.dst v,σ'⟩
 |none=>K (.ops (o::l)::k) s
def AI(x:Option Bool)(K:lR)(f:Nat)(o:ak)(l:List ak)(k:List It)(s:St):Prop:=match x with
 |some true=>wZ (step s.ρ s.σ o.ins) K f o l k s
 |some false=>qP K f (.ops l::k) ⟨s.ρ.put o.dst .void,s.σ⟩
 |none=>K (.ops (o::l)::k) s
theorem qQ:Nonempty {g:(lR->Nat->List It->St->Prop)×(Option Bool->lR->Nat->ak->List ak->List It->St->Prop)×(Option (V×H)->lR->Nat->ak->List ak->List It->St->Prop)//g=(qP,AI,wZ)}:=⟨⟨_,rfl⟩⟩
noncomputable def dh:lR->Nat->List It->St->Prop:=(fq qQ).1.1
noncomputable def jX:Option Bool->lR->Nat->ak->List ak->List It->St->Prop:=(fq qQ).1.2.1
noncomputable def tj:Option (V×H)->lR->Nat->ak->List ak->List It->St->Prop:=(fq qQ).1.2.2
theorem fO:dh=qP:=by unfold dh;rw[(fq qQ).2]
theorem w7:jX=AI:=by unfold jX;rw[(fq qQ).2]
theorem AJ:tj=wZ:=by unfold tj;rw[(fq qQ).2]
section
variable (K:lR) (f:Nat) (k:List It) (s:St)
theorem PW:dh K (f+1) (.code .skip::k) s=dh K f k s:=by rw[fO];rfl
theorem PX(l:List ak):dh K (f+1) (.code (.aH l)::k) s=dh K f (.ops l::k) s:=by rw[fO];rfl
theorem PY(a b:AC):dh K (f+1) (.code (.seq a b)::k) s=dh K f (.code a:: .code b::k) s:=by rw[fO];rfl
theorem PZ(id:Nat)(c:AC):dh K (f+1) (.code (.block id c)::k) s=dh K f (.code c:: .fK id::k) s:=by rw[fO];rfl
theorem P0(id:Nat):dh K (f+1) (.code (.exit id)::k) s=(match iy id k with
  |some k'=>dh K f k' s
  |none=>K (.code (.exit id)::k) s):=by
 rw[fO];unfold qP;simp only[Lamb.eL];generalize iy id k=x;cases x<;>rfl
theorem P4(id:Nat):dh K (f+1) (.fK id::k) s=dh K f k s:=by rw[fO];rfl
theorem P5:dh K (f+1) (.ops []::k) s=dh K f k s:=by rw[fO];rfl
theorem P6(o:ak)(l:List ak):dh K (f+1) (.ops (o::l)::k) s=jX (bU s.ρ o.guard) K f o l k s:=by
 rw[fO,w7];unfold qP AI wZ;simp only[Lamb.eL];generalize bU s.ρ o.guard=x;generalize step s.ρ s.σ o.ins=y;rcases x with _|b
 ·rfl
 ·cases b
  ·rfl
  ·rcases y with _|⟨v,τ⟩<;>rfl
theorem P7(o:ak)(l:List ak):jX (some true) K f o l k s=tj (step s.ρ s.σ o.ins) K f o l k s:=by rw[w7,AJ];rfl
theorem P8(o:ak)(l:List ak):jX (some false) K f o l k s=dh K f (.ops l::k) ⟨s.ρ.put o.dst .void,s.σ⟩:=by rw[w7,fO];rfl
theorem P9(o:ak)(l:List ak):jX none K f o l k s=K (.ops (o::l)::k) s:=by rw[w7];rfl
theorem Qa(v:V)(σ':H)(o:ak)(l:List ak):tj (some (v,σ')) K f o l k s=dh K f (.ops l::k) ⟨s.ρ.put o.dst v,σ'⟩:=by rw[AJ,fO];rfl
theorem Qb(o:ak)(l:List ak):tj none K f o l k s=K (.ops (o::l)::k) s:=by rw[AJ];rfl
theorem Qd(c:aj)(x y:AC):dh K (f+1) (.code (.cond c x y)::k) s=K (.code (.cond c x y)::k) s:=by rw[fO];rfl
theorem Qe(c:AC):dh K (f+1) (.code (.loop c)::k) s=K (.code (.loop c)::k) s:=by rw[fO];rfl
theorem Qf(l:List ak)(e:List cE):dh K (f+1) (.code (.fw l e)::k) s=K (.code (.fw l e)::k) s:=by rw[fO];rfl
theorem Qg:dh K (f+1) (.code .ret::k) s=K (.code .ret::k) s:=by rw[fO];rfl
theorem Qh:dh K (f+1) (.code .bad::k) s=K (.code .bad::k) s:=by rw[fO];rfl
theorem Qi(I:St->Prop):dh K (f+1) (.inv I::k) s=K (.inv I::k) s:=by rw[fO];rfl
theorem Qj:dh K (f+1) [] s=K [] s:=by rw[fO];rfl
theorem Qk:dh K 0 k s=K k s:=by rw[fO];rfl
theorem kR{b:Bool}{o:ak}{l:List ak}(h1:b=true->jX (some true) K f o l k s)(h2:b=false->jX (some false) K f o l k s):jX (some b) K f o l k s:=by
 cases b
 ·exact h2 rfl
 ·exact h1 rfl
theorem kS{b:Bool}{o:ak}{l:List ak}(h1:b=true->jX (some false) K f o l k s)(h2:b=false->jX (some true) K f o l k s):jX (some (!b)) K f o l k s:=by
 cases b
 ·exact h2 rfl
 ·exact h1 rfl
end
theorem W.jY{P:Program}{w0:World}{n0:Nat}{Q:St->Prop}{c:aj}{x y:AC}{k:List It}{s:St}{t:Bool}(hc:c.ev s.ρ= .c (.bool (!t)))(h1:t=true->W P w0 n0 Q (.code y::k) s)(h2:t=false->W P w0 n0 Q (.code x::k) s):W P w0 n0 Q (.code (.cond c x y)::k) s:=by
 cases t
 ·exact .cond hc (fun _=>h2 rfl) (fun e=>by cases e)
 ·exact .cond hc (fun e=>by cases e) (fun _=>h1 rfl)
theorem W.dh{P:Program}{w0:World}{n0:Nat}{Q:St->Prop}(f:Nat)(k:List It)(s:St)(h:Lamb.dh (W P w0 n0 Q) f k s):W P w0 n0 Q k s:=W.eL f k s (by rw[fO]at h;exact h)
abbrev ee:=List cE->Env->H->List H->Prop
def w8(x:Option (V×H))(K:ee)(o:ak)(lo:Nat)(l:List cE)(ρ:Env)(σ:H)(past:List H):Prop:=match x with
 |some (v,σ1)=>Lamb.fy K l (ρ.put o.dst v) σ1 (σ::past)
 |none=>K (⟨o,true,lo⟩::l) ρ σ past
def AK(x:Option Bool)(K:ee)(o:ak)(lo:Nat)(l:List cE)(ρ:Env)(σ:H)(past:List H):Prop:=match x with
 |some true=>w8 (step ρ σ o.ins) K o lo l ρ σ past
 |some false=>Lamb.fy K l (ρ.put o.dst .void) σ (σ::past)
 |none=>K (⟨o,true,lo⟩::l) ρ σ past
def w9(q:Bool)(x:Option (V×H))(K:ee)(o:ak)(lo:Nat)(l:List cE)(ρ:Env)(σ:H)(past:List H):Prop:=match q with
 |true=>match x with
  |some (v,_)=>(∀τ∈past.take (past.length-lo),Lamb.step ρ τ o.ins=some (v,τ))/\Lamb.fy K l (ρ.put o.dst v) σ past
  |none=>K (⟨o,false,lo⟩::l) ρ σ past
 |false=>K (⟨o,false,lo⟩::l) ρ σ past
def AL(x:Option Bool)(K:ee)(o:ak)(lo:Nat)(l:List cE)(ρ:Env)(σ:H)(past:List H):Prop:=match x with
 |some true=>w9 o.ins.quiet (step ρ σ o.ins) K o lo l ρ σ past
 |some false=>Lamb.fy K l (ρ.put o.dst .void) σ past
 |none=>K (⟨o,false,lo⟩::l) ρ σ past
theorem lS:Nonempty {g:(ee->ee)×(Option (V×H)->ee->ak->Nat->ee)×(Option Bool->ee->ak->Nat->ee)×(Bool->Option (V×H)->ee->ak->Nat->ee)×(Option Bool->ee->ak->Nat->ee)//g=(Lamb.fy,w8,AK,w9,AL)}:=⟨⟨_,rfl⟩⟩
noncomputable def aq:ee->ee:=(fq lS).1.1
noncomputable def tk:Option (V×H)->ee->ak->Nat->ee:=(fq lS).1.2.1
noncomputable def pL:Option Bool->ee->ak->Nat->ee:=(fq lS).1.2.2.1
noncomputable def tl:Bool->Option (V×H)->ee->ak->Nat->ee:=(fq lS).1.2.2.2.1
noncomputable def pQ:Option Bool->ee->ak->Nat->ee:=(fq lS).1.2.2.2.2
theorem oc:aq=Lamb.fy:=by unfold aq;rw[(fq lS).2]
theorem AM:tk=w8:=by unfold tk;rw[(fq lS).2]
theorem AN:pL=AK:=by unfold pL;rw[(fq lS).2]
theorem AO:tl=w9:=by unfold tl;rw[(fq lS).2]
theorem AP:pQ=AL:=by unfold pQ;rw[(fq lS).2]
section
variable (K:ee) (o:ak) (lo:Nat) (l:List cE) (ρ:Env) (σ:H) (past:List H)
theorem Ql:aq K [] ρ σ past=K [] ρ σ past:=by rw[oc];rfl
theorem Qm:aq K (⟨o,true,lo⟩::l) ρ σ past=pL (bU ρ o.guard) K o lo l ρ σ past:=by
 rw[oc,AN];unfold AK w8;simp only[Lamb.fy]<;>rfl
theorem Qn:pL (some true) K o lo l ρ σ past=tk (step ρ σ o.ins) K o lo l ρ σ past:=by rw[AN,AM];rfl
theorem Qo:pL (some false) K o lo l ρ σ past=aq K l (ρ.put o.dst .void) σ (σ::past):=by rw[AN,oc];rfl
theorem Qp(v:V)(σ1:H):tk (some (v,σ1)) K o lo l ρ σ past=aq K l (ρ.put o.dst v) σ1 (σ::past):=by rw[AM,oc];rfl
theorem Qq:tk none K o lo l ρ σ past=K (⟨o,true,lo⟩::l) ρ σ past:=by rw[AM];rfl
theorem Qr:aq K (⟨o,false,lo⟩::l) ρ σ past=pQ (bU ρ o.guard) K o lo l ρ σ past:=by
 rw[oc,AP];unfold AL w9;simp only[Lamb.fy]<;>rfl
theorem Qs:pQ (some true) K o lo l ρ σ past=tl o.ins.quiet (step ρ σ o.ins) K o lo l ρ σ past:=by rw[AP,AO];rfl
theorem Qt:pQ (some false) K o lo l ρ σ past=aq K l (ρ.put o.dst .void) σ past:=by rw[AP,oc];rfl
theorem Qu(v:V)(σ1:H):tl true (some (v,σ1)) K o lo l ρ σ past=((∀τ∈past.take (past.length-lo),Lamb.step ρ τ o.ins=some (v,τ))/\aq K l (ρ.put o.dst v) σ past):=by rw[AO,oc];rfl
theorem Qv(x:Option (V×H)):tl false x K o lo l ρ σ past=K (⟨o,false,lo⟩::l) ρ σ past:=by rw[AO];rfl
end
abbrev lT:=List ak->Env->Prop
def qR(K:lT)(σ:H)(l:List ak)(ρ:Env):Prop:=K (Lamb.ob σ l ρ).1 (Lamb.ob σ l ρ).2
def xa(q:Bool)(x:Option (V×H))(K:lT)(σ:H)(o:ak)(l:List ak)(ρ:Env):Prop:=match q with
 |true=>match x with
  |some (v,_)=>qR K σ l (ρ.put o.dst v)
  |none=>K (o::l) ρ
 |false=>K (o::l) ρ
def AQ(x:Option Bool)(K:lT)(σ:H)(o:ak)(l:List ak)(ρ:Env):Prop:=match x with
 |some true=>xa o.ins.quiet (step ρ σ o.ins) K σ o l ρ
 |some false=>qR K σ l (ρ.put o.dst .void)
 |none=>K (o::l) ρ
theorem qS:Nonempty {g:(lT->H->List ak->Env->Prop)×(Bool->Option (V×H)->lT->H->ak->List ak->Env->Prop)×(Option Bool->lT->H->ak->List ak->Env->Prop)//g=(qR,xa,AQ)}:=⟨⟨_,rfl⟩⟩
noncomputable def fY:lT->H->List ak->Env->Prop:=(fq qS).1.1
noncomputable def cS:Bool->Option (V×H)->lT->H->ak->List ak->Env->Prop:=(fq qS).1.2.1
noncomputable def cG:Option Bool->lT->H->ak->List ak->Env->Prop:=(fq qS).1.2.2
theorem tm:fY=qR:=by unfold fY;rw[(fq qS).2]
theorem AR:cS=xa:=by unfold cS;rw[(fq qS).2]
theorem AS:cG=AQ:=by unfold cG;rw[(fq qS).2]
section
variable (K:lT) (σ:H) (o:ak) (l:List ak) (ρ:Env)
theorem lU:fY K σ [] ρ=K [] ρ:=by rw[tm];rfl
theorem lV:fY K σ (o::l) ρ=cG (bU ρ o.guard) K σ o l ρ:=by
 rw[tm,AS];unfold qR AQ xa qR;simp only[Lamb.ob];generalize bU ρ o.guard=x;generalize step ρ σ o.ins=y;generalize o.ins.quiet=q;rcases x with _|b
 ·rfl
 ·cases b
  ·rfl
  ·cases q
   ·rfl
   ·rcases y with _|⟨v,τ⟩<;>rfl
theorem lW:cG (some true) K σ o l ρ=cS o.ins.quiet (step ρ σ o.ins) K σ o l ρ:=by rw[AS,AR];rfl
theorem lX:cG (some false) K σ o l ρ=fY K σ l (ρ.put o.dst .void):=by rw[AS,tm];rfl
theorem lY(v:V)(σ1:H):cS true (some (v,σ1)) K σ o l ρ=fY K σ l (ρ.put o.dst v):=by rw[AR,tm];rfl
theorem lZ(x:Option (V×H)):cS false x K σ o l ρ=K (o::l) ρ:=by rw[AR];rfl
end
section
variable {P:Program} {w0:World}
theorem ae.aq{ρ':Env}{σ':H}{past':List H}(l:List cE)(ρ:Env)(σ:H)(past:List H)(h:Lamb.aq (fun l ρ σ past=>ae P w0 l ρ σ past ρ' σ' past') l ρ σ past):ae P w0 l ρ σ past ρ' σ' past':=ae.fy l ρ σ past (by rw[<-oc];exact h)
theorem Canon.fY{σ:H}{ρ':Env}(l:List ak)(ρ:Env)(h:Lamb.fY (fun l ρ=>Canon P w0 σ l ρ ρ') σ l ρ):Canon P w0 σ l ρ ρ':=Canon.eL l ρ (by rw[tm]at h;exact h)
end
theorem DC.fP{P:Program}{w0:World}{f:FuncId}{args args':List V}{σ:H}{R:V->H->Prop}(h:DC P w0 f args' σ R)(hw:V.wk (.agg args) (.agg args')):DC P w0 f args σ R:=
 ⟨h.enters,fun κ w vs hrep hf=>h.run κ w vs hrep (by
   have h1:RV κ (.agg args) (.agg vs.toArray):=.agg hf.1 hf.2;have h2:=RV.wk hw h1;generalize hx:vs.toArray=x at h2;cases h2 with
   |agg k1 k2=>
    have:vs=_:=List.toArray_inj hx;subst this;exact⟨k1,k2⟩)⟩
theorem W.Qw{P:Program}{w0:World}{n0:Nat}{Q:St->Prop}{d:Option Nat}{f:aj}{as:List aj}{g:Option (Nat×Bool)}{l:List ak}{k:List It}{s:St}{fid:FuncId}{caps:List V}{args args':List V}{v:V}{σ':H}(hc:DC P w0 fid args' s.σ (Same v σ'))(hg:bU s.ρ g=some true)(hf:f.ev s.ρ= .fn fid caps)
  (ha:as.map (·.ev s.ρ)++caps=args) (hw:V.wk (.agg args) (.agg args')) (h:W P w0 n0 Q (.ops l::k) ⟨s.ρ.put d v,σ'⟩):W P w0 n0 Q (.ops (⟨d,.call f as,g⟩::l)::k) s:=
 W.Ga (hc.fP hw) hg hf ha h
theorem ae.qT{P:Program}{w0:World}{σ σ' σ1:H}{past past':List H}{ρ ρ':Env}{d:Option Nat}{f:aj}{as:List aj}{g:Option (Nat×Bool)}{lo:Nat}{l:List cE}{fid:FuncId}{caps args args':List V}{v:V}(hc:DC P w0 fid args' σ (Same v σ1))(hg:bU ρ g=some true)(hf:f.ev ρ= .fn fid caps)
  (ha:as.map (·.ev ρ)++caps=args) (hw:V.wk (.agg args) (.agg args')) (h:ae P w0 l (ρ.put d v) σ1 (σ::past) ρ' σ' past'):ae P w0 (⟨⟨d,.call f as,g⟩,true,lo⟩::l) ρ σ past ρ' σ' past':=
 ae.call (hc.fP hw) hg hf ha h
theorem od{a b:Bool}(h:a=b):V.wk (.c (.bool a)) (.c (.bool b)):=by subst h;exact .rfl _
theorem V.gT(n f:Nat):V.low n (.fn f []):=.fn (by simp)
abbrev ak.o(d:Nat)(i:bq):ak:=⟨some d,i,none⟩
abbrev ak.m(d s:Nat):ak:=⟨some d,.af (.t s),none⟩
abbrev ak.f(d k s:Nat):ak:=⟨some d,.aV k (.t s),none⟩
abbrev ak.l(d s:Nat):ak:=⟨some d,.aU (.t s),none⟩
abbrev ak.d(d n s:Nat):ak:=⟨some d,.eK n (.t s),none⟩
abbrev ak.n(d s:Nat):ak:=⟨some d,.gN (.t s),none⟩
abbrev ak.x(d s k:Nat):ak:=⟨some d,.ext (.t s) k,none⟩
abbrev ak.s(n a b:Nat):ak:=⟨none,.store n (.t a) (.t b),none⟩
abbrev ak.k(d f:Nat)(l:List aj):ak:=⟨some d,.call (.k (.fn f [])) l,none⟩
abbrev ak.y(d:Nat)(i:bq)(g:Nat):ak:=⟨some d,i,some (g,true)⟩
abbrev ak.z(d:Nat)(i:bq)(g:Nat):ak:=⟨some d,i,some (g,false)⟩
abbrev cE.q(o:ak):cE:=⟨o,false,0⟩
structure aB (P:Program) (f:FuncId) (n:Nat) (fn:Func) (x:AC) (r:List aw):Prop where
 hm:P.follows .mixedOrders=true
 hf:P.funcs[f]?=some fn
 hb:fn.body=some (fn.body.getD .skip)
 ag:tr P fn.ntmps (fn.body.getD .skip)=some x
 cF:jz P fn.results.toList=some r
 hn:n<=fn.ntmps
 en:Enters P f
def zK(n:Int):aj:=.k (.c (.int .i64 n))
def zT:aj:=.k (.c (.bool true))
def zF:aj:=.k (.c (.bool false))
def zS4:List V:=[.c (.int .i64 0),.c (.str []),.c (.int .i64 0),.ab []]
instance(n:Nat):OfNat aj n:=⟨.t n⟩
theorem opdN(n:Nat):(OfNat.ofNat n:aj)=.t (OfNat.ofNat n):=rfl
def rsq(l:List ak)(x:AC):AC:=.seq (.aH l) x
def rif(l:List ak)(t:aj)(x y:AC):AC:=.seq (.aH l) (.cond t x y)
def forL(i j:Nat)(a:List ak)(t:aj)(x:AC)(b:List ak):AC:=.block i (.loop (.seq (.seq (.aH a) (.cond t .skip (.exit i))) (.seq (.block j x) (.aH b))))
def eopAt(l:List ak)(k:Nat):cE:=⟨l.getD (k%100) (.n 0 0),k/100%2==1,k/200⟩
def drg(l:List ak)(e:List Nat):AC:=.fw l (e.map (eopAt l))
theorem aB.auto{P:Program}{f:FuncId}{n:Nat}{fn:Func}{x:AC}{r:List aw}(hf:P.funcs[f]?=some fn)(hm:P.follows .mixedOrders=true:=by kernel_rfl)(hb:fn.body=some (fn.body.getD .skip):=by rfl)(ag:tr P fn.ntmps (fn.body.getD .skip)=some x:=by kernel_rfl)
 (cF:jz P fn.results.toList=some r:=by kernel_rfl) (hn:n<=fn.ntmps:=by decide) (he:(fn.name== "runtime.NumGoroutine")=false:=by kernel_rfl):aB P f n fn x r:=⟨hm,hf,hb,ag,cF,hn,lI hf he hb⟩
theorem aB.go{P:Program}{f:FuncId}{n:Nat}{fn:Func}{x:AC}{r:List aw}(K:aB P f n fn x r){w0:World}{args:List V}{σ:H}{R:V->H->Prop}(ha:args.length=n)(h:H.ok σ->(∀x∈args,V.Sz x)->W P w0 σ.length (Fin r σ.length R) [.code x] ⟨iz args,σ⟩):DC P w0 f args σ R:=
 DC.PD K.hm K.hf K.hb K.ag K.cF (by rw[ha];exact K.hn) K.en h
section
variable {P:Program} {w0:World} {n0:Nat} {Q:St->Prop}
theorem W.a{k:List It}{s:St}(h:Lamb.dh (W P w0 n0 Q) 5000 k s):W P w0 n0 Q k s:=W.dh 5000 k s h
theorem W.c1{d:Option Nat}{f:aj}{as:List aj}{g:Option (Nat×Bool)}{l:List ak}{k:List It}{s:St}{fid:FuncId}{caps:List V}{args:List V}{v:V}{σ':H}(hc:DC P w0 fid args s.σ (Same v σ'))(h:Lamb.dh (W P w0 n0 Q) 5000 (.ops l::k) ⟨s.ρ.put d v,σ'⟩)
 (hg:bU s.ρ g=some true:=by rfl) (hf:f.ev s.ρ= .fn fid caps:=by rfl) (ha:as.map (·.ev s.ρ)++caps=args:=by first|rfl|simp):W P w0 n0 Q (.ops (⟨d,.call f as,g⟩::l)::k) s:=W.Ga hc hg hf ha (W.a h)
theorem au{a b:V}(h:V.wk a b:=by(repeat' (first|exact Go.Lamb.V.wk.rfl _|exact Go.Lamb.V.wk.ab _|exact Go.Lamb.V.wk.aG _ _|exact Go.Lamb.Z2|exact Go.Lamb.Z3|refine Go.Lamb.qN ?_ ?_|refine Go.Lamb.PU ?_ ?_))):V.wk a b:=h
theorem aF{a b:Env}(h:jA a b:=by(repeat' (first|exact Go.Lamb.jA.base _|(refine Go.Lamb.jA.put ?_ (by first|exact Go.Lamb.V.wk.rfl _|exact Go.Lamb.V.wk.aG _ _|exact Go.Lamb.V.wk.ab _))))):jA a b:=h
theorem W.kT{d:Option Nat}{f:aj}{as:List aj}{g:Option (Nat×Bool)}{l:List ak}{k:List It}{s:St}{fid:FuncId}{caps:List V}{args args':List V}{v:V}{σ':H}(hc:DC P w0 fid args' s.σ (Same v σ'))(h:Lamb.dh (W P w0 n0 Q) 5000 (.ops l::k) ⟨s.ρ.put d v,σ'⟩)
 (hg:bU s.ρ g=some true:=by rfl) (hf:f.ev s.ρ= .fn fid caps:=by rfl) (ha:as.map (·.ev s.ρ)++caps=args:=by rfl) (hw:V.wk (.agg args) (.agg args'):=by exact Go.Lamb.au):W P w0 n0 Q (.ops (⟨d,.call f as,g⟩::l)::k) s:=W.Qw hc hg hf ha hw (W.a h)
theorem W.fg{r:List aw}{k:List It}{s:St}{σ' τ:H}{vs:List V}{d:V}{R:V->H->Prop}(hok:H.ok σ')(h:bA s r=some vs)(hd:V.wk (al vs) d)(hR:R d σ')(hn:σ'.length=n0:=by first|rfl|exact List.length_set ..|simp)
 (hl:V.low n0 d:=by first|exact .c _|(simp only[go_sem];done)) (hσ:s.σ=σ'++τ:=by first|rfl|exact(List.append_nil _).symm):W P w0 n0 (Fin r n0 R) (.code .ret::k) s:=W.ret (Fin.gen hok hn h hd hl hσ hR)
theorem W.fs{r:List aw}{k:List It}{s:St}{σ' τ:H}{vs:List V}{d:V}(hok:H.ok σ')(h:bA s r=some vs)(hd:V.wk (al vs) d)(hn:σ'.length=n0:=by first|rfl|exact List.length_set ..|simp)
 (hl:V.low n0 d:=by first|exact .c _|(simp only[go_sem];done)) (hσ:s.σ=σ'++τ:=by first|rfl|exact(List.append_nil _).symm):W P w0 n0 (Fin r n0 (Same d σ')) (.code .ret::k) s:=W.ret (Fin.lQ hok hn h hd hl hσ)
end
theorem Qx(b:Bool):(b==true)=b:=by cases b<;>rfl
theorem Qy(b:Bool):(b==false)=!b:=by cases b<;>rfl
def I(n:Int):V:=.c (.int .i64 n)
def S(l:List UInt8):V:=.c (.str l)
def B(b:Bool):V:=.c (.bool b)
def eA.cs(o:eA):List C:=[.str o.name,.int .i64 o.prec,.int .i64 o.fix]
def eA.v(o:eA):V:=.agg [.c (.str o.name),.c (.int .i64 o.prec),.c (.int .i64 o.fix)]
def oe(l:List eA):C:=.sl (l.map eA.cs)
def Tok.cs(t:Tok):List C:=[.int .i64 t.kind,.str t.text,.int .i64 t.n,.int .i64 t.pos]
def Tok.v(t:Tok):V:=.agg [.c (.int .i64 t.kind),.c (.str t.text),.c (.int .i64 t.n),.c (.int .i64 t.pos)]
def ph(l:List Tok):C:=.sl (l.map Tok.cs)
mutual
def ah.cs:ah->List C
 | .mk k s n l a=>[.int .i64 k,.str s,.int .i64 n,.sl (ah.rows l),.int .i64 a]
def ah.rows:List ah->List (List C)
 |[]=>[]
 |p::l=>p.cs::ah.rows l
end
theorem ah.AT(l:List ah):ah.rows l=l.map ah.cs:=by
 induction l with
 |nil=>rfl
 |cons p l ih=>simp[ah.rows,ih]
def ah.v(p:ah):V:=.agg [.c (.int .i64 p.k),.c (.str p.name),.c (.int .i64 p.n),.c (.sl (p.l.map ah.cs)),.c (.int .i64 p.pos)]
theorem ah.aM(p:ah):p.cs=[.int .i64 p.k,.str p.name,.int .i64 p.n,.sl (p.l.map ah.cs),.int .i64 p.pos]:=by
 cases p;simp[ah.cs,ah.k,ah.name,ah.n,ah.l,ah.pos,ah.AT]
def mX{α:Type}(p:α->Bool)(l:List α)(i:Nat):Prop:=∀j (hj:j<l.length),j<i->p l[j]=false
def jZ{α:Type}(p:α->Bool)(l:List α):Int:=match l.findIdx? p with
 |some k=>k
 |none=>-1
theorem Ge{α:Type}{p:α->Bool}{l:List α}{i:Nat}(h:mX p l i)(hi:i<l.length)(hp:p l[i]=true):jZ p l=i:=by
 unfold jZ;rw[ER.2 ⟨hi,hp,fun j hj=>by rw[h j (by omega) hj];simp⟩]
theorem Gf{α:Type}{p:α->Bool}{l:List α}(h:∀j (hj:j<l.length),p l[j]=false):jZ p l=-1:=by
 unfold jZ;rw[ES.2 fun x hx=>by obtain⟨j,hj,rfl⟩:=fD hx;exact h j hj]
theorem Qz{α:Type}(p:α->Bool)(l:List α):(jZ p l=-1/\l.find? p=none)\/∃i,∃(hi:i<l.length),jZ p l=(i:Int)/\l.find? p=some l[i]:=by
 unfold jZ;cases h:l.findIdx? p with
 |none=>
  left;rw[ES]at h;exact⟨rfl,List.find?_eq_none.2 fun x hx=>by rw[h x hx];simp⟩
 |some k=>
  right;obtain⟨hk,h1,h2⟩:=ER.1 h;refine⟨k,hk,rfl,?_⟩;rw[N0];exact⟨h1,k,hk,rfl,fun j hj=>by simpa using h2 j hj⟩
theorem QA{α:Type}{p:α->Bool}{l:List α}:jZ p l=-1↔∀x∈l,p x=false:=by
 unfold jZ;cases h:l.findIdx? p with
 |none=>simpa[ES]using h
 |some k=>
  obtain⟨hk,h1,_⟩:=ER.1 h;constructor
  ·intro e;simp only at e;omega
  ·intro e;rw[e _ (List.getElem_mem hk)]at h1;cases h1
def eA.zero:eA:=⟨[],0,0⟩
def Z4(o:Option eA):V:=.ay [(o.getD eA.zero).v,B o.isSome]
theorem QB{α:Type}{p:α->Bool}{l:List α}{i:Nat}(h:mX p l i)(hi:i<l.length)(hp:p l[i]=true):l.find? p=some l[i]:=by
 rw[N0];exact⟨hp,i,hi,rfl,fun j hj=>by rw[h j (by omega) hj];rfl⟩
theorem QC{α:Type}{p:α->Bool}{l:List α}{i:Nat}(h:mX p l i)(hi:l.length<=i):l.find? p=none:=by
 rw[List.find?_eq_none];intro x hx;obtain⟨j,hj,rfl⟩:=fD hx;rw[h j hj (by omega)];simp
theorem AU{α:Type}{p:α->Bool}{l:List α}{i:Nat}(h:mX p l i)(hi:i<l.length)(hp:p l[i]=false):mX p l (i+1):=fun j hj hji=>by
 rcases Nat.lt_succ_iff_lt_or_eq.1 hji with h'|h'
 ·exact h j hj h'
 ·subst h';exact hp
theorem AV{α:Type}{p:α->Bool}{l:List α}:mX p l 0:=fun j _ h=>absurd h (by omega)
theorem tn{α:Type}{f:α->List C}{l:List α}(h:V.Sz (.c (.sl (l.map f)))):l.length<=9223372036854775807:=by
 rw[PR,PS]at h;simpa[maxLen]using h.1
theorem eB{i n:Nat}(h:i<n)(hn:n<=9223372036854775807):IntKind.i64.wrap ((i:Int)+1)=((i+1:Nat):Int):=by rw[bn]<;>omega
theorem bQ(i:Nat):(0:Int)<=(i:Int):=by omega
theorem mY:((0:Nat):Int)=0:=rfl
theorem Gg:((1:Nat):Int)=1:=rfl
theorem AW:((2:Nat):Int)=2:=rfl
theorem xb(k:Int)(s:List UInt8)(n:Int)(l:List ah)(a:Int):(ah.mk k s n l a).k=k:=rfl
theorem xc(k:Int)(s:List UInt8)(n:Int)(l:List ah)(a:Int):(ah.mk k s n l a).name=s:=rfl
theorem xd(k:Int)(s:List UInt8)(n:Int)(l:List ah)(a:Int):(ah.mk k s n l a).n=n:=rfl
theorem xe(k:Int)(s:List UInt8)(n:Int)(l:List ah)(a:Int):(ah.mk k s n l a).l=l:=rfl
theorem pos_mk(k:Int)(s:List UInt8)(n:Int)(l:List ah)(a:Int):(ah.mk k s n l a).pos=a:=rfl
attribute [go_sem] PW PX PY PZ P0 P4 P5 P6 P7 P8 P9 Qa Qb Qd Qe Qf Qg Qh Qi Qj Qk bU Lamb.step PB PC th PA iz iy iQ V.ai V.rows V.sub V.fX fv kL nT mR mS iR gB jq wx zV zW qB kM V.isNil leaves V.leaf bq.quiet bq.pure List.getD_cons_zero List.getD_cons_succ List.getD_nil List.all_cons List.all_nil List.length_cons List.length_nil List.take_succ_cons List.take_zero List.drop_succ_cons List.drop_zero List.cons_append List.nil_append cw List.append_assoc List.map_cons List.map_nil List.getElem?_cons_zero List.getElem?_cons_succ List.length_append bF eM bT qM dk PQ AF AG AH ix List.set_cons_zero List.set_cons_succ List.forall_mem_cons List.not_mem_nil false_implies implies_true Option.map_some Bool.and_true Bool.true_and Bool.not_not Bool.not_true Bool.not_false Bool.and_self Bool.or_true Bool.true_or Bool.or_false Bool.false_or Bool.and_false Bool.false_and Bool.false_eq_true beq_self_eq_true and_self and_true true_and if_true if_false Nat.zero_add Nat.add_zero Nat.le_refl Int.toNat_natCast decide_true decide_false Qx Qy List.length_map List.getElem?_map I S B oe ph eA.v eA.cs eA.zero Tok.v Tok.cs ah.v ah.aM xb xc xd xe pos_mk ah.app QD mY Gg AW ak.o ak.m ak.f ak.l ak.d ak.n ak.x ak.s ak.k ak.y ak.z cE.q PE PF PG PH PI PJ PK PL AE wX bA Ql Qm Qr Qn Qo Qp Qq Qs Qt Qu Qv eq_self Nat.sub_zero Nat.reduceAdd Nat.reduceMul Nat.reduceSub Nat.reduceDiv Nat.reduceMod Nat.reducePow Nat.reduceLT Nat.reduceGT Nat.reduceBEq Nat.reduceBNe Nat.reduceEqDiff Nat.reduceBeqDiff Nat.reduceBneDiff Nat.reduceLeDiff Nat.reduceSubDiff Nat.reduceSucc Nat.isValue Int.reduceNeg Int.isPosValue Int.reduceAdd Int.reduceMul Int.reduceSub Int.reduceDiv Int.reduceMod Int.reduceTDiv Int.reduceTMod Int.reducePow Int.reduceLT Int.reduceLE Int.reduceGT Int.reduceGE Int.reduceEq Int.reduceNe Int.reduceBEq Int.reduceBNe Int.reduceToNat Int.reduceNegSucc Int.reduceOfNat Int.reduceNatCast Int.reduceNatCast' reduceCtorEq UInt8.reduceAdd UInt8.reduceSub UInt8.reduceLT UInt8.reduceLE UInt8.reduceGT UInt8.reduceGE UInt8.reduceOfNat UInt8.reduceToNat UInt32.reduceAdd UInt32.reduceSub UInt32.reduceLT UInt32.reduceLE UInt32.reduceGT UInt32.reduceGE UInt32.reduceOfNat UInt32.reduceToNat UInt64.reduceAdd UInt64.reduceSub UInt64.reduceLT UInt64.reduceLE UInt64.reduceGT UInt64.reduceGE UInt64.reduceOfNat UInt64.reduceToNat zK zT zF zS4 opdN rsq rif forL eopAt drg
attribute [go_sem ↓] reduceIte reduceDIte
end Go.Lamb
