/- . -/
import Derived.Test.YtdlkenpilhakfaaGreatDoorQJ16
import Derived.Test.YtdlkenpilhakfaaGreatDoorQJ14
import Derived.Test.YtdlkenpilhakfaaGreatDoorQLexBk
import Derived.Test.YtdlkenpilhakfaaGreatDoorQLxK
import Derived.Test.YtdlkenpilhakfaaGreatDoorQJ13
import Derived.TacticsIn
import Derived.OrdersIn
import Derived.RangeFuncCalls
import Derived.Deep.LoopGhost
import Derived.Test.YtdlkenpilhakfaaGreatDoorQRd1
import Derived.Lib.ItoaNum
import Derived.Lib.ItoaLen
import Derived.RangeFuncNested
import Derived.Lib.UnsafeStr
import Derived.Test.YtdlkenpilhakfaaGreatDoorQLexL
import Derived.Defers
set_option linter.unusedSimpArgs false
set_option linter.unusedVariables false
set_option maxHeartbeats 8000000
set_option maxRecDepth 20000
open Bool renaming and_eq_true->bG
open List renaming all_cons->jQ,all_eq_true->cU,getElem?_append_left->cI,getElem?_append_right->cZ,getElem?_eq_getElem->aO,getElem?_set_ne->bX,getElem?_set_self->cr,getElem_append_left->cL,getElem_append_right->dU,getElem_eq_iff->mN,getElem_map->dN,getElem_mem->bt,length_set->bF,map_cons->cx,mem_cons->cA,set_append_right->iL
open Nat renaming add_sub_cancel_left->ft,beq->ca,ble->dp,blt->lG,eq_of_beq_eq_true->fu,le_of_ble_eq_true->eJ,le_refl->aA,le_succ->mE,lt_irrefl->oU,lt_succ_self->zz,sub_self->cq
namespace Go.Lamb
open Go Go.RowKit
noncomputable section
structure XS where
 t:TR
 σ:H
 v:Bool
def XS.st(s:XS):St:=⟨s.t.get,s.σ⟩
def xD(n:Nat):V->V
 | .aG b r=>bif lG b n then .aG b r else .c (.sl r)
 |v=>v
def xE(n:Nat):V->V
 | .agg vs=>.agg (vs.map (xD n))
 |v=>xD n v
def xF(n:Nat):V->V
 | .ay vs=>.ay (vs.map (xE n))
 |v=>xE n v
theorem Bz(n:Nat)(v:V):V.wk v (xD n v):=by
 cases v<;>simp only[xD]<;>first|exact .rfl _|skip
 rename_i b r;cases lG b n
 ·exact .aG b r
 ·exact .rfl _
theorem xG{f:V->V}(hf:∀v,V.wk v (f v))(l:List V):(l.map f).length=l.length/\∀j (hj:j<l.length) (hj':j<(l.map f).length),V.wk l[j] (l.map f)[j]:=
 ⟨List.length_map _,fun j hj hj'=>by rw[dN];exact hf _⟩
theorem BA(n:Nat)(v:V):V.wk v (xE n v):=by
 cases v<;>simp only[xE]<;>first|exact Bz n _|skip
 exact .agg (xG (Bz n) _).1 (xG (Bz n) _).2
theorem Re(n:Nat)(v:V):V.wk v (xF n v):=by
 cases v<;>simp only[xF]<;>first|exact BA n _|skip
 exact .ay (xG (BA n) _).1 (xG (BA n) _).2
def ou:Nat->Nat->V->Bool
 |0,_,_=>false
 |d+1,n,v=>match v with
  | .ptr b _=>lG b n
  | .aG b _=>lG b n
  | .mp b=>lG b n
  | .vec b _=>lG b n
  | .fn _ l=>l.all (ou d n)
  | .agg l=>l.all (ou d n)
  | .ay l=>l.all (ou d n)
  |_=>true
theorem tL:∀{d n:Nat} {v:V},ou d n v=true->V.low n v
 |0,_,_,h=>by cases h
 |d+1,n,v,h=>by
  cases v<;>simp only[ou]at h
  case void=>exact .void
  case any=>exact .any
  case c x=>exact .c x
  case ptr b o=>exact .ptr (eJ h)
  case aG b r=>exact .aG (eJ h)
  case ab r=>exact .ab r
  case fn f l=>exact .fn fun x hx=>tL (cU.1 h x hx)
  case cg=>exact .cg
  case mp b=>exact .mp (eJ h)
  case cC=>exact .cC
  case vec b k=>exact .vec (eJ h)
  case agg l=>exact .agg fun x hx=>tL (cU.1 h x hx)
  case ay l=>exact .ay fun x hx=>tL (cU.1 h x hx)
def BB(n:Nat):ad->Bool
 | .cells cs _=>cs.all (ou 4 n)
 |_=>true
theorem Rf{n:Nat}{σ:H}(hl:σ.length=n)(h:σ.all (BB n)=true):H.ok σ:=by
 intro b hb cs tg hc x hx;have:=cU.1 h b hb;rw[hc]at this;rw[hl];exact tL (cU.1 this x hx)
def pC(b size:Nat)(cs:List C):V->V
 | .vec c k=>bif ca c b&&dp (k*size) cs.length then .c (.sl (rowsOf size k cs))else .vec c k
 |v=>v
def xH(b size:Nat)(cs:List C):V->V
 | .agg vs=>.agg (vs.map (pC b size cs))
 | .fn f vs=>.fn f (vs.map (pC b size cs))
 |v=>pC b size cs v
def xI(b size:Nat)(cs:List C):V->V
 | .ay vs=>.ay (vs.map (xH b size cs))
 |v=>xH b size cs v
def pD(b size:Nat)(cs:List C):ad->ad
 | .cells vs tg=>.cells (vs.map (pC b size cs)) tg
 |x=>x
section
variable {κ:K} {b size:Nat} {cs:List C}
theorem tM(hf:∀k v,k*size<=cs.length->RV κ (.vec b k) v->RC κ.m (.sl (rowsOf size k cs)) v){x:V}{v:Value}(h:RV κ x v):RV κ (pC b size cs x) v/\(x.leaf=true->(pC b size cs x).leaf=true):=by
 cases x<;>simp only[pC]<;>first|exact⟨h,id⟩|skip
 rename_i c k;cases hc:(ca c b&&dp (k*size) cs.length)
 ·exact⟨h,id⟩
 ·simp only[bG]at hc;have e:=fu hc.1;subst e;exact⟨.c (hf k v (eJ hc.2) h),fun _=>rfl⟩
theorem G8(hf:∀k v,k*size<=cs.length->RV κ (.vec b k) v->RC κ.m (.sl (rowsOf size k cs)) v){x:V}{v:Value}(h:RV κ x v):RV κ (xH b size cs x) v:=by
 cases x<;>simp only[xH]<;>first|exact(tM hf h).1|skip
 ·cases h with
  |fn h h1=>exact .fn (by simpa using h) fun j hj=>by rw[dN];exact(tM hf (h1 j (by simpa using hj))).1
 ·cases h with
  |agg h h1=>exact .agg (by simpa using h) fun j hj=>by rw[dN];exact(tM hf (h1 j (by simpa using hj))).1
theorem Rg(hf:∀k v,k*size<=cs.length->RV κ (.vec b k) v->RC κ.m (.sl (rowsOf size k cs)) v){x:V}{v:Value}(h:RV κ x v):RV κ (xI b size cs x) v:=by
 cases x<;>simp only[xI]<;>first|exact G8 hf h|skip
 cases h with
 |ay h h1=>exact .ay (by simpa using h) fun j hj=>by rw[dN];exact G8 hf (h1 j (by simpa using hj))
theorem aC.pD{w0 w:World}{σ:H}(hf:∀k v,k*size<=cs.length->RV κ (.vec b k) v->RC κ.m (.sl (rowsOf size k cs)) v)(h:aC w0 κ σ w):aC w0 κ (σ.map (Lamb.pD b size cs)) w:=by
 have hl:∀z (hz:z<σ.length),(Lamb.pD b size cs σ[z]).be κ z=(σ[z]).be κ z:=fun z hz=>by
  generalize σ[z]=X;cases X<;>rfl
 refine⟨by simpa using h.n,h.ext,h.mem,fun x hx=>?_,fun x y hx hy g hne=>?_,fun l o hr=>⟨(h.rest l o hr).1,(h.rest l o hr).2.1,fun z hz=>by rw[dN,hl z (by simpa using hz)];exact(h.rest l o hr).2.2 z (by simpa using hz)⟩,h.dw⟩
 ·have hx':x<σ.length:=by simpa using hx
  rw[dN];have h1:=h.cD x hx';generalize σ[x]=X at h1⊢;cases X with
  |cells vs tg=>
   obtain⟨us,t,k1,k2,k3⟩:=h1.row;refine⟨h1.fr,⟨us,t,k1,by simpa using k2,fun j hj=>?_⟩,h1.own,h1.free,h1.ty⟩;rw[dN];have:=k3 j (by simpa using hj);exact⟨(tM hf this.2).2 this.1,(tM hf this.2).1⟩
  |spare e s n=>exact h1
  |mp kvs=>exact h1
  |vec e s c=>exact h1
  |gone=>exact h1
 ·have hx':x<σ.length:=by simpa using hx
  have hy':y<σ.length:=by simpa using hy
  rw[dN,dN,hl x hx',hl y hy'];exact h.apart x y hx' hy' g hne
end
def TR.pE(f:V->V):TR->TR
 | .e=>.e
 | .n v l r=>.n (f v) (l.pE f) (r.pE f)
theorem TR.BC{f:V->V}(hf:f .void= .void):∀(t:TR) (i:Nat),(t.pE f).get i=f (t.get i)
 | .e,i=>hf.symm
 | .n v l r,0=>rfl
 | .n v l r,i+1=>by
   rcases Nat.mod_two_eq_zero_or_one i with hi|hi
   ·rw[TR.pE,TR.pz _ _ _ _ hi,TR.pz _ _ _ _ hi,TR.BC hf l]
   ·rw[TR.pE,TR.pA _ _ _ _ hi,TR.pA _ _ _ _ hi,TR.BC hf r]
def fT{α:Type}:TR->(TR->α)->α
 | .e,k=>k .e
 | .n v l r,k=>nk v fun v=>fT l fun l=>fT r fun r=>k (.n v l r)
theorem BD{α:Type}:∀(t:TR) (k:TR->α),fT t k=k t
 | .e,k=>rfl
 | .n v l r,k=>by simp only[fT,py,BD l,BD r]
def pF(s:XS)(b:Nat):XS:=match s.σ[b]? with
 |some (.vec _ size cs)=>⟨s.t.pE (xI b size cs),(s.σ.set b .gone).map (pD b size cs),s.v⟩
 |_=>s
theorem G9{n0:Nat}(s:XS)(b:Nat):ao n0 (pF s b).st s.st:=by
 unfold pF;split
 ·rename_i e size cs hb;intro w0 κ0 n κ a w hκ hR;obtain⟨κ',h1,h2,h3⟩:=aC.jB hR.df hb;refine⟨κ',h2.pD h3,fun j=>?_,hR.size,hR.defers,K.le_trans hR.le h1⟩;show RV κ' ((s.t.pE (xI b size cs)).get j) _;rw[TR.BC rfl];exact Rg h3 ((hR.env j).mono h1)
 ·exact ao.refl _ _
def xJ:List Nat->XS->XS
 |[],s=>s
 |b::l,s=>xJ l (pF s b)
theorem Ha{n0:Nat}:∀(l:List Nat) (s:XS),ao n0 (xJ l s).st s.st
 |[],s=>ao.refl _ _
 |b::l,s=>(Ha l (pF s b)).trans (G9 s b)
def tN:Nat->H->List Nat
 |_,[]=>[]
 |i,.vec ..::l=>i::tN (i+1) l
 |i,_::l=>tN (i+1) l
def Rh:V->List Nat
 | .vec b _=>[b]
 | .agg vs=>vs.flatMap fun v=>match v with| .vec b _=>[b]|_=>[]
 |_=>[]
def Ri(r:List aw)(n0:Nat)(R:V->H->Prop)(s:St):Prop:=
 ∃vs,bA s r=some vs/\(R (al vs) s.σ\/∃d τ,V.wk (al vs) d/\V.low n0 d/\n0<=s.σ.length/\H.wk s.σ τ/\H.ok (τ.take n0)/\R d (τ.take n0))
def BE(r:List aw)(n0:Nat)(R:V->H->Prop)(s:St):Prop:=∃t,ao n0 t s/\Ri r n0 R t
theorem DC.Hb{P:Program}{w0:World}{σ:H}{f:FuncId}{fn:Func}{c:Code}{x:AC}{r:List aw}{args:List V}{R:V->H->Prop}(hm:P.follows .mixedOrders=true)(hf:P.funcs[f]?=some fn)(hb:fn.body=some c)(ag:tr P fn.ntmps c=some x)(cF:jz P fn.results.toList=some r)
  (hargs:args.length<=fn.ntmps) (hen:Enters P f) (hW:W P w0 σ.length (BE r σ.length R) [.code x] ⟨iz args,σ⟩):DC P w0 f args σ R:=by
 refine⟨hen,fun κ w vs hrep hfit=>?_⟩;refine calls_of_wp hf hb ?_;have hR:Rel w0 κ fn.ntmps κ ⟨iz args,σ⟩ {tmps:=vs.toArray++Array.replicate (fn.ntmps-vs.toArray.size) undef,defers:=[]} w:=
  ⟨hrep,AD hfit _,by simp[hfit.1];omega,rfl,K.le_refl κ⟩
 have hfin:∀s κ' a w,Rel w0 κ fn.ntmps κ' s a w->BE r σ.length R s->a.defers=[]/\∃v,(results fn a.tmps).run P w= .ok v w/\∃v' d σ' κ'',Ending.returned v= .returned v'/\R d σ'/\κ.le κ''/\aC w0 κ'' σ' w/\RV κ'' d v':=by
  rintro s0 κ0' a w hR0 ⟨s,hls,vs,h1,hh⟩;obtain⟨κ',hR'⟩:=hls w0 κ fn.ntmps κ0' a w hrep.n hR0;obtain⟨v,k1,k2⟩:=AB hR' cF h1;rcases hh with h|⟨d,τ,h2,h3,h4,h5,h6,h7⟩
  ·exact⟨hR'.defers,v,k1,v,_,s.σ,κ',rfl,h,hR'.le,hR'.df,k2⟩
  ·have hcut:=(hR'.df.te h5).cut σ.length (by rw[h5.1];exact h4) h6;exact⟨hR'.defers,v,k1,v,d,τ.take σ.length,κ'.cut σ.length,rfl,h7,K.zU hR'.le (by rw[hrep.n];exact aA _),hcut,(k2.wk h2).cut h3⟩
 refine wp_mono (lP (n0:=σ.length) hrep.n hm c x ag hW hR) ?_;rintro e a w' ⟨s,κ',hR',hs⟩;cases e with
 |normal=>
  obtain⟨t,hl,hq⟩:=W.Ar hs;obtain⟨κ2,hR2⟩:=hl w0 κ fn.ntmps κ' a w' hrep.n hR';exact hfin t κ2 a w' hR2 hq
 |ret=>exact hfin s κ' a w' hR' hs
 |exit id=>obtain⟨k',hp,_⟩:=hs;cases hp
 |goto l=>exact hs.elim
 |panic ch=>exact hs.elim
 |outgrown=>exact hs.elim
def Rj(x:aj)(ρ:Env)(σ:H):Option (V×H):=some (x.ev ρ,σ)
def Rk(c:aj)(a:aj)(b:aj)(ρ:Env)(σ:H):Option (V×H):=match c.ev ρ with
 | .c (.bool t)=>some (if t then a.ev ρ else b.ev ρ,σ)
 |_=>none
def Rm(x:aj)(tg:Option TypeId)(ρ:Env)(σ:H):Option (V×H):=if leaves (x.ev ρ).ai then some (.ptr σ.length 0,σ++[.cells (x.ev ρ).ai tg])else none
def Rn(zero:List V)(parts:List (Nat×Nat×aj))(ρ:Env)(σ:H):Option (V×H):=match kL ρ zero parts with
 |some cs=>some (.agg cs,σ)
 |none=>none
def Ro(size:Nat)(parts:List aj)(ρ:Env)(σ:H):Option (V×H):=match iR ρ size parts with
 |some rows=>some (.ab rows,σ)
 |none=>none
def Rp(x:aj)(ρ:Env)(σ:H):Option (V×H):=match iQ σ (x.ev ρ)with
 |some (cs,o)=>match cs[o]? with
  |some u=>some (u,σ)
  |none=>none
 |none=>none
def Rq(n:Nat)(x:aj)(ρ:Env)(σ:H):Option (V×H):=match iQ σ (x.ev ρ)with
 |some (cs,o)=>if o+n<=cs.length then some (.agg ((cs.drop o).take n),σ)else none
 |none=>none
def Rr(n:Nat)(x:aj)(y:aj)(ρ:Env)(σ:H):Option (V×H):=match x.ev ρ with
 | .ptr b o=>match σ[b]? with
   |some (.cells cs tg)=>if(y.ev ρ).ai.length=n/\o+n<=cs.length/\leaves (y.ev ρ).ai=true then some (.void,σ.set b (.cells (cs.take o++(y.ev ρ).ai++cs.drop (o+n)) tg))else none
   |some (.vec e size cs)=>match fv (y.ev ρ).ai with
    |some ys=>if ys.length=n/\o+n<=cs.length then some (.void,σ.set b (.vec e size (cs.take o++ys++cs.drop (o+n))))else none
    |none=>none
   |_=>none
 |_=>none
def Rs(x:aj)(ρ:Env)(σ:H):Option (V×H):=match x.ev ρ with
 | .ptr b o=>some (.ptr b o,σ)
 | .c (.ref cs o)=>some (.c (.ref cs o),σ)
 | .fn f caps=>some (.fn f caps,σ)
 |_=>none
def Rt(op:BinOp)(x:aj)(y:aj)(ρ:Env)(σ:H):Option (V×H):=match wx op (x.ev ρ) (y.ev ρ)with
 |some v=>some (v,σ)
 |none=>none
def Ru(neg:Bool)(x:aj)(y:aj)(ρ:Env)(σ:H):Option (V×H):=match x.ev ρ,y.ev ρ with
 | .c (.bool p),.c (.bool q)=>some (.c (.bool (if neg then !(p==q)else p==q)),σ)
 |_,_=>none
def Rv(neg:Bool)(k:Nat)(x:aj)(ρ:Env)(σ:H):Option (V×H):=match(x.ev ρ).isNil k with
 |some p=>some (.c (.bool (if neg then !p else p)),σ)
 |none=>none
def Rw(neg:Bool)(ks:List Nat)(x:aj)(y:aj)(ρ:Env)(σ:H):Option (V×H):=match x.ev ρ,y.ev ρ with
 | .agg xs,.agg ys=>match kM ks xs ys with
   |some p=>some (.c (.bool (if neg then !p else p)),σ)
   |none=>none
 |_,_=>none
def Rx(op:UnOp)(x:aj)(ρ:Env)(σ:H):Option (V×H):=match op,x.ev ρ with
 | .not,.c (.bool b)=>some (.c (.bool (!b)),σ)
 | .neg,.c (.int k n)=>some (.c (.int k (k.wrap (0-n))),σ)
 |_,_=>none
def Ry(k:IntKind)(x:aj)(ρ:Env)(σ:H):Option (V×H):=match x.ev ρ with
 | .c (.int _ n)=>some (.c (.int k (k.wrap n)),σ)
 |_=>none
def Rz(f:FuncId)(caps:List aj)(ρ:Env)(σ:H):Option (V×H):=some (.fn f (caps.map (·.ev ρ)),σ)
def RA(x:aj)(ρ:Env)(σ:H):Option (V×H):=match x.ev ρ with
 | .c (.str l)=>some (.c (.str l),σ)
 |_=>none
def RB(x:aj)(ρ:Env)(σ:H):Option (V×H):=match(x.ev ρ).rows with
 |some r=>match nT r with
  |some l=>some (.c (.str l),σ)
  |none=>none
 |none=>none
def RD(x:aj)(lo:Option aj)(hi:Option aj)(ρ:Env)(σ:H):Option (V×H):=match x.ev ρ with
 | .c (.str l)=>match gB ρ l.length hi with
   |some h=>match jq ρ h lo with
    |some a=>some (.c (.str ((l.drop a).take (h-a))),σ)
    |none=>none
   |none=>none
 |_=>none
def RE(size:Nat)(x:aj)(lo:Option aj)(hi:Option aj)(mx:Option aj)(ρ:Env)(σ:H):Option (V×H):=match(x.ev ρ).sub lo mx with
 |some (b,k)=>match gB ρ k hi with
  |some h=>some (.vec b h,σ)
  |none=>none
 |none=>match(x.ev ρ).rows with
 |some r=>if∀cs∈r,cs.length=size then match gB ρ r.length hi with
  |some h=>match jq ρ h lo with
   |some a=>match mx with
    |none=>some (.c (.sl ((r.drop a).take (h-a))),σ)
    |some m=>match gB ρ r.length (some m)with
     |some m'=>if m'=h then some (.ab ((r.drop a).take (h-a)),σ)else none
     |none=>none
   |none=>none
  |none=>none else none
 |none=>none
def RF(off:Nat)(x:aj)(ρ:Env)(σ:H):Option (V×H):=match x.ev ρ with
 | .ptr b o=>some (.ptr b (o+off),σ)
 | .c (.ref cs o)=>some (.c (.ref cs (o+off)),σ)
 |_=>none
def RG(off:Nat)(x:aj)(ρ:Env)(σ:H):Option (V×H):=match x.ev ρ with
 | .agg vs=>match vs[off]? with
   |some u=>some (u,σ)
   |none=>none
 |_=>none
def RH(off:Nat)(n:Nat)(x:aj)(ρ:Env)(σ:H):Option (V×H):=match x.ev ρ with
 | .agg vs=>if off+n<=vs.length then some (.agg ((vs.drop off).take n),σ)else none
 |_=>none
def RI(size:Nat)(x:aj)(i:aj)(ρ:Env)(σ:H):Option (V×H):=match i.ev ρ with
 | .c (.int _ j)=>match x.ev ρ with
   | .vec b k=>if 0<=j/\j<k then some (.ptr b (j.toNat*size),σ)else none
   |u=>match u.rows with
    |some r=>if 0<=j/\j<r.length then match r[j.toNat]? with
      |some cs=>if cs.length=size then some (.c (.ref cs 0),σ)else none
      |none=>none
     else none
    |none=>none
 |_=>none
def RJ(x:aj)(i:aj)(ρ:Env)(σ:H):Option (V×H):=match x.ev ρ,i.ev ρ with
 | .c (.str l),.c (.int _ j)=>if 0<=j/\j<l.length then match l[j.toNat]? with
    |some b=>some (.c (.int .u8 b.toNat),σ)
    |none=>none
   else none
 |_,_=>none
def RL(x:aj)(i:Nat)(ρ:Env)(σ:H):Option (V×H):=match x.ev ρ with
 | .ay vs=>match vs[i]? with
   |some u=>some (u,σ)
   |none=>none
 |_=>none
def RM(x:aj)(ρ:Env)(σ:H):Option (V×H):=match x.ev ρ with
 | .c (.str l)=>some (.c (.int .i64 l.length),σ)
 |_=>none
def RN(x:aj)(ρ:Env)(σ:H):Option (V×H):=match x.ev ρ with
 | .vec _ k=>some (.c (.int .i64 k),σ)
 |u=>match u.rows with
  |some r=>some (.c (.int .i64 r.length),σ)
  |none=>none
def RO(e:TypeId)(size:Nat)(bytes:Nat)(x:aj)(y:aj)(ρ:Env)(σ:H):Option (V×H):=match(y.ev ρ).rows with
 |some news=>mS e size bytes (x.ev ρ) news σ
 |none=>none
def RP(e:TypeId)(bytes:Nat)(x:aj)(y:aj)(ρ:Env)(σ:H):Option (V×H):=match y.ev ρ with
 | .c (.str l)=>mS e 1 bytes (x.ev ρ) (mR l) σ
 |_=>none
def RQ(x:aj)(y:aj)(ρ:Env)(σ:H):Option (V×H):=match x.ev ρ,y.ev ρ with
 | .c (.int k a),.c (.int _ b)=>some (.c (.int k (if b>a then b else a)),σ)
 |_,_=>none
def RR(x:aj)(y:aj)(ρ:Env)(σ:H):Option (V×H):=match x.ev ρ,y.ev ρ with
 | .c (.int k a),.c (.int _ b)=>some (.c (.int k (if b<a then b else a)),σ)
 |_,_=>none
def RS(_:Bool)(_:aj)(ρ:Env)(σ:H):Option (V×H):=none
def RT(e:TypeId)(bytes:Nat)(z:C)(x:aj)(ρ:Env)(σ:H):Option (V×H):=match x.ev ρ with
 | .c (.int _ n)=>if 0<=n/\bytes*n<=140737488355328/\n<=140737488355328 then some (.vec σ.length n.toNat,σ++[.vec e 1 (List.replicate n.toNat z)])else none
 |_=>none
def RU(ρ:Env)(σ:H):Option (V×H):=some (.mp σ.length,σ++[.mp []])
def RW(ok:Bool)(q:KD)(z:C)(x:aj)(k:aj)(ρ:Env)(σ:H):Option (V×H):=match x.ev ρ,k.ev ρ with
 | .mp b,.c kc=>match σ[b]? with
   |some (.mp kvs)=>if q.ok kc=true/\(kvs.all fun p=>q.ok p.1)=true then some (nR ok z (iq kc kvs),σ)else none
   |_=>none
 |_,_=>none
def RX(q:KD)(x:aj)(k:aj)(y:aj)(ρ:Env)(σ:H):Option (V×H):=match x.ev ρ,k.ev ρ,(y.ev ρ).fX with
 | .mp b,.c kc,some vc=>match σ[b]? with
   |some (.mp kvs)=>if q.ok kc=true/\(kvs.all fun p=>q.ok p.1)=true then some (.void,σ.set b (.mp (ir kc vc kvs)))else none
   |_=>none
 |_,_,_=>none
def RY(x:aj)(ρ:Env)(σ:H):Option (V×H):=match x.ev ρ with
 | .mp b=>match σ[b]? with
   |some (.mp kvs)=>some (.c (.int .i64 kvs.length),σ)
   |_=>none
 |_=>none
def RZ(_:aj)(_:List aj)(ρ:Env)(σ:H):Option (V×H):=none
def R0(ρ:Env)(σ:H):Option (V×H):=none
def xK(i:bq):Env->H->Option (V×H):=match i with
 | .af a0=>Rj a0
 | .pick a0 a1 a2=>Rk a0 a1 a2
 | .box a0 a1=>Rm a0 a1
 | .build a0 a1=>Rn a0 a1
 | .bo a0 a1=>Ro a0 a1
 | .aU a0=>Rp a0
 | .eK a0 a1=>Rq a0 a1
 | .store a0 a1 a2=>Rr a0 a1 a2
 | .gN a0=>Rs a0
 | .bin a0 a1 a2=>Rt a0 a1 a2
 | .oY a0 a1 a2=>Ru a0 a1 a2
 | .lK a0 a1 a2=>Rv a0 a1 a2
 | .eqs a0 a1 a2 a3=>Rw a0 a1 a2 a3
 | .un a0 a1=>Rx a0 a1
 | .conv a0 a1=>Ry a0 a1
 | .gA a0 a1=>Rz a0 a1
 | .qz a0=>RA a0
 | .qA a0=>RB a0
 | .nS a0 a1 a2=>RD a0 a1 a2
 | .jn a0 a1 a2 a3 a4=>RE a0 a1 a2 a3 a4
 | .aV a0 a1=>RF a0 a1
 | .jo a0 a1=>RG a0 a1
 | .sJ a0 a1 a2=>RH a0 a1 a2
 | .aI a0 a1 a2=>RI a0 a1 a2
 | .index a0 a1=>RJ a0 a1
 | .ext a0 a1=>RL a0 a1
 | .lens a0=>RM a0
 | .aR a0=>RN a0
 | .app a0 a1 a2 a3 a4=>RO a0 a1 a2 a3 a4
 | .lL a0 a1 a2 a3=>RP a0 a1 a2 a3
 | .mx a0 a1=>RQ a0 a1
 | .mn a0 a1=>RR a0 a1
 | .iu a0 a1=>RS a0 a1
 | .kJ=>RU
 | .kK a0 a1 a2 a3=>RT a0 a1 a2 a3
 | .look a0 a1 a2 a3 a4=>RW a0 a1 a2 a3 a4
 | .jT a0 a1 a2 a3=>RX a0 a1 a2 a3
 | .oZ a0=>RY a0
 | .call a0 a1=>RZ a0 a1
 | .bad=>R0
theorem xL(ρ:Env)(σ:H)(i:bq):xK i ρ σ=step ρ σ i:=by cases i<;>rfl
section
variable {α:Type}
def bq.BF:bq->Bool
 | .af _| .pick ..| .aU _| .gN _| .jo ..| .ext ..| .qz _=>true
 |_=>false
def bq.callParts:bq->Option (aj×List aj)
 | .call f l=>some (f,l)
 |_=>none
theorem xM{i:bq}{f:aj}{l:List aj}(h:i.callParts=some (f,l)):i= .call f l:=by
 cases i<;>first|(cases h;done)|(injection h with h;injection h with h1 h2;subst h1 h2;rfl)
def tO(ρ:Env)(σ:H)(i:bq):Option (V×H):=match i with
 | .app e size bytes x y=>match x.ev ρ with
   | .ab olds=>match(y.ev ρ).rows with
     |some news=>bif !news.isEmpty&&((olds.all fun r=>ca r.length size)&&((news.all fun r=>ca r.length size)&&(dp ((olds.length+news.length)*bytes) 140737488355328&&dp (olds.length+news.length) 140737488355328)))
       then some (.vec σ.length (olds.length+news.length),σ++[.vec e size (olds++news).flatten])else none
     |none=>none
   |_=>none
 |_=>none
theorem Hc{ρ:Env}{σ:H}{i:bq}{v:V}{σ':H}(h:tO ρ σ i=some (v,σ')):∃e size bytes x y olds news,i= .app e size bytes x y/\x.ev ρ= .ab olds/\(y.ev ρ).rows=some news/\
  (news≠[]/\(∀r∈olds,r.length=size)/\(∀r∈news,r.length=size)/\(olds.length+news.length)*bytes<=140737488355328/\olds.length+news.length<=140737488355328)/\v= .vec σ.length (olds.length+news.length)/\σ'=σ++[.vec e size (olds++news).flatten]:=by
 unfold tO at h;split at h
 ·rename_i e size bytes x y;split at h
  ·rename_i olds hx;split at h
   ·rename_i news hy;cases hc:(!news.isEmpty&&((olds.all fun r=>ca r.length size)&&((news.all fun r=>ca r.length size)&&(dp ((olds.length+news.length)*bytes) 140737488355328&&dp (olds.length+news.length) 140737488355328))))with
    |false=>rw[hc]at h;cases h
    |true=>
     rw[hc]at h;injection h with h;injection h with h1 h2;simp only[bG,cU]at hc;obtain⟨c1,c2,c3,c4,c5⟩:=hc;exact⟨e,size,bytes,x,y,olds,news,rfl,hx,hy,⟨(by intro hn;subst hn;cases c1),fun r hr=>fu (c2 r hr),fun r hr=>fu (c3 r hr),eJ c4,eJ c5⟩,h1.symm,h2.symm⟩
   ·cases h
  ·cases h
 ·cases h
def BG(q e:Bool)(j:Nat)(v:V)(σ σ':H)(k:V->H->Option α):Option α:=
 cond q (cond e (nj v fun v=>k v σ) (nk v fun v=>k v σ)) (nk v fun v=>GY σ' j fun σ'=>k v σ')
def xN:V->Option Nat
 | .ptr b _=>some b
 | .aG b _=>some b
 | .mp b=>some b
 |_=>none
def bq.turns(ρ:Env)(σ:H):bq->Nat
 | .store _ x _=>(xN (x.ev ρ)).getD σ.length
 | .jT _ x _ _=>(xN (x.ev ρ)).getD σ.length
 | .app _ _ _ x _=>(xN (x.ev ρ)).getD σ.length
 | .lL _ _ x _=>(xN (x.ev ρ)).getD σ.length
 |_=>σ.length
def pG(ρ:Env)(σ:H)(i:bq)(k:V->H->Option α):Option α:=
 match xK i ρ σ with
 |none=>none
 |some p=>match p with
  |(v,σ')=>BG i.quiet i.BF (i.turns ρ σ) v σ σ' k
theorem xO{ρ:Env}{σ:H}{i:bq}{k:V->H->Option α}{b:α}(h:pG ρ σ i k=some b):∃v σ',step ρ σ i=some (v,σ')/\k v σ'=some b:=by
 unfold pG at h;rw[xL]at h;cases hs:step ρ σ i with
 |none=>rw[hs]at h;cases h
 |some p=>
  obtain⟨v,σ'⟩:=p;rw[hs]at h;refine⟨v,σ',rfl,?_⟩;simp only at h;unfold BG at h;cases hq:i.quiet
  ·simp only[hq,cond_false,py,GZ]at h;exact h
  ·rw[quiet_step hq hs];simp only[hq,cond_true]at h;cases he:i.BF
   ·simp only[he,cond_false,py]at h;exact h
   ·simp only[he,cond_true,xw]at h;exact h
def iD(t:TR)(d:Option Nat)(v:V)(k:TR->Option α):Option α:=match d with
 |none=>k t
 |some d=>t.ot d v k
theorem jF{t:TR}{d:Option Nat}{v:V}{k:TR->Option α}{b:α}(h:iD t d v k=some b):∃t':TR,k t'=some b/\t'.get=Env.put t.get d v:=by
 cases d with
 |none=>exact⟨t,h,rfl⟩
 |some d=>
  obtain⟨t',h1,h2⟩:=TR.xz h;exact⟨t',h1,funext fun j=>h2 j⟩
def xP(ρ:Env)(l:List aj):(List V->Option α)->Option α:=List.rec (motive:=fun _=>(List V->Option α)->Option α) (fun k=>k []) (fun o _ ih k=>nj (o.ev ρ) fun v=>ih fun r=>k (v::r)) l
theorem R1(ρ:Env)(o:aj)(l:List aj)(k:List V->Option α):xP ρ (o::l) k=nj (o.ev ρ) fun v=>xP ρ l fun r=>k (v::r):=rfl
theorem Hd(ρ:Env):∀(l:List aj) (k:List V->Option α),xP ρ l k=k (l.map (·.ev ρ))
 |[],k=>rfl
 |o::l,k=>by simp only[R1,xw,Hd ρ l,cx]
def He:V->Option (FuncId×List V)
 | .fn f l=>some (f,l)
 |_=>none
theorem R2{v:V}{f:FuncId}{l:List V}(h:He v=some (f,l)):v= .fn f l:=by
 cases v<;>first|(cases h;done)|(injection h with h;injection h with h1 h2;subst h1 h2;rfl)
end
abbrev dG:=FuncId->List V->H->Option (V×H)
def dG.Ok(P:Program)(w0:World)(call:dG):Prop:=∀f args σ v σ',call f args σ=some (v,σ')->DC P w0 f args σ (Same v σ')
section
variable {α:Type} {P:Program} {w0:World} {call:dG}
def ri(call:dG)(ρ:Env)(σ:H)(f:aj)(l:List aj)(k:FuncId->List V->V->H->Option α):Option α:=match He (f.ev ρ)with
 |none=>none
 |some p=>match p with
  |(fid,caps)=>xP ρ l fun l=>match call fid (l++caps) σ with
   |none=>none
   |some p=>match p with
    |(v,σ')=>k fid (l++caps) v σ'
theorem xQ{ρ:Env}{σ:H}{f:aj}{l:List aj}{k:FuncId->List V->V->H->Option α}{b:α}(h:ri call ρ σ f l k=some b):∃fid caps v σ',f.ev ρ= .fn fid caps/\call fid (l.map (·.ev ρ)++caps) σ=some (v,σ')/\k fid (l.map (·.ev ρ)++caps) v σ'=some b:=by
 unfold ri at h;split at h
 ·cases h
 ·rename_i p hp;obtain⟨fid,caps⟩:=p;simp only[Hd]at h;split at h
  ·cases h
  ·rename_i p hc;obtain⟨v,σ'⟩:=p;exact⟨fid,caps,v,σ',R2 hp,hc,h⟩
def Hf(call:dG)(σ:H)(o:ak)(ih:TR->(TR->Option α)->Option α)(t:TR)(k:TR->Option α)(f:aj)(l:List aj):Option α:=
 ri call t.get σ f l fun _ _ v σ'=>cond (kb σ' σ) (iD t o.dst v fun t=>ih t k) none
def Hg(σ:H)(o:ak)(ih:TR->(TR->Option α)->Option α)(t:TR)(k:TR->Option α):Option α:=
 cond o.ins.quiet (pG t.get σ o.ins fun v _=>iD t o.dst v fun t=>ih t k) none
def Hh(call:dG)(σ:H)(o:ak)(ih:TR->(TR->Option α)->Option α)(t:TR)(k:TR->Option α):Option α:=match o.ins.callParts with
 |none=>Hg σ o ih t k
 |some p=>match p with
  |(f,l)=>Hf call σ o ih t k f l
def BH(call:dG)(σ:H)(o:ak)(ih:TR->(TR->Option α)->Option α)(t:TR)(k:TR->Option α):Option α:=match bU t.get o.guard with
 |none=>none
 |some b=>match b with
  |false=>iD t o.dst .void fun t=>ih t k
  |true=>Hh call σ o ih t k
def xR(call:dG)(σ:H)(l:List ak):TR->(TR->Option α)->Option α:=List.rec (motive:=fun _=>TR->(TR->Option α)->Option α) (fun t k=>k t) (fun o _ ih=>BH call σ o ih) l
theorem R3(σ:H)(o:ak)(l:List ak)(t:TR)(k:TR->Option α):xR call σ (o::l) t k=BH call σ o (xR call σ l) t k:=rfl
theorem xS(hc:dG.Ok P w0 call){σ:H}{b:α}:∀{l:List ak} {t:TR} {k:TR->Option α},xR call σ l t k=some b->∃t',k t'=some b/\Canon P w0 σ l t.get t'.get
 |[],t,k,h=>⟨t,h,.nil⟩
 |o::l,t,k,h=>by
  rw[R3]at h;unfold BH at h;split at h
  ·cases h
  ·rename_i b' hg;cases b' with
   |false=>
    obtain⟨t1,h1,h2⟩:=jF h;obtain⟨t',h3,h4⟩:=xS hc h1;refine⟨t',h3,.cons (.skip hg) ?_⟩;rw[<-h2];exact h4
   |true=>
    simp only at h;unfold Hh at h;split at h
    ·unfold Hg at h;cases hq:o.ins.quiet with
     |false=>rw[hq]at h;cases h
     |true=>
      rw[hq]at h;simp only[cond_true]at h;obtain⟨v,σ',h0,h00⟩:=xO h;have:=quiet_step hq h0;subst this;obtain⟨t1,h1,h2⟩:=jF h00;obtain⟨t',h3,h4⟩:=xS hc h1;refine⟨t',h3,.cons (.step hg h0) ?_⟩;rw[<-h2];exact h4
    ·rename_i p hp;obtain⟨f,l'⟩:=p;have hi:=xM hp;simp only at h;unfold Hf at h;obtain⟨fid,caps,v,σ',hf,hcl,hk⟩:=xQ h;cases he:kb σ' σ with
     |false=>rw[he]at hk;cases hk
     |true=>
      rw[he]at hk;simp only[cond_true]at hk;have e:=px he;subst e;obtain⟨t1,h1,h2⟩:=jF hk;obtain⟨t',h3,h4⟩:=xS hc h1;refine⟨t',h3,.cons (.call hg hi hf (hc _ _ _ _ _ hcl)) ?_⟩;rw[<-h2];exact h4
def tP(ρ:Env)(i:bq)(v:V):List H->Bool
 |[]=>true
 |τ::l=>match xK i ρ τ with
  |none=>false
  |some (u,τ')=>gh u v&&(kb τ' τ&&tP ρ i v l)
theorem Hi{ρ:Env}{i:bq}{v:V}:∀{l:List H},tP ρ i v l=true->∀τ∈l,step ρ τ i=some (v,τ)
 |[],_,τ,hτ=>by cases hτ
 |x::l,h,τ,hτ=>by
  unfold tP at h;rw[xL]at h;split at h
  ·cases h
  ·rename_i u τ' hs;simp only[bG]at h;rcases cA.1 hτ with rfl|hτ
   ·rw[hs,xt h.1,px h.2.1]
   ·exact Hi h.2.2 τ hτ
def tQ(call:dG)(f:FuncId)(args:List V)(v:V):List H->Bool
 |[]=>true
 |τ::l=>match call f args τ with
  |none=>false
  |some (u,τ')=>gh u v&&(kb τ' τ&&tQ call f args v l)
theorem Hj{f:FuncId}{args:List V}{v:V}:∀{l:List H},tQ call f args v l=true->∀τ∈l,call f args τ=some (v,τ)
 |[],_,τ,hτ=>by cases hτ
 |x::l,h,τ,hτ=>by
  unfold tQ at h;split at h
  ·cases h
  ·rename_i u τ' hs;simp only[bG]at h;rcases cA.1 hτ with rfl|hτ
   ·rw[hs,xt h.1,px h.2.1]
   ·exact Hj h.2.2 τ hτ
abbrev rj(α:Type):=TR->H->List H->(TR->H->Option α)->Option α
def Hk(vm:Bool)(o:ak)(ih:rj α)(t:TR)(σ:H)(past:List H)(k:TR->H->Option α):Option α:=match cond vm (tO t.get σ o.ins) none with
 |none=>pG t.get σ o.ins fun v σ'=>iD t o.dst v fun t=>ih t σ' (σ::past) k
 |some p=>match p with
  |(v,σ')=>nk v fun v=>fH σ' fun σ'=>iD t o.dst v fun t=>ih t σ' (σ::past) k
def Hl(vm:Bool)(call:dG)(o:ak)(ih:rj α)(t:TR)(σ:H)(past:List H)(k:TR->H->Option α):Option α:=match o.ins.callParts with
 |none=>Hk vm o ih t σ past k
 |some p=>match p with
  |(f,l)=>ri call t.get σ f l fun _ _ v σ'=>iD t o.dst v fun t=>ih t σ' (σ::past) k
def Hm(call:dG)(o:ak)(lo:Nat)(ih:rj α)(t:TR)(σ:H)(past:List H)(k:TR->H->Option α):Option α:=match o.ins.callParts with
 |none=>cond o.ins.quiet (pG t.get σ o.ins fun v _=>cond (o.ins.pure||tP t.get o.ins v (past.take (past.length-lo))) (iD t o.dst v fun t=>ih t σ past k) none) none
 |some p=>match p with
  |(f,l)=>ri call t.get σ f l fun fid args v σ'=>cond (kb σ' σ&&tQ call fid args v (past.take (past.length-lo))) (iD t o.dst v fun t=>ih t σ past k) none
def BI(vm:Bool)(call:dG)(e:cE)(ih:rj α)(t:TR)(σ:H)(past:List H)(k:TR->H->Option α):Option α:=match e with
 |⟨o,bL,lo⟩=>match bU t.get o.guard with
  |none=>none
  |some b=>match b with
   |false=>iD t o.dst .void fun t=>ih t σ (cond bL (σ::past) past) k
   |true=>cond bL (Hl vm call o ih t σ past k) (Hm call o lo ih t σ past k)
def xT(vm:Bool)(call:dG)(l:List cE):rj α:=List.rec (motive:=fun _=>rj α) (fun t σ _ k=>k t σ) (fun e _ ih=>BI vm call e ih) l
theorem R4(vm:Bool)(e:cE)(l:List cE)(t:TR)(σ:H)(past:List H)(k:TR->H->Option α):xT vm call (e::l) t σ past k=BI vm call e (xT vm call l) t σ past k:=rfl
theorem pH(vm:Bool)(hc:dG.Ok P w0 call){b:α}:∀{l:List cE} {t:TR} {σ:H} {past:List H} {k:TR->H->Option α},xT vm call l t σ past k=some b->∃t' σ' past',k t' σ'=some b/\ae P w0 l t.get σ past t'.get σ' past'
 |[],t,σ,past,k,h=>⟨t,σ,past,h,.nil⟩
 |⟨o,bL,lo⟩::l,t,σ,past,k,h=>by
  rw[R4]at h;unfold BI at h;simp only at h;split at h
  ·cases h
  ·rename_i b' hg;cases b' with
   |false=>
    simp only at h;obtain⟨t1,h1,h2⟩:=jF h;obtain⟨t',σ',past',h3,h4⟩:=pH vm hc h1;refine⟨t',σ',past',h3,?_⟩;rw[h2]at h4;cases bL
    ·exact .quiet (.skip hg) (fun τ _=>.skip hg) h4
    ·exact .bL (.skip hg) h4
   |true=>
    cases bL with
    |true=>
     simp only[cond_true]at h;unfold Hl at h;split at h
     ·unfold Hk at h;split at h
      ·obtain⟨v,σ',h0,h00⟩:=xO h;obtain⟨t1,h1,h2⟩:=jF h00;obtain⟨t',σ1,past',h3,h4⟩:=pH vm hc h1;refine⟨t',σ1,past',h3,.bL (.step hg h0) ?_⟩;rw[<-h2];exact h4
      ·rename_i p hp;obtain⟨v,σ'⟩:=p;have hp:tO t.get σ o.ins=some (v,σ'):=by
        cases vm with
        |false=>cases hp
        |true=>exact hp
       obtain⟨e,size,bytes,x,y,olds,news,e1,e2,e3,e4,e5,e6⟩:=Hc hp;subst e5 e6;simp only[py,xy]at h;obtain⟨t1,h1,h2⟩:=jF h;obtain⟨t',σ1,past',h3,h4⟩:=pH vm hc h1;refine⟨t',σ1,past',h3,.bL (.vec hg e1 e2 e3 e4) ?_⟩;rw[<-h2];exact h4
     ·rename_i p hp;obtain⟨f,l'⟩:=p;have hi:=xM hp;simp only at h;obtain⟨fid,caps,v,σ',hf,hcl,hk⟩:=xQ h;obtain⟨t1,h1,h2⟩:=jF hk;obtain⟨t',σ1,past',h3,h4⟩:=pH vm hc h1;refine⟨t',σ1,past',h3,.bL (.call hg hi hf (hc _ _ _ _ _ hcl)) ?_⟩;rw[<-h2];exact h4
    |false=>
     simp only[cond_false]at h;unfold Hm at h;split at h
     ·cases hq:o.ins.quiet with
      |false=>rw[hq]at h;cases h
      |true=>
       rw[hq]at h;simp only[cond_true]at h;obtain⟨v,σ',h0,h00⟩:=xO h;have:=quiet_step hq h0;subst this;cases he:(o.ins.pure||tP t.get o.ins v (past.take (past.length-lo)))with
       |false=>rw[he]at h00;cases h00
       |true=>
        rw[he]at h00;simp only[cond_true]at h00;obtain⟨t1,h1,h2⟩:=jF h00;obtain⟨t',σ1,past',h3,h4⟩:=pH vm hc h1;refine⟨t',σ1,past',h3,.quiet (.step hg h0) (fun τ hτ=>?_) ?_⟩
        ·simp only[Bool.or_eq_true]at he;rcases he with he|he
         ·exact .step hg (PM he h0)
         ·exact .step hg (Hi he τ hτ)
        ·rw[<-h2];exact h4
     ·rename_i p hp;obtain⟨f,l'⟩:=p;have hi:=xM hp;simp only at h;obtain⟨fid,caps,v,σ',hf,hcl,hk⟩:=xQ h;cases he:(kb σ' σ&&tQ call fid (l'.map (·.ev t.get)++caps) v (past.take (past.length-lo)))with
      |false=>rw[he]at hk;cases hk
      |true=>
       rw[he]at hk;simp only[cond_true]at hk;simp only[bG]at he;have e:=px he.1;subst e;obtain⟨t1,h1,h2⟩:=jF hk;obtain⟨t',σ1,past',h3,h4⟩:=pH vm hc h1;refine⟨t',σ1,past',h3,.quiet (.call hg hi hf (hc _ _ _ _ _ hcl)) (fun τ hτ=>.call hg hi hf (hc _ _ _ _ _ (Hj he.2 τ hτ))) ?_⟩;rw[<-h2];exact h4
end
def BJ:List ak->Bool
 |[]=>true
 |o::l=>(match o.ins with| .call ..=>true|i=>i.quiet)&&BJ l
structure CE where
 x:AC
 r:List aw
 n:Nat
 d:Nat
inductive CT where
 |e
 |n (f:FuncId) (c:CE) (l r:CT)
def CT.get(t:CT)(f:FuncId):Option CE:=CT.rec (motive:=fun _=>Option CE) none (fun g c _ _ gl gr=>cond (ca f g) (some c) (cond (lG f g) gl gr)) t
def Hn(P:Program)(f:FuncId)(c:CE):Prop:=∃fn,aB P f c.n fn c.x c.r
def CT.Ok(P:Program):CT->Prop
 | .e=>True
 | .n f c l r=>Hn P f c/\CT.Ok P l/\CT.Ok P r
theorem CT.BK{P:Program}{f:FuncId}{c:CE}:∀{t:CT},CT.Ok P t->t.get f=some c->Hn P f c
 | .e,_,h=>by cases h
 | .n g c' l r,hk,h=>by
   have h':cond (ca f g) (some c') (cond (lG f g) (l.get f) (r.get f))=some c:=h;cases hb:ca f g with
   |true=>
    rw[hb]at h';injection h' with h';subst h';have:=fu hb;subst this;exact hk.1
   |false=>
    rw[hb]at h';cases hl:lG f g with
    |true=>rw[hl]at h';exact CT.BK hk.2.1 h'
    |false=>rw[hl]at h';exact CT.BK hk.2.2 h'
structure XP where
 P:Program
 ext:dG
 code:CT
 gF:FuncId->Bool
 vec:FuncId->Bool
structure XP.Ok (X:XP) (w0:World):Prop where
 ext:dG.Ok X.P w0 X.ext
 code:CT.Ok X.P X.code
def xU(i:Nat)(l:List V):TR->(TR->Option XS)->Option XS:=List.rec (motive:=fun _=>Nat->TR->(TR->Option XS)->Option XS) (fun _ t k=>k t) (fun v _ ih i t k=>t.ot i v fun t=>ih (Nat.succ i) t k) l i
theorem R5(i:Nat)(v:V)(l:List V)(t:TR)(k:TR->Option XS):xU i (v::l) t k=t.ot i v fun t=>xU (i+1) l t k:=rfl
def Ho(r:List aw)(n0:Nat)(gF:Bool)(s:XS)(vs:List V):Option (V×H):=
 cond gF (rf (al vs) fun d=>some (d,s.σ))
  (rf (xF n0 (al vs)) fun d=>fS (s.σ.take n0) fun τ=>cond (ou 5 n0 d&&(dp n0 s.σ.length&&τ.all (BB n0))) (some (d,τ)) (rf (al vs) fun d=>some (d,s.σ)))
def BL(gF:Bool)(r:List aw)(n0:Nat)(s0:XS):Option (V×H):=match xJ (cond gF [] (tN n0 (s0.σ.drop n0))) s0 with
 |s=>match bA s.st r with
  |none=>none
  |some vs=>Ho r n0 gF s vs
def BM(gF:Bool)(n0:Nat)(r:Option (V×H)):Option (V×H):=cond gF (match r with
 |none=>none
 |some p=>match p with
  |(d,σ)=>match By n0 d σ with
   |none=>some (d,σ)
   |some q=>match q with
    |(d,τ)=>rf d fun d=>fH τ fun τ=>some (d,τ)) r
theorem R6{P:Program}{w0:World}{f:FuncId}{args:List V}{σ:H}{gF:Bool}{r:Option (V×H)}(hr:∀d σ',r=some (d,σ')->DC P w0 f args σ (Same d σ')){v:V}{σ':H}(h:BM gF σ.length r=some (v,σ')):DC P w0 f args σ (Same v σ'):=by
 unfold BM at h;cases gF with
 |false=>exact hr _ _ h
 |true=>
  simp only[cond_true]at h;split at h
  ·cases h
  ·rename_i p;obtain⟨d,σ1⟩:=p;simp only at h;split at h
   ·injection h with h;injection h with h1 h2;subst h1 h2;exact hr _ _ rfl
   ·rename_i q hq;obtain⟨d',τ⟩:=q;simp only[GW,xy]at h;injection h with h;injection h with h1 h2;subst h1 h2;exact Rd (hr _ _ rfl) hq
def Hp(X:XP)(ex:List It->XS->Option XS)(f:FuncId)(c:CE)(args:List V)(σ:H):Option (V×H):=
 cond (ca args.length c.n) (match xU 0 args (TR.full c.d) fun t=>fB (X.vec f) fun v=>ex [.code c.x] ⟨t,σ,v⟩with
  |none=>none
  |some s=>BM (X.gF f) σ.length (BL (X.gF f) c.r σ.length s)) none
def pI(X:XP)(ex:List It->XS->Option XS):dG:=fun f args σ=>match X.ext f args σ with
 |some r=>some r
 |none=>match X.code.get f with
  |none=>none
  |some c=>Hp X ex f c args σ
def bq.R7:bq->List Nat
 | .app _ _ _ x y=>y.tmps++x.tmps
 |i=>i.looks
def Hq(ex:List It->XS->Option XS)(o:ak)(l:List ak)(k:List It)(s:XS):Option XS:=match o.ins.R7.flatMap fun d=>Rh (s.t.get d)with
 |[]=>none
 |b::_=>match pF s b with
  |s'=>fT s'.t fun t=>fH s'.σ fun σ=>ex (.ops (o::l)::k) ⟨t,σ,s.v⟩
def xV(ex:List It->XS->Option XS)(o:ak)(l:List ak)(k:List It)(s:XS):Option XS:=match xK o.ins s.t.get s.σ with
 |none=>Hq ex o l k s
 |some p=>match p with
  |(v,σ')=>BG o.ins.quiet o.ins.BF (o.ins.turns s.t.get s.σ) v s.σ σ' fun v σ'=>iD s.t o.dst v fun t=>fB s.v fun v=>ex (.ops l::k) ⟨t,σ',v⟩
def Hr(ex:List It->XS->Option XS)(o:ak)(l:List ak)(k:List It)(s:XS):Option XS:=match tO s.t.get s.σ o.ins with
 |none=>xV ex o l k s
 |some p=>match p with
  |(v,σ')=>nk v fun v=>fH σ' fun σ'=>iD s.t o.dst v fun t=>fB s.v fun v=>ex (.ops l::k) ⟨t,σ',v⟩
def BN(X:XP)(ex:List It->XS->Option XS)(o:ak)(l:List ak)(k:List It)(s:XS):Option XS:=match o.ins.callParts with
 |none=>cond s.v (Hr ex o l k s) (xV ex o l k s)
 |some p=>match p with
  |(f,as_)=>ri (pI X ex) s.t.get s.σ f as_ fun _ _ v σ'=>iD s.t o.dst v fun t=>fB s.v fun v=>ex (.ops l::k) ⟨t,σ',v⟩
def BO(X:XP)(ex:List It->XS->Option XS)(o:ak)(l:List ak)(k:List It)(s:XS):Option XS:=match bU s.t.get o.guard with
 |none=>none
 |some b=>match b with
  |false=>iD s.t o.dst .void fun t=>fB s.v fun v=>ex (.ops l::k) ⟨t,s.σ,v⟩
  |true=>BN X ex o l k s
def BP(X:XP)(ex:List It->XS->Option XS)(l:List ak)(k:List It)(s:XS):Option XS:=match l with
 |[]=>ex k s
 |o::l=>BO X ex o l k s
def Hs:V->Option Bool
 | .c x=>match x with
   | .bool b=>some b
   |_=>none
 |_=>none
theorem R8{v:V}{b:Bool}(h:Hs v=some b):v= .c (.bool b):=by
 cases v<;>first|(cases h;done)|skip
 rename_i x;cases x<;>first|(cases h;done)|(injection h with h;subst h;rfl)
def BQ(ex:List It->XS->Option XS)(c:aj)(x y:AC)(k:List It)(s:XS):Option XS:=match Hs (c.ev s.t.get)with
 |none=>none
 |some b=>cond b (ex (.code x::k) s) (ex (.code y::k) s)
def BR(ex:List It->XS->Option XS)(id:Nat)(k:List It)(s:XS):Option XS:=match iy id k with
 |none=>none
 |some k'=>ex k' s
def BS(X:XP)(ex:List It->XS->Option XS)(l:List ak)(e:List cE)(k:List It)(s:XS):Option XS:=
 cond (BJ l&&e.isEmpty) (xR (pI X ex) s.σ l s.t fun t=>fB s.v fun v=>ex k ⟨t,s.σ,v⟩) (match e with
  |[]=>none
  |o::e=>xT s.v (pI X ex) (o::e) s.t s.σ [] fun t σ=>fB s.v fun v=>ex k ⟨t,σ,v⟩)
def R9(X:XP)(ex:List It->XS->Option XS)(c:AC)(k:List It)(s:XS):Option XS:=match c with
 | .skip=>ex k s
 | .aH l=>BP X ex l k s
 | .seq a b=>ex (.code a:: .code b::k) s
 | .block id c=>ex (.code c:: .fK id::k) s
 | .exit id=>BR ex id k s
 | .cond c x y=>BQ ex c x y k s
 | .loop c=>ex (.code c:: .code (.loop c)::k) s
 | .ret=>some s
 | .fw l e=>BS X ex l e k s
 | .bad=>none
def Sa(X:XP)(ex:List It->XS->Option XS)(it:It)(k:List It)(s:XS):Option XS:=match it with
 | .code c=>R9 X ex c k s
 | .fK _=>ex k s
 | .inv _=>none
 | .ops l=>BP X ex l k s
def Ht(X:XP)(ex:List It->XS->Option XS)(k:List It)(s:XS):Option XS:=match k with
 |[]=>some s
 |it::k=>Sa X ex it k s
def exec(X:XP)(n:Nat):List It->XS->Option XS:=Nat.rec (motive:=fun _=>List It->XS->Option XS) (fun _ _=>none) (fun _ ex=>Ht X ex) n
theorem Sb(X:XP)(n:Nat)(k:List It)(s:XS):exec X (n+1) k s=Ht X (exec X n) k s:=rfl
inductive Rl (X:XP) (s':XS) (n:Nat):List It->List It->Prop where
 |nil:Rl X s' n [] []
 |cons (it:It) {k k2:List It} (h:Rl X s' n k k2):Rl X s' n (it::k) (it::k2)
 |inv (c:AC) (I:St->Prop) {k k2:List It} (h:Rl X s' n k k2) (hI:∀j,j<=n->∀s,exec X j (.code (.loop c)::k) s=some s'->I s.st):Rl X s' n (.code (.loop c)::k) (.inv I::k2)
theorem Rl.less{X:XP}{s':XS}{n m:Nat}(hm:m<=n){k k2:List It}(h:Rl X s' n k k2):Rl X s' m k k2:=by
 induction h with
 |nil=>exact .nil
 |cons it _ ih=>exact .cons it ih
 |inv c I _ hI ih=>exact .inv c I ih fun j hj=>hI j (by omega)
theorem Rl.refl{X:XP}{s':XS}{n:Nat}:∀(k:List It),Rl X s' n k k
 |[]=>.nil
 |it::k=>.cons it (Rl.refl k)
theorem Rl.pop{X:XP}{s':XS}{n:Nat}{id:Nat}{k k2:List It}(h:Rl X s' n k k2):∀{k':List It},iy id k=some k'->∃k2',iy id k2=some k2'/\Rl X s' n k' k2':=by
 induction h with
 |nil=>intro k' h;cases h
 |cons it h ih=>
  rename_i k k2;intro k' hp;cases it with
  |fK j=>
   simp only[iy]at hp⊢;by_cases hj:j=id
   ·rw[if_pos hj]at hp⊢;injection hp with hp;subst hp;exact⟨k2,rfl,h⟩
   ·rw[if_neg hj]at hp⊢;exact ih hp
  |code c=>exact ih hp
  |ops l=>exact ih hp
  |inv I=>exact ih hp
 |inv c I h hI ih=>intro k' hp;exact ih hp
section
variable {X:XP} {w0:World}
theorem Hu{b:XS}:∀{l:List V} {i:Nat} {t:TR} {k:TR->Option XS},xU i l t k=some b->∃t',k t'=some b/\∀j,t'.get j=if i<=j/\j<i+l.length then l.getD (j-i) .void else t.get j
 |[],i,t,k,h=>⟨t,h,fun j=>by rw[if_neg (by simp)]⟩
 |v::l,i,t,k,h=>by
  rw[R5]at h;obtain⟨t1,h1,h2⟩:=TR.xz h;obtain⟨t',h3,h4⟩:=Hu h1;refine⟨t',h3,fun j=>?_⟩;rw[h4,h2];simp only[List.length_cons];by_cases hj:j=i
  ·subst hj;rw[if_neg (by omega),if_pos rfl,if_pos (by omega),cq];rfl
  ·rw[if_neg hj];by_cases hj2:i+1<=j/\j<i+1+l.length
   ·rw[if_pos hj2,if_pos (by omega),show j-i=(j-(i+1))+1 from by omega];rfl
   ·rw[if_neg hj2,if_neg (by omega)]
theorem Sc{gF:Bool}{r:List aw}{n0:Nat}{s0:XS}{v:V}{σ':H}(h:BL gF r n0 s0=some (v,σ')):BE r n0 (Same v σ') s0.st:=by
 unfold BL at h;refine⟨_,Ha (cond gF [] (tN n0 (s0.σ.drop n0))) s0,?_⟩;generalize xJ (cond gF [] (tN n0 (s0.σ.drop n0))) s0=s at h⊢;simp only at h;cases hr:bA s.st r with
 |none=>rw[hr]at h;cases h
 |some vs=>
  rw[hr]at h;simp only[Ho,GW,Q7]at h;refine⟨vs,hr,?_⟩;cases gF with
  |true=>
   simp only[cond_true]at h;injection h with h;injection h with h1 h2;exact .inl ⟨h1,h2⟩
  |false=>
   simp only[cond_false]at h;cases hb:(ou 5 n0 (xF n0 (al vs))&&(dp n0 s.σ.length&&(s.σ.take n0).all (BB n0)))with
   |false=>
    rw[hb]at h;injection h with h;injection h with h1 h2;exact .inl ⟨h1,h2⟩
   |true=>
    rw[hb]at h;injection h with h;injection h with h1 h2;simp only[bG]at hb;have hn:n0<=s.σ.length:=eJ hb.2.1;exact .inr ⟨_,s.σ,Re n0 _,tL hb.1,hn,H.wV _,Rf (by simp[hn]) hb.2.2,h1,h2⟩
theorem Hv(hX:X.Ok w0){ex:List It->XS->Option XS}(hex:∀k s s' n0 Q,ex k s=some s'->Q s'.st->W X.P w0 n0 Q k s.st):dG.Ok X.P w0 (pI X ex):=by
 intro f args σ v σ' h;unfold pI at h;cases he:X.ext f args σ with
 |some r=>
  rw[he]at h;injection h with h;subst h;exact hX.ext _ _ _ _ _ he
 |none=>
  rw[he]at h;simp only at h;cases hc:X.code.get f with
  |none=>rw[hc]at h;cases h
  |some c=>
   rw[hc]at h;simp only at h;obtain⟨fn,K⟩:=CT.BK hX.code hc;unfold Hp at h;cases hl:ca args.length c.n with
   |false=>rw[hl]at h;cases h
   |true=>
    rw[hl]at h;simp only[cond_true]at h;split at h
    ·cases h
    ·rename_i s hs;obtain⟨t,h1,h2⟩:=Hu hs;simp only[ni]at h1;have hρ:(⟨t,σ,X.vec f⟩:XS).st=⟨iz args,σ⟩:=by
      show(⟨t.get,σ⟩:St)=_;congr 1;funext j;rw[h2,TR.Bo];unfold iz;by_cases hj:j<args.length
      ·rw[if_pos (by omega)];simp
      ·rw[if_neg (by omega)];rw[List.getD_eq_getElem?_getD,List.getElem?_eq_none (by omega)];rfl
     have hn:args.length<=fn.ntmps:=by rw[fu hl];exact K.hn
     refine R6 (fun v σ' h=>?_) h;refine DC.Hb K.hm K.hf K.hb K.ag K.cF hn K.en ?_;rw[<-hρ];exact hex _ _ _ _ _ h1 (Sc h)
theorem Sd(hX:X.Ok w0):∀(n:Nat) (k k2:List It) (s s':XS) (n0:Nat) (Q:St->Prop),exec X n k s=some s'->Rl X s' n k k2->Q s'.st->W X.P w0 n0 Q k2 s.st:=by
 intro n;induction n using Nat.strongRecOn with
 |_ n ih=>
 intro k k2 s s' n0 Q h hk hQ;cases n with
 |zero=>cases h
 |succ n=>
 have IH:∀{k k2:List It} {s:XS},exec X n k s=some s'->Rl X s' n k k2->W X.P w0 n0 Q k2 s.st:=fun h hk=>ih n (zz _) _ _ _ _ _ _ h hk hQ;have hcall:dG.Ok X.P w0 (pI X (exec X n)):=Hv hX fun k s s' n0 Q h hQ=>ih n (zz _) _ _ _ _ _ _ h (Rl.refl k) hQ;cases hk with
 |nil=>
  injection h with h;subst h;exact .done hQ
 |inv c I hk hI=>exact .inv (hI (n+1) (aA _) s h)
 |cons it hk=>
 rename_i k k2;rw[Sb]at h;have hk':=hk.less (mE n);have hops:∀l,BP X (exec X n) l k s=some s'->W X.P w0 n0 Q (.ops l::k2) s.st:=by
  intro l h;cases l with
  |nil=>exact .wM (IH h hk')
  |cons o l=>
   have h:BO X (exec X n) o l k s=some s':=h;unfold BO at h;split at h
   ·cases h
   ·rename_i b hg;cases b with
    |false=>
     obtain⟨t',h1,h2⟩:=jF h;simp only[ni]at h1;refine .Aq hg ?_;have:=IH h1 (.cons _ hk');show W X.P w0 n0 Q _ ⟨Env.put s.t.get o.dst .void,s.σ⟩;rw[<-h2];exact this
    |true=>
     have h:BN X (exec X n) o l k s=some s':=h;have hstep:xV (exec X n) o l k s=some s'->W X.P w0 n0 Q (.ops (o::l)::k2) s.st:=by
      intro h;unfold xV at h;rw[xL]at h;split at h
      ·unfold Hq at h;split at h
       ·cases h
       ·rename_i b _ _;simp only[BD,xy]at h;refine .fM (G9 s b) ?_;have hv:(pF s b).v=s.v:=by unfold pF;split<;>rfl
        rw[<-hv]at h;exact IH h (.cons _ hk')
      ·rename_i p hs;obtain⟨v,σ'⟩:=p;have hK:pG s.t.get s.σ o.ins (fun v σ'=>iD s.t o.dst v fun t=>fB s.v fun v=>exec X n (.ops l::k) ⟨t,σ',v⟩)=some s':=by
        unfold pG;rw[xL,hs];exact h
       obtain⟨v,σ',h0,h00⟩:=xO hK;obtain⟨t',h1,h2⟩:=jF h00;simp only[ni]at h1;refine .jw hg h0 ?_;have:=IH h1 (.cons _ hk');show W X.P w0 n0 Q _ ⟨Env.put s.t.get o.dst v,σ'⟩;rw[<-h2];exact this
     unfold BN at h;split at h
     ·cases hsv:s.v with
      |false=>rw[hsv]at h;exact hstep h
      |true=>
       rw[hsv]at h;simp only[cond_true]at h;unfold Hr at h;split at h
       ·exact hstep h
       ·rename_i p hvk;obtain⟨v,σ'⟩:=p;obtain⟨e,size,bytes,x,y,olds,news,hi,hx,hy,hc,rfl,rfl⟩:=Hc hvk;simp only[py,xy]at h;obtain⟨t',h1,h2⟩:=jF h;simp only[ni]at h1;refine .pd hg hi hx hy hc ?_;have:=IH h1 (.cons _ hk');show W X.P w0 n0 Q _ ⟨Env.put s.t.get o.dst (V.vec (List.length s.σ) (olds.length+news.length)),_⟩;rw[<-h2];exact this
     ·rename_i p hp;obtain⟨f,l'⟩:=p;have hi:=xM hp;simp only at h;obtain⟨fid,caps,v,σ',hf,hcl,hk⟩:=xQ h;obtain⟨t',h1,h2⟩:=jF hk;simp only[ni]at h1;refine .wN hg hi hf (hcall _ _ _ _ _ hcl) fun d τ hd=>?_;obtain⟨rfl,rfl⟩:=hd;have:=IH h1 (.cons _ hk');show W X.P w0 n0 Q _ ⟨Env.put s.t.get o.dst d,τ⟩;rw[<-h2];exact this
 cases it with
 |inv I=>cases h
 |fK id=>exact .fK (IH h hk')
 |ops l=>exact hops l h
 |code c=>
  cases c with
  |skip=>exact .skip (IH h hk')
  |aH l=>exact .aH (hops l h)
  |seq a b=>exact .seq (IH h (.cons _ (.cons _ hk')))
  |block id c=>exact .block (IH h (.cons _ (.cons _ hk')))
  |ret=>injection h with h;subst h;exact .ret hQ
  |bad=>cases h
  |exit id=>
   have h:BR (exec X n) id k s=some s':=h;unfold BR at h;split at h
   ·cases h
   ·rename_i k' hp;obtain⟨k2',h1,h2⟩:=hk'.pop hp;exact .exit h1 (IH h h2)
  |cond c x y=>
   have h:BQ (exec X n) c x y k s=some s':=h;unfold BQ at h;split at h
   ·cases h
   ·rename_i b hb;have hb:=R8 hb;cases b with
    |true=>exact .cond (t:=true) hb (fun _=>IH h (.cons _ hk')) (fun e=>by cases e)
    |false=>exact .cond (t:=false) hb (fun e=>by cases e) (fun _=>IH h (.cons _ hk'))
  |loop c=>
   refine .loop (α:={p:Nat×XS//p.1<=n+1/\exec X p.1 (.code (.loop c)::k) p.2=some s'}) (fun p=>p.1.2.st) (fun p=>p.1.1) ⟨(n+1,s),aA _,h⟩ (ao.refl _ _) (fun p=>?_);obtain⟨⟨m,t⟩,hm1,hm2⟩:=p;cases m with
   |zero=>cases hm2
   |succ m=>
    refine ih m (by simp only at hm1;omega) (.code c:: .code (.loop c)::k) _ t s' n0 Q hm2 (.cons _ (.inv c _ (hk.less (by simp only at hm1;omega)) fun j hj s'' hs''=>?_)) hQ;exact⟨⟨(j,s''),by simp only at hm1⊢;omega,hs''⟩,by simp only;omega,ao.refl _ _⟩
  |fw l e=>
   have h:BS X (exec X n) l e k s=some s':=h;unfold BS at h;cases hq:(BJ l&&e.isEmpty)with
   |true=>
    rw[hq]at h;obtain⟨t',h1,h2⟩:=xS hcall h;simp only[ni]at h1;exact .fw h2 (IH h1 hk')
   |false=>
    rw[hq]at h;simp only[cond_false]at h;cases e with
    |nil=>cases h
    |cons o e=>
     obtain⟨t',σ',past',h1,h2⟩:=pH _ hcall h;simp only[ni]at h1;exact .aS (List.cons_ne_nil _ _) h2 (IH h1 hk')
def jG(X:XP)(n:Nat)(f:FuncId)(args:List V)(σ:H):Option (V×H):=pI X (exec X n) f args σ
theorem mg(hX:X.Ok w0){n:Nat}{f:FuncId}{args:List V}{σ:H}{v:V}{σ':H}(h:jG X n f args σ=some (v,σ')):DC X.P w0 f args σ (Same v σ'):=
 Hv hX (fun k s s' n0 Q h hQ=>Sd hX n k k s s' n0 Q h (Rl.refl k) hQ) f args σ v σ' h
def isTrue:Option (V×H)->Bool
 |some (.c (.bool true),[])=>true
 |_=>false
theorem Se{G:World->Prop}(hG:∀w w',G w->Below w.heap.size w w'->G w')(hX:∀w,G w->X.Ok w){n:Nat}{f:FuncId}(h:isTrue (jG X n f [] [])=true){w0:World}(h0:G w0)(σ:H):DC X.P w0 f [] σ (Same (.c (.bool true)) σ):=by
 have hr:jG X n f [] []=some (.c (.bool true),[]):=by
  unfold isTrue at h;split at h
  ·assumption
  ·cases h
 refine DC.F9 (mg (hX w0 h0) hr).enters (fun κ w vs hrep hfit=>⟨.bool true,.c (.bool true),?_⟩);have hv:vs=[]:=Fits.kI hfit;subst hv;have hw:=hX w (hG w0 w h0 hrep.ext);refine(DC.calls (mg hw hr) (vs:=[]) ⟨rfl,fun j hj=>by simp at hj⟩).mono ?_;rintro e w' ⟨v,d,σ',κ',rfl,⟨rfl,rfl⟩,h3,h4⟩;refine⟨?_,h4⟩;cases h3 with
 |c h=>cases h;rfl
end
end
end Go.Lamb
namespace Go.Lamb
open Go Go.RowKit
def dP(p:aa):Bool:=
 if p.k=0 then(l8 p.name||rl p.name)&&p.n==0&&p.l.length==0
 else if p.k=1 then decide (p.n>=1)&&p.name==[]&&p.l.length==0
 else if p.k=2 then p.name==[]&&p.l.length==0
 else if p.k=3 then decide (p.n>=0)&&decide (p.n<=4611686018427387904)&&p.name==[]&&p.l.length==0
 else if p.k=4 then decide (p.n>=0)&&decide (p.n<=4611686018427387904)&&p.name==[]&&p.l.length==0
 else if p.k=5 then p.n==0&&p.name==[]&&p.l.length==1
 else if p.k=6 then p.n==0&&decide (2<=p.l.length)&&(p.l.headD .none).k !=6&&p.name==[]
 else false
mutual
def bc:aa->Bool
 | .mk k s n l=>dP (.mk k s n l)&&tR l
def tR:List aa->Bool
 |[]=>true
 |x::l=>bc x&&tR l
end
theorem Hw:∀(l:List aa),tR l=l.all bc
 |[]=>by simp[tR]
 |x::l=>by rw[tR,jQ,Hw l]
theorem rm(p:aa):bc p=(dP p&&p.l.all bc):=by
 cases p;rw[bc,Hw];rfl
mutual
def bM(m:Int):aa->Bool
 | .mk k _ n l=>(k==2||!(decide (n>m)||decide (n< -m)))&&tS m l
def tS(m:Int):List aa->Bool
 |[]=>true
 |x::l=>bM m x&&tS m l
end
theorem Hx(m:Int):∀(l:List aa),tS m l=l.all (bM m)
 |[]=>by simp[tS]
 |x::l=>by rw[tS,jQ,Hx m l]
theorem BU(m:Int)(p:aa):bM m p=((p.k==2||!(decide (p.n>m)||decide (p.n< -m)))&&p.l.all (bM m)):=by
 cases p;rw[bM,Hx];rfl
theorem Sf{l:List aa}(h:0<l.length):l.headD .none=l[0]:=by
 cases l with
 |nil=>simp at h
 |cons x l=>rfl
end Go.Lamb
namespace Go.Lamb
open Go Go.RowKit
theorem V.ov{ι:Nat->Nat}{n m:Nat}(hid:∀b,b<n->ι b=b)(hnm:n<=m){x:V}(h:V.low n x):V.cl ι m x x:=by
 induction h with
 |void=>exact .void
 |any=>exact .any
 |c x=>exact .c x
 |@ptr b o h=>have:=V.cl.ptr (ι:=ι) (m:=m) (j:=b) (o:=o) (by omega);rwa [hid b h]at this
 |@aG b r h=>have:=V.cl.aG (ι:=ι) (m:=m) (j:=b) (r:=r) (by omega);rwa [hid b h]at this
 |ab r=>exact .ab r
 |fn h ih=>exact .fn rfl fun k hk hk'=>ih _ (bt hk)
 |cg=>exact .cg
 |@mp b h=>have:=V.cl.mp (ι:=ι) (m:=m) (j:=b) (by omega);rwa [hid b h]at this
 |cC=>exact .cC
 |@vec b k h=>have:=V.cl.vec (ι:=ι) (m:=m) (j:=b) (k:=k) (by omega);rwa [hid b h]at this
 |agg h ih=>exact .agg rfl fun k hk hk'=>ih _ (bt hk)
 |ay h ih=>exact .ay rfl fun k hk hk'=>ih _ (bt hk)
theorem ad.ov{ι:Nat->Nat}{n m:Nat}(hid:∀b,b<n->ι b=b)(hnm:n<=m){B:ad}(h:∀cs tg,B= .cells cs tg->∀x∈cs,V.low n x):ad.cl ι m B B:=by
 cases B with
 |cells cs tg=>exact .cells rfl fun k hk hk'=>V.ov hid hnm (h cs tg rfl _ (bt hk))
 |spare e s n=>exact .spare e s n
 |mp l=>exact .mp l
 |vec e s cs=>exact .vec e s cs
 |gone=>exact .gone
section
variable {P:Program} {w0:World} {f:FuncId} {args:List V} {σ:H}
end
end Go.Lamb
namespace Go.Lamb
open Go Go.RowKit
def Sh(σ:H)(e size k:Nat)(cs:List C)(c:Int)(v:V)(τ:H):Prop:=∃L L2,v= .ay [.vec (σ.length+L.length) k,.c (.int .i64 c)]/\τ=σ++(L++ .vec e size cs::L2)
section
variable {P:Program} {w0:World} {f:FuncId} {args:List V} {σ:H}
theorem DC.Hy{e size k:Nat}{cs:List C}{c:Int}(hd:DC P w0 f args σ (Sh σ e size k cs c)):DC P w0 f args σ (Same (.ay [.vec σ.length k,.c (.int .i64 c)]) (σ++[.vec e size cs])):=by
 refine⟨hd.enters,fun κ w vs hrep hfit=>(hd.run κ w vs hrep hfit).mono ?_⟩;rintro e' w' ⟨v,d0,σ0,κ',rfl,⟨L,L2,rfl,rfl⟩,h3,h4,h5⟩;have hok:=hrep.ok;obtain⟨ι,hid,hend⟩:∃ι:Nat->Nat,(∀b,b<σ.length->ι b=b)/\ι σ.length=σ.length+L.length:=
  ⟨fun j=>if j<σ.length then j else σ.length+L.length,fun b hb=>if_pos hb,if_neg (oU _)⟩
 have hcase:∀j,j<σ.length+1->j<σ.length\/j=σ.length:=fun j h=>by omega
 refine⟨v,_,_,κ'.pack ι (σ.length+1),rfl,⟨rfl,rfl⟩,K.xA h3 (fun b hb=>hid b (by rw[<-hrep.n];exact hb)) (by rw[hrep.n];omega),h4.pack (fun j hj=>?_) (fun i j hi hj hij=>?_) (by simp) (fun j hj hj' hι=>?_),h5.pack ?_⟩
 ·rcases hcase j hj with h|rfl
  ·rw[hid j h];simp;omega
  ·rw[hend];simp
 ·rcases hcase i hi with h|rfl<;>rcases hcase j hj with kk|rfl
  ·rwa [hid i h,hid j kk]at hij
  ·rw[hid i h,hend]at hij;omega
  ·rw[hid j kk,hend]at hij;omega
  ·rfl
 ·rcases hcase j hj with h|rfl
  ·have e1:(σ++(L++ad.vec e size cs::L2))[ι j]=σ[j]:=by
    rw[mN,hid j h,cI h,aO h]
   have e2:(σ++[ad.vec e size cs])[j]=σ[j]:=cL h;rw[e1,e2];exact ad.ov hid (mE _) (fun cs tg hc x hx=>hok _ (bt h) cs tg hc x hx)
  ·have e1:(σ++(L++ad.vec e size cs::L2))[ι σ.length]=ad.vec e size cs:=by
    rw[mN,hend,cZ (by omega),ft,cZ (aA _),cq];rfl
   have e2:(σ++[ad.vec e size cs])[σ.length]=ad.vec e size cs:=by simp
   rw[e1,e2];exact .vec _ _ _
 ·refine .ay rfl fun q hq hq'=>?_
  match q,hq,hq' with
  |0,_,_=>
   have:=V.cl.vec (ι:=ι) (m:=σ.length+1) (j:=σ.length) (k:=k) (by omega);rw[hend]at this;exact this
  |1,_,_=>exact .c _
end
end Go.Lamb
namespace Go.Lamb
open Go Go.RowKit
section
variable {P:Program} {w0:World} {f:FuncId} {args:List V} {σ:H}
theorem DC.BV{e size k:Nat}{cs:List C}{b0 p:Nat}{A B:List V}{tg:Option TypeId}{d:V}{y:V}(hp:σ[p]?=some (.cells (A++y::B) tg))(hdl:V.low σ.length d)
  (hd:DC P w0 f args σ (fun v τ=>V.wk v d/\∃L L2,τ=(σ.set b0 .gone).set p (.cells (A++ .vec (σ.length+L.length) k::B) tg)++(L++ .vec e size cs::L2))):
  DC P w0 f args σ (Same d ((σ.set b0 .gone).set p (.cells (A++ .vec σ.length k::B) tg)++[.vec e size cs])):=by
 refine⟨hd.enters,fun κ w vs hrep hfit=>(hd.run κ w vs hrep hfit).mono ?_⟩;rintro e' w' ⟨v,d0,σ0,κ',rfl,⟨hw,L,L2,rfl⟩,h3,h4,h5⟩;have hlow:=hrep.ok _ (List.mem_of_getElem? hp) _ _ rfl;have hA:∀x∈A,V.low σ.length x:=fun x hx=>hlow x (List.mem_append_left _ hx);have hB:∀x∈B,V.low σ.length x:=fun x hx=>hlow x (List.mem_append_right _ (List.mem_cons_of_mem _ hx));replace hp:=(List.getElem?_eq_some_iff.1 hp).1;obtain⟨σ1,hσ1,hln,hok⟩:∃σ1:H,σ1=σ.set b0 .gone/\σ1.length=σ.length/\(∀B∈σ1,∀cs tg,B= .cells cs tg->∀x∈cs,V.low σ1.length x):=⟨_,rfl,bF ..,fun B hB cs tg hc x hx=>by
  rw[bF];rcases List.mem_or_eq_of_mem_set hB with hB|rfl
  ·exact hrep.ok B hB cs tg hc x hx
  ·cases hc⟩
 have hn:κ.n=σ1.length:=hrep.n.trans hln.symm;rw[<-hσ1]at h4⊢;rw[<-hln]at h4 hA hB hdl hp⊢;clear hrep hfit;obtain⟨ι,hid,hend⟩:∃ι:Nat->Nat,(∀b,b<σ1.length->ι b=b)/\ι σ1.length=σ1.length+L.length:=
  ⟨fun j=>if j<σ1.length then j else σ1.length+L.length,fun b hb=>if_pos hb,if_neg (oU _)⟩
 have hcase:∀j,j<σ1.length+1->j<σ1.length\/j=σ1.length:=fun j h=>by omega
 refine⟨v,_,_,κ'.pack ι (σ1.length+1),rfl,⟨rfl,rfl⟩,K.xA h3 (fun b hb=>hid b (by rw[<-hn];exact hb)) (by rw[hn];omega),h4.pack (fun j hj=>?_) (fun i j hi hj hij=>?_) (by simp) (fun j hj hj' hι=>?_),(RV.wk hw h5).pack (V.ov hid (mE _) hdl)⟩
 ·rcases hcase j hj with h|rfl
  ·rw[hid j h];simp;omega
  ·rw[hend];simp
 ·rcases hcase i hi with h|rfl<;>rcases hcase j hj with kk|rfl
  ·rwa [hid i h,hid j kk]at hij
  ·rw[hid i h,hend]at hij;omega
  ·rw[hid j kk,hend]at hij;omega
  ·rfl
 ·rcases hcase j hj with h|rfl
  ·by_cases e0:j=p
   ·subst e0;have e1:((σ1.set j (.cells (A++ .vec (σ1.length+L.length) k::B) tg))++(L++ad.vec e size cs::L2))[ι j]= .cells (A++ .vec (σ1.length+L.length) k::B) tg:=by
     rw[mN,hid j h,cI (by simpa using h),cr h]
    have e2:((σ1.set j (.cells (A++ .vec σ1.length k::B) tg))++[ad.vec e size cs])[j]= .cells (A++ .vec σ1.length k::B) tg:=by
     rw[mN,cI (by simpa using h),cr h]
    rw[e1,e2];refine .cells (by simp) fun q hq hq'=>?_;rcases Nat.lt_trichotomy q A.length with g|g|g
    ·rw[cL g,cL g];exact V.ov hid (mE _) (hA _ (bt g))
    ·subst g;rw[dU (aA _),dU (aA _)];simp only[cq,List.getElem_cons_zero];have:=V.cl.vec (ι:=ι) (m:=σ1.length+1) (j:=σ1.length) (k:=k) (by omega);rw[hend]at this;exact this
    ·have g2:q-A.length-1<B.length:=by simp at hq;omega
     have e3:∀x:V,∀hx:q<(A++x::B).length,(A++x::B)[q]=B[q-A.length-1]:=fun x hx=>by
      rw[dU (by omega),List.getElem_cons,dif_neg (by omega)]
     rw[e3,e3];exact V.ov hid (mE _) (hB _ (bt g2))
   ·have e1:((σ1.set p (.cells (A++ .vec (σ1.length+L.length) k::B) tg))++(L++ad.vec e size cs::L2))[ι j]=σ1[j]:=by
     rw[mN,hid j h,cI (by simpa using h),bX (by omega),aO h]
    have e2:((σ1.set p (.cells (A++ .vec σ1.length k::B) tg))++[ad.vec e size cs])[j]=σ1[j]:=by
     rw[mN,cI (by simpa using h),bX (by omega),aO h]
    rw[e1,e2];exact ad.ov hid (mE _) (fun cs tg hc x hx=>hok _ (bt h) cs tg hc x hx)
  ·have e1:((σ1.set p (.cells (A++ .vec (σ1.length+L.length) k::B) tg))++(L++ad.vec e size cs::L2))[ι σ1.length]=ad.vec e size cs:=by
    rw[mN,hend,cZ (by simp),bF,ft,cZ (aA _),cq];rfl
   have e2:((σ1.set p (.cells (A++ .vec σ1.length k::B) tg))++[ad.vec e size cs])[σ1.length]=ad.vec e size cs:=by
    rw[mN,cZ (by simp),bF,cq];rfl
   rw[e1,e2];exact .vec _ _ _
end
end Go.Lamb
namespace Go.Lamb
open Go Go.RowKit
abbrev pJ(l:Nat):Fence:=Fence.wide.inRound l
def Op.plain:Op->Bool
 | .defer _=>false
 |_=>true
section
variable {P:Program} {l m:Nat} {Q:Exit->Act->World->Prop} {a:Act} {w:World}
theorem Si{f:FuncId}{args:Array Value}{R:Ending->World->Prop}(h:Calls P f args w R):CallsIn (pJ l) m P f args w R:=CallsIn.inRound l (callsIn_wide.2 h)
theorem Sj{row:String}{args:Array Value}{R:Value->World->Prop}(h:Rows P row args w R):RowsIn (pJ l) m P row args w R:=fun c cs _=>let ⟨v,w',r,s⟩:=h c cs;⟨v,w',r,stepsIn_wide.2 s⟩
theorem Sk{o:Oper}{next next':Act->World->Prop}(hd:Op.plain o.op=true)(hn:∀a w,next a w->next' a w)(h:o.wp P a w next Q):o.wpIn (pJ l) m P a w next' Q:=by
 refine⟨fun f _=>trivial,?_⟩;rw[show(pJ l).round=some l from rfl,Oper.semAt_some l _ _ (fun c e=>by rw[e]at hd;cases hd)];unfold Oper.wp at h;generalize (execOp a.eval o).run P w=r at h;cases r with
 |ok x w'=>
  cases x<;>simp only[Oper.upon,Oper.uponIn]at h⊢<;>
   first
    |exact hn _ _ h
    |exact⟨fun e=>(by cases e),Si (h.mono fun e w'' he=>by cases e<;>first|exact hn _ _ he|exact he)⟩
    |exact⟨fun e=>(by cases e),Sj (h.mono fun _ _ he=>hn _ _ he)⟩
    |exact h.elim
    |exact h
 |halt x w'=>cases x<;>simp only[Oper.upon,Oper.uponIn]at h⊢<;>first|exact h|exact h.elim
theorem Hz{ops:Array Oper}(hlo:¬LetsOut Q)(hp:∀o∈ops,Op.plain o.op=true):∀{fuel:Nat} {listed:Array Bool} {a:Act} {w:World},wpAny P .any ops Q fuel listed a w->wpAnyIn (pJ l) m P .any ops Q fuel listed a w
 |0,listed,a,w,h=>h
 |fuel+1,listed,a,w,h=>by
  unfold wpAny at h;unfold wpAnyIn;refine⟨h.1,fun i hi=>?_⟩;have h:=h.2 i hi;have ih:∀a w,wpAny P .any ops Q fuel (listed.setIfInBounds i true) a w->wpAnyIn (pJ l) m P .any ops Q fuel (listed.setIfInBounds i true) a w:=fun a w h=>Hz hlo hp h;unfold wpOp at h;unfold wpOpIn;split
  ·rename_i ho;rw[ho]at h;exact ih _ _ h
  ·rename_i o ho;rw[ho]at h;simp only at h;split
   ·rename_i hw;rw[if_pos hw]at h;exact Sk (hp o (Array.mem_of_getElem? ho)) ih (h.resolve_right fun e=>hlo e.2)
   ·rename_i hw;rw[if_neg hw]at h;exact⟨fun f _=>trivial,ih _ _ h⟩
end
section
variable {P:Program} {w0 w w':World} {κ κ0:K} {σ σ':H} {a:Act} {ρ ρ':Env} {n n0:Nat} {Q:St->Prop} {s:St} {l m:Nat}
end
end Go.Lamb
namespace Go.Lamb
open Go Go.RowKit
mutual
def a8:ah->Nat
 | .mk _ _ _ l _=>1+cj l
def cj:List ah->Nat
 |[]=>0
 |p::l=>a8 p+cj l
end
theorem tT(p:ah):a8 p=1+cj p.l:=by cases p;rw[a8];rfl
mutual
theorem HA:∀(p:ah) (n:Int),0<=fZ p n->fZ p n=n-a8 p
 | .mk _ _ _ l _,n,h=>by
   rw[fZ]at h⊢;rw[HC l (n-1) h,a8];omega
theorem HC:∀(l:List ah) (n:Int),0<=fQ l n->fQ l n=n-cj l
 |[],n,h=>by rw[fQ,cj];omega
 |p::l,n,h=>by
  rw[fQ]at h⊢;split at h
  ·rename_i h0;rw[if_pos h0];by_cases h1:0<=fZ p n
   ·rw[HC l _ h,HA p n h1,cj];omega
   ·rw[Gj h1]at h;omega
  ·omega
end
end Go.Lamb
namespace Go.Lamb
open Go Go.RowKit
def tU(f:List C->Option aa):List (List C)->Option (List aa)
 |[]=>some []
 |r::l=>match f r with
  |none=>none
  |some x=>match tU f l with
   |none=>none
   |some y=>some (x::y)
def pK:Nat->List C->Option aa
 |0,_=>none
 |d+1,cs=>match cs with
  |[.int .i64 k,.str s,.int .i64 n,.sl rows]=>match tU (pK d) rows with
   |none=>none
   |some l=>some (.mk k s n l)
  |_=>none
theorem BW{f:List C->Option aa}(hf:∀r x,f r=some x->r=x.cs):∀{l:List (List C)} {y:List aa},tU f l=some y->l=y.map aa.cs
 |[],y,h=>by injection h with h;subst h;rfl
 |r::l,y,h=>by
  unfold tU at h;split at h
  ·cases h
  ·rename_i x hx;split at h
   ·cases h
   ·rename_i z hz;injection h with h;subst h;rw[cx,<-BW hf hz,<-hf r x hx]
theorem tV:∀{d:Nat} {cs:List C} {t:aa},pK d cs=some t->cs=t.cs
 |0,_,_,h=>by cases h
 |d+1,cs,t,h=>by
  unfold pK at h;split at h
  ·rename_i k s n rows;split at h
   ·cases h
   ·rename_i l hl;injection h with h;subst h;rw[aa.aM,a7,bh,aW,aQ,BW (fun r x=>tV) hl]
  ·cases h
def xW:List (List C)->Option (List eA)
 |[]=>some []
 |r::l=>match r with
  |[.str s,.int .i64 p,.int .i64 f]=>match xW l with
   |none=>none
   |some y=>some (⟨s,p,f⟩::y)
  |_=>none
theorem HF:∀{l:List (List C)} {y:List eA},xW l=some y->l=y.map eA.cs
 |[],y,h=>by injection h with h;subst h;rfl
 |r::l,y,h=>by
  unfold xW at h;split at h
  ·split at h
   ·cases h
   ·rename_i z hz;injection h with h;subst h;rw[cx,<-HF hz];rfl
  ·cases h
def xX(v:V):Option (List C):=fv v.ai
end Go.Lamb
namespace Go.Lamb
open Go Go.RowKit
def ow(σ:H)(b:Nat)(X Y Z U:ad):H:=(((σ.set b X).set (b+1) Y).set (b+2) Z).set (b+3) U
section
variable {σ:H} {b:Nat}
@[simp] theorem tW (X Y Z U:ad):(ow σ b X Y Z U).length=σ.length:=by simp[ow]
theorem Sl(x:ad)(L:H)(X Y Z U:ad):(ow σ b X Y Z U++x::L)[σ.length]?=some x:=by
 rw[cZ (by simp),tW,cq];rfl
theorem Sm(k:Nat)(L:H)(X Y Z U:ad):(ow σ b X Y Z U++L)[σ.length+k]?=L[k]?:=by
 rw[cZ (by simp),tW,ft]
theorem Sn(x:ad)(L:H)(X Y Z U:ad):(ow σ b X Y Z U++L).set σ.length x=ow σ b X Y Z U++L.set 0 x:=by
 rw[iL _ _ (by simp),tW,cq]
theorem So(k:Nat)(x:ad)(L:H)(X Y Z U:ad):(ow σ b X Y Z U++L).set (σ.length+k) x=ow σ b X Y Z U++L.set k x:=by
 rw[iL _ _ (by simp),tW,ft]
end
end Go.Lamb
namespace Go.Lamb
open Go Go.RowKit
def eD(g:FuncId)(e:List V->H->Option (V×H))(r:dG):dG:=fun f as_ σ=>cond (ca f g) (e as_ σ) (r f as_ σ)
def HI:dG:=fun _ _ _=>none
theorem Sp{P:Program}{w0:World}:dG.Ok P w0 HI:=fun _ _ _ _ _ h=>by cases h
theorem eY{P:Program}{w0:World}{g:FuncId}{e:List V->H->Option (V×H)}{r:dG}(he:∀as_ σ v σ',e as_ σ=some (v,σ')->DC P w0 g as_ σ (Same v σ'))(hr:dG.Ok P w0 r):dG.Ok P w0 (eD g e r):=by
 intro f as_ σ v σ' h;unfold eD at h;cases hb:ca f g with
 |true=>
  rw[hb]at h;have:=fu hb;subst this;exact he _ _ _ _ h
 |false=>
  rw[hb]at h;exact hr _ _ _ _ _ h
def ox(e1 e2:List V->H->Option (V×H)):List V->H->Option (V×H):=fun as_ σ=>match e1 as_ σ with
 |some r=>some r
 |none=>e2 as_ σ
theorem rn{P:Program}{w0:World}{f:FuncId}{e1 e2:List V->H->Option (V×H)}(h1:∀as_ σ v σ',e1 as_ σ=some (v,σ')->DC P w0 f as_ σ (Same v σ'))(h2:∀as_ σ v σ',e2 as_ σ=some (v,σ')->DC P w0 f as_ σ (Same v σ'))(as_:List V)(σ:H)(v:V)(σ':H)(h:ox e1 e2 as_ σ=some (v,σ')):DC P w0 f as_ σ (Same v σ'):=by
 unfold ox at h;split at h
 ·rename_i r hr;injection h with h;subst h;exact h1 _ _ _ _ hr
 ·exact h2 _ _ _ _ h
def BX:List Nat->Nat->Bool
 |[],_=>false
 |a::l,f=>cond (ca f a) true (BX l f)
end Go.Lamb
