/- . -/
import Derived.Test.YtdlkenpilhakfaaGreatDoorQJ16
import Derived.Test.YtdlkenpilhakfaaGreatDoorQJ14
import Derived.Test.YtdlkenpilhakfaaGreatDoorQLexBk
import Derived.Test.YtdlkenpilhakfaaGreatDoorQLxK
import Derived.Test.YtdlkenpilhakfaaGreatDoorQJ13
import Derived.TacticsIn
import Derived.OrdersIn
import Derived.RangeFuncCalls
import Derived.Deep.LoopGhost
import Derived.Test.YtdlkenpilhakfaaGreatDoorQRd1
import Derived.Lib.ItoaNum
import Derived.Lib.ItoaLen
import Derived.RangeFuncNested
import Derived.Lib.UnsafeStr
import Derived.Test.YtdlkenpilhakfaaGreatDoorQLexL
import Derived.Defers
set_option linter.unusedSimpArgs false
set_option linter.unusedVariables false
set_option maxHeartbeats 8000000
set_option maxRecDepth 20000
open Bool renaming and_eq_true->bz
open List renaming all_cons->jl,all_eq_true->cL,getElem?_append_left->cF,getElem?_append_right->cY,getElem?_eq_getElem->aR,getElem?_set_ne->bX,getElem?_set_self->ct,getElem_append_left->cC,getElem_append_right->dJ,getElem_eq_iff->mW,getElem_map->dE,getElem_mem->bw,length_set->bC,map_cons->cE,mem_cons->cD,set_append_right->iQ
open Nat renaming add_sub_cancel_left->fm,beq->ca,ble->dk,blt->lL,eq_of_beq_eq_true->fo,le_of_ble_eq_true->eI,le_refl->aA,le_succ->mP,lt_irrefl->oW,lt_succ_self->zN,sub_self->ck
namespace Go.Lamb
open Go Go.RowKit
noncomputable section
structure XS where
 t:TR
 σ:H
 v:Bool
def XS.st(s:XS):St:=⟨s.t.get,s.σ⟩
def xJ(n:Nat):V->V
 | .aF b r=>bif lL b n then .aF b r else .c (.sl r)
 |v=>v
def xK(n:Nat):V->V
 | .agg vs=>.agg (vs.map (xJ n))
 |v=>xJ n v
def xL(n:Nat):V->V
 | .av vs=>.av (vs.map (xK n))
 |v=>xK n v
theorem BI(n:Nat)(v:V):V.wk v (xJ n v):=by
 cases v<;>simp only[xJ]<;>first|exact .rfl _|skip
 rename_i b r;cases lL b n
 ·exact .aF b r
 ·exact .rfl _
theorem xM{f:V->V}(hf:∀v,V.wk v (f v))(l:List V):(l.map f).length=l.length/\∀j (hj:j<l.length) (hj':j<(l.map f).length),V.wk l[j] (l.map f)[j]:=
 ⟨List.length_map _,fun j hj hj'=>by rw[dE];exact hf _⟩
theorem BJ(n:Nat)(v:V):V.wk v (xK n v):=by
 cases v<;>simp only[xK]<;>first|exact BI n _|skip
 exact .agg (xM (BI n) _).1 (xM (BI n) _).2
theorem Rx(n:Nat)(v:V):V.wk v (xL n v):=by
 cases v<;>simp only[xL]<;>first|exact BJ n _|skip
 exact .av (xM (BJ n) _).1 (xM (BJ n) _).2
def ov:Nat->Nat->V->Bool
 |0,_,_=>false
 |d+1,n,v=>match v with
  | .ptr b _=>lL b n
  | .aF b _=>lL b n
  | .mp b=>lL b n
  | .vec b _=>lL b n
  | .fn _ l=>l.all (ov d n)
  | .agg l=>l.all (ov d n)
  | .av l=>l.all (ov d n)
  |_=>true
theorem tW:∀{d n:Nat} {v:V},ov d n v=true->V.low n v
 |0,_,_,h=>by cases h
 |d+1,n,v,h=>by
  cases v<;>simp only[ov]at h
  case void=>exact .void
  case any=>exact .any
  case c x=>exact .c x
  case ptr b o=>exact .ptr (eI h)
  case aF b r=>exact .aF (eI h)
  case ab r=>exact .ab r
  case fn f l=>exact .fn fun x hx=>tW (cL.1 h x hx)
  case cj=>exact .cj
  case mp b=>exact .mp (eI h)
  case cy=>exact .cy
  case vec b k=>exact .vec (eI h)
  case agg l=>exact .agg fun x hx=>tW (cL.1 h x hx)
  case av l=>exact .av fun x hx=>tW (cL.1 h x hx)
def BK(n:Nat):ad->Bool
 | .cells cs _=>cs.all (ov 4 n)
 |_=>true
theorem Ry{n:Nat}{σ:H}(hl:σ.length=n)(h:σ.all (BK n)=true):H.ok σ:=by
 intro b hb cs tg hc x hx;have:=cL.1 h b hb;rw[hc]at this;rw[hl];exact tW (cL.1 this x hx)
def pK(b size:Nat)(cs:List C):V->V
 | .vec c k=>bif ca c b&&dk (k*size) cs.length then .c (.sl (rowsOf size k cs))else .vec c k
 |v=>v
def xN(b size:Nat)(cs:List C):V->V
 | .agg vs=>.agg (vs.map (pK b size cs))
 | .fn f vs=>.fn f (vs.map (pK b size cs))
 |v=>pK b size cs v
def xO(b size:Nat)(cs:List C):V->V
 | .av vs=>.av (vs.map (xN b size cs))
 |v=>xN b size cs v
def pM(b size:Nat)(cs:List C):ad->ad
 | .cells vs tg=>.cells (vs.map (pK b size cs)) tg
 |x=>x
section
variable {κ:K} {b size:Nat} {cs:List C}
theorem tX(hf:∀k v,k*size<=cs.length->RV κ (.vec b k) v->RC κ.m (.sl (rowsOf size k cs)) v){x:V}{v:Value}(h:RV κ x v):RV κ (pK b size cs x) v/\(x.leaf=true->(pK b size cs x).leaf=true):=by
 cases x<;>simp only[pK]<;>first|exact⟨h,id⟩|skip
 rename_i c k;cases hc:(ca c b&&dk (k*size) cs.length)
 ·exact⟨h,id⟩
 ·simp only[bz]at hc;have e:=fo hc.1;subst e;exact⟨.c (hf k v (eI hc.2) h),fun _=>rfl⟩
theorem HF(hf:∀k v,k*size<=cs.length->RV κ (.vec b k) v->RC κ.m (.sl (rowsOf size k cs)) v){x:V}{v:Value}(h:RV κ x v):RV κ (xN b size cs x) v:=by
 cases x<;>simp only[xN]<;>first|exact(tX hf h).1|skip
 ·cases h with
  |fn h h1=>exact .fn (by simpa using h) fun j hj=>by rw[dE];exact(tX hf (h1 j (by simpa using hj))).1
 ·cases h with
  |agg h h1=>exact .agg (by simpa using h) fun j hj=>by rw[dE];exact(tX hf (h1 j (by simpa using hj))).1
theorem Rz(hf:∀k v,k*size<=cs.length->RV κ (.vec b k) v->RC κ.m (.sl (rowsOf size k cs)) v){x:V}{v:Value}(h:RV κ x v):RV κ (xO b size cs x) v:=by
 cases x<;>simp only[xO]<;>first|exact HF hf h|skip
 cases h with
 |av h h1=>exact .av (by simpa using h) fun j hj=>by rw[dE];exact HF hf (h1 j (by simpa using hj))
theorem aB.pM{w0 w:World}{σ:H}(hf:∀k v,k*size<=cs.length->RV κ (.vec b k) v->RC κ.m (.sl (rowsOf size k cs)) v)(h:aB w0 κ σ w):aB w0 κ (σ.map (Lamb.pM b size cs)) w:=by
 have hl:∀z (hz:z<σ.length),(Lamb.pM b size cs σ[z]).bc κ z=(σ[z]).bc κ z:=fun z hz=>by
  generalize σ[z]=X;cases X<;>rfl
 refine⟨by simpa using h.n,h.ext,h.mem,fun x hx=>?_,fun x y hx hy g hne=>?_,fun l o hr=>⟨(h.rest l o hr).1,(h.rest l o hr).2.1,fun z hz=>by rw[dE,hl z (by simpa using hz)];exact(h.rest l o hr).2.2 z (by simpa using hz)⟩,h.dt⟩
 ·have hx':x<σ.length:=by simpa using hx
  rw[dE];have h1:=h.cz x hx';generalize σ[x]=X at h1⊢;cases X with
  |cells vs tg=>
   obtain⟨us,t,k1,k2,k3⟩:=h1.row;refine⟨h1.fr,⟨us,t,k1,by simpa using k2,fun j hj=>?_⟩,h1.own,h1.free,h1.ty⟩;rw[dE];have:=k3 j (by simpa using hj);exact⟨(tX hf this.2).2 this.1,(tX hf this.2).1⟩
  |spare e s n=>exact h1
  |mp kvs=>exact h1
  |vec e s c=>exact h1
  |gone=>exact h1
 ·have hx':x<σ.length:=by simpa using hx
  have hy':y<σ.length:=by simpa using hy
  rw[dE,dE,hl x hx',hl y hy'];exact h.apart x y hx' hy' g hne
end
def TR.pN(f:V->V):TR->TR
 | .e=>.e
 | .n v l r=>.n (f v) (l.pN f) (r.pN f)
theorem TR.BL{f:V->V}(hf:f .void= .void):∀(t:TR) (i:Nat),(t.pN f).get i=f (t.get i)
 | .e,i=>hf.symm
 | .n v l r,0=>rfl
 | .n v l r,i+1=>by
   rcases Nat.mod_two_eq_zero_or_one i with hi|hi
   ·rw[TR.pN,TR.pH _ _ _ _ hi,TR.pH _ _ _ _ hi,TR.BL hf l]
   ·rw[TR.pN,TR.pI _ _ _ _ hi,TR.pI _ _ _ _ hi,TR.BL hf r]
def fT{α:Type}:TR->(TR->α)->α
 | .e,k=>k .e
 | .n v l r,k=>nz v fun v=>fT l fun l=>fT r fun r=>k (.n v l r)
theorem BM{α:Type}:∀(t:TR) (k:TR->α),fT t k=k t
 | .e,k=>rfl
 | .n v l r,k=>by simp only[fT,pG,BM l,BM r]
def pO(s:XS)(b:Nat):XS:=match s.σ[b]? with
 |some (.vec _ size cs)=>⟨s.t.pN (xO b size cs),(s.σ.set b .gone).map (pM b size cs),s.v⟩
 |_=>s
theorem HI{n0:Nat}(s:XS)(b:Nat):aq n0 (pO s b).st s.st:=by
 unfold pO;split
 ·rename_i e size cs hb;intro w0 κ0 n κ a w hκ hR;obtain⟨κ',h1,h2,h3⟩:=aB.jD hR.cZ hb;refine⟨κ',h2.pM h3,fun j=>?_,hR.size,hR.defers,K.le_trans hR.le h1⟩;show RV κ' ((s.t.pN (xO b size cs)).get j) _;rw[TR.BL rfl];exact Rz h3 ((hR.env j).mono h1)
 ·exact aq.refl _ _
def xP:List Nat->XS->XS
 |[],s=>s
 |b::l,s=>xP l (pO s b)
theorem HJ{n0:Nat}:∀(l:List Nat) (s:XS),aq n0 (xP l s).st s.st
 |[],s=>aq.refl _ _
 |b::l,s=>(HJ l (pO s b)).trans (HI s b)
def tY:Nat->H->List Nat
 |_,[]=>[]
 |i,.vec ..::l=>i::tY (i+1) l
 |i,_::l=>tY (i+1) l
def RA:V->List Nat
 | .vec b _=>[b]
 | .agg vs=>vs.flatMap fun v=>match v with| .vec b _=>[b]|_=>[]
 |_=>[]
def RB(r:List aw)(n0:Nat)(R:V->H->Prop)(s:St):Prop:=
 ∃vs,br s r=some vs/\(R (ak vs) s.σ\/∃d τ,V.wk (ak vs) d/\V.low n0 d/\n0<=s.σ.length/\H.wk s.σ τ/\H.ok (τ.take n0)/\R d (τ.take n0))
def BN(r:List aw)(n0:Nat)(R:V->H->Prop)(s:St):Prop:=∃t,aq n0 t s/\RB r n0 R t
theorem DC.HM{P:Program}{w0:World}{σ:H}{f:FuncId}{fn:Func}{c:Code}{x:AC}{r:List aw}{args:List V}{R:V->H->Prop}(hm:P.follows .mixedOrders=true)(hf:P.funcs[f]?=some fn)(hb:fn.body=some c)(ag:tr P fn.ntmps c=some x)(dN:jB P fn.results.toList=some r)
  (hargs:args.length<=fn.ntmps) (hen:Enters P f) (hW:W P w0 σ.length (BN r σ.length R) [.code x] ⟨iB args,σ⟩):DC P w0 f args σ R:=by
 refine⟨hen,fun κ w vs hrep hfit=>?_⟩;refine calls_of_wp hf hb ?_;have hR:Rel w0 κ fn.ntmps κ ⟨iB args,σ⟩ {tmps:=vs.toArray++Array.replicate (fn.ntmps-vs.toArray.size) undef,defers:=[]} w:=
  ⟨hrep,AN hfit _,by simp[hfit.1];omega,rfl,K.le_refl κ⟩
 have hfin:∀s κ' a w,Rel w0 κ fn.ntmps κ' s a w->BN r σ.length R s->a.defers=[]/\∃v,(results fn a.tmps).run P w= .ok v w/\∃v' d σ' κ'',Ending.returned v= .returned v'/\R d σ'/\κ.le κ''/\aB w0 κ'' σ' w/\RV κ'' d v':=by
  rintro s0 κ0' a w hR0 ⟨s,hls,vs,h1,hh⟩;obtain⟨κ',hR'⟩:=hls w0 κ fn.ntmps κ0' a w hrep.n hR0;obtain⟨v,k1,k2⟩:=AM hR' dN h1;rcases hh with h|⟨d,τ,h2,h3,h4,h5,h6,h7⟩
  ·exact⟨hR'.defers,v,k1,v,_,s.σ,κ',rfl,h,hR'.le,hR'.cZ,k2⟩
  ·have hcut:=(hR'.cZ.tu h5).cut σ.length (by rw[h5.1];exact h4) h6;exact⟨hR'.defers,v,k1,v,d,τ.take σ.length,κ'.cut σ.length,rfl,h7,K.Ab hR'.le (by rw[hrep.n];exact aA _),hcut,(k2.wk h2).cut h3⟩
 refine wp_mono (lV (n0:=σ.length) hrep.n hm c x ag hW hR) ?_;rintro e a w' ⟨s,κ',hR',hs⟩;cases e with
 |normal=>
  obtain⟨t,hl,hq⟩:=W.AB hs;obtain⟨κ2,hR2⟩:=hl w0 κ fn.ntmps κ' a w' hrep.n hR';exact hfin t κ2 a w' hR2 hq
 |ret=>exact hfin s κ' a w' hR' hs
 |exit id=>obtain⟨k',hp,_⟩:=hs;cases hp
 |goto l=>exact hs.elim
 |panic ch=>exact hs.elim
 |outgrown=>exact hs.elim
def RD(x:ai)(ρ:Env)(σ:H):Option (V×H):=some (x.ev ρ,σ)
def RE(c:ai)(a:ai)(b:ai)(ρ:Env)(σ:H):Option (V×H):=match c.ev ρ with
 | .c (.bool t)=>some (if t then a.ev ρ else b.ev ρ,σ)
 |_=>none
def RF(x:ai)(tg:Option TypeId)(ρ:Env)(σ:H):Option (V×H):=if leaves (x.ev ρ).ah then some (.ptr σ.length 0,σ++[.cells (x.ev ρ).ah tg])else none
def RG(zero:List V)(parts:List (Nat×Nat×ai))(ρ:Env)(σ:H):Option (V×H):=match kV ρ zero parts with
 |some cs=>some (.agg cs,σ)
 |none=>none
def RH(size:Nat)(parts:List ai)(ρ:Env)(σ:H):Option (V×H):=match iW ρ size parts with
 |some rows=>some (.ab rows,σ)
 |none=>none
def RI(x:ai)(ρ:Env)(σ:H):Option (V×H):=match iV σ (x.ev ρ)with
 |some (cs,o)=>match cs[o]? with
  |some u=>some (u,σ)
  |none=>none
 |none=>none
def RJ(n:Nat)(x:ai)(ρ:Env)(σ:H):Option (V×H):=match iV σ (x.ev ρ)with
 |some (cs,o)=>if o+n<=cs.length then some (.agg ((cs.drop o).take n),σ)else none
 |none=>none
def RL(n:Nat)(x:ai)(y:ai)(ρ:Env)(σ:H):Option (V×H):=match x.ev ρ with
 | .ptr b o=>match σ[b]? with
   |some (.cells cs tg)=>if(y.ev ρ).ah.length=n/\o+n<=cs.length/\leaves (y.ev ρ).ah=true then some (.void,σ.set b (.cells (cs.take o++(y.ev ρ).ah++cs.drop (o+n)) tg))else none
   |some (.vec e size cs)=>match fq (y.ev ρ).ah with
    |some ys=>if ys.length=n/\o+n<=cs.length then some (.void,σ.set b (.vec e size (cs.take o++ys++cs.drop (o+n))))else none
    |none=>none
   |_=>none
 |_=>none
def RM(x:ai)(ρ:Env)(σ:H):Option (V×H):=match x.ev ρ with
 | .ptr b o=>some (.ptr b o,σ)
 | .c (.ref cs o)=>some (.c (.ref cs o),σ)
 | .fn f caps=>some (.fn f caps,σ)
 |_=>none
def RN(op:BinOp)(x:ai)(y:ai)(ρ:Env)(σ:H):Option (V×H):=match wB op (x.ev ρ) (y.ev ρ)with
 |some v=>some (v,σ)
 |none=>none
def RO(neg:Bool)(x:ai)(y:ai)(ρ:Env)(σ:H):Option (V×H):=match x.ev ρ,y.ev ρ with
 | .c (.bool p),.c (.bool q)=>some (.c (.bool (if neg then !(p==q)else p==q)),σ)
 |_,_=>none
def RP(neg:Bool)(k:Nat)(x:ai)(ρ:Env)(σ:H):Option (V×H):=match(x.ev ρ).isNil k with
 |some p=>some (.c (.bool (if neg then !p else p)),σ)
 |none=>none
def RQ(neg:Bool)(ks:List Nat)(x:ai)(y:ai)(ρ:Env)(σ:H):Option (V×H):=match x.ev ρ,y.ev ρ with
 | .agg xs,.agg ys=>match kW ks xs ys with
   |some p=>some (.c (.bool (if neg then !p else p)),σ)
   |none=>none
 |_,_=>none
def RR(op:UnOp)(x:ai)(ρ:Env)(σ:H):Option (V×H):=match op,x.ev ρ with
 | .not,.c (.bool b)=>some (.c (.bool (!b)),σ)
 | .neg,.c (.int k n)=>some (.c (.int k (k.wrap (0-n))),σ)
 |_,_=>none
def RS(k:IntKind)(x:ai)(ρ:Env)(σ:H):Option (V×H):=match x.ev ρ with
 | .c (.int _ n)=>some (.c (.int k (k.wrap n)),σ)
 |_=>none
def RT(f:FuncId)(caps:List ai)(ρ:Env)(σ:H):Option (V×H):=some (.fn f (caps.map (·.ev ρ)),σ)
def RU(x:ai)(ρ:Env)(σ:H):Option (V×H):=match x.ev ρ with
 | .c (.str l)=>some (.c (.str l),σ)
 |_=>none
def RW(x:ai)(ρ:Env)(σ:H):Option (V×H):=match(x.ev ρ).rows with
 |some r=>match nV r with
  |some l=>some (.c (.str l),σ)
  |none=>none
 |none=>none
def RX(x:ai)(lo:Option ai)(hi:Option ai)(ρ:Env)(σ:H):Option (V×H):=match x.ev ρ with
 | .c (.str l)=>match gC ρ l.length hi with
   |some h=>match jt ρ h lo with
    |some a=>some (.c (.str ((l.drop a).take (h-a))),σ)
    |none=>none
   |none=>none
 |_=>none
def RY(size:Nat)(x:ai)(lo:Option ai)(hi:Option ai)(mx:Option ai)(ρ:Env)(σ:H):Option (V×H):=match(x.ev ρ).sub lo mx with
 |some (b,k)=>match gC ρ k hi with
  |some h=>some (.vec b h,σ)
  |none=>none
 |none=>match(x.ev ρ).rows with
 |some r=>if∀cs∈r,cs.length=size then match gC ρ r.length hi with
  |some h=>match jt ρ h lo with
   |some a=>match mx with
    |none=>some (.c (.sl ((r.drop a).take (h-a))),σ)
    |some m=>match gC ρ r.length (some m)with
     |some m'=>if m'=h then some (.ab ((r.drop a).take (h-a)),σ)else none
     |none=>none
   |none=>none
  |none=>none else none
 |none=>none
def RZ(off:Nat)(x:ai)(ρ:Env)(σ:H):Option (V×H):=match x.ev ρ with
 | .ptr b o=>some (.ptr b (o+off),σ)
 | .c (.ref cs o)=>some (.c (.ref cs (o+off)),σ)
 |_=>none
def R0(off:Nat)(x:ai)(ρ:Env)(σ:H):Option (V×H):=match x.ev ρ with
 | .agg vs=>match vs[off]? with
   |some u=>some (u,σ)
   |none=>none
 |_=>none
def R1(off:Nat)(n:Nat)(x:ai)(ρ:Env)(σ:H):Option (V×H):=match x.ev ρ with
 | .agg vs=>if off+n<=vs.length then some (.agg ((vs.drop off).take n),σ)else none
 |_=>none
def R2(size:Nat)(x:ai)(i:ai)(ρ:Env)(σ:H):Option (V×H):=match i.ev ρ with
 | .c (.int _ j)=>match x.ev ρ with
   | .vec b k=>if 0<=j/\j<k then some (.ptr b (j.toNat*size),σ)else none
   |u=>match u.rows with
    |some r=>if 0<=j/\j<r.length then match r[j.toNat]? with
      |some cs=>if cs.length=size then some (.c (.ref cs 0),σ)else none
      |none=>none
     else none
    |none=>none
 |_=>none
def R3(x:ai)(i:ai)(ρ:Env)(σ:H):Option (V×H):=match x.ev ρ,i.ev ρ with
 | .c (.str l),.c (.int _ j)=>if 0<=j/\j<l.length then match l[j.toNat]? with
    |some b=>some (.c (.int .u8 b.toNat),σ)
    |none=>none
   else none
 |_,_=>none
def R4(x:ai)(i:Nat)(ρ:Env)(σ:H):Option (V×H):=match x.ev ρ with
 | .av vs=>match vs[i]? with
   |some u=>some (u,σ)
   |none=>none
 |_=>none
def R5(x:ai)(ρ:Env)(σ:H):Option (V×H):=match x.ev ρ with
 | .c (.str l)=>some (.c (.int .i64 l.length),σ)
 |_=>none
def R6(x:ai)(ρ:Env)(σ:H):Option (V×H):=match x.ev ρ with
 | .vec _ k=>some (.c (.int .i64 k),σ)
 |u=>match u.rows with
  |some r=>some (.c (.int .i64 r.length),σ)
  |none=>none
def R7(e:TypeId)(size:Nat)(bytes:Nat)(x:ai)(y:ai)(ρ:Env)(σ:H):Option (V×H):=match(y.ev ρ).rows with
 |some news=>nc e size bytes (x.ev ρ) news σ
 |none=>none
def R8(e:TypeId)(bytes:Nat)(x:ai)(y:ai)(ρ:Env)(σ:H):Option (V×H):=match y.ev ρ with
 | .c (.str l)=>nc e 1 bytes (x.ev ρ) (mZ l) σ
 |_=>none
def R9(x:ai)(y:ai)(ρ:Env)(σ:H):Option (V×H):=match x.ev ρ,y.ev ρ with
 | .c (.int k a),.c (.int _ b)=>some (.c (.int k (if b>a then b else a)),σ)
 |_,_=>none
def Sa(x:ai)(y:ai)(ρ:Env)(σ:H):Option (V×H):=match x.ev ρ,y.ev ρ with
 | .c (.int k a),.c (.int _ b)=>some (.c (.int k (if b<a then b else a)),σ)
 |_,_=>none
def Sb(_:Bool)(_:ai)(ρ:Env)(σ:H):Option (V×H):=none
def Sc(e:TypeId)(bytes:Nat)(z:C)(x:ai)(ρ:Env)(σ:H):Option (V×H):=match x.ev ρ with
 | .c (.int _ n)=>if 0<=n/\bytes*n<=140737488355328/\n<=140737488355328 then some (.vec σ.length n.toNat,σ++[.vec e 1 (List.replicate n.toNat z)])else none
 |_=>none
def Sd(ρ:Env)(σ:H):Option (V×H):=some (.mp σ.length,σ++[.mp []])
def Se(ok:Bool)(q:KD)(z:C)(x:ai)(k:ai)(ρ:Env)(σ:H):Option (V×H):=match x.ev ρ,k.ev ρ with
 | .mp b,.c kc=>match σ[b]? with
   |some (.mp kvs)=>if q.ok kc=true/\(kvs.all fun p=>q.ok p.1)=true then some (nU ok z (iu kc kvs),σ)else none
   |_=>none
 |_,_=>none
def Sf(q:KD)(x:ai)(k:ai)(y:ai)(ρ:Env)(σ:H):Option (V×H):=match x.ev ρ,k.ev ρ,(y.ev ρ).fW with
 | .mp b,.c kc,some vc=>match σ[b]? with
   |some (.mp kvs)=>if q.ok kc=true/\(kvs.all fun p=>q.ok p.1)=true then some (.void,σ.set b (.mp (iv kc vc kvs)))else none
   |_=>none
 |_,_,_=>none
def Sh(x:ai)(ρ:Env)(σ:H):Option (V×H):=match x.ev ρ with
 | .mp b=>match σ[b]? with
   |some (.mp kvs)=>some (.c (.int .i64 kvs.length),σ)
   |_=>none
 |_=>none
def Si(_:ai)(_:List ai)(ρ:Env)(σ:H):Option (V×H):=none
def Sj(ρ:Env)(σ:H):Option (V×H):=none
def xQ(i:bh):Env->H->Option (V×H):=match i with
 | .af a0=>RD a0
 | .pick a0 a1 a2=>RE a0 a1 a2
 | .box a0 a1=>RF a0 a1
 | .build a0 a1=>RG a0 a1
 | .bn a0 a1=>RH a0 a1
 | .aU a0=>RI a0
 | .eJ a0 a1=>RJ a0 a1
 | .store a0 a1 a2=>RL a0 a1 a2
 | .gO a0=>RM a0
 | .bin a0 a1 a2=>RN a0 a1 a2
 | .o4 a0 a1 a2=>RO a0 a1 a2
 | .lQ a0 a1 a2=>RP a0 a1 a2
 | .eqs a0 a1 a2 a3=>RQ a0 a1 a2 a3
 | .un a0 a1=>RR a0 a1
 | .conv a0 a1=>RS a0 a1
 | .gB a0 a1=>RT a0 a1
 | .qJ a0=>RU a0
 | .sT a0=>RW a0
 | .qK a0 a1 a2=>RX a0 a1 a2
 | .jq a0 a1 a2 a3 a4=>RY a0 a1 a2 a3 a4
 | .aX a0 a1=>RZ a0 a1
 | .jr a0 a1=>R0 a0 a1
 | .sU a0 a1 a2=>R1 a0 a1 a2
 | .aI a0 a1 a2=>R2 a0 a1 a2
 | .index a0 a1=>R3 a0 a1
 | .ext a0 a1=>R4 a0 a1
 | .lens a0=>R5 a0
 | .aO a0=>R6 a0
 | .app a0 a1 a2 a3 a4=>R7 a0 a1 a2 a3 a4
 | .lR a0 a1 a2 a3=>R8 a0 a1 a2 a3
 | .mx a0 a1=>R9 a0 a1
 | .mn a0 a1=>Sa a0 a1
 | .iw a0 a1=>Sb a0 a1
 | .kT=>Sd
 | .kU a0 a1 a2 a3=>Sc a0 a1 a2 a3
 | .look a0 a1 a2 a3 a4=>Se a0 a1 a2 a3 a4
 | .j0 a0 a1 a2 a3=>Sf a0 a1 a2 a3
 | .o5 a0=>Sh a0
 | .call a0 a1=>Si a0 a1
 | .bad=>Sj
theorem xR(ρ:Env)(σ:H)(i:bh):xQ i ρ σ=step ρ σ i:=by cases i<;>rfl
section
variable {α:Type}
def bh.BO:bh->Bool
 | .af _| .pick ..| .aU _| .gO _| .jr ..| .ext ..| .qJ _=>true
 |_=>false
def bh.callParts:bh->Option (ai×List ai)
 | .call f l=>some (f,l)
 |_=>none
theorem xS{i:bh}{f:ai}{l:List ai}(h:i.callParts=some (f,l)):i= .call f l:=by
 cases i<;>first|(cases h;done)|(injection h with h;injection h with h1 h2;subst h1 h2;rfl)
def tZ(ρ:Env)(σ:H)(i:bh):Option (V×H):=match i with
 | .app e size bytes x y=>match x.ev ρ with
   | .ab olds=>match(y.ev ρ).rows with
     |some news=>bif !news.isEmpty&&((olds.all fun r=>ca r.length size)&&((news.all fun r=>ca r.length size)&&(dk ((olds.length+news.length)*bytes) 140737488355328&&dk (olds.length+news.length) 140737488355328)))
       then some (.vec σ.length (olds.length+news.length),σ++[.vec e size (olds++news).flatten])else none
     |none=>none
   |_=>none
 |_=>none
theorem HN{ρ:Env}{σ:H}{i:bh}{v:V}{σ':H}(h:tZ ρ σ i=some (v,σ')):∃e size bytes x y olds news,i= .app e size bytes x y/\x.ev ρ= .ab olds/\(y.ev ρ).rows=some news/\
  (news≠[]/\(∀r∈olds,r.length=size)/\(∀r∈news,r.length=size)/\(olds.length+news.length)*bytes<=140737488355328/\olds.length+news.length<=140737488355328)/\v= .vec σ.length (olds.length+news.length)/\σ'=σ++[.vec e size (olds++news).flatten]:=by
 unfold tZ at h;split at h
 ·rename_i e size bytes x y;split at h
  ·rename_i olds hx;split at h
   ·rename_i news hy;cases hc:(!news.isEmpty&&((olds.all fun r=>ca r.length size)&&((news.all fun r=>ca r.length size)&&(dk ((olds.length+news.length)*bytes) 140737488355328&&dk (olds.length+news.length) 140737488355328))))with
    |false=>rw[hc]at h;cases h
    |true=>
     rw[hc]at h;injection h with h;injection h with h1 h2;simp only[bz,cL]at hc;obtain⟨c1,c2,c3,c4,c5⟩:=hc;exact⟨e,size,bytes,x,y,olds,news,rfl,hx,hy,⟨(by intro hn;subst hn;cases c1),fun r hr=>fo (c2 r hr),fun r hr=>fo (c3 r hr),eI c4,eI c5⟩,h1.symm,h2.symm⟩
   ·cases h
  ·cases h
 ·cases h
def BP(q e:Bool)(j:Nat)(v:V)(σ σ':H)(k:V->H->Option α):Option α:=
 cond q (cond e (nw v fun v=>k v σ) (nz v fun v=>k v σ)) (nz v fun v=>Hs σ' j fun σ'=>k v σ')
def xT:V->Option Nat
 | .ptr b _=>some b
 | .aF b _=>some b
 | .mp b=>some b
 |_=>none
def bh.turns(ρ:Env)(σ:H):bh->Nat
 | .store _ x _=>(xT (x.ev ρ)).getD σ.length
 | .j0 _ x _ _=>(xT (x.ev ρ)).getD σ.length
 | .app _ _ _ x _=>(xT (x.ev ρ)).getD σ.length
 | .lR _ _ x _=>(xT (x.ev ρ)).getD σ.length
 |_=>σ.length
def pP(ρ:Env)(σ:H)(i:bh)(k:V->H->Option α):Option α:=
 match xQ i ρ σ with
 |none=>none
 |some p=>match p with
  |(v,σ')=>BP i.quiet i.BO (i.turns ρ σ) v σ σ' k
theorem xU{ρ:Env}{σ:H}{i:bh}{k:V->H->Option α}{b:α}(h:pP ρ σ i k=some b):∃v σ',step ρ σ i=some (v,σ')/\k v σ'=some b:=by
 unfold pP at h;rw[xR]at h;cases hs:step ρ σ i with
 |none=>rw[hs]at h;cases h
 |some p=>
  obtain⟨v,σ'⟩:=p;rw[hs]at h;refine⟨v,σ',rfl,?_⟩;simp only at h;unfold BP at h;cases hq:i.quiet
  ·simp only[hq,cond_false,pG,Ht]at h;exact h
  ·rw[quiet_step hq hs];simp only[hq,cond_true]at h;cases he:i.BO
   ·simp only[he,cond_false,pG]at h;exact h
   ·simp only[he,cond_true,xC]at h;exact h
def iH(t:TR)(d:Option Nat)(v:V)(k:TR->Option α):Option α:=match d with
 |none=>k t
 |some d=>t.ou d v k
theorem jJ{t:TR}{d:Option Nat}{v:V}{k:TR->Option α}{b:α}(h:iH t d v k=some b):∃t':TR,k t'=some b/\t'.get=Env.put t.get d v:=by
 cases d with
 |none=>exact⟨t,h,rfl⟩
 |some d=>
  obtain⟨t',h1,h2⟩:=TR.xF h;exact⟨t',h1,funext fun j=>h2 j⟩
def xV(ρ:Env)(l:List ai):(List V->Option α)->Option α:=List.rec (motive:=fun _=>(List V->Option α)->Option α) (fun k=>k []) (fun o _ ih k=>nw (o.ev ρ) fun v=>ih fun r=>k (v::r)) l
theorem Sk(ρ:Env)(o:ai)(l:List ai)(k:List V->Option α):xV ρ (o::l) k=nw (o.ev ρ) fun v=>xV ρ l fun r=>k (v::r):=rfl
theorem HQ(ρ:Env):∀(l:List ai) (k:List V->Option α),xV ρ l k=k (l.map (·.ev ρ))
 |[],k=>rfl
 |o::l,k=>by simp only[Sk,xC,HQ ρ l,cE]
def HU:V->Option (FuncId×List V)
 | .fn f l=>some (f,l)
 |_=>none
theorem Sl{v:V}{f:FuncId}{l:List V}(h:HU v=some (f,l)):v= .fn f l:=by
 cases v<;>first|(cases h;done)|(injection h with h;injection h with h1 h2;subst h1 h2;rfl)
end
abbrev dD:=FuncId->List V->H->Option (V×H)
def dD.Ok(P:Program)(w0:World)(call:dD):Prop:=∀f args σ v σ',call f args σ=some (v,σ')->DC P w0 f args σ (Same v σ')
section
variable {α:Type} {P:Program} {w0:World} {call:dD}
def rA(call:dD)(ρ:Env)(σ:H)(f:ai)(l:List ai)(k:FuncId->List V->V->H->Option α):Option α:=match HU (f.ev ρ)with
 |none=>none
 |some p=>match p with
  |(fid,caps)=>xV ρ l fun l=>match call fid (l++caps) σ with
   |none=>none
   |some p=>match p with
    |(v,σ')=>k fid (l++caps) v σ'
theorem xW{ρ:Env}{σ:H}{f:ai}{l:List ai}{k:FuncId->List V->V->H->Option α}{b:α}(h:rA call ρ σ f l k=some b):∃fid caps v σ',f.ev ρ= .fn fid caps/\call fid (l.map (·.ev ρ)++caps) σ=some (v,σ')/\k fid (l.map (·.ev ρ)++caps) v σ'=some b:=by
 unfold rA at h;split at h
 ·cases h
 ·rename_i p hp;obtain⟨fid,caps⟩:=p;simp only[HQ]at h;split at h
  ·cases h
  ·rename_i p hc;obtain⟨v,σ'⟩:=p;exact⟨fid,caps,v,σ',Sl hp,hc,h⟩
def HW(call:dD)(σ:H)(o:aj)(ih:TR->(TR->Option α)->Option α)(t:TR)(k:TR->Option α)(f:ai)(l:List ai):Option α:=
 rA call t.get σ f l fun _ _ v σ'=>cond (kq σ' σ) (iH t o.dst v fun t=>ih t k) none
def HX(σ:H)(o:aj)(ih:TR->(TR->Option α)->Option α)(t:TR)(k:TR->Option α):Option α:=
 cond o.ins.quiet (pP t.get σ o.ins fun v _=>iH t o.dst v fun t=>ih t k) none
def HY(call:dD)(σ:H)(o:aj)(ih:TR->(TR->Option α)->Option α)(t:TR)(k:TR->Option α):Option α:=match o.ins.callParts with
 |none=>HX σ o ih t k
 |some p=>match p with
  |(f,l)=>HW call σ o ih t k f l
def BQ(call:dD)(σ:H)(o:aj)(ih:TR->(TR->Option α)->Option α)(t:TR)(k:TR->Option α):Option α:=match bU t.get o.guard with
 |none=>none
 |some b=>match b with
  |false=>iH t o.dst .void fun t=>ih t k
  |true=>HY call σ o ih t k
def xX(call:dD)(σ:H)(l:List aj):TR->(TR->Option α)->Option α:=List.rec (motive:=fun _=>TR->(TR->Option α)->Option α) (fun t k=>k t) (fun o _ ih=>BQ call σ o ih) l
theorem Sm(σ:H)(o:aj)(l:List aj)(t:TR)(k:TR->Option α):xX call σ (o::l) t k=BQ call σ o (xX call σ l) t k:=rfl
theorem xY(hc:dD.Ok P w0 call){σ:H}{b:α}:∀{l:List aj} {t:TR} {k:TR->Option α},xX call σ l t k=some b->∃t',k t'=some b/\Canon P w0 σ l t.get t'.get
 |[],t,k,h=>⟨t,h,.nil⟩
 |o::l,t,k,h=>by
  rw[Sm]at h;unfold BQ at h;split at h
  ·cases h
  ·rename_i b' hg;cases b' with
   |false=>
    obtain⟨t1,h1,h2⟩:=jJ h;obtain⟨t',h3,h4⟩:=xY hc h1;refine⟨t',h3,.cons (.skip hg) ?_⟩;rw[<-h2];exact h4
   |true=>
    simp only at h;unfold HY at h;split at h
    ·unfold HX at h;cases hq:o.ins.quiet with
     |false=>rw[hq]at h;cases h
     |true=>
      rw[hq]at h;simp only[cond_true]at h;obtain⟨v,σ',h0,h00⟩:=xU h;have:=quiet_step hq h0;subst this;obtain⟨t1,h1,h2⟩:=jJ h00;obtain⟨t',h3,h4⟩:=xY hc h1;refine⟨t',h3,.cons (.step hg h0) ?_⟩;rw[<-h2];exact h4
    ·rename_i p hp;obtain⟨f,l'⟩:=p;have hi:=xS hp;simp only at h;unfold HW at h;obtain⟨fid,caps,v,σ',hf,hcl,hk⟩:=xW h;cases he:kq σ' σ with
     |false=>rw[he]at hk;cases hk
     |true=>
      rw[he]at hk;simp only[cond_true]at hk;have e:=pF he;subst e;obtain⟨t1,h1,h2⟩:=jJ hk;obtain⟨t',h3,h4⟩:=xY hc h1;refine⟨t',h3,.cons (.call hg hi hf (hc _ _ _ _ _ hcl)) ?_⟩;rw[<-h2];exact h4
def ua(ρ:Env)(i:bh)(v:V):List H->Bool
 |[]=>true
 |τ::l=>match xQ i ρ τ with
  |none=>false
  |some (u,τ')=>gh u v&&(kq τ' τ&&ua ρ i v l)
theorem HZ{ρ:Env}{i:bh}{v:V}:∀{l:List H},ua ρ i v l=true->∀τ∈l,step ρ τ i=some (v,τ)
 |[],_,τ,hτ=>by cases hτ
 |x::l,h,τ,hτ=>by
  unfold ua at h;rw[xR]at h;split at h
  ·cases h
  ·rename_i u τ' hs;simp only[bz]at h;rcases cD.1 hτ with rfl|hτ
   ·rw[hs,xz h.1,pF h.2.1]
   ·exact HZ h.2.2 τ hτ
def ub(call:dD)(f:FuncId)(args:List V)(v:V):List H->Bool
 |[]=>true
 |τ::l=>match call f args τ with
  |none=>false
  |some (u,τ')=>gh u v&&(kq τ' τ&&ub call f args v l)
theorem H2{f:FuncId}{args:List V}{v:V}:∀{l:List H},ub call f args v l=true->∀τ∈l,call f args τ=some (v,τ)
 |[],_,τ,hτ=>by cases hτ
 |x::l,h,τ,hτ=>by
  unfold ub at h;split at h
  ·cases h
  ·rename_i u τ' hs;simp only[bz]at h;rcases cD.1 hτ with rfl|hτ
   ·rw[hs,xz h.1,pF h.2.1]
   ·exact H2 h.2.2 τ hτ
abbrev rB(α:Type):=TR->H->List H->(TR->H->Option α)->Option α
def H3(vm:Bool)(o:aj)(ih:rB α)(t:TR)(σ:H)(past:List H)(k:TR->H->Option α):Option α:=match cond vm (tZ t.get σ o.ins) none with
 |none=>pP t.get σ o.ins fun v σ'=>iH t o.dst v fun t=>ih t σ' (σ::past) k
 |some p=>match p with
  |(v,σ')=>nz v fun v=>fH σ' fun σ'=>iH t o.dst v fun t=>ih t σ' (σ::past) k
def H4(vm:Bool)(call:dD)(o:aj)(ih:rB α)(t:TR)(σ:H)(past:List H)(k:TR->H->Option α):Option α:=match o.ins.callParts with
 |none=>H3 vm o ih t σ past k
 |some p=>match p with
  |(f,l)=>rA call t.get σ f l fun _ _ v σ'=>iH t o.dst v fun t=>ih t σ' (σ::past) k
def H5(call:dD)(o:aj)(lo:Nat)(ih:rB α)(t:TR)(σ:H)(past:List H)(k:TR->H->Option α):Option α:=match o.ins.callParts with
 |none=>cond o.ins.quiet (pP t.get σ o.ins fun v _=>cond (o.ins.pure||ua t.get o.ins v (past.take (past.length-lo))) (iH t o.dst v fun t=>ih t σ past k) none) none
 |some p=>match p with
  |(f,l)=>rA call t.get σ f l fun fid args v σ'=>cond (kq σ' σ&&ub call fid args v (past.take (past.length-lo))) (iH t o.dst v fun t=>ih t σ past k) none
def BR(vm:Bool)(call:dD)(e:cA)(ih:rB α)(t:TR)(σ:H)(past:List H)(k:TR->H->Option α):Option α:=match e with
 |⟨o,bK,lo⟩=>match bU t.get o.guard with
  |none=>none
  |some b=>match b with
   |false=>iH t o.dst .void fun t=>ih t σ (cond bK (σ::past) past) k
   |true=>cond bK (H4 vm call o ih t σ past k) (H5 call o lo ih t σ past k)
def xZ(vm:Bool)(call:dD)(l:List cA):rB α:=List.rec (motive:=fun _=>rB α) (fun t σ _ k=>k t σ) (fun e _ ih=>BR vm call e ih) l
theorem Sn(vm:Bool)(e:cA)(l:List cA)(t:TR)(σ:H)(past:List H)(k:TR->H->Option α):xZ vm call (e::l) t σ past k=BR vm call e (xZ vm call l) t σ past k:=rfl
theorem pR(vm:Bool)(hc:dD.Ok P w0 call){b:α}:∀{l:List cA} {t:TR} {σ:H} {past:List H} {k:TR->H->Option α},xZ vm call l t σ past k=some b->∃t' σ' past',k t' σ'=some b/\ae P w0 l t.get σ past t'.get σ' past'
 |[],t,σ,past,k,h=>⟨t,σ,past,h,.nil⟩
 |⟨o,bK,lo⟩::l,t,σ,past,k,h=>by
  rw[Sn]at h;unfold BR at h;simp only at h;split at h
  ·cases h
  ·rename_i b' hg;cases b' with
   |false=>
    simp only at h;obtain⟨t1,h1,h2⟩:=jJ h;obtain⟨t',σ',past',h3,h4⟩:=pR vm hc h1;refine⟨t',σ',past',h3,?_⟩;rw[h2]at h4;cases bK
    ·exact .quiet (.skip hg) (fun τ _=>.skip hg) h4
    ·exact .bK (.skip hg) h4
   |true=>
    cases bK with
    |true=>
     simp only[cond_true]at h;unfold H4 at h;split at h
     ·unfold H3 at h;split at h
      ·obtain⟨v,σ',h0,h00⟩:=xU h;obtain⟨t1,h1,h2⟩:=jJ h00;obtain⟨t',σ1,past',h3,h4⟩:=pR vm hc h1;refine⟨t',σ1,past',h3,.bK (.step hg h0) ?_⟩;rw[<-h2];exact h4
      ·rename_i p hp;obtain⟨v,σ'⟩:=p;have hp:tZ t.get σ o.ins=some (v,σ'):=by
        cases vm with
        |false=>cases hp
        |true=>exact hp
       obtain⟨e,size,bytes,x,y,olds,news,e1,e2,e3,e4,e5,e6⟩:=HN hp;subst e5 e6;simp only[pG,xE]at h;obtain⟨t1,h1,h2⟩:=jJ h;obtain⟨t',σ1,past',h3,h4⟩:=pR vm hc h1;refine⟨t',σ1,past',h3,.bK (.vec hg e1 e2 e3 e4) ?_⟩;rw[<-h2];exact h4
     ·rename_i p hp;obtain⟨f,l'⟩:=p;have hi:=xS hp;simp only at h;obtain⟨fid,caps,v,σ',hf,hcl,hk⟩:=xW h;obtain⟨t1,h1,h2⟩:=jJ hk;obtain⟨t',σ1,past',h3,h4⟩:=pR vm hc h1;refine⟨t',σ1,past',h3,.bK (.call hg hi hf (hc _ _ _ _ _ hcl)) ?_⟩;rw[<-h2];exact h4
    |false=>
     simp only[cond_false]at h;unfold H5 at h;split at h
     ·cases hq:o.ins.quiet with
      |false=>rw[hq]at h;cases h
      |true=>
       rw[hq]at h;simp only[cond_true]at h;obtain⟨v,σ',h0,h00⟩:=xU h;have:=quiet_step hq h0;subst this;cases he:(o.ins.pure||ua t.get o.ins v (past.take (past.length-lo)))with
       |false=>rw[he]at h00;cases h00
       |true=>
        rw[he]at h00;simp only[cond_true]at h00;obtain⟨t1,h1,h2⟩:=jJ h00;obtain⟨t',σ1,past',h3,h4⟩:=pR vm hc h1;refine⟨t',σ1,past',h3,.quiet (.step hg h0) (fun τ hτ=>?_) ?_⟩
        ·simp only[Bool.or_eq_true]at he;rcases he with he|he
         ·exact .step hg (P9 he h0)
         ·exact .step hg (HZ he τ hτ)
        ·rw[<-h2];exact h4
     ·rename_i p hp;obtain⟨f,l'⟩:=p;have hi:=xS hp;simp only at h;obtain⟨fid,caps,v,σ',hf,hcl,hk⟩:=xW h;cases he:(kq σ' σ&&ub call fid (l'.map (·.ev t.get)++caps) v (past.take (past.length-lo)))with
      |false=>rw[he]at hk;cases hk
      |true=>
       rw[he]at hk;simp only[cond_true]at hk;simp only[bz]at he;have e:=pF he.1;subst e;obtain⟨t1,h1,h2⟩:=jJ hk;obtain⟨t',σ1,past',h3,h4⟩:=pR vm hc h1;refine⟨t',σ1,past',h3,.quiet (.call hg hi hf (hc _ _ _ _ _ hcl)) (fun τ hτ=>.call hg hi hf (hc _ _ _ _ _ (H2 he.2 τ hτ))) ?_⟩;rw[<-h2];exact h4
end
def BS:List aj->Bool
 |[]=>true
 |o::l=>(match o.ins with| .call ..=>true|i=>i.quiet)&&BS l
structure CE where
 x:AC
 r:List aw
 n:Nat
 d:Nat
inductive CT where
 |e
 |n (f:FuncId) (c:CE) (l r:CT)
def CT.get(t:CT)(f:FuncId):Option CE:=CT.rec (motive:=fun _=>Option CE) none (fun g c _ _ gl gr=>cond (ca f g) (some c) (cond (lL f g) gl gr)) t
def H6(P:Program)(f:FuncId)(c:CE):Prop:=∃fn,az P f c.n fn c.x c.r
def CT.Ok(P:Program):CT->Prop
 | .e=>True
 | .n f c l r=>H6 P f c/\CT.Ok P l/\CT.Ok P r
theorem CT.BU{P:Program}{f:FuncId}{c:CE}:∀{t:CT},CT.Ok P t->t.get f=some c->H6 P f c
 | .e,_,h=>by cases h
 | .n g c' l r,hk,h=>by
   have h':cond (ca f g) (some c') (cond (lL f g) (l.get f) (r.get f))=some c:=h;cases hb:ca f g with
   |true=>
    rw[hb]at h';injection h' with h';subst h';have:=fo hb;subst this;exact hk.1
   |false=>
    rw[hb]at h';cases hl:lL f g with
    |true=>rw[hl]at h';exact CT.BU hk.2.1 h'
    |false=>rw[hl]at h';exact CT.BU hk.2.2 h'
structure XP where
 P:Program
 ext:dD
 code:CT
 gG:FuncId->Bool
 vec:FuncId->Bool
structure XP.Ok (X:XP) (w0:World):Prop where
 ext:dD.Ok X.P w0 X.ext
 code:CT.Ok X.P X.code
def x7(i:Nat)(l:List V):TR->(TR->Option XS)->Option XS:=List.rec (motive:=fun _=>Nat->TR->(TR->Option XS)->Option XS) (fun _ t k=>k t) (fun v _ ih i t k=>t.ou i v fun t=>ih (Nat.succ i) t k) l i
theorem So(i:Nat)(v:V)(l:List V)(t:TR)(k:TR->Option XS):x7 i (v::l) t k=t.ou i v fun t=>x7 (i+1) l t k:=rfl
def H7(r:List aw)(n0:Nat)(gG:Bool)(s:XS)(vs:List V):Option (V×H):=
 cond gG (ru (ak vs) fun d=>some (d,s.σ))
  (ru (xL n0 (ak vs)) fun d=>fS (s.σ.take n0) fun τ=>cond (ov 5 n0 d&&(dk n0 s.σ.length&&τ.all (BK n0))) (some (d,τ)) (ru (ak vs) fun d=>some (d,s.σ)))
def BV(gG:Bool)(r:List aw)(n0:Nat)(s0:XS):Option (V×H):=match xP (cond gG [] (tY n0 (s0.σ.drop n0))) s0 with
 |s=>match br s.st r with
  |none=>none
  |some vs=>H7 r n0 gG s vs
def BW(gG:Bool)(n0:Nat)(r:Option (V×H)):Option (V×H):=cond gG (match r with
 |none=>none
 |some p=>match p with
  |(d,σ)=>match BH n0 d σ with
   |none=>some (d,σ)
   |some q=>match q with
    |(d,τ)=>ru d fun d=>fH τ fun τ=>some (d,τ)) r
theorem Sp{P:Program}{w0:World}{f:FuncId}{args:List V}{σ:H}{gG:Bool}{r:Option (V×H)}(hr:∀d σ',r=some (d,σ')->DC P w0 f args σ (Same d σ')){v:V}{σ':H}(h:BW gG σ.length r=some (v,σ')):DC P w0 f args σ (Same v σ'):=by
 unfold BW at h;cases gG with
 |false=>exact hr _ _ h
 |true=>
  simp only[cond_true]at h;split at h
  ·cases h
  ·rename_i p;obtain⟨d,σ1⟩:=p;simp only at h;split at h
   ·injection h with h;injection h with h1 h2;subst h1 h2;exact hr _ _ rfl
   ·rename_i q hq;obtain⟨d',τ⟩:=q;simp only[Hq,xE]at h;injection h with h;injection h with h1 h2;subst h1 h2;exact Rw (hr _ _ rfl) hq
def H8(X:XP)(ex:List It->XS->Option XS)(f:FuncId)(c:CE)(args:List V)(σ:H):Option (V×H):=
 cond (ca args.length c.n) (match x7 0 args (TR.full c.d) fun t=>fB (X.vec f) fun v=>ex [.code c.x] ⟨t,σ,v⟩with
  |none=>none
  |some s=>BW (X.gG f) σ.length (BV (X.gG f) c.r σ.length s)) none
def pS(X:XP)(ex:List It->XS->Option XS):dD:=fun f args σ=>match X.ext f args σ with
 |some r=>some r
 |none=>match X.code.get f with
  |none=>none
  |some c=>H8 X ex f c args σ
def bh.Sq:bh->List Nat
 | .app _ _ _ x y=>y.tmps++x.tmps
 |i=>i.looks
def H9(ex:List It->XS->Option XS)(o:aj)(l:List aj)(k:List It)(s:XS):Option XS:=match o.ins.Sq.flatMap fun d=>RA (s.t.get d)with
 |[]=>none
 |b::_=>match pO s b with
  |s'=>fT s'.t fun t=>fH s'.σ fun σ=>ex (.ops (o::l)::k) ⟨t,σ,s.v⟩
def x9(ex:List It->XS->Option XS)(o:aj)(l:List aj)(k:List It)(s:XS):Option XS:=match xQ o.ins s.t.get s.σ with
 |none=>H9 ex o l k s
 |some p=>match p with
  |(v,σ')=>BP o.ins.quiet o.ins.BO (o.ins.turns s.t.get s.σ) v s.σ σ' fun v σ'=>iH s.t o.dst v fun t=>fB s.v fun v=>ex (.ops l::k) ⟨t,σ',v⟩
def Ia(ex:List It->XS->Option XS)(o:aj)(l:List aj)(k:List It)(s:XS):Option XS:=match tZ s.t.get s.σ o.ins with
 |none=>x9 ex o l k s
 |some p=>match p with
  |(v,σ')=>nz v fun v=>fH σ' fun σ'=>iH s.t o.dst v fun t=>fB s.v fun v=>ex (.ops l::k) ⟨t,σ',v⟩
def BX(X:XP)(ex:List It->XS->Option XS)(o:aj)(l:List aj)(k:List It)(s:XS):Option XS:=match o.ins.callParts with
 |none=>cond s.v (Ia ex o l k s) (x9 ex o l k s)
 |some p=>match p with
  |(f,as_)=>rA (pS X ex) s.t.get s.σ f as_ fun _ _ v σ'=>iH s.t o.dst v fun t=>fB s.v fun v=>ex (.ops l::k) ⟨t,σ',v⟩
def BY(X:XP)(ex:List It->XS->Option XS)(o:aj)(l:List aj)(k:List It)(s:XS):Option XS:=match bU s.t.get o.guard with
 |none=>none
 |some b=>match b with
  |false=>iH s.t o.dst .void fun t=>fB s.v fun v=>ex (.ops l::k) ⟨t,s.σ,v⟩
  |true=>BX X ex o l k s
def BZ(X:XP)(ex:List It->XS->Option XS)(l:List aj)(k:List It)(s:XS):Option XS:=match l with
 |[]=>ex k s
 |o::l=>BY X ex o l k s
def Ib:V->Option Bool
 | .c x=>match x with
   | .bool b=>some b
   |_=>none
 |_=>none
theorem Sr{v:V}{b:Bool}(h:Ib v=some b):v= .c (.bool b):=by
 cases v<;>first|(cases h;done)|skip
 rename_i x;cases x<;>first|(cases h;done)|(injection h with h;subst h;rfl)
def B0(ex:List It->XS->Option XS)(c:ai)(x y:AC)(k:List It)(s:XS):Option XS:=match Ib (c.ev s.t.get)with
 |none=>none
 |some b=>cond b (ex (.code x::k) s) (ex (.code y::k) s)
def B1(ex:List It->XS->Option XS)(id:Nat)(k:List It)(s:XS):Option XS:=match iA id k with
 |none=>none
 |some k'=>ex k' s
def B2(X:XP)(ex:List It->XS->Option XS)(l:List aj)(e:List cA)(k:List It)(s:XS):Option XS:=
 cond (BS l&&e.isEmpty) (xX (pS X ex) s.σ l s.t fun t=>fB s.v fun v=>ex k ⟨t,s.σ,v⟩) (match e with
  |[]=>none
  |o::e=>xZ s.v (pS X ex) (o::e) s.t s.σ [] fun t σ=>fB s.v fun v=>ex k ⟨t,σ,v⟩)
def Ss(X:XP)(ex:List It->XS->Option XS)(c:AC)(k:List It)(s:XS):Option XS:=match c with
 | .skip=>ex k s
 | .aG l=>BZ X ex l k s
 | .seq a b=>ex (.code a:: .code b::k) s
 | .block id c=>ex (.code c:: .fF id::k) s
 | .exit id=>B1 ex id k s
 | .cond c x y=>B0 ex c x y k s
 | .loop c=>ex (.code c:: .code (.loop c)::k) s
 | .ret=>some s
 | .ft l e=>B2 X ex l e k s
 | .bad=>none
def Su(X:XP)(ex:List It->XS->Option XS)(it:It)(k:List It)(s:XS):Option XS:=match it with
 | .code c=>Ss X ex c k s
 | .fF _=>ex k s
 | .inv _=>none
 | .ops l=>BZ X ex l k s
def Ic(X:XP)(ex:List It->XS->Option XS)(k:List It)(s:XS):Option XS:=match k with
 |[]=>some s
 |it::k=>Su X ex it k s
def exec(X:XP)(n:Nat):List It->XS->Option XS:=Nat.rec (motive:=fun _=>List It->XS->Option XS) (fun _ _=>none) (fun _ ex=>Ic X ex) n
theorem Sv(X:XP)(n:Nat)(k:List It)(s:XS):exec X (n+1) k s=Ic X (exec X n) k s:=rfl
inductive Rl (X:XP) (s':XS) (n:Nat):List It->List It->Prop where
 |nil:Rl X s' n [] []
 |cons (it:It) {k k2:List It} (h:Rl X s' n k k2):Rl X s' n (it::k) (it::k2)
 |inv (c:AC) (I:St->Prop) {k k2:List It} (h:Rl X s' n k k2) (hI:∀j,j<=n->∀s,exec X j (.code (.loop c)::k) s=some s'->I s.st):Rl X s' n (.code (.loop c)::k) (.inv I::k2)
theorem Rl.less{X:XP}{s':XS}{n m:Nat}(hm:m<=n){k k2:List It}(h:Rl X s' n k k2):Rl X s' m k k2:=by
 induction h with
 |nil=>exact .nil
 |cons it _ ih=>exact .cons it ih
 |inv c I _ hI ih=>exact .inv c I ih fun j hj=>hI j (by omega)
theorem Rl.refl{X:XP}{s':XS}{n:Nat}:∀(k:List It),Rl X s' n k k
 |[]=>.nil
 |it::k=>.cons it (Rl.refl k)
theorem Rl.pop{X:XP}{s':XS}{n:Nat}{id:Nat}{k k2:List It}(h:Rl X s' n k k2):∀{k':List It},iA id k=some k'->∃k2',iA id k2=some k2'/\Rl X s' n k' k2':=by
 induction h with
 |nil=>intro k' h;cases h
 |cons it h ih=>
  rename_i k k2;intro k' hp;cases it with
  |fF j=>
   simp only[iA]at hp⊢;by_cases hj:j=id
   ·rw[if_pos hj]at hp⊢;injection hp with hp;subst hp;exact⟨k2,rfl,h⟩
   ·rw[if_neg hj]at hp⊢;exact ih hp
  |code c=>exact ih hp
  |ops l=>exact ih hp
  |inv I=>exact ih hp
 |inv c I h hI ih=>intro k' hp;exact ih hp
section
variable {X:XP} {w0:World}
theorem Ie{b:XS}:∀{l:List V} {i:Nat} {t:TR} {k:TR->Option XS},x7 i l t k=some b->∃t',k t'=some b/\∀j,t'.get j=if i<=j/\j<i+l.length then l.getD (j-i) .void else t.get j
 |[],i,t,k,h=>⟨t,h,fun j=>by rw[if_neg (by simp)]⟩
 |v::l,i,t,k,h=>by
  rw[So]at h;obtain⟨t1,h1,h2⟩:=TR.xF h;obtain⟨t',h3,h4⟩:=Ie h1;refine⟨t',h3,fun j=>?_⟩;rw[h4,h2];simp only[List.length_cons];by_cases hj:j=i
  ·subst hj;rw[if_neg (by omega),if_pos rfl,if_pos (by omega),ck];rfl
  ·rw[if_neg hj];by_cases hj2:i+1<=j/\j<i+1+l.length
   ·rw[if_pos hj2,if_pos (by omega),show j-i=(j-(i+1))+1 from by omega];rfl
   ·rw[if_neg hj2,if_neg (by omega)]
theorem Sw{gG:Bool}{r:List aw}{n0:Nat}{s0:XS}{v:V}{σ':H}(h:BV gG r n0 s0=some (v,σ')):BN r n0 (Same v σ') s0.st:=by
 unfold BV at h;refine⟨_,HJ (cond gG [] (tY n0 (s0.σ.drop n0))) s0,?_⟩;generalize xP (cond gG [] (tY n0 (s0.σ.drop n0))) s0=s at h⊢;simp only at h;cases hr:br s.st r with
 |none=>rw[hr]at h;cases h
 |some vs=>
  rw[hr]at h;simp only[H7,Hq,Rq]at h;refine⟨vs,hr,?_⟩;cases gG with
  |true=>
   simp only[cond_true]at h;injection h with h;injection h with h1 h2;exact .inl ⟨h1,h2⟩
  |false=>
   simp only[cond_false]at h;cases hb:(ov 5 n0 (xL n0 (ak vs))&&(dk n0 s.σ.length&&(s.σ.take n0).all (BK n0)))with
   |false=>
    rw[hb]at h;injection h with h;injection h with h1 h2;exact .inl ⟨h1,h2⟩
   |true=>
    rw[hb]at h;injection h with h;injection h with h1 h2;simp only[bz]at hb;have hn:n0<=s.σ.length:=eI hb.2.1;exact .inr ⟨_,s.σ,Rx n0 _,tW hb.1,hn,H.wZ _,Ry (by simp[hn]) hb.2.2,h1,h2⟩
theorem If(hX:X.Ok w0){ex:List It->XS->Option XS}(hex:∀k s s' n0 Q,ex k s=some s'->Q s'.st->W X.P w0 n0 Q k s.st):dD.Ok X.P w0 (pS X ex):=by
 intro f args σ v σ' h;unfold pS at h;cases he:X.ext f args σ with
 |some r=>
  rw[he]at h;injection h with h;subst h;exact hX.ext _ _ _ _ _ he
 |none=>
  rw[he]at h;simp only at h;cases hc:X.code.get f with
  |none=>rw[hc]at h;cases h
  |some c=>
   rw[hc]at h;simp only at h;obtain⟨fn,K⟩:=CT.BU hX.code hc;unfold H8 at h;cases hl:ca args.length c.n with
   |false=>rw[hl]at h;cases h
   |true=>
    rw[hl]at h;simp only[cond_true]at h;split at h
    ·cases h
    ·rename_i s hs;obtain⟨t,h1,h2⟩:=Ie hs;simp only[np]at h1;have hρ:(⟨t,σ,X.vec f⟩:XS).st=⟨iB args,σ⟩:=by
      show(⟨t.get,σ⟩:St)=_;congr 1;funext j;rw[h2,TR.Bz];unfold iB;by_cases hj:j<args.length
      ·rw[if_pos (by omega)];simp
      ·rw[if_neg (by omega)];rw[List.getD_eq_getElem?_getD,List.getElem?_eq_none (by omega)];rfl
     have hn:args.length<=fn.ntmps:=by rw[fo hl];exact K.hn
     refine Sp (fun v σ' h=>?_) h;refine DC.HM K.hm K.hf K.hb K.ag K.dN hn K.en ?_;rw[<-hρ];exact hex _ _ _ _ _ h1 (Sw h)
theorem Sx(hX:X.Ok w0):∀(n:Nat) (k k2:List It) (s s':XS) (n0:Nat) (Q:St->Prop),exec X n k s=some s'->Rl X s' n k k2->Q s'.st->W X.P w0 n0 Q k2 s.st:=by
 intro n;induction n using Nat.strongRecOn with
 |_ n ih=>
 intro k k2 s s' n0 Q h hk hQ;cases n with
 |zero=>cases h
 |succ n=>
 have IH:∀{k k2:List It} {s:XS},exec X n k s=some s'->Rl X s' n k k2->W X.P w0 n0 Q k2 s.st:=fun h hk=>ih n (zN _) _ _ _ _ _ _ h hk hQ;have hcall:dD.Ok X.P w0 (pS X (exec X n)):=If hX fun k s s' n0 Q h hQ=>ih n (zN _) _ _ _ _ _ _ h (Rl.refl k) hQ;cases hk with
 |nil=>
  injection h with h;subst h;exact .done hQ
 |inv c I hk hI=>exact .inv (hI (n+1) (aA _) s h)
 |cons it hk=>
 rename_i k k2;rw[Sv]at h;have hk':=hk.less (mP n);have hops:∀l,BZ X (exec X n) l k s=some s'->W X.P w0 n0 Q (.ops l::k2) s.st:=by
  intro l h;cases l with
  |nil=>exact .wQ (IH h hk')
  |cons o l=>
   have h:BY X (exec X n) o l k s=some s':=h;unfold BY at h;split at h
   ·cases h
   ·rename_i b hg;cases b with
    |false=>
     obtain⟨t',h1,h2⟩:=jJ h;simp only[np]at h1;refine .AA hg ?_;have:=IH h1 (.cons _ hk');show W X.P w0 n0 Q _ ⟨Env.put s.t.get o.dst .void,s.σ⟩;rw[<-h2];exact this
    |true=>
     have h:BX X (exec X n) o l k s=some s':=h;have hstep:x9 (exec X n) o l k s=some s'->W X.P w0 n0 Q (.ops (o::l)::k2) s.st:=by
      intro h;unfold x9 at h;rw[xR]at h;split at h
      ·unfold H9 at h;split at h
       ·cases h
       ·rename_i b _ _;simp only[BM,xE]at h;refine .fG (HI s b) ?_;have hv:(pO s b).v=s.v:=by unfold pO;split<;>rfl
        rw[<-hv]at h;exact IH h (.cons _ hk')
      ·rename_i p hs;obtain⟨v,σ'⟩:=p;have hK:pP s.t.get s.σ o.ins (fun v σ'=>iH s.t o.dst v fun t=>fB s.v fun v=>exec X n (.ops l::k) ⟨t,σ',v⟩)=some s':=by
        unfold pP;rw[xR,hs];exact h
       obtain⟨v,σ',h0,h00⟩:=xU hK;obtain⟨t',h1,h2⟩:=jJ h00;simp only[np]at h1;refine .jy hg h0 ?_;have:=IH h1 (.cons _ hk');show W X.P w0 n0 Q _ ⟨Env.put s.t.get o.dst v,σ'⟩;rw[<-h2];exact this
     unfold BX at h;split at h
     ·cases hsv:s.v with
      |false=>rw[hsv]at h;exact hstep h
      |true=>
       rw[hsv]at h;simp only[cond_true]at h;unfold Ia at h;split at h
       ·exact hstep h
       ·rename_i p hvk;obtain⟨v,σ'⟩:=p;obtain⟨e,size,bytes,x,y,olds,news,hi,hx,hy,hc,rfl,rfl⟩:=HN hvk;simp only[pG,xE]at h;obtain⟨t',h1,h2⟩:=jJ h;simp only[np]at h1;refine .pf hg hi hx hy hc ?_;have:=IH h1 (.cons _ hk');show W X.P w0 n0 Q _ ⟨Env.put s.t.get o.dst (V.vec (List.length s.σ) (olds.length+news.length)),_⟩;rw[<-h2];exact this
     ·rename_i p hp;obtain⟨f,l'⟩:=p;have hi:=xS hp;simp only at h;obtain⟨fid,caps,v,σ',hf,hcl,hk⟩:=xW h;obtain⟨t',h1,h2⟩:=jJ hk;simp only[np]at h1;refine .wR hg hi hf (hcall _ _ _ _ _ hcl) fun d τ hd=>?_;obtain⟨rfl,rfl⟩:=hd;have:=IH h1 (.cons _ hk');show W X.P w0 n0 Q _ ⟨Env.put s.t.get o.dst d,τ⟩;rw[<-h2];exact this
 cases it with
 |inv I=>cases h
 |fF id=>exact .fF (IH h hk')
 |ops l=>exact hops l h
 |code c=>
  cases c with
  |skip=>exact .skip (IH h hk')
  |aG l=>exact .aG (hops l h)
  |seq a b=>exact .seq (IH h (.cons _ (.cons _ hk')))
  |block id c=>exact .block (IH h (.cons _ (.cons _ hk')))
  |ret=>injection h with h;subst h;exact .ret hQ
  |bad=>cases h
  |exit id=>
   have h:B1 (exec X n) id k s=some s':=h;unfold B1 at h;split at h
   ·cases h
   ·rename_i k' hp;obtain⟨k2',h1,h2⟩:=hk'.pop hp;exact .exit h1 (IH h h2)
  |cond c x y=>
   have h:B0 (exec X n) c x y k s=some s':=h;unfold B0 at h;split at h
   ·cases h
   ·rename_i b hb;have hb:=Sr hb;cases b with
    |true=>exact .cond (t:=true) hb (fun _=>IH h (.cons _ hk')) (fun e=>by cases e)
    |false=>exact .cond (t:=false) hb (fun e=>by cases e) (fun _=>IH h (.cons _ hk'))
  |loop c=>
   refine .loop (α:={p:Nat×XS//p.1<=n+1/\exec X p.1 (.code (.loop c)::k) p.2=some s'}) (fun p=>p.1.2.st) (fun p=>p.1.1) ⟨(n+1,s),aA _,h⟩ (aq.refl _ _) (fun p=>?_);obtain⟨⟨m,t⟩,hm1,hm2⟩:=p;cases m with
   |zero=>cases hm2
   |succ m=>
    refine ih m (by simp only at hm1;omega) (.code c:: .code (.loop c)::k) _ t s' n0 Q hm2 (.cons _ (.inv c _ (hk.less (by simp only at hm1;omega)) fun j hj s'' hs''=>?_)) hQ;exact⟨⟨(j,s''),by simp only at hm1⊢;omega,hs''⟩,by simp only;omega,aq.refl _ _⟩
  |ft l e=>
   have h:B2 X (exec X n) l e k s=some s':=h;unfold B2 at h;cases hq:(BS l&&e.isEmpty)with
   |true=>
    rw[hq]at h;obtain⟨t',h1,h2⟩:=xY hcall h;simp only[np]at h1;exact .ft h2 (IH h1 hk')
   |false=>
    rw[hq]at h;simp only[cond_false]at h;cases e with
    |nil=>cases h
    |cons o e=>
     obtain⟨t',σ',past',h1,h2⟩:=pR _ hcall h;simp only[np]at h1;exact .aQ (List.cons_ne_nil _ _) h2 (IH h1 hk')
def jK(X:XP)(n:Nat)(f:FuncId)(args:List V)(σ:H):Option (V×H):=pS X (exec X n) f args σ
theorem mr(hX:X.Ok w0){n:Nat}{f:FuncId}{args:List V}{σ:H}{v:V}{σ':H}(h:jK X n f args σ=some (v,σ')):DC X.P w0 f args σ (Same v σ'):=
 If hX (fun k s s' n0 Q h hQ=>Sx hX n k k s s' n0 Q h (Rl.refl k) hQ) f args σ v σ' h
def isTrue:Option (V×H)->Bool
 |some (.c (.bool true),[])=>true
 |_=>false
theorem Sy{G:World->Prop}(hG:∀w w',G w->Below w.heap.size w w'->G w')(hX:∀w,G w->X.Ok w){n:Nat}{f:FuncId}(h:isTrue (jK X n f [] [])=true){w0:World}(h0:G w0)(σ:H):DC X.P w0 f [] σ (Same (.c (.bool true)) σ):=by
 have hr:jK X n f [] []=some (.c (.bool true),[]):=by
  unfold isTrue at h;split at h
  ·assumption
  ·cases h
 refine DC.Gw (mr (hX w0 h0) hr).enters (fun κ w vs hrep hfit=>⟨.bool true,.c (.bool true),?_⟩);have hv:vs=[]:=Fits.kS hfit;subst hv;have hw:=hX w (hG w0 w h0 hrep.ext);refine(DC.calls (mr hw hr) (vs:=[]) ⟨rfl,fun j hj=>by simp at hj⟩).mono ?_;rintro e w' ⟨v,d,σ',κ',rfl,⟨rfl,rfl⟩,h3,h4⟩;refine⟨?_,h4⟩;cases h3 with
 |c h=>cases h;rfl
end
end
end Go.Lamb
namespace Go.Lamb
open Go Go.RowKit
def dP(p:aa):Bool:=
 if p.k=0 then(iD p.name||ll p.name)&&p.n==0&&p.l.length==0
 else if p.k=1 then decide (p.n>=1)&&p.name==[]&&p.l.length==0
 else if p.k=2 then p.name==[]&&p.l.length==0
 else if p.k=3 then decide (p.n>=0)&&decide (p.n<=4611686018427387904)&&p.name==[]&&p.l.length==0
 else if p.k=4 then decide (p.n>=0)&&decide (p.n<=4611686018427387904)&&p.name==[]&&p.l.length==0
 else if p.k=5 then p.n==0&&p.name==[]&&p.l.length==1
 else if p.k=6 then p.n==0&&decide (2<=p.l.length)&&(p.l.headD .none).k !=6&&p.name==[]
 else false
mutual
def ba:aa->Bool
 | .mk k s n l=>dP (.mk k s n l)&&uc l
def uc:List aa->Bool
 |[]=>true
 |x::l=>ba x&&uc l
end
theorem Ig:∀(l:List aa),uc l=l.all ba
 |[]=>by simp[uc]
 |x::l=>by rw[uc,jl,Ig l]
theorem rC(p:aa):ba p=(dP p&&p.l.all ba):=by
 cases p;rw[ba,Ig];rfl
mutual
def bM(m:Int):aa->Bool
 | .mk k _ n l=>(k==2||!(decide (n>m)||decide (n< -m)))&&ud m l
def ud(m:Int):List aa->Bool
 |[]=>true
 |x::l=>bM m x&&ud m l
end
theorem Ih(m:Int):∀(l:List aa),ud m l=l.all (bM m)
 |[]=>by simp[ud]
 |x::l=>by rw[ud,jl,Ih m l]
theorem B3(m:Int)(p:aa):bM m p=((p.k==2||!(decide (p.n>m)||decide (p.n< -m)))&&p.l.all (bM m)):=by
 cases p;rw[bM,Ih];rfl
theorem SA{l:List aa}(h:0<l.length):l.headD .none=l[0]:=by
 cases l with
 |nil=>simp at h
 |cons x l=>rfl
end Go.Lamb
namespace Go.Lamb
open Go Go.RowKit
theorem V.ow{ι:Nat->Nat}{n m:Nat}(hid:∀b,b<n->ι b=b)(hnm:n<=m){x:V}(h:V.low n x):V.cm ι m x x:=by
 induction h with
 |void=>exact .void
 |any=>exact .any
 |c x=>exact .c x
 |@ptr b o h=>have:=V.cm.ptr (ι:=ι) (m:=m) (j:=b) (o:=o) (by omega);rwa [hid b h]at this
 |@aF b r h=>have:=V.cm.aF (ι:=ι) (m:=m) (j:=b) (r:=r) (by omega);rwa [hid b h]at this
 |ab r=>exact .ab r
 |fn h ih=>exact .fn rfl fun k hk hk'=>ih _ (bw hk)
 |cj=>exact .cj
 |@mp b h=>have:=V.cm.mp (ι:=ι) (m:=m) (j:=b) (by omega);rwa [hid b h]at this
 |cy=>exact .cy
 |@vec b k h=>have:=V.cm.vec (ι:=ι) (m:=m) (j:=b) (k:=k) (by omega);rwa [hid b h]at this
 |agg h ih=>exact .agg rfl fun k hk hk'=>ih _ (bw hk)
 |av h ih=>exact .av rfl fun k hk hk'=>ih _ (bw hk)
theorem ad.ow{ι:Nat->Nat}{n m:Nat}(hid:∀b,b<n->ι b=b)(hnm:n<=m){B:ad}(h:∀cs tg,B= .cells cs tg->∀x∈cs,V.low n x):ad.cm ι m B B:=by
 cases B with
 |cells cs tg=>exact .cells rfl fun k hk hk'=>V.ow hid hnm (h cs tg rfl _ (bw hk))
 |spare e s n=>exact .spare e s n
 |mp l=>exact .mp l
 |vec e s cs=>exact .vec e s cs
 |gone=>exact .gone
section
variable {P:Program} {w0:World} {f:FuncId} {args:List V} {σ:H}
end
end Go.Lamb
namespace Go.Lamb
open Go Go.RowKit
def SB(σ:H)(e size k:Nat)(cs:List C)(c:Int)(v:V)(τ:H):Prop:=∃L L2,v= .av [.vec (σ.length+L.length) k,.c (.int .i64 c)]/\τ=σ++(L++ .vec e size cs::L2)
section
variable {P:Program} {w0:World} {f:FuncId} {args:List V} {σ:H}
theorem DC.Ii{e size k:Nat}{cs:List C}{c:Int}(hd:DC P w0 f args σ (SB σ e size k cs c)):DC P w0 f args σ (Same (.av [.vec σ.length k,.c (.int .i64 c)]) (σ++[.vec e size cs])):=by
 refine⟨hd.enters,fun κ w vs hrep hfit=>(hd.run κ w vs hrep hfit).mono ?_⟩;rintro e' w' ⟨v,d0,σ0,κ',rfl,⟨L,L2,rfl,rfl⟩,h3,h4,h5⟩;have hok:=hrep.ok;obtain⟨ι,hid,hend⟩:∃ι:Nat->Nat,(∀b,b<σ.length->ι b=b)/\ι σ.length=σ.length+L.length:=
  ⟨fun j=>if j<σ.length then j else σ.length+L.length,fun b hb=>if_pos hb,if_neg (oW _)⟩
 have hcase:∀j,j<σ.length+1->j<σ.length\/j=σ.length:=fun j h=>by omega
 refine⟨v,_,_,κ'.pack ι (σ.length+1),rfl,⟨rfl,rfl⟩,K.xG h3 (fun b hb=>hid b (by rw[<-hrep.n];exact hb)) (by rw[hrep.n];omega),h4.pack (fun j hj=>?_) (fun i j hi hj hij=>?_) (by simp) (fun j hj hj' hι=>?_),h5.pack ?_⟩
 ·rcases hcase j hj with h|rfl
  ·rw[hid j h];simp;omega
  ·rw[hend];simp
 ·rcases hcase i hi with h|rfl<;>rcases hcase j hj with kk|rfl
  ·rwa [hid i h,hid j kk]at hij
  ·rw[hid i h,hend]at hij;omega
  ·rw[hid j kk,hend]at hij;omega
  ·rfl
 ·rcases hcase j hj with h|rfl
  ·have e1:(σ++(L++ad.vec e size cs::L2))[ι j]=σ[j]:=by
    rw[mW,hid j h,cF h,aR h]
   have e2:(σ++[ad.vec e size cs])[j]=σ[j]:=cC h;rw[e1,e2];exact ad.ow hid (mP _) (fun cs tg hc x hx=>hok _ (bw h) cs tg hc x hx)
  ·have e1:(σ++(L++ad.vec e size cs::L2))[ι σ.length]=ad.vec e size cs:=by
    rw[mW,hend,cY (by omega),fm,cY (aA _),ck];rfl
   have e2:(σ++[ad.vec e size cs])[σ.length]=ad.vec e size cs:=by simp
   rw[e1,e2];exact .vec _ _ _
 ·refine .av rfl fun q hq hq'=>?_
  match q,hq,hq' with
  |0,_,_=>
   have:=V.cm.vec (ι:=ι) (m:=σ.length+1) (j:=σ.length) (k:=k) (by omega);rw[hend]at this;exact this
  |1,_,_=>exact .c _
end
end Go.Lamb
namespace Go.Lamb
open Go Go.RowKit
section
variable {P:Program} {w0:World} {f:FuncId} {args:List V} {σ:H}
theorem DC.B4{e size k:Nat}{cs:List C}{b0 p:Nat}{A B:List V}{tg:Option TypeId}{d:V}{y:V}(hp:σ[p]?=some (.cells (A++y::B) tg))(hdl:V.low σ.length d)
  (hd:DC P w0 f args σ (fun v τ=>V.wk v d/\∃L L2,τ=(σ.set b0 .gone).set p (.cells (A++ .vec (σ.length+L.length) k::B) tg)++(L++ .vec e size cs::L2))):
  DC P w0 f args σ (Same d ((σ.set b0 .gone).set p (.cells (A++ .vec σ.length k::B) tg)++[.vec e size cs])):=by
 refine⟨hd.enters,fun κ w vs hrep hfit=>(hd.run κ w vs hrep hfit).mono ?_⟩;rintro e' w' ⟨v,d0,σ0,κ',rfl,⟨hw,L,L2,rfl⟩,h3,h4,h5⟩;have hlow:=hrep.ok _ (List.mem_of_getElem? hp) _ _ rfl;have hA:∀x∈A,V.low σ.length x:=fun x hx=>hlow x (List.mem_append_left _ hx);have hB:∀x∈B,V.low σ.length x:=fun x hx=>hlow x (List.mem_append_right _ (List.mem_cons_of_mem _ hx));replace hp:=(List.getElem?_eq_some_iff.1 hp).1;obtain⟨σ1,hσ1,hln,hok⟩:∃σ1:H,σ1=σ.set b0 .gone/\σ1.length=σ.length/\(∀B∈σ1,∀cs tg,B= .cells cs tg->∀x∈cs,V.low σ1.length x):=⟨_,rfl,bC ..,fun B hB cs tg hc x hx=>by
  rw[bC];rcases List.mem_or_eq_of_mem_set hB with hB|rfl
  ·exact hrep.ok B hB cs tg hc x hx
  ·cases hc⟩
 have hn:κ.n=σ1.length:=hrep.n.trans hln.symm;rw[<-hσ1]at h4⊢;rw[<-hln]at h4 hA hB hdl hp⊢;clear hrep hfit;obtain⟨ι,hid,hend⟩:∃ι:Nat->Nat,(∀b,b<σ1.length->ι b=b)/\ι σ1.length=σ1.length+L.length:=
  ⟨fun j=>if j<σ1.length then j else σ1.length+L.length,fun b hb=>if_pos hb,if_neg (oW _)⟩
 have hcase:∀j,j<σ1.length+1->j<σ1.length\/j=σ1.length:=fun j h=>by omega
 refine⟨v,_,_,κ'.pack ι (σ1.length+1),rfl,⟨rfl,rfl⟩,K.xG h3 (fun b hb=>hid b (by rw[<-hn];exact hb)) (by rw[hn];omega),h4.pack (fun j hj=>?_) (fun i j hi hj hij=>?_) (by simp) (fun j hj hj' hι=>?_),(RV.wk hw h5).pack (V.ow hid (mP _) hdl)⟩
 ·rcases hcase j hj with h|rfl
  ·rw[hid j h];simp;omega
  ·rw[hend];simp
 ·rcases hcase i hi with h|rfl<;>rcases hcase j hj with kk|rfl
  ·rwa [hid i h,hid j kk]at hij
  ·rw[hid i h,hend]at hij;omega
  ·rw[hid j kk,hend]at hij;omega
  ·rfl
 ·rcases hcase j hj with h|rfl
  ·by_cases e0:j=p
   ·subst e0;have e1:((σ1.set j (.cells (A++ .vec (σ1.length+L.length) k::B) tg))++(L++ad.vec e size cs::L2))[ι j]= .cells (A++ .vec (σ1.length+L.length) k::B) tg:=by
     rw[mW,hid j h,cF (by simpa using h),ct h]
    have e2:((σ1.set j (.cells (A++ .vec σ1.length k::B) tg))++[ad.vec e size cs])[j]= .cells (A++ .vec σ1.length k::B) tg:=by
     rw[mW,cF (by simpa using h),ct h]
    rw[e1,e2];refine .cells (by simp) fun q hq hq'=>?_;rcases Nat.lt_trichotomy q A.length with g|g|g
    ·rw[cC g,cC g];exact V.ow hid (mP _) (hA _ (bw g))
    ·subst g;rw[dJ (aA _),dJ (aA _)];simp only[ck,List.getElem_cons_zero];have:=V.cm.vec (ι:=ι) (m:=σ1.length+1) (j:=σ1.length) (k:=k) (by omega);rw[hend]at this;exact this
    ·have g2:q-A.length-1<B.length:=by simp at hq;omega
     have e3:∀x:V,∀hx:q<(A++x::B).length,(A++x::B)[q]=B[q-A.length-1]:=fun x hx=>by
      rw[dJ (by omega),List.getElem_cons,dif_neg (by omega)]
     rw[e3,e3];exact V.ow hid (mP _) (hB _ (bw g2))
   ·have e1:((σ1.set p (.cells (A++ .vec (σ1.length+L.length) k::B) tg))++(L++ad.vec e size cs::L2))[ι j]=σ1[j]:=by
     rw[mW,hid j h,cF (by simpa using h),bX (by omega),aR h]
    have e2:((σ1.set p (.cells (A++ .vec σ1.length k::B) tg))++[ad.vec e size cs])[j]=σ1[j]:=by
     rw[mW,cF (by simpa using h),bX (by omega),aR h]
    rw[e1,e2];exact ad.ow hid (mP _) (fun cs tg hc x hx=>hok _ (bw h) cs tg hc x hx)
  ·have e1:((σ1.set p (.cells (A++ .vec (σ1.length+L.length) k::B) tg))++(L++ad.vec e size cs::L2))[ι σ1.length]=ad.vec e size cs:=by
    rw[mW,hend,cY (by simp),bC,fm,cY (aA _),ck];rfl
   have e2:((σ1.set p (.cells (A++ .vec σ1.length k::B) tg))++[ad.vec e size cs])[σ1.length]=ad.vec e size cs:=by
    rw[mW,cY (by simp),bC,ck];rfl
   rw[e1,e2];exact .vec _ _ _
end
end Go.Lamb
namespace Go.Lamb
open Go Go.RowKit
abbrev pT(l:Nat):Fence:=Fence.wide.inRound l
def Op.plain:Op->Bool
 | .defer _=>false
 |_=>true
section
variable {P:Program} {l m:Nat} {Q:Exit->Act->World->Prop} {a:Act} {w:World}
theorem SC{f:FuncId}{args:Array Value}{R:Ending->World->Prop}(h:Calls P f args w R):CallsIn (pT l) m P f args w R:=CallsIn.inRound l (callsIn_wide.2 h)
theorem SD{row:String}{args:Array Value}{R:Value->World->Prop}(h:Rows P row args w R):RowsIn (pT l) m P row args w R:=fun c cs _=>let ⟨v,w',r,s⟩:=h c cs;⟨v,w',r,stepsIn_wide.2 s⟩
theorem SE{o:Oper}{next next':Act->World->Prop}(hd:Op.plain o.op=true)(hn:∀a w,next a w->next' a w)(h:o.wp P a w next Q):o.wpIn (pT l) m P a w next' Q:=by
 refine⟨fun f _=>trivial,?_⟩;rw[show(pT l).round=some l from rfl,Oper.semAt_some l _ _ (fun c e=>by rw[e]at hd;cases hd)];unfold Oper.wp at h;generalize (execOp a.eval o).run P w=r at h;cases r with
 |ok x w'=>
  cases x<;>simp only[Oper.upon,Oper.uponIn]at h⊢<;>
   first
    |exact hn _ _ h
    |exact⟨fun e=>(by cases e),SC (h.mono fun e w'' he=>by cases e<;>first|exact hn _ _ he|exact he)⟩
    |exact⟨fun e=>(by cases e),SD (h.mono fun _ _ he=>hn _ _ he)⟩
    |exact h.elim
    |exact h
 |halt x w'=>cases x<;>simp only[Oper.upon,Oper.uponIn]at h⊢<;>first|exact h|exact h.elim
theorem Ij{ops:Array Oper}(hlo:¬LetsOut Q)(hp:∀o∈ops,Op.plain o.op=true):∀{fuel:Nat} {listed:Array Bool} {a:Act} {w:World},wpAny P .any ops Q fuel listed a w->wpAnyIn (pT l) m P .any ops Q fuel listed a w
 |0,listed,a,w,h=>h
 |fuel+1,listed,a,w,h=>by
  unfold wpAny at h;unfold wpAnyIn;refine⟨h.1,fun i hi=>?_⟩;have h:=h.2 i hi;have ih:∀a w,wpAny P .any ops Q fuel (listed.setIfInBounds i true) a w->wpAnyIn (pT l) m P .any ops Q fuel (listed.setIfInBounds i true) a w:=fun a w h=>Ij hlo hp h;unfold wpOp at h;unfold wpOpIn;split
  ·rename_i ho;rw[ho]at h;exact ih _ _ h
  ·rename_i o ho;rw[ho]at h;simp only at h;split
   ·rename_i hw;rw[if_pos hw]at h;exact SE (hp o (Array.mem_of_getElem? ho)) ih (h.resolve_right fun e=>hlo e.2)
   ·rename_i hw;rw[if_neg hw]at h;exact⟨fun f _=>trivial,ih _ _ h⟩
end
section
variable {P:Program} {w0 w w':World} {κ κ0:K} {σ σ':H} {a:Act} {ρ ρ':Env} {n n0:Nat} {Q:St->Prop} {s:St} {l m:Nat}
end
end Go.Lamb
namespace Go.Lamb
open Go Go.RowKit
mutual
def bT:ao->Nat
 | .mk _ _ _ l _=>1+dh l
def dh:List ao->Nat
 |[]=>0
 |p::l=>bT p+dh l
end
theorem ya(p:ao):bT p=1+dh p.l:=by cases p;rw[bT];rfl
mutual
theorem Ik:∀(p:ao) (n:Int),0<=fZ p n->fZ p n=n-bT p
 | .mk _ _ _ l _,n,h=>by
   rw[fZ]at h⊢;rw[Il l (n-1) h,bT];omega
theorem Il:∀(l:List ao) (n:Int),0<=fK l n->fK l n=n-dh l
 |[],n,h=>by rw[fK,dh];omega
 |p::l,n,h=>by
  rw[fK]at h⊢;split at h
  ·rename_i h0;rw[if_pos h0];by_cases h1:0<=fZ p n
   ·rw[Il l _ h,Ik p n h1,dh];omega
   ·rw[GJ h1]at h;omega
  ·omega
end
end Go.Lamb
namespace Go.Lamb
open Go Go.RowKit
def ue(f:List C->Option aa):List (List C)->Option (List aa)
 |[]=>some []
 |r::l=>match f r with
  |none=>none
  |some x=>match ue f l with
   |none=>none
   |some y=>some (x::y)
def pU:Nat->List C->Option aa
 |0,_=>none
 |d+1,cs=>match cs with
  |[.int .i64 k,.str s,.int .i64 n,.sl rows]=>match ue (pU d) rows with
   |none=>none
   |some l=>some (.mk k s n l)
  |_=>none
theorem B5{f:List C->Option aa}(hf:∀r x,f r=some x->r=x.cs):∀{l:List (List C)} {y:List aa},ue f l=some y->l=y.map aa.cs
 |[],y,h=>by injection h with h;subst h;rfl
 |r::l,y,h=>by
  unfold ue at h;split at h
  ·cases h
  ·rename_i x hx;split at h
   ·cases h
   ·rename_i z hz;injection h with h;subst h;rw[cE,<-B5 hf hz,<-hf r x hx]
theorem uf:∀{d:Nat} {cs:List C} {t:aa},pU d cs=some t->cs=t.cs
 |0,_,_,h=>by cases h
 |d+1,cs,t,h=>by
  unfold pU at h;split at h
  ·rename_i k s n rows;split at h
   ·cases h
   ·rename_i l hl;injection h with h;subst h;rw[aa.aM,aY,a7,aV,aL,B5 (fun r x=>uf) hl]
  ·cases h
def yb:List (List C)->Option (List cN)
 |[]=>some []
 |r::l=>match r with
  |[.str s,.int .i64 p,.int .i64 f]=>match yb l with
   |none=>none
   |some y=>some (⟨s,p,f⟩::y)
  |_=>none
theorem Im:∀{l:List (List C)} {y:List cN},yb l=some y->l=y.map cN.cs
 |[],y,h=>by injection h with h;subst h;rfl
 |r::l,y,h=>by
  unfold yb at h;split at h
  ·split at h
   ·cases h
   ·rename_i z hz;injection h with h;subst h;rw[cE,<-Im hz];rfl
  ·cases h
def yc(v:V):Option (List C):=fq v.ah
end Go.Lamb
namespace Go.Lamb
open Go Go.RowKit
def ox(σ:H)(b:Nat)(X Y Z U:ad):H:=(((σ.set b X).set (b+1) Y).set (b+2) Z).set (b+3) U
section
variable {σ:H} {b:Nat}
@[simp] theorem ug (X Y Z U:ad):(ox σ b X Y Z U).length=σ.length:=by simp[ox]
theorem SF(x:ad)(L:H)(X Y Z U:ad):(ox σ b X Y Z U++x::L)[σ.length]?=some x:=by
 rw[cY (by simp),ug,ck];rfl
theorem SG(k:Nat)(L:H)(X Y Z U:ad):(ox σ b X Y Z U++L)[σ.length+k]?=L[k]?:=by
 rw[cY (by simp),ug,fm]
theorem SH(x:ad)(L:H)(X Y Z U:ad):(ox σ b X Y Z U++L).set σ.length x=ox σ b X Y Z U++L.set 0 x:=by
 rw[iQ _ _ (by simp),ug,ck]
theorem SI(k:Nat)(x:ad)(L:H)(X Y Z U:ad):(ox σ b X Y Z U++L).set (σ.length+k) x=ox σ b X Y Z U++L.set k x:=by
 rw[iQ _ _ (by simp),ug,fm]
end
end Go.Lamb
namespace Go.Lamb
open Go Go.RowKit
def eC(g:FuncId)(e:List V->H->Option (V×H))(r:dD):dD:=fun f as_ σ=>cond (ca f g) (e as_ σ) (r f as_ σ)
def Io:dD:=fun _ _ _=>none
theorem SJ{P:Program}{w0:World}:dD.Ok P w0 Io:=fun _ _ _ _ _ h=>by cases h
theorem eV{P:Program}{w0:World}{g:FuncId}{e:List V->H->Option (V×H)}{r:dD}(he:∀as_ σ v σ',e as_ σ=some (v,σ')->DC P w0 g as_ σ (Same v σ'))(hr:dD.Ok P w0 r):dD.Ok P w0 (eC g e r):=by
 intro f as_ σ v σ' h;unfold eC at h;cases hb:ca f g with
 |true=>
  rw[hb]at h;have:=fo hb;subst this;exact he _ _ _ _ h
 |false=>
  rw[hb]at h;exact hr _ _ _ _ _ h
def oy(e1 e2:List V->H->Option (V×H)):List V->H->Option (V×H):=fun as_ σ=>match e1 as_ σ with
 |some r=>some r
 |none=>e2 as_ σ
theorem rD{P:Program}{w0:World}{f:FuncId}{e1 e2:List V->H->Option (V×H)}(h1:∀as_ σ v σ',e1 as_ σ=some (v,σ')->DC P w0 f as_ σ (Same v σ'))(h2:∀as_ σ v σ',e2 as_ σ=some (v,σ')->DC P w0 f as_ σ (Same v σ'))(as_:List V)(σ:H)(v:V)(σ':H)(h:oy e1 e2 as_ σ=some (v,σ')):DC P w0 f as_ σ (Same v σ'):=by
 unfold oy at h;split at h
 ·rename_i r hr;injection h with h;subst h;exact h1 _ _ _ _ hr
 ·exact h2 _ _ _ _ h
def B6:List Nat->Nat->Bool
 |[],_=>false
 |a::l,f=>cond (ca f a) true (B6 l f)
end Go.Lamb
namespace Go.Lamb
open Go Go.RowKit
structure Has (x:gg) (u:Sg) (n:bG):Prop where
 k:x.k=0->mm u.kinds n=some ⟨n,x.n⟩
 t:x.k=1->fP u.types n=some ⟨n,x.ty⟩
 o:x.k=2->Hd u.ops n=some (xw x n)
theorem SK{s:Sg}{x:gg}(h:(kp s x).2=0):¬(x.k<0\/3<x.k)/\jH x s x.names= .ok (kp s x).1:=by
 unfold kp at h⊢;by_cases h1:x.k<0\/3<x.k
 ·rw[if_pos h1]at h;cases h
 rw[if_neg h1]at h⊢;by_cases h2:x.k=1/\pC s.kinds x.ty=false
 ·rw[if_pos h2]at h;cases h
 rw[if_neg h2]at h⊢;cases e:jH x s x.names with
 |ok t=>exact⟨h1,rfl⟩
 |error e'=>
  rw[e]at h;have:=Hl x _ _ _ e;have h':e'=0:=h;rw[h']at this;cases this
end Go.Lamb
