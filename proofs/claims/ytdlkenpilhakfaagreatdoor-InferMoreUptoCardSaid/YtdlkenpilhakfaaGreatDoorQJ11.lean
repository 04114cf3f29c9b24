/- . -/
import Derived.Test.YtdlkenpilhakfaaGreatDoorQLexSpec
import Derived.Laws.OwnMore
import Derived.Laws.AppendOwn
import Derived.Laws.IdiomCopy
import Derived.WalkKit
import Derived.Lib.Hide
import Derived.RangeFuncOwn
import Derived.Laws.Cells
import Derived.MapKept
import Derived.Laws.BytesString
set_option linter.unusedSimpArgs false
set_option linter.unusedVariables false
set_option maxHeartbeats 8000000
set_option maxRecDepth 20000
open Array renaming getD->mQ,getD_eq_getD_getElem?->ik,getElem?_eq_some_iff->dR
open Bool renaming false_eq_true->e9
open Go renaming heap_alloc_new->kN,run_underlying->cr
open Go.Builtin renaming len_->E5
open Go.Instr renaming loadAt->v8,slice->E9,sliceAt->E8,sliceBound->E6,sliceBounds->E7,sureAddr->sG
open Go.Op renaming equalIn->gx
open Go.Result renaming andThen_ok->jU
open Go.Sem renaming run_bind->jj,run_pure->jT
open Go.World renaming cell?_of_block->wa,setRow->zM
open List renaming all_eq_true->cL,getD->lG,getD_eq_getElem?_getD->cc,getElem?_append->Z9,getElem?_drop->mR,getElem?_eq_getElem->aR,getElem?_eq_some_iff->aK,getElem?_take->lH,getElem_append_left->cC,getElem_append_right->dJ,getElem_cons_zero->dq,getElem_drop->E0,getElem_map->dE,getElem_mem->bw,getElem_of_mem->fU,getElem_set_ne->fz,getElem_set_self->gw,getElem_take->oU,length_map->cd,mem_of_mem_drop->Oc,mem_of_mem_take->Ob
open Nat renaming add_assoc->jk,add_mul->fi,add_zero->mS,le_refl->aA,le_succ->mP,le_trans->bB,lt_or_ge->dS,mul_le_mul_right->iN,sub_self->ck,zero_le->bx
open Ne renaming symm->di
open Option renaming map_some->iq
open Option.some renaming injEq->zP
open UInt8 renaming ofNat->sF
namespace Go.Lamb
open Go Go.RowKit
inductive C where
 |bool (b:Bool)
 |int (k:IntKind) (n:Int)
 |str (l:List UInt8)
 |sl (rows:List (List C))
 |ez
 |ref (cs:List C) (o:Nat)
 |iT
 |err
 deriving Inhabited
abbrev Mem:=Nat->Nat->Option Value
inductive RC (m:Mem):C->Value->Prop where
 |bool (b:Bool):RC m (.bool b) (.bool b)
 |int (k:IntKind) (n:Int):RC m (.int k n) (.int k n)
 |str (l:List UInt8) (h:l.length<=maxLen):RC m (.str l) (.string (bs l))
 |sl (rows:List (List C)) (s:Nat) (A:Option Addr) (cap:Nat) (xs:List Value) (h0:∀r∈rows,r.length=s) (h1:rows.length<=cap) (h2:cap<=maxLen)
   (h3:xs.length=rows.length*s) (h4:rows≠[]->∃b o,A=some ⟨b,o,none⟩/\∀k,k<xs.length->m b (o+k)=xs[k]?)
   (h5:∀i (hi:i<rows.length) j (hj:j<rows[i].length),RC m rows[i][j] (xs.getD (i*s+j) undef)):RC m (.sl rows) (.slice A rows.length cap)
 |ez:RC m .ez (.pointer none)
 |ref (cs:List C) (o b p:Nat) (xs:List Value) (h3:xs.length=cs.length) (h4:∀k,k<xs.length->m b (p+k)=xs[k]?)
   (h5:∀j (hj:j<cs.length),RC m cs[j] (xs.getD j undef)):RC m (.ref cs o) (.pointer (some ⟨b,p+o,none⟩))
 |iT:RC m .iT .nilIface
 |err (t:TypeId) (v:Value):RC m .err (.iface t v)
def Mem.le(m m':Mem):Prop:=∀b o v,m b o=some v->m' b o=some v
theorem Mem.le_refl(m:Mem):m.le m:=fun _ _ _ h=>h
theorem Mem.le_trans{a b c:Mem}(h:a.le b)(k:b.le c):a.le c:=fun x y v e=>k x y v (h x y v e)
theorem Mem.Fx{m m':Mem}(h:m.le m'){b o:Nat}{xs:List Value}(hm:∀k,k<xs.length->m b (o+k)=xs[k]?):∀k,k<xs.length->m' b (o+k)=xs[k]?:=by
 intro k hk;have:=hm k hk;rw[aR hk]at this⊢;exact h _ _ _ this
theorem RC.mono{m m':Mem}(h:m.le m'){x:C}{v:Value}(r:RC m x v):RC m' x v:=by
 induction r with
 |bool b=>exact .bool b
 |int k n=>exact .int k n
 |str l h=>exact .str l h
 |sl rows s A cap xs h0 h1 h2 h3 h4 h5 ih=>
  exact .sl rows s A cap xs h0 h1 h2 h3 (fun hn=>let ⟨b,o,hA,hm⟩:=h4 hn;⟨b,o,hA,Mem.Fx h hm⟩) ih
 |ez=>exact .ez
 |ref cs o b p xs h3 h4 h5 ih=>exact .ref cs o b p xs h3 (Mem.Fx h h4) ih
 |iT=>exact .iT
 |err t v=>exact .err t v
theorem RC.one{m:Mem}{x:C}{v:Value}(r:RC m x v):v.oneCell'=true:=by cases r<;>rfl
theorem RC.nil(m:Mem):RC m (.sl []) (.slice none 0 0):=
 .sl [] 0 none 0 [] (by simp) (aA _) (bx _) (by simp) (by simp) (by simp)
structure K where
 m:Mem
 n:Nat
 pos:Nat->Nat
 fr:Nat->Option Nat
 sv:Nat->Value
 sz:Nat->Nat
 rest:Nat->Option Obj:=fun _=>none
 dt:Nat:=0
inductive V where
 |void
 |any
 |c (x:C)
 |ptr (b o:Nat)
 |aF (b:Nat) (rows:List (List C))
 |ab (rows:List (List C))
 |fn (f:FuncId) (caps:List V)
 |cj
 |mp (b:Nat)
 |cy
 |vec (b k:Nat)
 |agg (vs:List V)
 |av (vs:List V)
 deriving Inhabited
inductive RV (κ:K):V->Value->Prop where
 |void:RV κ .void undef
 |any (v:Value):RV κ .any v
 |c {x:C} {v:Value} (h:RC κ.m x v):RV κ (.c x) v
 |ptr {b o:Nat} (h:b<κ.n) (h1:κ.fr b=none):RV κ (.ptr b o) (.pointer (some ⟨κ.pos b,o,none⟩))
 |aF {b f:Nat} {rows:List (List C)} {v:Value} (h:RC κ.m (.sl rows) v) (h1:b<κ.n) (h2:κ.fr b=some f) (h3:rows.length<=f) (h4:rows.length=f->v=κ.sv b) (h5:∀r∈rows,r.length=κ.sz b):RV κ (.aF b rows) v
 |ab {rows:List (List C)} {A:Option Addr} (h:RC κ.m (.sl rows) (.slice A rows.length rows.length)):RV κ (.ab rows) (.slice A rows.length rows.length)
 |fn {f:FuncId} {caps:List V} {vs:List Value} (h:vs.length=caps.length) (h1:∀j (hj:j<caps.length),RV κ caps[j] (vs.getD j undef)):RV κ (.fn f caps) (.func (.func f) #[] vs.toArray)
 |cj:RV κ .cj .nilFunc
 |mp {b:Nat} (h:b<κ.n) (h1:κ.fr b=none):RV κ (.mp b) (.map (some (κ.pos b)))
 |cy:RV κ .cy (.map none)
 |vec {b k n cap:Nat} (h:b<κ.n) (h1:κ.fr b=none) (h2:κ.sv b= .slice (some ⟨κ.pos b,0,none⟩) n cap) (h3:k<=n) (h4:n<=cap) (h5:cap<=maxLen):RV κ (.vec b k) (.slice (some ⟨κ.pos b,0,none⟩) k cap)
 |agg {vs:List V} {xs:List Value} (h:xs.length=vs.length) (h1:∀j (hj:j<vs.length),RV κ vs[j] (xs.getD j undef)):RV κ (.agg vs) (.agg xs.toArray)
 |av {vs:List V} {xs:List Value} (h:xs.length=vs.length) (h1:∀j (hj:j<vs.length),RV κ vs[j] (xs.getD j undef)):RV κ (.av vs) (.tuple xs.toArray)
structure K.le (κ κ':K):Prop where
 m:κ.m.le κ'.m
 n:κ.n<=κ'.n
 cells:∀b,b<κ.n->κ.fr b=none->κ'.fr b=none/\κ'.pos b=κ.pos b
 spare:∀b f,b<κ.n->κ.fr b=some f->∃f',κ'.fr b=some f'/\f<=f'/\(f'=f->κ'.sv b=κ.sv b)/\κ'.sz b=κ.sz b
 sS:∀b,b<κ.n->κ.fr b=none->κ'.sv b=κ.sv b
 rest:κ'.rest=κ.rest
 dt:κ'.dt=κ.dt
theorem K.le_refl(κ:K):κ.le κ:=⟨Mem.le_refl _,aA _,fun _ _ h=>⟨h,rfl⟩,fun _ f _ h=>⟨f,h,aA _,fun _=>rfl,rfl⟩,fun _ _ _=>rfl,rfl,rfl⟩
theorem K.le_trans{a b c:K}(h:a.le b)(k:b.le c):a.le c:=by
 refine⟨Mem.le_trans h.m k.m,bB h.n k.n,fun i hi hf=>?_,fun i f hi hf=>?_,fun i hi hf=>(k.sS i (by have:=h.n;omega) (h.cells i hi hf).1).trans (h.sS i hi hf),k.rest.trans h.rest,k.dt.trans h.dt⟩
 ·obtain⟨h1,h2⟩:=h.cells i hi hf;obtain⟨k1,k2⟩:=k.cells i (by have:=h.n;omega) h1;exact⟨k1,k2.trans h2⟩
 ·obtain⟨f1,h1,h2,h3,h4⟩:=h.spare i f hi hf;obtain⟨f2,k1,k2,k3,k4⟩:=k.spare i f1 (by have:=h.n;omega) h1;refine⟨f2,k1,by omega,fun e=>?_,k4.trans h4⟩;have e1:f1=f:=by omega
  have e2:f2=f1:=by omega
  exact(k3 e2).trans (h3 e1)
theorem RV.mono{κ κ':K}(h:κ.le κ'){x:V}{v:Value}(r:RV κ x v):RV κ' x v:=by
 induction r with
 |void=>exact .void
 |any v=>exact .any v
 |c h0=>exact .c (h0.mono h.m)
 |ptr h0 h1=>
  obtain⟨k1,k2⟩:=h.cells _ h0 h1;rw[<-k2];exact .ptr (by have:=h.n;omega) k1
 |aF h0 h1 h2 h3 h4 h5=>
  obtain⟨f',k1,k2,k3,k4⟩:=h.spare _ _ h1 h2;refine .aF (h0.mono h.m) (by have:=h.n;omega) k1 (by omega) (fun e=>?_) (by rw[k4];exact h5);have e1:f'=_:=(show f'=_ from by have:f'<=_:=e▸h3;exact Nat.le_antisymm this k2);rw[k3 e1];exact h4 (by omega)
 |ab h0=>exact .ab (h0.mono h.m)
 |fn h0 h1 ih=>exact .fn h0 ih
 |cj=>exact .cj
 |mp h0 h1=>
  obtain⟨k1,k2⟩:=h.cells _ h0 h1;rw[<-k2];exact .mp (by have:=h.n;omega) k1
 |cy=>exact .cy
 |vec h0 h1 h2 h3 h4 h5=>
  obtain⟨k1,k2⟩:=h.cells _ h0 h1;have k3:=h.sS _ h0 h1;rw[<-k2];rw[<-k2]at h2;exact .vec (by have:=h.n;omega) k1 (k3.trans h2) h3 h4 h5
 |agg h0 h1 ih=>exact .agg h0 ih
 |av h0 h1 ih=>exact .av h0 ih
def V.leaf:V->Bool
 | .c _| .ptr ..| .aF ..| .ab ..| .fn ..| .cj| .mp _| .cy| .vec ..=>true
 |_=>false
theorem RV.one{κ:K}{x:V}{v:Value}(r:RV κ x v)(h:x.leaf=true):v.oneCell'=true:=by
 cases r with
 |c h=>exact h.one
 |aF h=>exact h.one
 |void|any|agg|av=>cases h
 |ptr|ab|fn|cj|mp|cy|vec=>rfl
inductive V.wk:V->V->Prop where
 |rfl (x:V):V.wk x x
 |any (x:V):V.wk x .any
 |aF (b:Nat) (rows:List (List C)):V.wk (.aF b rows) (.c (.sl rows))
 |ab (rows:List (List C)):V.wk (.ab rows) (.c (.sl rows))
 |agg {vs us:List V} (h:us.length=vs.length) (h1:∀j (hj:j<vs.length) (hj':j<us.length),V.wk vs[j] us[j]):V.wk (.agg vs) (.agg us)
 |av {vs us:List V} (h:us.length=vs.length) (h1:∀j (hj:j<vs.length) (hj':j<us.length),V.wk vs[j] us[j]):V.wk (.av vs) (.av us)
theorem RV.wk{κ:K}{x y:V}{v:Value}(h:V.wk x y)(r:RV κ x v):RV κ y v:=by
 induction h generalizing v with
 |rfl x=>exact r
 |any x=>exact .any v
 |aF b rows=>cases r with|aF h=>exact .c h
 |ab rows=>cases r with|ab h=>exact .c h
 |agg h h1 ih=>cases r with|agg k k1=>exact .agg (by omega) fun j hj=>ih j (by omega) hj (k1 j (by omega))
 |av h h1 ih=>cases r with|av k k1=>exact .av (by omega) fun j hj=>ih j (by omega) hj (k1 j (by omega))
def V.fW:V->Option C
 | .c x=>some x
 | .aF _ rows=>some (.sl rows)
 | .ab rows=>some (.sl rows)
 |_=>none
theorem RV.fW{κ:K}{x:V}{y:C}{v:Value}(r:RV κ x v)(h:x.fW=some y):RC κ.m y v:=by
 cases r with
 |c h0=>simp only[V.fW]at h;injection h with h;subst h;exact h0
 |aF h0=>simp only[V.fW]at h;injection h with h;subst h;exact h0
 |ab h0=>simp only[V.fW]at h;injection h with h;subst h;exact h0
 |_=>cases h
inductive V.low (n:Nat):V->Prop where
 |void:V.low n .void
 |any:V.low n .any
 |c (x:C):V.low n (.c x)
 |ptr {b o:Nat} (h:b<n):V.low n (.ptr b o)
 |aF {b:Nat} {rows:List (List C)} (h:b<n):V.low n (.aF b rows)
 |ab (rows:List (List C)):V.low n (.ab rows)
 |fn {f:FuncId} {caps:List V} (h:∀x∈caps,V.low n x):V.low n (.fn f caps)
 |cj:V.low n .cj
 |mp {b:Nat} (h:b<n):V.low n (.mp b)
 |cy:V.low n .cy
 |vec {b k:Nat} (h:b<n):V.low n (.vec b k)
 |agg {vs:List V} (h:∀x∈vs,V.low n x):V.low n (.agg vs)
 |av {vs:List V} (h:∀x∈vs,V.low n x):V.low n (.av vs)
def K.cut(κ:K)(n:Nat):K:={κ with n:=n}
theorem RV.cut{κ:K}{n:Nat}{x:V}{v:Value}(h:V.low n x)(r:RV κ x v):RV (κ.cut n) x v:=by
 induction r with
 |void=>exact .void
 |any v=>exact .any v
 |c h0=>exact .c h0
 |ptr h0 h1=>cases h with|ptr hb=>exact .ptr (κ:=κ.cut n) hb h1
 |aF h0 h1 h2 h3 h4 h5=>cases h with|aF hb=>exact .aF (κ:=κ.cut n) h0 hb h2 h3 h4 h5
 |ab h0=>exact .ab h0
 |fn h0 h1 ih=>cases h with|fn hc=>exact .fn h0 fun j hj=>ih j hj (hc _ (bw hj))
 |cj=>exact .cj
 |mp h0 h1=>cases h with|mp hb=>exact .mp (κ:=κ.cut n) hb h1
 |cy=>exact .cy
 |vec h0 h1 h2 h3 h4 h5=>cases h with|vec hb=>exact .vec (κ:=κ.cut n) hb h1 h2 h3 h4 h5
 |agg h0 h1 ih=>cases h with|agg hc=>exact .agg h0 fun j hj=>ih j hj (hc _ (bw hj))
 |av h0 h1 ih=>cases h with|av hc=>exact .av h0 fun j hj=>ih j hj (hc _ (bw hj))
theorem RV.low{κ:K}{x:V}{v:Value}(r:RV κ x v):V.low κ.n x:=by
 induction r with
 |void=>exact .void
 |any v=>exact .any
 |c h0=>exact .c _
 |ptr h0 h1=>exact .ptr h0
 |aF h0 h1 h2 h3 h4 h5=>exact .aF h1
 |ab h0=>exact .ab _
 |fn h0 h1 ih=>exact .fn fun x hx=>by obtain⟨j,hj,rfl⟩:=fU hx;exact ih j hj
 |cj=>exact .cj
 |mp h0 h1=>exact .mp h0
 |cy=>exact .cy
 |vec h0=>exact .vec h0
 |agg h0 h1 ih=>exact .agg fun x hx=>by obtain⟨j,hj,rfl⟩:=fU hx;exact ih j hj
 |av h0 h1 ih=>exact .av fun x hx=>by obtain⟨j,hj,rfl⟩:=fU hx;exact ih j hj
inductive ad where
 |cells (cs:List V) (tg:Option TypeId:=none)
 |spare (e:TypeId) (size n:Nat)
 |mp (kvs:List (C×C))
 |vec (e:TypeId) (size:Nat) (cs:List C)
 |gone
 deriving Inhabited
abbrev H:=List ad
def heldBy:Value->Option Nat
 | .slice (some a) _ (_+1)=>some a.block
 |_=>none
theorem wz{v:Value}{g:Nat}(h:heldBy v=some g):v.ownBlock=some g:=by
 unfold heldBy at h;split at h
 ·exact h
 ·cases h
theorem Fy{w:World}{base e size n g:Nat}{v:Value}{xs:List Value}(h:w.ownsRow base e size v n xs)(hn:0<n)(hg:v.ownBlock=some g):heldBy v=some g:=by
 rcases h.2 with⟨_,h0⟩|⟨b,cap,cur,rfl,_,_,hc,_⟩
 ·omega
 ·cases cap with
  |zero=>omega
  |succ c=>exact hg
def ad.bc(κ:K)(b:Nat):ad->Option Nat
 | .cells _ _=>some (κ.pos b)
 | .spare _ _ _=>heldBy (κ.sv b)
 | .mp _=>some (κ.pos b)
 | .vec _ _ _=>some (κ.pos b)
 | .gone=>none
structure ad.cZ (w0:World) (κ:K) (w:World) (b:Nat) (cs:List V) (tg:Option TypeId):Prop where
 fr:κ.fr b=none
 row:∃vs t,w.heap[κ.pos b]?=some (.cells vs t (0,0))/\vs.size=cs.length/\∀j (hj:j<cs.length),cs[j].leaf=true/\RV κ cs[j] (vs.getD j undef)
 own:w0.heap.size<=κ.pos b
 free:∀o,κ.m (κ.pos b) o=none
 ty:∀T,tg=some T->∃vs,w.heap[κ.pos b]?=some (.cells vs T (0,0))
structure ad.OF (w0:World) (κ:K) (w:World) (b:Nat) (e:TypeId) (size n:Nat):Prop where
 fr:κ.fr b=some n
 sz:κ.sz b=size
 row:(n=0/\∃A,κ.sv b= .slice A 0 0)\/(∃xs,w.ownsRow w0.heap.size e size (κ.sv b) n xs)
 free:∀g,heldBy (κ.sv b)=some g->∀o,n*size<=o->κ.m g o=none
structure ad.mapped (w0:World) (κ:K) (w:World) (b:Nat) (kvs:List (C×C)):Prop where
 fr:κ.fr b=none
 row:∃es clock,w.heap[κ.pos b]?=some (.map es clock)/\es.toList.length=kvs.length/\∀j (hj:j<kvs.length) (hj':j<es.toList.length),RC κ.m kvs[j].1 (es.toList[j]).key/\RC κ.m kvs[j].2 (es.toList[j]).val
 own:w0.heap.size<=κ.pos b
 free:∀o,κ.m (κ.pos b) o=none
theorem ad.mapped.le{w0 w:World}{κ κ':K}{b:Nat}{kvs:List (C×C)}(h:ad.mapped w0 κ w b kvs)(hm:κ.m.le κ'.m)(hf:κ'.fr b=none)(hp:κ'.pos b=κ.pos b)(hfree:∀o,κ'.m (κ.pos b) o=none):ad.mapped w0 κ' w b kvs:=by
 obtain⟨es,clock,h1,h2,h3⟩:=h.row;exact⟨hf,⟨es,clock,by rw[hp];exact h1,h2,fun j hj hj'=>⟨(h3 j hj hj').1.mono hm,(h3 j hj hj').2.mono hm⟩⟩,by rw[hp];exact h.own,by rw[hp];exact hfree⟩
structure ad.lP (w0:World) (κ:K) (w:World) (b:Nat) (e size:Nat) (cs:List C):Prop where
 fr:κ.fr b=none
 row:∃vs n cap,κ.sv b= .slice (some ⟨κ.pos b,0,none⟩) n cap/\w.heap[κ.pos b]?=some (.cells vs e (0,0))/\cs.length=n*size/\n<=cap/\cap<=maxLen/\vs.size=cap*size/\∀j (hj:j<cs.length),RC κ.m cs[j] (vs.getD j undef)
 own:w0.heap.size<=κ.pos b
 free:∀o,κ.m (κ.pos b) o=none
theorem ad.lP.le{w0 w:World}{κ κ':K}{b e size:Nat}{cs:List C}(h:ad.lP w0 κ w b e size cs)(hm:κ.m.le κ'.m)(hf:κ'.fr b=none)(hp:κ'.pos b=κ.pos b)(hs:κ'.sv b=κ.sv b)(hfree:∀o,κ'.m (κ.pos b) o=none):ad.lP w0 κ' w b e size cs:=by
 obtain⟨vs,n,cap,h1,h2,h3,h4,h5,h6,h7⟩:=h.row;exact⟨hf,⟨vs,n,cap,by rw[hs,hp];exact h1,by rw[hp];exact h2,h3,h4,h5,h6,fun j hj=>(h7 j hj).mono hm⟩,by rw[hp];exact h.own,by rw[hp];exact hfree⟩
theorem ad.lP.lt{w0 w:World}{κ:K}{b e size:Nat}{cs:List C}(h:ad.lP w0 κ w b e size cs){j:Nat}(hj:j<cs.length){vs:Array Value}(hv:w.heap[κ.pos b]?=some (.cells vs e (0,0))):j<vs.size:=by
 obtain⟨vs',n,cap,h1,h2,h3,h4,h5,h6,h7⟩:=h.row;rw[hv]at h2;injection h2 with h2;injection h2 with h2;subst h2;have:=iN size h4;omega
def ad.is(w0:World)(κ:K)(w:World)(b:Nat):ad->Prop
 | .cells cs tg=>ad.cZ w0 κ w b cs tg
 | .spare e size n=>ad.OF w0 κ w b e size n
 | .mp kvs=>ad.mapped w0 κ w b kvs
 | .vec e size cs=>ad.lP w0 κ w b e size cs
 | .gone=>True
structure aB (w0:World) (κ:K) (σ:H) (w:World):Prop where
 n:κ.n=σ.length
 ext:Below w0.heap.size w0 w
 mem:∀b o v,κ.m b o=some v->w.cell? ⟨b,o,none⟩=some v
 cz:∀b (h:b<σ.length),(σ[b]).is w0 κ w b
 apart:∀a b (ha:a<σ.length) (hb:b<σ.length) g,a≠b->(σ[a]).bc κ a=some g->(σ[b]).bc κ b≠some g
 rest:∀l o,κ.rest l=some o->w.heap[l]?=some o/\o.isCells=false/\∀b (hb:b<σ.length),(σ[b]).bc κ b≠some l
 dt:κ.dt<=w.heap.size
theorem V.wA{n n':Nat}(h:n<=n'){x:V}(r:V.low n x):V.low n' x:=by
 induction r with
 |void=>exact .void
 |any=>exact .any
 |c x=>exact .c x
 |ptr h0=>exact .ptr (by omega)
 |aF h0=>exact .aF (by omega)
 |ab r=>exact .ab r
 |fn h0 ih=>exact .fn ih
 |cj=>exact .cj
 |mp h0=>exact .mp (by omega)
 |cy=>exact .cy
 |vec h0=>exact .vec (by omega)
 |agg h0 ih=>exact .agg ih
 |av h0 ih=>exact .av ih
def H.ok(σ:H):Prop:=∀b∈σ,∀cs tg,b= .cells cs tg->∀x∈cs,V.low σ.length x
theorem aB.ok{w0 w:World}{κ:K}{σ:H}(h:aB w0 κ σ w):H.ok σ:=by
 intro b hb cs tg hc x hx;obtain⟨i,hi,rfl⟩:=fU hb;have:=h.cz i hi;rw[hc]at this;obtain⟨vs,t,_,_,hr⟩:=this.row;obtain⟨j,hj,rfl⟩:=fU hx;rw[<-h.n];exact(hr j hj).2.low
theorem aB.cut{w0 w:World}{κ:K}{σ:H}(h:aB w0 κ σ w)(n:Nat)(hn:n<=σ.length)(hok:H.ok (σ.take n)):aB w0 (κ.cut n) (σ.take n) w:=by
 have hl:(σ.take n).length=n:=by simp[hn]
 refine⟨by rw[hl];rfl,h.ext,h.mem,fun b hb=>?_,fun a b ha hb g hne=>?_,fun l o hr=>⟨(h.rest l o hr).1,(h.rest l o hr).2.1,fun b hb=>by simp only[oU];exact(h.rest l o hr).2.2 b (by omega)⟩,h.dt⟩
 ·have hb':b<σ.length:=by omega
  have hg:(σ.take n)[b]=σ[b]:=oU;have:=h.cz b hb';have hmem:(σ.take n)[b]∈σ.take n:=bw hb;rw[hg]at hmem⊢;cases hσ:σ[b]with
  |cells cs tg=>
   rw[hσ]at this hmem;obtain⟨vs,t,h1,h2,h3⟩:=this.row;refine⟨this.fr,⟨vs,t,h1,h2,fun j hj=>⟨(h3 j hj).1,(h3 j hj).2.cut ?_⟩⟩,this.own,this.free,this.ty⟩;have:=hok _ hmem cs tg rfl cs[j] (bw hj);rwa [hl]at this
  |spare e size k=>
   rw[hσ]at this;exact⟨this.fr,this.sz,this.row,this.free⟩
  |mp kvs=>
   rw[hσ]at this;exact⟨this.fr,this.row,this.own,this.free⟩
  |vec e size cs=>
   rw[hσ]at this;exact⟨this.fr,this.row,this.own,this.free⟩
  |gone=>trivial
 ·simp only[oU];exact h.apart a b (by omega) (by omega) g hne
theorem K.Ab{κ κ':K}{n:Nat}(h:κ.le κ')(hn:κ.n<=n):κ.le (κ'.cut n):=⟨h.m,hn,h.cells,h.spare,h.sS,h.rest,h.dt⟩
abbrev Env:=Nat->V
inductive ai where
 |t (n:Nat)
 |k (v:V)
 deriving Inhabited
def ai.ev(ρ:Env):ai->V
 | .t n=>ρ n
 | .k v=>v
inductive KD where
 |b
 |i (k:IntKind)
 |s
 deriving Inhabited
def mY:TypeDesc->Option KD
 | .bool=>some .b
 | .int k=>some (.i k)
 | .string=>some .s
 |_=>none
def KD.ok:KD->C->Bool
 | .b,.bool _=>true
 | .i k,.int k' _=>k'==k
 | .s,.str _=>true
 |_,_=>false
def iU:C->C->Bool
 | .bool a,.bool b=>a==b
 | .int _ a,.int _ b=>a==b
 | .str a,.str b=>a==b
 |_,_=>false
def iu(k:C):List (C×C)->Option C
 |[]=>none
 |(x,v)::l=>if iU k x then some v else iu k l
def iv(k v:C):List (C×C)->List (C×C)
 |[]=>[(k,v)]
 |(x,u)::l=>if iU k x then(k,v)::l else(x,u)::iv k v l
def nU(ok:Bool)(z:C)(r:Option C):V:=if ok then .av [.c (r.getD z),.c (.bool r.isSome)]else .c (r.getD z)
inductive bh where
 |af (x:ai)
 |pick (c a b:ai)
 |box (x:ai) (tg:Option TypeId:=none)
 |build (zero:List V) (parts:List (Nat×Nat×ai))
 |bn (size:Nat) (parts:List ai)
 |aU (x:ai)
 |eJ (n:Nat) (x:ai)
 |store (n:Nat) (x y:ai)
 |gO (x:ai)
 |bin (op:BinOp) (x y:ai)
 |o4 (neg:Bool) (x y:ai)
 |lQ (neg:Bool) (k:Nat) (x:ai)
 |eqs (neg:Bool) (ks:List Nat) (x y:ai)
 |un (op:UnOp) (x:ai)
 |conv (k:IntKind) (x:ai)
 |gB (f:FuncId) (caps:List ai)
 |qJ (x:ai)
 |sT (x:ai)
 |qK (x:ai) (lo hi:Option ai)
 |jq (size:Nat) (x:ai) (lo hi mx:Option ai)
 |aX (off:Nat) (x:ai)
 |jr (off:Nat) (x:ai)
 |sU (off n:Nat) (x:ai)
 |aI (size:Nat) (x i:ai)
 |index (x i:ai)
 |ext (x:ai) (i:Nat)
 |lens (x:ai)
 |aO (x:ai)
 |app (e:TypeId) (size bytes:Nat) (x y:ai)
 |lR (e:TypeId) (bytes:Nat) (x y:ai)
 |mx (x y:ai)
 |mn (x y:ai)
 |iw (neg:Bool) (x:ai)
 |kT
 |kU (e:TypeId) (bytes:Nat) (z:C) (x:ai)
 |look (ok:Bool) (q:KD) (z:C) (x k:ai)
 |j0 (q:KD) (x k y:ai)
 |o5 (x:ai)
 |call (f:ai) (args:List ai)
 |bad
 deriving Inhabited
def V.ah:V->List V
 | .agg vs=>vs
 |x=>[x]
def leaves(l:List V):Bool:=l.all V.leaf
def fq:List V->Option (List C)
 |[]=>some []
 |x::l=>match x.fW,fq l with
  |some a,some r=>some (a::r)
  |_,_=>none
def iV(σ:H):V->Option (List V×Nat)
 | .ptr b o=>match σ[b]? with
   |some (.cells cs _)=>some (cs,o)
   |some (.vec _ _ cs)=>some (cs.map .c,o)
   |_=>none
 | .c (.ref cs o)=>some (cs.map .c,o)
 |_=>none
def V.rows:V->Option (List (List C))
 | .c (.sl r)=>some r
 | .aF _ r=>some r
 | .ab r=>some r
 |_=>none
def V.sub(lo mx:Option ai):V->Option (Nat×Nat)
 | .vec b k=>match lo,mx with
   |none,none=>some (b,k)
   |_,_=>none
 |_=>none
def nV:List (List C)->Option (List UInt8)
 |[]=>some []
 |[.int .u8 n]::r=>match nV r with
  |some l=>some (sF n.toNat::l)
  |none=>none
 |_::_=>none
def kV(ρ:Env):List V->List (Nat×Nat×ai)->Option (List V)
 |cs,[]=>some cs
 |cs,(off,size,x)::l=>
  if leaves (x.ev ρ).ah=true/\(x.ev ρ).ah.length=size/\off+size<=cs.length then kV ρ (cs.take off++(x.ev ρ).ah++cs.drop (off+size)) l else none
def iW(ρ:Env)(size:Nat):List ai->Option (List (List C))
 |[]=>some []
 |x::l=>match fq (x.ev ρ).ah,iW ρ size l with
  |some a,some r=>if a.length=size then some (a::r)else none
  |_,_=>none
def gC(ρ:Env)(n:Nat):Option ai->Option Nat
 |none=>some n
 |some x=>match x.ev ρ with
  | .c (.int _ i)=>if 0<=i/\i<=n then some i.toNat else none
  |_=>none
def jt(ρ:Env)(n:Nat):Option ai->Option Nat
 |none=>some 0
 |some x=>match x.ev ρ with
  | .c (.int _ i)=>if 0<=i/\i<=n then some i.toNat else none
  |_=>none
def Ac(op:BinOp)(k:IntKind)(a b:Int):Option C:=
 match op with
 | .add=>some (.int k (k.wrap (a+b)))
 | .sub=>some (.int k (k.wrap (a-b)))
 | .mul=>some (.int k (k.wrap (a*b)))
 | .quo=>if b=0 then none else some (.int k (k.wrap (a.tdiv b)))
 | .rem=>if b=0 then none else some (.int k (a.tmod b))
 | .eql=>some (.bool (a==b))
 | .neq=>some (.bool (a !=b))
 | .lss=>some (.bool (a<b))
 | .leq=>some (.bool (a<=b))
 | .gtr=>some (.bool (a>b))
 | .geq=>some (.bool (a>=b))
 |_=>none
def Ad(op:BinOp)(a b:List UInt8):Option C:=
 match op with
 | .add=>if a.length+b.length<=9223372036854775807 then some (.str (a++b))else none
 | .eql=>some (.bool (a==b))
 | .neq=>some (.bool (!(a==b)))
 | .lss=>some (.bool (Op.bytesLess a b))
 |_=>none
def wB(op:BinOp):V->V->Option V
 | .c (.int k a),.c (.int k' b)=>if k=k' then(Ac op k a b).map .c else none
 | .c (.str a),.c (.str b)=>(Ad op a b).map .c
 |_,_=>none
def V.isNil:Nat->V->Option Bool
 |0,.c .ez=>some true
 |0,.ptr ..=>some false
 |0,.c (.ref ..)=>some false
 |1,.c .iT=>some true
 |1,.c .err=>some false
 |2,.cj=>some true
 |2,.fn ..=>some false
 |_,_=>none
def qL:Nat->C->C->Option Bool
 |0,.bool a,.bool b=>some (a==b)
 |1,.int k a,.int k' b=>if k=k' then some (a==b)else none
 |2,.str a,.str b=>some (a==b)
 |_,_,_=>none
def kW:List Nat->List V->List V->Option Bool
 |[],[],[]=>some true
 |k::ks,.c x::l,.c y::r=>match qL k x y,kW ks l r with
  |some a,some b=>some (a&&b)
  |_,_=>none
 |_,_,_=>none
def mZ(l:List UInt8):List (List C):=l.map fun b=>[.int .u8 b.toNat]
def nc(e:TypeId)(size bytes:Nat)(x:V)(news:List (List C))(σ:H):Option (V×H):=match x with
 | .vec b k=>match news with
   |[]=>some (.vec b k,σ)
   |_::_=>match σ[b]? with
   |some (.vec e' size' cs)=>if e'=e/\size'=size/\k*size<=cs.length/\news≠[]/\(∀r∈news,r.length=size)/\(k+news.length)*bytes<=140737488355328/\k+news.length<=140737488355328 then
     some (.vec σ.length (k+news.length),σ.set b .gone++[.vec e size (cs.take (k*size)++news.flatten)])else none
   |_=>none
 | .aF b rows=>match σ[b]? with
   |some (.spare e' size' n)=>if e'=e/\size'=size/\rows.length=n/\(∀r∈news,r.length=size)/\(n+news.length)*bytes<=140737488355328/\n+news.length<=140737488355328 then
     some (.aF b (rows++news),σ.set b (.spare e size (n+news.length)))else none
   |_=>none
 | .ab olds=>if(olds=[]\/news≠[])/\(∀r∈olds,r.length=size)/\(∀r∈news,r.length=size)/\(olds.length+news.length)*bytes<=140737488355328/\olds.length+news.length<=140737488355328 then
    some (.aF σ.length (olds++news),σ++[.spare e size (olds.length+news.length)])else none
 |_=>none
def step(ρ:Env)(σ:H):bh->Option (V×H)
 | .af x=>some (x.ev ρ,σ)
 | .pick c a b=>match c.ev ρ with
   | .c (.bool t)=>some (if t then a.ev ρ else b.ev ρ,σ)
   |_=>none
 | .box x tg=>if leaves (x.ev ρ).ah then some (.ptr σ.length 0,σ++[.cells (x.ev ρ).ah tg])else none
 | .build zero parts=>match kV ρ zero parts with
   |some cs=>some (.agg cs,σ)
   |none=>none
 | .bn size parts=>match iW ρ size parts with
   |some rows=>some (.ab rows,σ)
   |none=>none
 | .aU x=>match iV σ (x.ev ρ)with
   |some (cs,o)=>match cs[o]? with
    |some u=>some (u,σ)
    |none=>none
   |none=>none
 | .eJ n x=>match iV σ (x.ev ρ)with
   |some (cs,o)=>if o+n<=cs.length then some (.agg ((cs.drop o).take n),σ)else none
   |none=>none
 | .store n x y=>match x.ev ρ with
   | .ptr b o=>match σ[b]? with
     |some (.cells cs tg)=>if(y.ev ρ).ah.length=n/\o+n<=cs.length/\leaves (y.ev ρ).ah=true then some (.void,σ.set b (.cells (cs.take o++(y.ev ρ).ah++cs.drop (o+n)) tg))else none
     |some (.vec e size cs)=>match fq (y.ev ρ).ah with
      |some ys=>if ys.length=n/\o+n<=cs.length then some (.void,σ.set b (.vec e size (cs.take o++ys++cs.drop (o+n))))else none
      |none=>none
     |_=>none
   |_=>none
 | .gO x=>match x.ev ρ with
   | .ptr b o=>some (.ptr b o,σ)
   | .c (.ref cs o)=>some (.c (.ref cs o),σ)
   | .fn f caps=>some (.fn f caps,σ)
   |_=>none
 | .bin op x y=>match wB op (x.ev ρ) (y.ev ρ)with
   |some v=>some (v,σ)
   |none=>none
 | .o4 neg x y=>match x.ev ρ,y.ev ρ with
   | .c (.bool p),.c (.bool q)=>some (.c (.bool (if neg then !(p==q)else p==q)),σ)
   |_,_=>none
 | .lQ neg k x=>match(x.ev ρ).isNil k with
   |some p=>some (.c (.bool (if neg then !p else p)),σ)
   |none=>none
 | .eqs neg ks x y=>match x.ev ρ,y.ev ρ with
   | .agg xs,.agg ys=>match kW ks xs ys with
     |some p=>some (.c (.bool (if neg then !p else p)),σ)
     |none=>none
   |_,_=>none
 | .un op x=>match op,x.ev ρ with
   | .not,.c (.bool b)=>some (.c (.bool (!b)),σ)
   | .neg,.c (.int k n)=>some (.c (.int k (k.wrap (0-n))),σ)
   |_,_=>none
 | .conv k x=>match x.ev ρ with
   | .c (.int _ n)=>some (.c (.int k (k.wrap n)),σ)
   |_=>none
 | .gB f caps=>some (.fn f (caps.map (·.ev ρ)),σ)
 | .qJ x=>match x.ev ρ with
   | .c (.str l)=>some (.c (.str l),σ)
   |_=>none
 | .sT x=>match(x.ev ρ).rows with
   |some r=>match nV r with
    |some l=>some (.c (.str l),σ)
    |none=>none
   |none=>none
 | .qK x lo hi=>match x.ev ρ with
   | .c (.str l)=>match gC ρ l.length hi with
     |some h=>match jt ρ h lo with
      |some a=>some (.c (.str ((l.drop a).take (h-a))),σ)
      |none=>none
     |none=>none
   |_=>none
 | .jq size x lo hi mx=>match(x.ev ρ).sub lo mx with
   |some (b,k)=>match gC ρ k hi with
    |some h=>some (.vec b h,σ)
    |none=>none
   |none=>match(x.ev ρ).rows with
   |some r=>if∀cs∈r,cs.length=size then match gC ρ r.length hi with
    |some h=>match jt ρ h lo with
     |some a=>match mx with
      |none=>some (.c (.sl ((r.drop a).take (h-a))),σ)
      |some m=>match gC ρ r.length (some m)with
       |some m'=>if m'=h then some (.ab ((r.drop a).take (h-a)),σ)else none
       |none=>none
     |none=>none
    |none=>none else none
   |none=>none
 | .aX off x=>match x.ev ρ with
   | .ptr b o=>some (.ptr b (o+off),σ)
   | .c (.ref cs o)=>some (.c (.ref cs (o+off)),σ)
   |_=>none
 | .jr off x=>match x.ev ρ with
   | .agg vs=>match vs[off]? with
     |some u=>some (u,σ)
     |none=>none
   |_=>none
 | .sU off n x=>match x.ev ρ with
   | .agg vs=>if off+n<=vs.length then some (.agg ((vs.drop off).take n),σ)else none
   |_=>none
 | .aI size x i=>match i.ev ρ with
   | .c (.int _ j)=>match x.ev ρ with
     | .vec b k=>if 0<=j/\j<k then some (.ptr b (j.toNat*size),σ)else none
     |u=>match u.rows with
      |some r=>if 0<=j/\j<r.length then match r[j.toNat]? with
        |some cs=>if cs.length=size then some (.c (.ref cs 0),σ)else none
        |none=>none
       else none
      |none=>none
   |_=>none
 | .index x i=>match x.ev ρ,i.ev ρ with
   | .c (.str l),.c (.int _ j)=>if 0<=j/\j<l.length then match l[j.toNat]? with
      |some b=>some (.c (.int .u8 b.toNat),σ)
      |none=>none
     else none
   |_,_=>none
 | .ext x i=>match x.ev ρ with
   | .av vs=>match vs[i]? with
     |some u=>some (u,σ)
     |none=>none
   |_=>none
 | .lens x=>match x.ev ρ with
   | .c (.str l)=>some (.c (.int .i64 l.length),σ)
   |_=>none
 | .aO x=>match x.ev ρ with
   | .vec _ k=>some (.c (.int .i64 k),σ)
   |u=>match u.rows with
    |some r=>some (.c (.int .i64 r.length),σ)
    |none=>none
 | .app e size bytes x y=>match(y.ev ρ).rows with
   |some news=>nc e size bytes (x.ev ρ) news σ
   |none=>none
 | .lR e bytes x y=>match y.ev ρ with
   | .c (.str l)=>nc e 1 bytes (x.ev ρ) (mZ l) σ
   |_=>none
 | .mx x y=>match x.ev ρ,y.ev ρ with
   | .c (.int k a),.c (.int _ b)=>some (.c (.int k (if b>a then b else a)),σ)
   |_,_=>none
 | .mn x y=>match x.ev ρ,y.ev ρ with
   | .c (.int k a),.c (.int _ b)=>some (.c (.int k (if b<a then b else a)),σ)
   |_,_=>none
 | .iw _ _=>none
 | .kT=>some (.mp σ.length,σ++[.mp []])
 | .kU e bytes z x=>match x.ev ρ with
   | .c (.int _ n)=>if 0<=n/\bytes*n<=140737488355328/\n<=140737488355328 then some (.vec σ.length n.toNat,σ++[.vec e 1 (List.replicate n.toNat z)])else none
   |_=>none
 | .look ok q z x k=>match x.ev ρ,k.ev ρ with
   | .mp b,.c kc=>match σ[b]? with
     |some (.mp kvs)=>if q.ok kc=true/\(kvs.all fun p=>q.ok p.1)=true then some (nU ok z (iu kc kvs),σ)else none
     |_=>none
   |_,_=>none
 | .j0 q x k y=>match x.ev ρ,k.ev ρ,(y.ev ρ).fW with
   | .mp b,.c kc,some vc=>match σ[b]? with
     |some (.mp kvs)=>if q.ok kc=true/\(kvs.all fun p=>q.ok p.1)=true then some (.void,σ.set b (.mp (iv kc vc kvs)))else none
     |_=>none
   |_,_,_=>none
 | .o5 x=>match x.ev ρ with
   | .mp b=>match σ[b]? with
     |some (.mp kvs)=>some (.c (.int .i64 kvs.length),σ)
     |_=>none
   |_=>none
 | .call _ _=>none
 | .bad=>none
def fE:Value->Option V
 | .bool b=>some (.c (.bool b))
 | .int k n=>some (.c (.int k n))
 | .string s=>if s.data.toList.length<=maxLen then some (.c (.str s.data.toList))else none
 | .pointer none=>some (.c .ez)
 | .slice none 0 0=>some (.ab [])
 | .nilFunc=>some .cj
 | .nilIface=>some (.c .iT)
 | .map none=>some .cy
 |_=>none
def qM:Value->Option V
 | .agg xs=>(xs.toList.mapM fE).map .agg
 | .func (.func f) ⟨[]⟩ ⟨[]⟩=>some (.fn f [])
 |v=>fE v
def bF:Operand->Option ai
 | .tmp t=>some (.t t)
 | .const v=>(qM v).map .k
 | .func f=>some (.k (.fn f []))
 | .global _=>none
def gP:Option Operand->Option (Option ai)
 |none=>some none
 |some x=>match bF x with
  |some y=>some (some y)
  |none=>none
def du(f:ai->bh)(x:Operand):Option bh:=match bF x with
 |some a=>some (f a)
 |none=>none
def dY(f:ai->ai->bh)(x y:Operand):Option bh:=match bF x,bF y with
 |some a,some b=>some (f a b)
 |_,_=>none
def bR(P:Program)(t:TypeId):Option Nat:=(P.info? t).map (·.size)
def qN(P:Program):List Field->Option (List (Nat×Nat))
 |[]=>some []
 |f::l=>match bR P f.type,qN P l with
  |some s,some r=>some ((f.offset,s)::r)
  |_,_=>none
def qO(pl:List (Nat×Nat)):List (Nat×Operand)->Option (List (Nat×Nat×ai))
 |[]=>some []
 |(i,x)::l=>match pl[i]?,bF x,qO pl l with
  |some (o,s),some y,some r=>some ((o,s,y)::r)
  |_,_,_=>none
def nd:Nat->List (Nat×Operand)->Option (List ai)
 |_,[]=>some []
 |k,(i,x)::l=>if i=k then match bF x,nd (k+1) l with
   |some y,some r=>some (y::r)
   |_,_=>none
  else none
def ju:TypeDesc->Bool
 | .struct _| .array ..=>true
 |_=>false
def lS(P:Program)(t:TypeId):Option V:=match P.info? t with
 |some i=>match i.zero with
  |some z=>qM z
  |none=>none
 |none=>none
def Fz(P:Program)(name:String)(t:TypeId):Bool:=match P.underlying t with
 |some (.struct fs)=>fs.any fun f=>f.name==name
 |_=>false
def OG(P:Program)(t:TypeId):Bool:=Fz P "addr" t||(match P.underlying t with|some (.struct fs)=>fs.any fun f=>Fz P "addr" f.type|_=>false)
def o6(P:Program)(t:TypeId):Option TypeId:=if OG P t then some t else none
def lT(P:Program)(b:Builtin)(args:List Operand)(ats:List TypeId):Option bh:=
 match b,args,ats with
 | .len,[x],[t]=>match P.underlying t with
   |some .string=>du .lens x
   |some (.slice _)=>du .aO x
   |some (.map _ _)=>du .o5 x
   |_=>none
 | .append,[x,y],[t,t']=>if t=t' then match P.underlying t with
    |some (.slice e)=>match P.info? e with
     |some i=>match i.zero with
      |some z=>if z.cells.size=i.size/\0<i.size then dY (.app e i.size i.bytes) x y else none
      |none=>none
     |none=>none
    |_=>none
   else match P.underlying t,P.underlying t' with
    |some (.slice e),some .string=>match P.info? e with
     |some i=>match i.zero with
      |some z=>if z.cells.size=i.size/\i.size=1 then dY (.lR e i.bytes) x y else none
      |none=>none
     |none=>none
    |_,_=>none
 | .max,[x,y],_=>dY .mx x y
 | .min,[x,y],_=>dY .mn x y
 |_,_,_=>none
def _root_.Go.BinOp.plain:BinOp->Bool
 | .add| .sub| .mul| .quo| .rem| .eql| .neq| .lss| .leq| .gtr| .geq=>true
 |_=>false
def Ae:Operand->Bool
 | .const (.slice none 0 0)=>true
 |_=>false
def sV(op:BinOp)(x:Operand):Option bh:=match op with
 | .eql=>du (.iw false) x
 | .neq=>du (.iw true) x
 |_=>none
def nW(k:Nat)(op:BinOp)(x:Operand):Option bh:=match op with
 | .eql=>du (.lQ false k) x
 | .neq=>du (.lQ true k) x
 |_=>none
def wC:TypeDesc->Option Nat
 | .bool=>some 0
 | .int _=>some 1
 | .string=>some 2
 |_=>none
def qP(P:Program):Nat->List Field->Option (List Nat)
 |_,[]=>some []
 |k,f::l=>if f.offset=k/\f.name≠ "_" then match P.underlying f.type with
   |some d=>match wC d,qP P (k+1) l with
    |some q,some r=>some (q::r)
    |_,_=>none
   |none=>none
  else none
def wD(P:Program)(t:TypeId):Option (KD×C):=match P.underlying t with
 |some (.map kt et)=>match P.underlying kt,lS P et with
  |some d,some (.c z)=>match mY d with
   |some q=>some (q,z)
   |none=>none
  |_,_=>none
 |_=>none
def wE(P:Program)(t:TypeId):Option KD:=match P.underlying t with
 |some (.map kt _)=>match P.underlying kt with
  |some d=>mY d
  |none=>none
 |_=>none
def jv(P:Program)(t:TypeId):Operand->Operand->Option bh
 | .tmp l,.tmp c=>if l=c then match P.underlying t with
    |some (.slice e)=>match P.info? e with
     |some i=>match i.zero with
      |some z=>match fE z with
       |some (.c zc)=>if i.size=1/\z.cells.size=1 then some (.kU e i.bytes zc (.t l))else none
       |_=>none
      |none=>none
     |none=>none
    |_=>none
   else none
 |_,_=>none
theorem Af{P:Program}{t:TypeId}{l c:Operand}{i:bh}(h:jv P t l c=some i):∃e b z x,i= .kU e b z x:=by
 unfold jv at h
 repeat' split at h
 all_goals first
  |(cases h;done)
  |(injection h with h;exact⟨_,_,_,_,h.symm⟩)
def be(P:Program)(o:Op):Option bh:=
 match o with
 | .move x=>du .af x
 | .assign x=>du .af x
 | .pick c a b=>match bF c,bF a,bF b with
   |some c,some a,some b=>some (.pick c a b)
   |_,_,_=>none
 | .alloc t=>match lS P t with
   |some z=>some (.box (.k z) (o6 P t))
   |none=>none
 | .box t x=>du (fun y=>.box y (o6 P t)) x
 | .build t parts=>match P.underlying t,lS P t with
   |some (.struct fields),some z=>match qN P fields.toList with
    |some pl=>match qO pl parts.toList with
     |some ps=>if leaves z.ah=true then some (.build z.ah ps)else none
     |none=>none
    |none=>none
   |_,_=>none
 | .buildSlice t n parts=>match P.underlying t with
   |some (.slice e)=>match P.info? e with
    |some i=>match i.zero,nd 0 parts.toList with
     |some z,some ps=>if z.cells.size=i.size/\ps.length=n/\0<i.size/\n*i.size<=16777216 then some (.bn i.size ps)else none
     |_,_=>none
    |none=>none
   |_=>none
 | .load t x=>match P.underlying t,P.info? t with
   |some d,some i=>if ju d then du (.eJ i.size) x else du .aU x
   |_,_=>none
 | .store t x y=>match P.info? t with
   |some i=>dY (.store i.size) x y
   |none=>none
 | .nilCheck x=>du .gO x
 | .binOp op t x y _=>match P.underlying t with
   |some (.int _)=>if op.plain then dY (.bin op) x y else none
   |some .string=>if op.plain then dY (.bin op) x y else none
   |some .bool=>match op with
    | .eql=>dY (.o4 false) x y
    | .neq=>dY (.o4 true) x y
    |_=>none
   |some (.pointer _)=>match y with
    | .const (.pointer none)=>nW 0 op x
    |_=>none
   |some (.interface _)=>match y with
    | .const .nilIface=>nW 1 op x
    |_=>none
   |some (.func ..)=>match y with
    | .const .nilFunc=>nW 2 op x
    |_=>none
   |some (.slice _)=>if Ae y then sV op x else none
   |some (.struct fields)=>match qP P 0 fields.toList with
    |some ks=>if P.stoodInHeld t||P.eqGuardType P.depth t then none else match op with
     | .eql=>dY (.eqs false ks) x y
     | .neq=>dY (.eqs true ks) x y
     |_=>none
    |none=>none
   |_=>none
 | .unOp op _ x=>du (.un op) x
 | .convert s t x=>match P.underlying s,P.underlying t with
   |some (.int _),some (.int k)=>du (.conv k) x
   |some .string,some .string=>du .qJ x
   |some (.slice e),some .string=>match P.underlying e with
    |some (.int .u8)=>du .sT x
    |_=>none
   |_,_=>none
 | .makeFunc (.func f) ⟨[]⟩ caps=>match caps.toList.mapM bF with
   |some cs=>some (.gB f cs)
   |none=>none
 | .slice t x lo hi mx=>match P.underlying t with
   |some .string=>match mx,bF x,gP lo,gP hi with
    |none,some x,some lo,some hi=>some (.qK x lo hi)
    |_,_,_,_=>none
   |some (.slice e)=>match P.info? e,bF x,gP lo,gP hi,gP mx with
    |some i,some x,some lo,some hi,some mx=>if mx.isSome&&hi.isNone then none else some (.jq i.size x lo hi mx)
    |_,_,_,_,_=>none
   |_=>none
 | .fieldAddr s x f=>match P.underlying s with
   |some (.struct fields)=>match fields[f]? with
    |some fl=>match bR P fl.type with
     |some k=>if k=0 then none else du (.aX fl.offset) x
     |none=>none
    |none=>none
   |_=>none
 | .field s x f=>match P.underlying s with
   |some (.struct fields)=>match fields[f]? with
    |some fl=>match P.underlying fl.type,bR P fl.type with
     |some d,some k=>if ju d then du (.sU fl.offset k) x else du (.jr fl.offset) x
     |_,_=>none
    |none=>none
   |_=>none
 | .indexAddr t x i=>match P.underlying t with
   |some (.slice e)=>match bR P e with
    |some k=>dY (.aI k) x i
    |none=>none
   |_=>none
 | .index t x i=>match P.underlying t with
   |some .string=>dY .index x i
   |_=>none
 | .extract x i=>du (fun a=>.ext a i) x
 | .makeMap _ r=>if r.isNone then some .kT else none
 | .makeSlice t l c=>jv P t l c
 | .lookup t x k ok=>match wD P t with
   |some (q,z)=>dY (.look ok q z) x k
   |none=>none
 | .mapUpdate t x k y=>match wE P t,bF x,bF k,bF y with
   |some q,some x,some k,some y=>some (.j0 q x k y)
   |_,_,_,_=>none
 | .call c=>match c.callee with
   | .builtin b=>lT P b c.args.toList c.argTypes.toList
   | .value f=>match bF f,c.args.toList.mapM bF with
     |some f,some as=>some (.call f as)
     |_,_=>none
   |_=>none
 |_=>none
section
variable {P:Program} {w0 w:World} {κ:K} {σ σ':H} {a:Act} {ρ:Env}
theorem Ag{v:Value}{x:V}(h:fE v=some x):RV κ x v:=by
 cases v with
 |bool b=>simp only[fE]at h;injection h with h;subst h;exact .c (.bool _)
 |int k n=>simp only[fE]at h;injection h with h;subst h;exact .c (.int _ _)
 |string s=>
  simp only[fE]at h;split at h
  ·rename_i hl;injection h with h;subst h;have:=RC.str (m:=κ.m) s.data.toList hl;exact .c this
  ·cases h
 |pointer p=>
  cases p with
  |none=>simp only[fE]at h;injection h with h;subst h;exact .c .ez
  |some a=>simp only[fE]at h;cases h
 |slice p n c=>
  unfold fE at h;split at h
  all_goals first
   |(cases h;done)
   |skip
  all_goals first
   |(rename_i hh;cases hh;done)
   |skip
  rename_i hh;injection hh with h1 h2 h3;subst h1 h2 h3;injection h with h;subst h;exact .ab (A:=none) (RC.nil _)
 |nilFunc=>simp only[fE]at h;injection h with h;subst h;exact .cj
 |nilIface=>simp only[fE]at h;injection h with h;subst h;exact .c .iT
 |map r=>
  cases r with
  |none=>simp only[fE]at h;injection h with h;subst h;exact .cy
  |some r=>simp only[fE]at h;cases h
 |_=>simp only[fE]at h;cases h
theorem mapM_some{α β:Type}{f:α->Option β}:∀{l:List α} {r:List β},l.mapM f=some r->r.length=l.length/\∀j (hj:j<l.length) (hj':j<r.length),f l[j]=some r[j]
 |[],r,h=>by
  simp at h;subst h;exact⟨rfl,fun j hj=>by simp at hj⟩
 |x::l,r,h=>by
  simp only[List.mapM_cons]at h;cases hx:f x with
  |none=>rw[hx]at h;cases h
  |some y=>
   rw[hx]at h;cases hl:l.mapM f with
   |none=>rw[hl]at h;cases h
   |some ys=>
    rw[hl]at h;have h:y::ys=r:=by simpa using h
    subst h;obtain⟨h1,h2⟩:=mapM_some hl;refine⟨by simp[h1],fun j hj hj'=>?_⟩;cases j with
    |zero=>exact hx
    |succ j=>exact h2 j (by simpa using hj) (by simpa using hj')
theorem gQ{xs:List Value}{j:Nat}(h:j<xs.length):xs.getD j undef=xs[j]:=by simp[lG,h]
theorem wF{v:Value}{x:V}(h:qM v=some x):RV κ x v:=by
 unfold qM at h;split at h
 ·rename_i xs;cases hm:xs.toList.mapM fE with
  |none=>rw[hm]at h;cases h
  |some vs=>
   rw[hm]at h;injection h with h;subst h;obtain⟨h1,h2⟩:=mapM_some hm;have:=RV.agg (κ:=κ) (vs:=vs) (xs:=xs.toList) h1.symm fun j hj=>by
    have hj':j<xs.toList.length:=by omega
    rw[gQ hj'];exact Ag (κ:=κ) (h2 j hj' hj)
   simpa using this
 ·injection h with h;subst h;exact .fn (caps:=[]) (vs:=[]) rfl (fun j hj=>by simp at hj)
 ·exact Ag h
def b8(κ:K)(ρ:Env)(a:Act):Prop:=∀k,RV κ (ρ k) (a.tmps.getD k undef)
theorem b8.mono{κ':K}(h:κ.le κ')(he:b8 κ ρ a):b8 κ' ρ a:=fun k=>(he k).mono h
theorem bO(he:b8 κ ρ a){x:Operand}{y:ai}(h:bF x=some y):RV κ (y.ev ρ) (a.eval x):=by
 cases x with
 |tmp t=>simp only[bF]at h;injection h with h;subst h;exact he t
 |const v=>
  simp only[bF]at h;cases hv:qM v with
  |none=>rw[hv]at h;cases h
  |some u=>rw[hv]at h;injection h with h;subst h;exact wF hv
 |global g=>cases h
 |func f=>
  simp only[bF]at h;injection h with h;subst h;exact .fn (caps:=[]) (vs:=[]) rfl (fun j hj=>by simp at hj)
def bf(w0:World)(κ:K)(σ:H)(v:V)(r:Result Next):Prop:=
 ∃κ' v' w',(r= .ok (.value v') w'\/(r= .ok .skip w'/\v'=undef))/\κ.le κ'/\aB w0 κ' σ w'/\RV κ' v v'
theorem bf.still{v:V}{v':Value}{r:Result Next}(hr:r= .ok (.value v') w)(hrep:aB w0 κ σ w)(hv:RV κ v v'):bf w0 κ σ v r:=
 ⟨κ,v',w,.inl hr,K.le_refl κ,hrep,hv⟩
theorem add_lit(b o n:Nat):(⟨b,o,none⟩:Addr).add n=⟨b,o+n,none⟩:=by unfold Addr.add;split<;>simp_all
theorem Ah{x:V}{v:Value}{cs:List V}{o:Nat}(hrep:aB w0 κ σ w)(h:iV σ x=some (cs,o))(hv:RV κ x v):
  ∃b p,v= .pointer (some ⟨b,p+o,none⟩)/\∀j (hj:j<cs.length),∃u,w.cell? ⟨b,p+j,none⟩=some u/\RV κ cs[j] u:=by
 cases hv with
 |ptr h0 h1=>
  rename_i bb oo;simp only[iV]at h;cases hb:σ[bb]? with
  |none=>rw[hb]at h;cases h
  |some cz=>
   rw[hb]at h;cases cz with
   |cells cs' tg=>
    injection h with h;injection h with h2 h3;subst h2 h3;obtain⟨hlt,hb'⟩:=aK.1 hb;have:=hrep.cz bb hlt;rw[hb']at this;obtain⟨vs,t,k1,k2,k3⟩:=this.row;refine⟨κ.pos bb,0,by simp,fun j hj=>⟨vs.getD j undef,?_,(k3 j hj).2⟩⟩;have hj':j<vs.size:=by omega
    simp[World.cell?,k1,hj']
   |vec e size cs'=>
    injection h with h;injection h with h2 h3;subst h2 h3;obtain⟨hlt,hb'⟩:=aK.1 hb;have:=hrep.cz bb hlt;rw[hb']at this;obtain⟨vs,n,cap,k1,k2,k3,k4,k5,k6,k7⟩:=this.row;refine⟨κ.pos bb,0,by simp,fun j hj=>?_⟩;have hj2:j<cs'.length:=by simpa using hj
    have hj':j<vs.size:=this.lt hj2 k2;refine⟨vs.getD j undef,by simp[World.cell?,k2,hj'],?_⟩;rw[dE];exact .c (k7 j hj2)
   |spare|mp|gone=>cases h
 |c hc=>
  cases hc with
  |ref cs' oo b p xs h3 h4 h5=>
   injection h with h;injection h with k2 k3;subst k2 k3;refine⟨b,p,rfl,fun j hj=>⟨xs.getD j undef,?_,?_⟩⟩
   ·have hj':j<xs.length:=by simpa[h3]using hj
    have:=h4 j hj';rw[aR hj']at this;have:=hrep.mem _ _ _ this;simpa[lG,hj']using this
   ·have hj':j<cs'.length:=by simpa using hj
    have:=h5 j hj';simpa using RV.c this
  |_=>cases h
 |_=>cases h
theorem nX{t:TypeId}{d:TypeDesc}(h:P.underlying t=some d):(isAgg t).run P w= .ok (ju d) w:=by
 simp only[isAgg,jj,cr h];cases d<;>rfl
theorem run_sizeOf{t:TypeId}{i:TypeInfo}(h:P.info? t=some i):(sizeOf t).run P w= .ok i.size w:=by
 simp[sizeOf,typeInfo,h]
theorem FA{t:TypeId}{d:TypeDesc}{x:V}{v:Value}{cs:List V}{o:Nat}{u:V}(hrep:aB w0 κ σ w)(hd:P.underlying t=some d)(hg:ju d=false)
  (h:iV σ x=some (cs,o)) (hv:RV κ x v) (hu:cs[o]?=some u):∃v',(v8 t v).run P w= .ok v' w/\RV κ u v':=by
 obtain⟨b,p,rfl,hc⟩:=Ah hrep h hv;obtain⟨ho,hu'⟩:=aK.1 hu;obtain⟨v',h1,h2⟩:=hc o ho;refine⟨v',?_,hu'▸h2⟩;simp[v8,sG,loadVar,nX hd,hg,h1]
theorem FB{t:TypeId}{d:TypeDesc}{i:TypeInfo}{x:V}{v:Value}{cs:List V}{o:Nat}(hrep:aB w0 κ σ w)(hd:P.underlying t=some d)(hg:ju d=true)
  (hi:P.info? t=some i) (h:iV σ x=some (cs,o)) (hv:RV κ x v) (hle:o+i.size<=cs.length):
  ∃v',(v8 t v).run P w= .ok v' w/\RV κ (.agg ((cs.drop o).take i.size)) v':=by
 obtain⟨b,p,rfl,hc⟩:=Ah hrep h hv;have hf:∀j,j<i.size->∃u,w.cell? ⟨b,p+o+j,none⟩=some u/\∀hj:o+j<cs.length,RV κ cs[o+j] u:=fun j hj=>by
  obtain⟨u,h1,h2⟩:=hc (o+j) (by omega);exact⟨u,by rw[<-h1,jk],fun _=>h2⟩
 have hex:∃f:Nat->Value,∀j,j<i.size->w.cell? ⟨b,p+o+j,none⟩=some (f j)/\∀hj:o+j<cs.length,RV κ cs[o+j] (f j):=
  ⟨fun j=>if hj:j<i.size then(hf j hj).choose else undef,fun j hj=>by simp only[hj];exact(hf j hj).choose_spec⟩
 obtain⟨f,hf⟩:=hex;refine⟨.agg ((List.range i.size).map f).toArray,?_,?_⟩
 ·have:=run_loadCells (P:=P) w ⟨b,p+o,none⟩ i.size f (fun j hj=>by rw[add_lit];exact(hf j hj).1);simp only[v8,sG,jj,jT,jU,loadVar,nX hd,hg,if_true,run_sizeOf hi,this]
 ·refine .agg (by simp;omega) fun j hj=>?_;have hj1:j<i.size:=by simp at hj;omega
  have:=(hf j hj1).2 (by omega);simpa[lG,hj1]using this
end
section
variable {P:Program} {w0 w w':World} {κ:K} {σ σ':H} {a:Act} {ρ:Env}
theorem aB.gR(h:aB w0 κ σ w){b g:Nat}(hb:b<σ.length)(hl:(σ[b]).bc κ b=some g):w0.heap.size<=g/\g<w.heap.size:=by
 have:=h.cz b hb;cases hσ:σ[b]with
 |cells cs=>
  rw[hσ]at this hl;simp only[ad.bc]at hl;injection hl with hl;obtain⟨vs,t,h1,_⟩:=this.row;rw[<-hl];exact⟨this.own,(dR.1 h1).1⟩
 |spare e size n=>
  rw[hσ]at this hl;simp only[ad.bc]at hl;rcases this.row with⟨_,A,h0⟩|⟨xs,ho⟩
  ·rw[h0]at hl;cases A<;>cases hl
  ·exact ho.lt g (wz hl)
 |mp kvs=>
  rw[hσ]at this hl;simp only[ad.bc]at hl;injection hl with hl;obtain⟨es,clock,h1,_⟩:=this.row;rw[<-hl];exact⟨this.own,(dR.1 h1).1⟩
 |vec e size cs=>
  rw[hσ]at this hl;simp only[ad.bc]at hl;injection hl with hl;obtain⟨vs,n,cap,_,h1,_⟩:=this.row;rw[<-hl];exact⟨this.own,(dR.1 h1).1⟩
 |gone=>rw[hσ]at hl;cases hl
theorem aB.nf(h:aB w0 κ σ w){b o:Nat}{v:Value}(hm:κ.m b o=some v):b<w.heap.size:=
 World.block_lt_of_cell? w ⟨b,o,none⟩ (h.mem b o v hm)
theorem aB.fresh(h:aB w0 κ σ w){b:Nat}(hb:w.heap.size<=b)(o:Nat):κ.m b o=none:=by
 cases hm:κ.m b o with
 |none=>rfl
 |some v=>have:=h.nf hm;omega
theorem ad.qQ{κ:K}{b:Nat}{x:ad}(h:x.is w0 κ w b)(hk:∀g,x.bc κ b=some g->w'.heap[g]?=w.heap[g]?):x.is w0 κ w' b:=by
 cases x with
 |cells cs=>
  obtain⟨vs,t,h1,h2,h3⟩:=h.row;exact⟨h.fr,⟨vs,t,(hk _ rfl).trans h1,h2,h3⟩,h.own,h.free,fun T hT=>let ⟨us,hu⟩:=h.ty T hT;⟨us,(hk _ rfl).trans hu⟩⟩
 |spare e size n=>
  refine⟨h.fr,h.sz,?_,h.free⟩;rcases h.row with h0|⟨xs,ho⟩
  ·exact .inl h0
  ·rcases ho.2 with hz|⟨g,cap,cur,hv,hg,hh,rest⟩
   ·exact .inr ⟨xs,ho.1,.inl hz⟩
   ·cases cap with
    |zero=>exact .inl ⟨Nat.le_zero.1 rest.1,some ⟨g,0,none⟩,by rw[hv,Nat.le_zero.1 rest.1]⟩
    |succ c=>
     refine .inr ⟨xs,ho.1,.inr ⟨g,c+1,cur,hv,hg,(hk g ?_).trans hh,rest⟩⟩;simp only[ad.bc];rw[hv];rfl
 |mp kvs=>
  obtain⟨es,clock,h1,h2⟩:=h.row;exact⟨h.fr,⟨es,clock,(hk _ rfl).trans h1,h2⟩,h.own,h.free⟩
 |vec e size cs=>
  obtain⟨vs,n,cap,h0,h1,h2⟩:=h.row;exact⟨h.fr,⟨vs,n,cap,h0,(hk _ rfl).trans h1,h2⟩,h.own,h.free⟩
 |gone=>trivial
theorem aB.grow(h:aB w0 κ σ w)(hb:Below w.heap.size w w'):aB w0 κ σ w':=
 ⟨h.n,h.ext.trans (hb.mono h.ext.size),fun b o v hm=>(hb.cell (p:=⟨b,o,none⟩) (h.nf hm)).trans (h.mem b o v hm),
   fun b hb'=>ad.qQ (h.cz b hb') fun g hg=>hb.block g (h.gR hb' hg).2,h.apart,fun l o hr=>⟨(hb.block l (dR.1 (h.rest l o hr).1).1).trans (h.rest l o hr).1,(h.rest l o hr).2⟩,bB h.dt hb.size⟩
theorem aB.drawn(h:aB w0 κ σ w)(n:Nat):aB w0 κ σ {w with drawn:=n}:=h.grow ⟨rfl,rfl,rfl,aA _,fun _ _=>rfl⟩
theorem aB.alloc(h:aB w0 κ σ w)(o:Obj):aB w0 κ σ (w.alloc o):=h.grow (Below.alloc (Below.refl _ _) (aA _) o)
theorem RV.same{κ':K}(hm:κ.m.le κ'.m)(hn:κ.n<=κ'.n)(hp:∀b,b<κ.n->κ'.pos b=κ.pos b)(hf:∀b,b<κ.n->κ'.fr b=κ.fr b)(hs:∀b,b<κ.n->κ'.sv b=κ.sv b)(hz:∀b,b<κ.n->κ'.sz b=κ.sz b)(hr:κ'.rest=κ.rest:=by rfl)(hlm:κ'.dt=κ.dt:=by rfl):κ.le κ':=
 ⟨hm,hn,fun b hb hf'=>⟨(hf b hb).trans hf',hp b hb⟩,fun b f hb hf'=>⟨f,(hf b hb).trans hf',aA _,fun _=>hs b hb,hz b hb⟩,fun b hb _=>hs b hb,hr,hlm⟩
def K.froze(κ:K)(g:Nat)(xs:List Value):K:={κ with m:=fun b o=>if b=g then xs[o]? else κ.m b o}
theorem K.Ai{g:Nat}{xs:List Value}(hg:∀o,κ.m g o=none):κ.le (κ.froze g xs):=
 RV.same (fun b o v h=>by
  unfold K.froze;by_cases hb:b=g
  ·subst hb;rw[hg]at h;cases h
  ·simpa[hb]using h) (aA _) (fun _ _=>rfl) (fun _ _=>rfl) (fun _ _=>rfl) (fun _ _=>rfl)
theorem aB.froze(h:aB w0 κ σ w){g:Nat}{xs:List Value}(hg:∀o,κ.m g o=none)(hx:∀o v,xs[o]?=some v->w.cell? ⟨g,o,none⟩=some v)
  (hl:∀b (hb:b<σ.length),(σ[b]).bc κ b≠some g):aB w0 (κ.froze g xs) σ w:=by
 have hle:κ.le (κ.froze g xs):=K.Ai hg;refine⟨h.n,h.ext,fun b o v hm=>?_,fun b hb=>?_,fun a b ha hb=>h.apart a b ha hb,fun l o hr=>h.rest l o hr,h.dt⟩
 ·unfold K.froze at hm;by_cases hbg:b=g
  ·subst hbg;simp only[if_true]at hm;exact hx o v hm
  ·simp only[hbg,if_false]at hm;exact h.mem b o v hm
 ·have:=h.cz b hb;have hne:=hl b hb;cases hσ:σ[b]with
  |cells cs=>
   rw[hσ]at this hne;obtain⟨vs,t,h1,h2,h3⟩:=this.row;refine⟨this.fr,⟨vs,t,h1,h2,fun j hj=>⟨(h3 j hj).1,(h3 j hj).2.mono hle⟩⟩,this.own,fun o=>?_,this.ty⟩;have:κ.pos b≠g:=fun e=>hne (by simp[ad.bc,e]);show(if κ.pos b=g then _ else _)=none;rw[if_neg this];exact ad.cZ.free ‹_› o
  |spare e size n=>
   rw[hσ]at this hne;refine⟨this.fr,this.sz,this.row,fun g' hg' o ho=>?_⟩;have hgg:g'≠g:=fun e=>hne (by simp only[ad.bc];exact(show heldBy (κ.sv b)=some g' from hg').trans (by rw[e]));show(if g'=g then _ else _)=none;rw[if_neg hgg];exact this.free g' hg' o ho
  |mp kvs=>
   rw[hσ]at this hne;have hpne:κ.pos b≠g:=fun e=>hne (by simp[ad.bc,e]);exact ad.mapped.le this hle.m this.fr rfl (fun o=>by
    show(if κ.pos b=g then _ else _)=none;rw[if_neg hpne];exact this.free o)
  |vec e size cs=>
   rw[hσ]at this hne;have hpne:κ.pos b≠g:=fun e=>hne (by simp[ad.bc,e]);exact ad.lP.le this hle.m this.fr rfl rfl (fun o=>by
    show(if κ.pos b=g then _ else _)=none;rw[if_neg hpne];exact this.free o)
  |gone=>trivial
def K.more(κ:K)(g:Nat):K:={κ with n:=κ.n+1,pos:=fun b=>if b=κ.n then g else κ.pos b,fr:=fun b=>if b=κ.n then none else κ.fr b}
theorem K.sW{g:Nat}:κ.le (κ.more g):=
 RV.same (Mem.le_refl _) (mP _) (fun b hb=>by show(if b=κ.n then _ else _)=_;rw[if_neg (by omega)]) (fun b hb=>by show(if b=κ.n then _ else _)=_;rw[if_neg (by omega)]) (fun _ _=>rfl) (fun _ _=>rfl)
theorem ad.is_le{κ':K}{b:Nat}{x:ad}(hm:κ'.m=κ.m)(hle:κ.le κ')(hp:κ'.pos b=κ.pos b)(hf:κ'.fr b=κ.fr b)(hs:κ'.sv b=κ.sv b)(hz:κ'.sz b=κ.sz b)(h:x.is w0 κ w b):x.is w0 κ' w b:=by
 cases x with
 |cells cs=>
  obtain⟨vs,t,h1,h2,h3⟩:=h.row;exact⟨hf.trans h.fr,⟨vs,t,by rw[hp];exact h1,h2,fun j hj=>⟨(h3 j hj).1,(h3 j hj).2.mono hle⟩⟩,by rw[hp];exact h.own,by rw[hp,hm];exact h.free,by rw[hp];exact h.ty⟩
 |spare e size n=>exact⟨hf.trans h.fr,hz.trans h.sz,by rw[hs];exact h.row,by rw[hs,hm];exact h.free⟩
 |mp kvs=>exact ad.mapped.le h (by rw[hm];exact Mem.le_refl _) (hf.trans h.fr) hp (by rw[hm];exact h.free)
 |vec e size cs=>exact ad.lP.le h (by rw[hm];exact Mem.le_refl _) (hf.trans h.fr) hp hs (by rw[hm];exact h.free)
 |gone=>trivial
theorem ad.ka{κ':K}{b:Nat}{x:ad}(hp:κ'.pos b=κ.pos b)(hs:κ'.sv b=κ.sv b):x.bc κ' b=x.bc κ b:=by
 cases x<;>simp[ad.bc,hp,hs]
theorem aB.FC(h:aB w0 κ σ w){b g:Nat}(hb:b<σ.length)(hl:(σ[b]).bc κ b=some g):κ.rest g=none:=by
 cases hr:κ.rest g with
 |none=>rfl
 |some o=>exact absurd hl ((h.rest g o hr).2.2 b hb)
theorem aB.FD(h:aB w0 κ σ w){g:Nat}(hg:w.heap.size<=g):κ.rest g=none:=by
 cases hr:κ.rest g with
 |none=>rfl
 |some o=>have:=(dR.1 (h.rest g o hr).1).1;omega
theorem sX{κ':K}{X:ad}{l:Nat}(hlies:∀b (hb:b<σ.length),(σ[b]).bc κ' b=(σ[b]).bc κ b)(h:∀b (hb:b<σ.length),(σ[b]).bc κ b≠some l)(hX:X.bc κ' σ.length≠some l):
  ∀b (hb:b<(σ++[X]).length),((σ++[X])[b]).bc κ' b≠some l:=fun b hb=>by
 rcases dS b σ.length with hb'|hb'
 ·rw[cC hb',hlies b hb'];exact h b hb'
 ·have hbe:b=σ.length:=by simp at hb;omega
  subst hbe;rw[dJ (aA _)];simp only[ck,dq];exact hX
theorem sY{κ':K}{X:ad}{l c:Nat}(hlies:∀b (hb:b<σ.length),b≠c->(σ[b]).bc κ' b=(σ[b]).bc κ b)(h:∀b (hb:b<σ.length),(σ[b]).bc κ b≠some l)(hX:X.bc κ' c≠some l):
  ∀b (hb:b<(σ.set c X).length),((σ.set c X)[b]).bc κ' b≠some l:=fun b hb=>by
 have hb':b<σ.length:=by simpa using hb
 by_cases hbc:b=c
 ·subst hbc;rw[gw];exact hX
 ·rw[fz (di hbc),hlies b hb' hbc];exact h b hb'
theorem aB.box(h:aB w0 κ σ w){cs:List V}{vs:List Value}(t:TypeId){tg:Option TypeId}(htg:∀T,tg=some T->T=t)(hl:leaves cs=true)(hlen:vs.length=cs.length)(hv:∀j (hj:j<cs.length),RV κ cs[j] (vs.getD j undef)):
  aB w0 (κ.more w.heap.size) (σ++[.cells cs tg]) (w.alloc (.cells vs.toArray t))/\RV (κ.more w.heap.size) (.ptr σ.length 0) (.pointer (some ⟨w.heap.size,0,none⟩)):=by
 have hle:κ.le (κ.more w.heap.size):=K.sW;have hA:=h.alloc (.cells vs.toArray t);have hpos:∀b,b<σ.length->(κ.more w.heap.size).pos b=κ.pos b:=fun b hb=>by show(if b=κ.n then _ else _)=_;rw[if_neg (by rw[h.n];omega)]
 have hfr:∀b,b<σ.length->(κ.more w.heap.size).fr b=κ.fr b:=fun b hb=>by show(if b=κ.n then _ else _)=_;rw[if_neg (by rw[h.n];omega)]
 have hposn:(κ.more w.heap.size).pos σ.length=w.heap.size:=by show(if σ.length=κ.n then _ else _)=_;rw[if_pos h.n.symm]
 have hfrn:(κ.more w.heap.size).fr σ.length=none:=by show(if σ.length=κ.n then _ else _)=_;rw[if_pos h.n.symm]
 have hlies:∀b (hb:b<σ.length),(σ[b]).bc (κ.more w.heap.size) b=(σ[b]).bc κ b:=fun b hb=>ad.ka (hpos b hb) rfl;refine⟨⟨by show κ.n+1=_;rw[h.n];simp,hA.ext,hA.mem,fun b hb=>?_,fun x y hx hy g hne=>?_,fun l o hr=>⟨(hA.rest l o hr).1,(hA.rest l o hr).2.1,sX hlies (h.rest l o hr).2.2 (by simp only[ad.bc,hposn];intro e;injection e with e;have:=(dR.1 (h.rest l o hr).1).1;omega)⟩,hA.dt⟩,?_⟩
 ·rcases dS b σ.length with hb'|hb'
  ·rw[cC hb'];exact ad.is_le (κ:=κ) rfl hle (hpos b hb') (hfr b hb') rfl rfl (hA.cz b hb')
  ·have hbe:b=σ.length:=by simp at hb;omega
   subst hbe;rw[dJ (aA _)];simp only[ck,dq];refine⟨hfrn,⟨vs.toArray,t,by rw[hposn];exact kN w _,by simpa using hlen,fun j hj=>⟨by unfold leaves at hl;rw[cL]at hl;exact hl _ (bw hj),?_⟩⟩,by rw[hposn];exact h.ext.size,fun o=>by rw[hposn];exact h.fresh (aA _) o,fun T hT=>⟨vs.toArray,by rw[hposn,htg T hT];exact kN w _⟩⟩;have:=(hv j hj).mono hle;simpa[lG,mQ,hlen,hj]using this
 ·rcases dS x σ.length with hx'|hx'<;>rcases dS y σ.length with hy'|hy'
  ·rw[cC hx',cC hy',hlies x hx',hlies y hy'];exact h.apart x y hx' hy' g hne
  ·have hye:y=σ.length:=by simp at hy;omega
   subst hye;rw[cC hx',hlies x hx',dJ (aA _)];simp only[ck,dq,ad.bc,hposn];intro h1 h2;have:=(h.gR hx' h1).2;injection h2;omega
  ·have hxe:x=σ.length:=by simp at hx;omega
   subst hxe;rw[cC hy',hlies y hy',dJ (aA _)];simp only[ck,dq,ad.bc,hposn];intro h1 h2;have:=(h.gR hy' h2).2;injection h1;omega
  ·simp at hx hy;omega
 ·have:=RV.ptr (κ:=κ.more w.heap.size) (b:=σ.length) (o:=0) (by show _<κ.n+1;rw[h.n];omega) hfrn;rwa [hposn]at this
theorem aB.wrote(h:aB w0 κ σ w){b:Nat}{cs cs':List V}{vs:List Value}{tg:Option TypeId}(hb:σ[b]?=some (.cells cs tg))(hl:leaves cs'=true)(hlen:vs.length=cs'.length)
  (hv:∀j (hj:j<cs'.length),RV κ cs'[j] (vs.getD j undef)):aB w0 κ (σ.set b (.cells cs' tg)) (w.setRow (κ.pos b) vs.toArray):=by
 obtain⟨hlt,hb'⟩:=aK.1 hb;have hblk:=h.cz b hlt;rw[hb']at hblk;obtain⟨us,t,k1,k2,k3⟩:=hblk.row;have hother:∀g,g≠κ.pos b->(w.setRow (κ.pos b) vs.toArray).heap[g]?=w.heap[g]?:=fun g hg=>setRow_other w (κ.pos b) g _ hg;have hself:=setRow_heap w (κ.pos b) us vs.toArray t (0,0) k1;refine⟨by simpa using h.n,?_,fun x o v hm=>?_,fun x hx=>?_,fun x y hx hy g hne=>?_,fun l o hr=>?_,by simpa[zM]using h.dt⟩
 rotate_right
 ·obtain⟨a1,a2,a3⟩:=h.rest l o hr;have hb1:=a3 b hlt;rw[hb']at hb1;exact⟨(hother l (fun e=>hb1 (by rw[e];rfl))).trans a1,a2,sY (fun _ _ _=>rfl) a3 hb1⟩
 ·exact h.ext.trans ⟨rfl,rfl,rfl,by simp[zM],fun k hk=>hother k (by have:=hblk.own;omega)⟩
 ·have hne:x≠κ.pos b:=fun e=>by rw[e,hblk.free]at hm;cases hm
  rw[wa (w:=w) (a:=⟨x,o,none⟩) (hother x hne)];exact h.mem x o v hm
 ·by_cases hxb:x=b
  ·subst hxb;rw[gw];refine⟨hblk.fr,⟨vs.toArray,t,hself,by simpa using hlen,fun j hj=>⟨by unfold leaves at hl;rw[cL]at hl;exact hl _ (bw hj),?_⟩⟩,hblk.own,hblk.free,fun T hT=>by
    obtain⟨us',hu⟩:=hblk.ty T hT;rw[k1]at hu;injection hu with hu;injection hu with _ hu;subst hu;exact⟨_,hself⟩⟩
   simpa[lG,mQ,hlen,hj]using hv j hj
  ·have hx':x<σ.length:=by simpa using hx
   rw[fz (di hxb)];refine ad.qQ (h.cz x hx') fun g hg=>hother g fun e=>?_;subst e;exact h.apart x b hx' hlt _ hxb hg (by rw[hb'];rfl)
 ·have hx':x<σ.length:=by simpa using hx
  have hy':y<σ.length:=by simpa using hy
  have lies_set:∀z (hz:z<σ.length) (hz':z<(σ.set b (.cells cs' tg)).length),((σ.set b (.cells cs' tg))[z]).bc κ z=(σ[z]).bc κ z:=fun z hz hz'=>by
   by_cases hzb:z=b
   ·subst hzb;rw[gw,hb'];rfl
   ·rw[fz (di hzb)]
  rw[lies_set x hx',lies_set y hy'];exact h.apart x y hx' hy' g hne
end
section
variable {P:Program} {w0 w w':World} {κ:K} {σ σ':H} {a:Act} {ρ:Env}
theorem FE:∀{l:List V} {r:List C},fq l=some r->r.length=l.length
 |[],r,h=>by simp only[fq]at h;injection h with h;subst h;rfl
 |x::l,r,h=>by
  simp only[fq]at h;split at h
  ·rename_i a0 r0 _ h2;injection h with h;subst h;simp[FE h2]
  ·cases h
theorem FF:∀{l:List V} {r:List C} {xs:List Value},fq l=some r->xs.length=l.length->(∀j (hj:j<l.length),RV κ l[j] (xs.getD j undef))->∀j (hj:j<r.length),RC κ.m r[j] (xs.getD j undef)
 |[],r,xs,h,_,_,j,hj=>by simp only[fq]at h;injection h with h;subst h;simp at hj
 |x::l,r,xs,h,hl,hv,j,hj=>by
  simp only[fq]at h;split at h
  ·rename_i a0 r0 h1 h2;injection h with h;subst h;cases xs with
   |nil=>simp at hl
   |cons u us=>
    cases j with
    |zero=>exact(hv 0 (by simp)).fW h1
    |succ j=>exact FF h2 (by simpa using hl) (fun i hi=>hv (i+1) (by simpa using hi)) j (by simpa using hj)
  ·cases h
theorem FG:∀{l:List V} {r:List C},fq l=some r->∀x∈l,x.leaf=true
 |[],r,h,x,hx=>by cases hx
 |y::l,r,h,x,hx=>by
  simp only[fq]at h;split at h
  ·rename_i a0 r0 h1 h2;rcases List.mem_cons.1 hx with rfl|hx
   ·cases x<;>first|rfl|(cases h1;done)
   ·exact FG h2 x hx
  ·cases h
theorem aB.FH(h:aB w0 κ σ w)(b:Nat):aB w0 κ (σ.set b .gone) w:=by
 refine⟨by simpa using h.n,h.ext,h.mem,fun x hx=>?_,fun x y hx hy g hne=>?_,fun l o hr=>⟨(h.rest l o hr).1,(h.rest l o hr).2.1,sY (fun _ _ _=>rfl) (h.rest l o hr).2.2 (fun e=>by cases e)⟩,h.dt⟩
 ·have hx':x<σ.length:=by simpa using hx
  by_cases hxb:x=b
  ·subst hxb;rw[gw];trivial
  ·rw[fz (di hxb)];exact h.cz x hx'
 ·have hx':x<σ.length:=by simpa using hx
  have hy':y<σ.length:=by simpa using hy
  by_cases hxb:x=b
  ·subst hxb;rw[gw];intro e;cases e
  ·rw[fz (di hxb)];by_cases hyb:y=b
   ·subst hyb;rw[gw];intro _ e;cases e
   ·rw[fz (di hyb)];exact h.apart x y hx' hy' g hne
theorem aB.OH(h:aB w0 κ σ w){g:Nat}(hg:w.grownBy w' (some g))(hb:Below w0.heap.size w0 w')(hm:∀o,κ.m g o=none)(hl:∀x (hx:x<σ.length),(σ[x]).bc κ x≠some g)(hgr:κ.rest g=none):aB w0 κ σ w':=by
 have hother:∀x,x<w.heap.size->x≠g->w'.heap[x]?=w.heap[x]?:=fun x hx hne=>hg.block x hx (by simpa using hne);refine⟨h.n,hb,fun x o v hv=>?_,fun x hx=>?_,h.apart,fun l o hr=>⟨(hother l (dR.1 (h.rest l o hr).1).1 (fun e=>by rw[e,hgr]at hr;cases hr)).trans (h.rest l o hr).1,(h.rest l o hr).2⟩,bB h.dt hg.size⟩
 ·have hne:x≠g:=fun e=>by rw[e,hm]at hv;cases hv
  rw[wa (w:=w) (a:=⟨x,o,none⟩) (hother x (h.nf hv) hne)];exact h.mem x o v hv
 ·exact ad.qQ (h.cz x hx) fun z hz=>hother z (h.gR hx hz).2 fun e=>hl x hx (by rw[hz,e])
def K.kb(κ:K)(g:Nat)(v:Value):K:={κ with n:=κ.n+1,pos:=fun b=>if b=κ.n then g else κ.pos b,fr:=fun b=>if b=κ.n then none else κ.fr b,sv:=fun b=>if b=κ.n then v else κ.sv b}
theorem K.Aj{g:Nat}{v:Value}:κ.le (κ.kb g v):=
 RV.same (Mem.le_refl _) (mP _) (fun b hb=>by show(if b=κ.n then _ else _)=_;rw[if_neg (by omega)]) (fun b hb=>by show(if b=κ.n then _ else _)=_;rw[if_neg (by omega)]) (fun b hb=>by show(if b=κ.n then _ else _)=_;rw[if_neg (by omega)]) (fun _ _=>rfl)
theorem aB.FI(h:aB w0 κ σ w){g e size n cap:Nat}{cs:List C}{cur:Array Value}(hg:w0.heap.size<=g)(hm:∀o,κ.m g o=none)(hl:∀x (hx:x<σ.length),(σ[x]).bc κ x≠some g)
  (hh:w.heap[g]?=some (.cells cur e (0,0))) (hc:cs.length=n*size) (hn:n<=cap) (hcap:cap<=maxLen) (hcs:cur.size=cap*size) (hv:∀j (hj:j<cs.length),RC κ.m cs[j] (cur.getD j undef)):
  aB w0 (κ.kb g (.slice (some ⟨g,0,none⟩) n cap)) (σ++[.vec e size cs]) w/\∀k,k<=n->RV (κ.kb g (.slice (some ⟨g,0,none⟩) n cap)) (.vec σ.length k) (.slice (some ⟨g,0,none⟩) k cap):=by
 have hle:κ.le (κ.kb g (.slice (some ⟨g,0,none⟩) n cap)):=K.Aj;have hpos:∀b,b<σ.length->(κ.kb g (.slice (some ⟨g,0,none⟩) n cap)).pos b=κ.pos b:=fun b hb=>by show(if b=κ.n then _ else _)=_;rw[if_neg (by rw[h.n];omega)]
 have hfr:∀b,b<σ.length->(κ.kb g (.slice (some ⟨g,0,none⟩) n cap)).fr b=κ.fr b:=fun b hb=>by show(if b=κ.n then _ else _)=_;rw[if_neg (by rw[h.n];omega)]
 have hsv:∀b,b<σ.length->(κ.kb g (.slice (some ⟨g,0,none⟩) n cap)).sv b=κ.sv b:=fun b hb=>by show(if b=κ.n then _ else _)=_;rw[if_neg (by rw[h.n];omega)]
 have hposn:(κ.kb g (.slice (some ⟨g,0,none⟩) n cap)).pos σ.length=g:=by show(if σ.length=κ.n then _ else _)=_;rw[if_pos h.n.symm]
 have hfrn:(κ.kb g (.slice (some ⟨g,0,none⟩) n cap)).fr σ.length=none:=by show(if σ.length=κ.n then _ else _)=_;rw[if_pos h.n.symm]
 have hsvn:(κ.kb g (.slice (some ⟨g,0,none⟩) n cap)).sv σ.length= .slice (some ⟨g,0,none⟩) n cap:=by show(if σ.length=κ.n then _ else _)=_;rw[if_pos h.n.symm]
 have hlies:∀b (hb:b<σ.length),(σ[b]).bc (κ.kb g (.slice (some ⟨g,0,none⟩) n cap)) b=(σ[b]).bc κ b:=fun b hb=>ad.ka (hpos b hb) (hsv b hb);refine⟨⟨by show κ.n+1=_;rw[h.n];simp,h.ext,h.mem,fun b hb=>?_,fun x y hx hy z hne=>?_,fun l o hr=>⟨(h.rest l o hr).1,(h.rest l o hr).2.1,sX hlies (h.rest l o hr).2.2 (by simp only[ad.bc,hposn];intro e;injection e with e;have a1:=(h.rest l o hr).1;have a2:=(h.rest l o hr).2.1;rw[<-e,hh]at a1;injection a1 with a1;rw[<-a1]at a2;cases a2)⟩,h.dt⟩,fun k hk=>?_⟩
 ·rcases dS b σ.length with hb'|hb'
  ·rw[cC hb'];exact ad.is_le (κ:=κ) rfl hle (hpos b hb') (hfr b hb') (hsv b hb') rfl (h.cz b hb')
  ·have hbe:b=σ.length:=by simp at hb;omega
   subst hbe;rw[dJ (aA _)];simp only[ck,dq];exact⟨hfrn,⟨cur,n,cap,by rw[hsvn,hposn],by rw[hposn];exact hh,hc,hn,hcap,hcs,hv⟩,by rw[hposn];exact hg,fun o=>by rw[hposn];exact hm o⟩
 ·rcases dS x σ.length with hx'|hx'<;>rcases dS y σ.length with hy'|hy'
  ·rw[cC hx',cC hy',hlies x hx',hlies y hy'];exact h.apart x y hx' hy' z hne
  ·have hye:y=σ.length:=by simp at hy;omega
   subst hye;rw[cC hx',hlies x hx',dJ (aA _)];simp only[ck,dq,ad.bc,hposn];intro h1 h2;exact hl x hx' (h1.trans h2.symm)
  ·have hxe:x=σ.length:=by simp at hx;omega
   subst hxe;rw[cC hy',hlies y hy',dJ (aA _)];simp only[ck,dq,ad.bc,hposn];intro h1 h2;exact hl y hy' (h2.trans h1.symm)
  ·simp at hx hy;omega
 ·have:=RV.vec (κ:=κ.kb g (.slice (some ⟨g,0,none⟩) n cap)) (b:=σ.length) (k:=k) (n:=n) (cap:=cap) (by show _<κ.n+1;rw[h.n];omega) hfrn (by rw[hsvn,hposn]) hk hn hcap;rwa [hposn]at this
theorem aB.OI(h:aB w0 κ σ w){b e size:Nat}{cs cs':List C}{us:Array Value}{vs:List Value}(hb:σ[b]?=some (.vec e size cs))(hus:w.heap[κ.pos b]?=some (.cells us e (0,0)))(hlen:vs.length=us.size)(hcl:cs'.length=cs.length)
  (hv:∀j (hj:j<cs'.length),RC κ.m cs'[j] (vs.getD j undef)):aB w0 κ (σ.set b (.vec e size cs')) (w.setRow (κ.pos b) vs.toArray):=by
 obtain⟨hlt,hb'⟩:=aK.1 hb;have hblk:=h.cz b hlt;rw[hb']at hblk;obtain⟨us',n,cap,k0,k1,k2,k3,k4,k5,k6⟩:=hblk.row;rw[hus]at k1;injection k1 with k1;injection k1 with k1;subst k1;have hother:∀g,g≠κ.pos b->(w.setRow (κ.pos b) vs.toArray).heap[g]?=w.heap[g]?:=fun g hg=>setRow_other w (κ.pos b) g _ hg;have hself:=setRow_heap w (κ.pos b) us vs.toArray e (0,0) hus;refine⟨by simpa using h.n,?_,fun x o v hm=>?_,fun x hx=>?_,fun x y hx hy g hne=>?_,fun l o hr=>?_,by simpa[zM]using h.dt⟩
 rotate_right
 ·obtain⟨a1,a2,a3⟩:=h.rest l o hr;have hb1:=a3 b hlt;rw[hb']at hb1;exact⟨(hother l (fun e=>hb1 (by rw[e];rfl))).trans a1,a2,sY (fun _ _ _=>rfl) a3 hb1⟩
 ·exact h.ext.trans ⟨rfl,rfl,rfl,by simp[zM],fun k hk=>hother k (by have:=hblk.own;omega)⟩
 ·have hne:x≠κ.pos b:=fun e=>by rw[e,hblk.free]at hm;cases hm
  rw[wa (w:=w) (a:=⟨x,o,none⟩) (hother x hne)];exact h.mem x o v hm
 ·by_cases hxb:x=b
  ·subst hxb;rw[gw];refine⟨hblk.fr,⟨vs.toArray,n,cap,k0,hself,hcl.trans k2,k3,k4,by simp[hlen,k5],fun j hj=>?_⟩,hblk.own,hblk.free⟩;simpa[ik,cc]using hv j hj
  ·have hx':x<σ.length:=by simpa using hx
   rw[fz (di hxb)];refine ad.qQ (h.cz x hx') fun g hg=>hother g fun e=>?_;subst e;exact h.apart x b hx' hlt _ hxb hg (by rw[hb'];rfl)
 ·have hx':x<σ.length:=by simpa using hx
  have hy':y<σ.length:=by simpa using hy
  have lies_set:∀z (hz:z<σ.length) (hz':z<(σ.set b (.vec e size cs')).length),((σ.set b (.vec e size cs'))[z]).bc κ z=(σ[z]).bc κ z:=fun z hz hz'=>by
   by_cases hzb:z=b
   ·subst hzb;rw[gw,hb'];rfl
   ·rw[fz (di hzb)]
  rw[lies_set x hx',lies_set y hy'];exact h.apart x y hx' hy' g hne
end
section
variable {P:Program} {w0 w w':World} {κ:K} {σ σ':H} {a:Act} {ρ:Env}
theorem eA{f:ai->bh}{x:Operand}{i:bh}(h:du f x=some i):∃y,bF x=some y/\i=f y:=by
 unfold du at h;split at h
 ·rename_i y hy;injection h with h;exact⟨y,hy,h.symm⟩
 ·cases h
theorem ix{f:ai->ai->bh}{x x':Operand}{i:bh}(h:dY f x x'=some i):∃y y',bF x=some y/\bF x'=some y'/\i=f y y':=by
 unfold dY at h;split at h
 ·rename_i y y' hy hy';injection h with h;exact⟨y,y',hy,hy',h.symm⟩
 ·cases h
theorem o7{x:V}{v:Value}(r:RV κ x v):∀(_:leaves x.ah=true),v.cells.toList.length=x.ah.length/\∀j (hj:j<x.ah.length),RV κ x.ah[j] (v.cells.toList.getD j undef):=by
 intro hl;have single:∀{x:V} {v:Value},RV κ x v->x.ah=[x]->v.cells=#[v]->v.cells.toList.length=x.ah.length/\∀j (hj:j<x.ah.length),RV κ x.ah[j] (v.cells.toList.getD j undef):=by
  intro x v r h1 h2;rw[h2];refine⟨by rw[h1];rfl,fun j hj=>?_⟩;have hj0:j=0:=by rw[h1]at hj;simpa using hj
  subst hj0;simp only[h1,dq];exact r
 cases r with
 |agg h h1=>exact⟨h,h1⟩
 |void=>simp[leaves,V.ah,V.leaf]at hl
 |any=>simp[leaves,V.ah,V.leaf]at hl
 |av=>simp[leaves,V.ah,V.leaf]at hl
 |c h=>exact single (.c h) rfl (by cases h<;>rfl)
 |ptr h h1=>exact single (.ptr h h1) rfl rfl
 |aF h h1 h2 h3 h4 h5=>exact single (.aF h h1 h2 h3 h4 h5) rfl (by cases h<;>rfl)
 |ab h=>exact single (.ab h) rfl rfl
 |fn h h1=>exact single (.fn h h1) rfl rfl
 |cj=>exact single .cj rfl rfl
 |mp h h1=>exact single (.mp h h1) rfl rfl
 |cy=>exact single .cy rfl rfl
 |vec h0 h1 h2 h3 h4 h5=>exact single (.vec h0 h1 h2 h3 h4 h5) rfl rfl
theorem FJ{o:Oper}{x:Operand}{y:ai}(ho:o.op= .move x\/o.op= .assign x)(hx:bF x=some y)(hrep:aB w0 κ σ w)(he:b8 κ ρ a):
  bf w0 κ σ (y.ev ρ) ((execOp a.eval o).run P w):=by
 refine bf.still (v':=a.eval x) ?_ hrep (bO he hx);rcases ho with ho|ho<;>simp[execOp,ho]
theorem RV.qR{b:Bool}{v:Value}(r:RV κ (.c (.bool b)) v):v= .bool b:=by cases r with|c h=>cases h;rfl
theorem RV.iy{k:IntKind}{n:Int}{v:Value}(r:RV κ (.c (.int k n)) v):v= .int k n:=by cases r with|c h=>cases h;rfl
theorem RV.o8{l:List UInt8}{v:Value}(r:RV κ (.c (.str l)) v):v= .string (bs l):=by cases r with|c h=>cases h;rfl
theorem RV.FK{l:List UInt8}{v:Value}(r:RV κ (.c (.str l)) v):l.length<=maxLen:=by cases r with|c h=>cases h;assumption
theorem OJ{o:Oper}{c x y:Operand}{c' x' y':ai}{t:Bool}(ho:o.op= .pick c x y)(hc:bF c=some c')(hx:bF x=some x')(hy:bF y=some y')(ht:c'.ev ρ= .c (.bool t))
  (hrep:aB w0 κ σ w) (he:b8 κ ρ a):bf w0 κ σ (if t then x'.ev ρ else y'.ev ρ) ((execOp a.eval o).run P w):=by
 have h1:=bO he hc;rw[ht]at h1;have h1:=h1.qR;refine bf.still (v':=if t then a.eval x else a.eval y) ?_ hrep ?_
 ·simp[execOp,ho,h1,asBool]
 ·cases t
  ·exact bO he hy
  ·exact bO he hx
theorem FL{P:Program}{t:TypeId}:∀T,o6 P t=some T->T=t:=fun T h=>by
 unfold o6 at h;split at h
 ·injection h with h;exact h.symm
 ·cases h
theorem OK{o:Oper}{t:TypeId}{z:V}(ho:o.op= .alloc t)(hz:lS P t=some z)(hl:leaves z.ah=true)(hrep:aB w0 κ σ w):
  bf w0 κ (σ++[.cells z.ah (o6 P t)]) (.ptr σ.length 0) ((execOp a.eval o).run P w):=by
 unfold lS at hz;cases hi:P.info? t with
 |none=>rw[hi]at hz;cases hz
 |some i=>
  rw[hi]at hz;simp only at hz;cases hzz:i.zero with
  |none=>rw[hzz]at hz;cases hz
  |some zv=>
   rw[hzz]at hz;have hr:=wF (κ:=κ) hz;obtain⟨h1,h2⟩:=o7 hr hl;obtain⟨k1,k2⟩:=hrep.box t (FL (P:=P)) hl h1 h2;refine⟨_,_,_,.inl ?_,K.sW,k1,k2⟩;simp[execOp,ho,Instr.alloc,zeroValue,typeInfo,hi,hzz,newVar,newRow]
theorem OL{o:Oper}{t:TypeId}{x:Operand}{y:ai}(ho:o.op= .box t x)(hx:bF x=some y)(hl:leaves (y.ev ρ).ah=true)(hrep:aB w0 κ σ w)(he:b8 κ ρ a):
  bf w0 κ (σ++[.cells (y.ev ρ).ah (o6 P t)]) (.ptr σ.length 0) ((execOp a.eval o).run P w):=by
 obtain⟨h1,h2⟩:=o7 (bO he hx) hl;obtain⟨k1,k2⟩:=hrep.box t (FL (P:=P)) hl h1 h2;refine⟨_,_,_,.inl ?_,K.sW,k1,k2⟩;simp[execOp,ho,Instr.box,newVar,newRow]
theorem OM{o:Oper}{t:TypeId}{x:Operand}{i:bh}{v:V}(ho:o.op= .load t x)(ag:be P (.load t x)=some i)(hs:step ρ σ i=some (v,σ'))(hrep:aB w0 κ σ w)(he:b8 κ ρ a):
  bf w0 κ σ' v ((execOp a.eval o).run P w):=by
 simp only[be]at ag;cases hd:P.underlying t with
 |none=>rw[hd]at ag;cases ag
 |some d=>
  cases hi:P.info? t with
  |none=>rw[hd,hi]at ag;cases ag
  |some inf=>
   rw[hd,hi]at ag;simp only at ag;cases hg:ju d
   ·rw[hg]at ag;obtain⟨y,hy,rfl⟩:=eA ag;simp only[step]at hs;split at hs
    ·rename_i cs o' hc;split at hs
     ·rename_i u hu;injection hs with hs;injection hs with h1 h2;subst h1 h2;obtain⟨v',k1,k2⟩:=FA hrep hd hg hc (bO he hy) hu;exact bf.still (by simp[execOp,ho,k1]) hrep k2
     ·cases hs
    ·cases hs
   ·rw[hg]at ag;obtain⟨y,hy,rfl⟩:=eA ag;simp only[step]at hs;split at hs
    ·rename_i cs o' hc;split at hs
     ·rename_i hle;injection hs with hs;injection hs with h1 h2;subst h1 h2;obtain⟨v',k1,k2⟩:=FB hrep hd hg hi hc (bO he hy) hle;exact bf.still (by simp[execOp,ho,k1]) hrep k2
     ·cases hs
    ·cases hs
theorem Ak{l:List V}{xs:List Value}(hl:leaves l=true)(h:∀j (hj:j<l.length),RV κ l[j] (xs.getD j undef))(hlen:xs.length=l.length):∀v∈xs,v.oneCell'=true:=by
 intro v hv;obtain⟨j,hj,rfl⟩:=fU hv;have:=h j (by omega);rw[gQ hj]at this;refine this.one ?_;unfold leaves at hl;rw[cL]at hl;exact hl _ (bw _)
theorem FM{l r:List V}:leaves (l++r)=(leaves l&&leaves r):=by simp[leaves]
theorem FN{l:List V}(h:leaves l=true){r:List V}(hr:∀x∈r,x∈l):leaves r=true:=by
 unfold leaves at*
 rw[cL]at*
 exact fun x hx=>h x (hr x hx)
theorem wG{α:Type}(l ys:List α)(o:Nat)(h:o+ys.length<=l.length)(j:Nat):
  (l.take o++ys++l.drop (o+ys.length))[j]?=if j<o then l[j]? else if j<o+ys.length then ys[j-o]? else l[j]?:=by
 rw[List.append_assoc,Z9,List.length_take,Nat.min_eq_left (by omega)];by_cases h1:j<o
 ·simp[h1]
 ·rw[if_neg h1,if_neg h1,Z9];by_cases h2:j<o+ys.length
  ·rw[if_pos (by omega),if_pos h2]
  ·rw[if_neg (by omega),if_neg h2,mR];congr 1;omega
theorem o9{α:Type}(l ys:List α)(o:Nat)(h:o+ys.length<=l.length):(l.take o++ys++l.drop (o+ys.length)).length=l.length:=by
 simp;omega
def Fits(κ:K)(l:List V)(xs:List Value):Prop:=xs.length=l.length/\∀j (hj:j<l.length),RV κ l[j] (xs.getD j undef)
theorem Fits.FO{l ys:List V}{xs us:List Value}{o:Nat}(h:Fits κ l xs)(k:Fits κ ys us)(ho:o+ys.length<=l.length):
  Fits κ (l.take o++ys++l.drop (o+ys.length)) (xs.take o++us++xs.drop (o+us.length)):=by
 refine⟨by rw[o9 _ _ _ ho,o9 _ _ _ (by rw[k.1,h.1];exact ho)];exact h.1,fun j hj=>?_⟩;have hj':j<l.length:=by rwa [o9 _ _ _ ho]at hj
 have e1:=wG l ys o ho j;have e2:=wG xs us o (by rw[k.1,h.1];exact ho) j;rw[aR hj]at e1;have hxl:j<(xs.take o++us++xs.drop (o+us.length)).length:=by rw[o9 _ _ _ (by rw[k.1,h.1];exact ho),h.1];exact hj'
 rw[gQ hxl];rw[aR hxl]at e2;have hjx:j<xs.length:=by rw[h.1];exact hj'
 by_cases h1:j<o
 ·rw[if_pos h1,aR hj']at e1;rw[if_pos h1,aR hjx]at e2;injection e1 with e1;injection e2 with e2;rw[e1,e2];have:=h.2 j hj';rwa [gQ hjx]at this
 ·rw[if_neg h1]at e1 e2;by_cases h2:j<o+ys.length
  ·have hu:j-o<us.length:=by rw[k.1];omega
   rw[if_pos h2,aR (by omega)]at e1;rw[if_pos (by rw[k.1];exact h2),aR hu]at e2;injection e1 with e1;injection e2 with e2;rw[e1,e2];have:=k.2 (j-o) (by omega);rwa [gQ hu]at this
  ·rw[if_neg h2,aR hj']at e1;rw[if_neg (by rw[k.1];exact h2),aR hjx]at e2;injection e1 with e1;injection e2 with e2;rw[e1,e2];have:=h.2 j hj';rwa [gQ hjx]at this
theorem ON{o:Oper}{t:TypeId}{x y:Operand}{i:bh}{v:V}(ho:o.op= .store t x y)(ag:be P (.store t x y)=some i)(hs:step ρ σ i=some (v,σ'))(hrep:aB w0 κ σ w)(he:b8 κ ρ a):
  bf w0 κ σ' v ((execOp a.eval o).run P w):=by
 simp only[be]at ag;cases hi:P.info? t with
 |none=>rw[hi]at ag;cases ag
 |some inf=>
  rw[hi]at ag;obtain⟨x',y',hx,hy,rfl⟩:=ix ag;simp only[step]at hs;split at hs
  ·rename_i b off hxe;split at hs
   ·rename_i cs tg hb;split at hs
    ·rename_i hc;obtain⟨c1,c2,c3⟩:=hc;injection hs with hs;injection hs with h1 h2;subst h1 h2;have hxr:=bO he hx;rw[hxe]at hxr;obtain⟨hlt,hb'⟩:=aK.1 hb;have hblk:=hrep.cz b hlt;rw[hb']at hblk;obtain⟨us,tt,k1,k2,k3⟩:=hblk.row;have hyc:=o7 (bO he hy) c3;cases hxr':a.eval x with
     |pointer p=>
      rw[hxr']at hxr;cases hxr with
      |ptr q0 q1=>
       have hcs:leaves cs=true:=by
        unfold leaves;rw[cL];intro z hz;obtain⟨j,hj,rfl⟩:=fU hz;exact(k3 j hj).1
       have hfit:Fits κ cs us.toList:=⟨by simpa using k2,fun j hj=>by have:=(k3 j hj).2;simpa[mQ,lG,k2,hj]using this⟩;have hfit2:Fits κ (y'.ev ρ).ah (a.eval y).cells.toList:=hyc;have hsp:=hfit.FO hfit2 (o:=off) (by omega);have hst:=run_storeCells_at P (κ.pos b) off tt (a.eval y).cells.toList 0 us w k1 (by have:=hyc.1;omega) (Ak c3 hyc.2 hyc.1);simp only[mS]at hst;have hw:=hrep.wrote (cs':=cs.take off++(y'.ev ρ).ah++cs.drop (off+inf.size)) hb (by
        rw[FM,FM];simp only[Bool.and_eq_true];exact⟨⟨FN hcs fun z hz=>Ob hz,c3⟩,FN hcs fun z hz=>Oc hz⟩) (by have:=hsp.1;rw[c1]at this;exact this) (by
         have:=hsp.2;rw[c1]at this;exact this)
       refine⟨κ,undef,_,.inr ⟨?_,rfl⟩,K.le_refl κ,hw,.void⟩;have hsz:(a.eval y).cells.size=inf.size:=by have:=hyc.1;simp at this;omega
       have hlt':¬(a.eval y).cells.size≠inf.size:=by simpa using hsz
       simp only[execOp,ho,Instr.storeAt,hxr',sG,jj,jT,jU,storeVar,run_sizeOf hi,if_neg hlt',hst]
     |_=>rw[hxr']at hxr;cases hxr
    ·cases hs
   ·rename_i e size cs hb;split at hs
    ·rename_i ys hys;split at hs
     ·rename_i hc;obtain⟨c1,c2⟩:=hc;injection hs with hs;injection hs with h1 h2;subst h1 h2;have hxr:=bO he hx;rw[hxe]at hxr;obtain⟨hlt,hb'⟩:=aK.1 hb;have hblk:=hrep.cz b hlt;rw[hb']at hblk;obtain⟨us,n,cap,k0,k1,k2,k3,k4,k5,k6⟩:=hblk.row;have c3:leaves (y'.ev ρ).ah=true:=by unfold leaves;rw[cL];exact FG hys
      have hyc:=o7 (bO he hy) c3;have hyl:=FE hys;have hyr:=FF hys hyc.1 hyc.2;cases hxr':a.eval x with
      |pointer p=>
       rw[hxr']at hxr;cases hxr with
       |ptr q0 q1=>
        have hcu:cs.length<=us.size:=by rw[k2,k5];exact iN _ k3
        have hol:off+(a.eval y).cells.toList.length<=us.size:=by have:=hyc.1;omega
        have hst:=run_storeCells_at P (κ.pos b) off e (a.eval y).cells.toList 0 us w k1 (by have:=hyc.1;omega) (Ak c3 hyc.2 hyc.1);simp only[mS]at hst;have hl1:(us.toList.take off++(a.eval y).cells.toList++us.toList.drop (off+(a.eval y).cells.toList.length)).length=us.size:=by
         have:=o9 us.toList (a.eval y).cells.toList off (by simpa using hol);simpa using this
        have hl2:(cs.take off++ys++cs.drop (off+inf.size)).length=cs.length:=by
         have:=o9 cs ys off (by omega);rwa [c1]at this
        have hw:=hrep.OI (cs':=cs.take off++ys++cs.drop (off+inf.size)) (vs:=us.toList.take off++(a.eval y).cells.toList++us.toList.drop (off+(a.eval y).cells.toList.length)) hb k1 hl1 hl2 (fun j hj=>by
         have hjc:j<cs.length:=by rw[<-hl2];exact hj
         have e1:=wG cs ys off (by omega) j;rw[c1,aR hj]at e1;have e2:=wG us.toList (a.eval y).cells.toList off (by simpa using hol) j;rw[cc,e2];have hyl':(a.eval y).cells.toList.length=ys.length:=by have:=hyc.1;omega
         by_cases g1:j<off
         ·rw[if_pos g1]at e1⊢;rw[aR hjc]at e1;injection e1 with e1;rw[e1];simpa[ik]using k6 j hjc
         ·rw[if_neg g1]at e1⊢;by_cases g2:j<off+inf.size
          ·rw[if_pos g2]at e1;rw[if_pos (by omega)];have hjy:j-off<ys.length:=by omega
           rw[aR hjy]at e1;injection e1 with e1;rw[e1];have:=hyr (j-off) hjy;rwa [cc]at this
          ·rw[if_neg g2,aR hjc]at e1;rw[if_neg (by omega)];injection e1 with e1;rw[e1];simpa[ik]using k6 j hjc)
        refine⟨κ,undef,_,.inr ⟨?_,rfl⟩,K.le_refl κ,hw,.void⟩;have hsz:(a.eval y).cells.size=inf.size:=by have:=hyc.1;simp at this;omega
        have hlt':¬(a.eval y).cells.size≠inf.size:=by simpa using hsz
        simp only[execOp,ho,Instr.storeAt,hxr',sG,jj,jT,jU,storeVar,run_sizeOf hi,if_neg hlt',hst]
      |_=>rw[hxr']at hxr;cases hxr
     ·cases hs
    ·cases hs
   ·cases hs
  ·cases hs
theorem OO{o:Oper}{x:Operand}{i:bh}{v:V}(ho:o.op= .nilCheck x)(ag:be P (.nilCheck x)=some i)(hs:step ρ σ i=some (v,σ'))(hrep:aB w0 κ σ w)(he:b8 κ ρ a):
  bf w0 κ σ' v ((execOp a.eval o).run P w):=by
 obtain⟨y,hy,rfl⟩:=eA ag;have hr:=bO he hy;simp only[step]at hs;split at hs
 ·rename_i b off hx;injection hs with hs;injection hs with h1 h2;subst h1 h2;rw[hx]at hr;refine bf.still (v':=a.eval x) ?_ hrep hr;cases hv:a.eval x with
  |pointer p=>rw[hv]at hr;cases hr;simp[execOp,ho,hv]
  |_=>rw[hv]at hr;cases hr
 ·rename_i cs off hx;injection hs with hs;injection hs with h1 h2;subst h1 h2;rw[hx]at hr;refine bf.still (v':=a.eval x) ?_ hrep hr;cases hv:a.eval x with
  |pointer p=>rw[hv]at hr;cases hr with|c h=>cases h;simp[execOp,ho,hv]
  |_=>rw[hv]at hr;cases hr with|c h=>cases h
 ·rename_i f caps hx;injection hs with hs;injection hs with h1 h2;subst h1 h2;rw[hx]at hr;refine bf.still (v':=a.eval x) ?_ hrep hr;cases hv:a.eval x with
  |func fn first cap=>rw[hv]at hr;cases hr;simp[execOp,ho,hv]
  |_=>rw[hv]at hr;cases hr
 ·cases hs
theorem OP{o:Oper}{s f:Nat}{x:Operand}{i:bh}{v:V}(ho:o.op= .fieldAddr s x f)(ag:be P (.fieldAddr s x f)=some i)(hs:step ρ σ i=some (v,σ'))(hrep:aB w0 κ σ w)(he:b8 κ ρ a):
  bf w0 κ σ' v ((execOp a.eval o).run P w):=by
 simp only[be]at ag;split at ag
 ·rename_i fields hu;split at ag
  ·rename_i fl hf;split at ag
   ·rename_i k hk;split at ag
    ·cases ag
    ·rename_i hk0;obtain⟨y,hy,rfl⟩:=eA ag;have hr:=bO he hy;unfold bR at hk;cases hi:P.info? fl.type with
     |none=>rw[hi]at hk;cases hk
     |some inf=>
      rw[hi]at hk;have hk:inf.size=k:=by simpa using hk
      have hne:¬inf.size=0:=by omega
      have key:∀b p,a.eval x= .pointer (some ⟨b,p,none⟩)->(execOp a.eval o).run P w= .ok (.value (.pointer (some ⟨b,p+fl.offset,none⟩))) w:=by
       intro b p hp;simp[execOp,ho,Instr.fieldAt,cr hu,hf,hp,sG,fieldPlace,run_sizeOf hi,hne,add_lit]
      simp only[step]at hs;split at hs
      ·rename_i b off hx;injection hs with hs;injection hs with h1 h2;subst h1 h2;rw[hx]at hr;cases hv:a.eval x with
       |pointer p=>
        rw[hv]at hr;cases hr with
        |ptr q0 q1=>exact bf.still (key _ _ hv) hrep (.ptr q0 q1)
       |_=>rw[hv]at hr;cases hr
      ·rename_i cs off hx;injection hs with hs;injection hs with h1 h2;subst h1 h2;rw[hx]at hr;cases hv:a.eval x with
       |pointer p=>
        rw[hv]at hr;cases hr with
        |c h=>
         cases h with
         |ref cs o b p xs h3 h4 h5=>
          refine bf.still (key _ _ hv) hrep (.c ?_);have:=RC.ref (m:=κ.m) cs (off+fl.offset) b p xs h3 h4 h5;rwa [<-jk]at this
       |_=>rw[hv]at hr;cases hr with|c h=>cases h
      ·cases hs
   ·cases ag
  ·cases ag
 ·cases ag
end
section
variable {P:Program} {w0 w w':World} {κ:K} {σ σ':H} {a:Act} {ρ:Env}
theorem RV.wH{vs:List V}{v:Value}(r:RV κ (.agg vs) v):∃xs:List Value,v= .agg xs.toArray/\Fits κ vs xs:=by cases r with|agg h h1=>exact⟨_,rfl,h,h1⟩
theorem RV.OQ{vs:List V}{v:Value}(r:RV κ (.av vs) v):∃xs:List Value,v= .tuple xs.toArray/\Fits κ vs xs:=by cases r with|av h h1=>exact⟨_,rfl,h,h1⟩
theorem Fits.at_{l:List V}{xs:List Value}(h:Fits κ l xs){j:Nat}{u:V}(hu:l[j]?=some u):∃v,xs[j]?=some v/\RV κ u v:=by
 obtain⟨hj,e⟩:=aK.1 hu;have hx:j<xs.length:=by rw[h.1];exact hj
 refine⟨xs[j],aR hx,?_⟩;have:=h.2 j hj;rw[gQ hx,e]at this;exact this
theorem Fits.sub{l:List V}{xs:List Value}(h:Fits κ l xs)(o n:Nat)(hle:o+n<=l.length):Fits κ ((l.drop o).take n) ((xs.drop o).take n):=by
 have hx:=h.1;refine⟨by simp[hx],fun j hj=>?_⟩;have hj1:j<n:=by simp at hj;omega
 have hj2:j<((xs.drop o).take n).length:=by simp;omega
 rw[gQ hj2,oU,oU,E0,E0];have:=h.2 (o+j) (by omega);rwa [gQ (by omega)]at this
theorem OR{o:Oper}{s f:Nat}{x:Operand}{i:bh}{v:V}(ho:o.op= .field s x f)(ag:be P (.field s x f)=some i)(hs:step ρ σ i=some (v,σ'))(hrep:aB w0 κ σ w)(he:b8 κ ρ a):
  bf w0 κ σ' v ((execOp a.eval o).run P w):=by
 simp only[be]at ag;split at ag
 ·rename_i fields hu;split at ag
  ·rename_i fl hf;split at ag
   ·rename_i d k hd hk;unfold bR at hk;cases hi:P.info? fl.type with
    |none=>rw[hi]at hk;cases hk
    |some inf=>
     rw[hi]at hk;have hk:inf.size=k:=by simpa using hk
     split at ag
     ·rename_i hg;obtain⟨y,hy,rfl⟩:=eA ag;have hr:=bO he hy;simp only[step]at hs;split at hs
      ·rename_i vs hx;split at hs
       ·rename_i hle;injection hs with hs;injection hs with h1 h2;subst h1 h2;rw[hx]at hr;obtain⟨xs,hv,hfit⟩:=hr.wH;have hsub:=hfit.sub fl.offset k hle;refine bf.still (v':=.agg ((xs.drop fl.offset).take k).toArray) ?_ hrep (.agg hsub.1 hsub.2);simp[execOp,ho,Instr.field,cr hu,hf,hv,asAgg,part,nX hd,hg,run_sizeOf hi,hk]
       ·cases hs
      ·cases hs
     ·rename_i hg;obtain⟨y,hy,rfl⟩:=eA ag;have hr:=bO he hy;simp only[step]at hs;split at hs
      ·rename_i vs hx;split at hs
       ·rename_i u hu';injection hs with hs;injection hs with h1 h2;subst h1 h2;rw[hx]at hr;obtain⟨xs,hv,hfit⟩:=hr.wH;obtain⟨v',hv',hr'⟩:=hfit.at_ hu';refine bf.still (v':=v') ?_ hrep hr';have hg':ju d=false:=by simpa using hg
        simp[execOp,ho,Instr.field,cr hu,hf,hv,asAgg,part,nX hd,hg',hv']
       ·cases hs
      ·cases hs
   ·cases ag
  ·cases ag
 ·cases ag
theorem OS{o:Oper}{x:Operand}{k:Nat}{i:bh}{v:V}(ho:o.op= .extract x k)(ag:be P (.extract x k)=some i)(hs:step ρ σ i=some (v,σ'))(hrep:aB w0 κ σ w)(he:b8 κ ρ a):
  bf w0 κ σ' v ((execOp a.eval o).run P w):=by
 obtain⟨y,hy,rfl⟩:=eA ag;have hr:=bO he hy;simp only[step]at hs;split at hs
 ·rename_i vs hx;split at hs
  ·rename_i u hu;injection hs with hs;injection hs with h1 h2;subst h1 h2;rw[hx]at hr;obtain⟨xs,hv,hfit⟩:=hr.OQ;obtain⟨v',hv',hr'⟩:=hfit.at_ hu;exact bf.still (v':=v') (by simp[execOp,ho,Instr.extract,hv,hv']) hrep hr'
  ·cases hs
 ·cases hs
theorem RV.kX{x:V}{r:List (List C)}{v:Value}(h:RV κ x v)(hr:x.rows=some r):RC κ.m (.sl r) v:=by
 cases h with
 |c h0=>
  cases h0 with
  |sl rows s A cap xs k0 k1 k2 k3 k4 k5=>simp only[V.rows]at hr;injection hr with hr;subst hr;exact .sl _ s A cap xs k0 k1 k2 k3 k4 k5
  |_=>cases hr
 |aF h0=>simp only[V.rows]at hr;injection hr with hr;subst hr;exact h0
 |ab h0=>simp only[V.rows]at hr;injection hr with hr;subst hr;exact h0
 |_=>cases hr
theorem RC.ke{m:Mem}{rows:List (List C)}{v:Value}(h:RC m (.sl rows) v):∃(s:Nat) (A:Option Addr) (cap:Nat) (xs:List Value),v= .slice A rows.length cap/\(∀r∈rows,r.length=s)/\rows.length<=cap/\cap<=maxLen/\
  xs.length=rows.length*s/\(rows≠[]->∃b o,A=some ⟨b,o,none⟩/\∀k,k<xs.length->m b (o+k)=xs[k]?)/\(∀i (hi:i<rows.length) j (hj:j<rows[i].length),RC m rows[i][j] (xs.getD (i*s+j) undef)):=by
 cases h with|sl _ s A cap xs h0 h1 h2 h3 h4 h5=>exact⟨s,A,cap,xs,rfl,h0,h1,h2,h3,h4,h5⟩
theorem mul_lt{i n s j:Nat}(hi:i<n)(hj:j<s):i*s+j<n*s:=by
 have:(i+1)*s<=n*s:=iN _ hi;rw[fi]at this;omega
theorem RC.OT{m:Mem}{rows:List (List C)}{s b o:Nat}{xs:List Value}(h0:∀r∈rows,r.length=s)(h3:xs.length=rows.length*s)(h4:∀k,k<xs.length->m b (o+k)=xs[k]?)
  (h5:∀i (hi:i<rows.length) j (hj:j<rows[i].length),RC m rows[i][j] (xs.getD (i*s+j) undef)) {i:Nat} (hi:i<rows.length):RC m (.ref rows[i] 0) (.pointer (some ⟨b,o+i*s,none⟩)):=by
 have hl:rows[i].length=s:=h0 _ (bw hi);have hlen:((xs.drop (i*s)).take s).length=s:=by
  have:=mul_lt (s:=s+1) hi (Nat.lt_succ_self s);have h6:(i+1)*s<=rows.length*s:=iN _ hi;rw[fi]at h6;simp;omega
 have key:∀k,k<s->((xs.drop (i*s)).take s)[k]?=xs[i*s+k]?:=fun k hk=>by rw[lH,if_pos hk,mR]
 have:=RC.ref (m:=m) rows[i] 0 b (o+i*s) ((xs.drop (i*s)).take s) (by rw[hlen,hl]) (fun k hk=>by
  rw[hlen]at hk;rw[key k hk,<-h4 (i*s+k) (by rw[h3];exact mul_lt hi hk),jk]) (fun j hj=>by
  have hj':j<s:=by omega
  have:=h5 i hi j hj;rw[cc]at this⊢;rwa [key j hj'])
 simpa using this
theorem OU{o:Oper}{t:Nat}{x k:Operand}{i:bh}{v:V}(ho:o.op= .indexAddr t x k)(ag:be P (.indexAddr t x k)=some i)(hs:step ρ σ i=some (v,σ'))(hrep:aB w0 κ σ w)(he:b8 κ ρ a):
  bf w0 κ σ' v ((execOp a.eval o).run P w):=by
 simp only[be]at ag;split at ag
 ·rename_i e hu;split at ag
  ·rename_i sz hsz;obtain⟨x',k',hx,hk,rfl⟩:=ix ag;unfold bR at hsz;cases hi:P.info? e with
   |none=>rw[hi]at hsz;cases hsz
   |some inf=>
    rw[hi]at hsz;have hsz:inf.size=sz:=by simpa using hsz
    have hxr:=bO he hx;have hkr:=bO he hk;simp only[step]at hs;split at hs
    case h_2=>cases hs
    rename_i q j hj;split at hs
    ·rename_i b n hxe;split at hs
     ·rename_i hb;injection hs with hs;injection hs with h1 h2;subst h1 h2;rw[hj]at hkr;have hkv:=hkr.iy;rw[hxe]at hxr;generalize hva:a.eval x=va at hxr;cases hxr with
      |vec q0 q1 q2 q3 q4 q5=>
       refine bf.still (v':=.pointer (some ⟨κ.pos b,0+j.toNat*sz,none⟩)) ?_ hrep (by rw[Nat.zero_add];exact .ptr q0 q1);simp[execOp,ho,Instr.indexAt,cr hu,hva,hkv,asIntOf,hb,run_sizeOf hi,hsz,add_lit]
     ·cases hs
    split at hs
    ·rename_i u hnar r hr;split at hs
     ·rename_i hb;split at hs
      ·rename_i cs hcs;split at hs
       ·rename_i hl;injection hs with hs;injection hs with h1 h2;subst h1 h2;rw[hj]at hkr;have hkv:=hkr.iy;obtain⟨s,A,cap,xs,hv,h0,h1,h2,h3,h4,h5⟩:=(hxr.kX hr).ke;obtain⟨hi',hcs'⟩:=aK.1 hcs;obtain⟨b,p,rfl,k4⟩:=h4 (by intro e;rw[e]at hi';simp at hi');have hs':s=inf.size:=by rw[hsz,<-hl,<-hcs',h0 _ (bw hi')]
        have hrow:=RC.OT h0 h3 k4 h5 hi';rw[hcs']at hrow;refine bf.still (v':=.pointer (some ⟨b,p+j.toNat*s,none⟩)) ?_ hrep (.c hrow);simp[execOp,ho,Instr.indexAt,cr hu,hv,hkv,asIntOf,hb,run_sizeOf hi,hs',add_lit]
       ·cases hs
      ·cases hs
     ·cases hs
    ·cases hs
  ·cases ag
 ·cases ag
theorem OV{o:Oper}{t:Nat}{x k:Operand}{i:bh}{v:V}(ho:o.op= .index t x k)(ag:be P (.index t x k)=some i)(hs:step ρ σ i=some (v,σ'))(hrep:aB w0 κ σ w)(he:b8 κ ρ a):
  bf w0 κ σ' v ((execOp a.eval o).run P w):=by
 simp only[be]at ag;split at ag
 ·rename_i hu;obtain⟨x',k',hx,hk,rfl⟩:=ix ag;have hxr:=bO he hx;have hkr:=bO he hk;simp only[step]at hs;split at hs
  ·rename_i l q j hl hj;split at hs
   ·rename_i hb;split at hs
    ·rename_i c hc;injection hs with hs;injection hs with h1 h2;subst h1 h2;rw[hl]at hxr;rw[hj]at hkr;have hkv:=hkr.iy;have hxv:=hxr.o8;obtain⟨hlt,hc'⟩:=aK.1 hc;have bY:(bs l)[j.toNat]?=some c:=by
      rw[getElem?_pos (bs l) j.toNat (by rw[iX];exact hlt),OW];rw[hc']
     refine bf.still (v':=.int .u8 c.toNat) ?_ hrep (.c (.int _ _));simp[execOp,ho,Instr.index,cr hu,hxv,hkv,asIntOf,hb.1,bY]
    ·cases hs
   ·cases hs
  ·cases hs
 ·cases ag
theorem OX{o:Oper}{op:UnOp}{t:Nat}{x:Operand}{i:bh}{v:V}(ho:o.op= .unOp op t x)(ag:be P (.unOp op t x)=some i)(hs:step ρ σ i=some (v,σ'))(hrep:aB w0 κ σ w)(he:b8 κ ρ a):
  bf w0 κ σ' v ((execOp a.eval o).run P w):=by
 obtain⟨y,hy,rfl⟩:=eA ag;have hr:=bO he hy;simp only[step]at hs;split at hs
 ·rename_i b hx;injection hs with hs;injection hs with h1 h2;subst h1 h2;rw[hx]at hr;exact bf.still (v':=.bool (!b)) (by simp[execOp,ho,hr.qR,Op.unary]) hrep (.c (.bool _))
 ·rename_i k n hx;injection hs with hs;injection hs with h1 h2;subst h1 h2;rw[hx]at hr;exact bf.still (v':=.int k (k.wrap (0-n))) (by simp[execOp,ho,hr.iy,Op.unary,Op.intArith]) hrep (.c (.int _ _))
 ·cases hs
theorem Al:∀{rows:List (List C)} {l:List UInt8},nV rows=some l->∃ns:List Int,rows=ns.map (fun n=>[C.int .u8 n])/\l=ns.map (fun n=>sF n.toNat)
 |[],l,h=>by simp only[nV]at h;injection h with h;subst h;exact⟨[],rfl,rfl⟩
 |r::rows,l,h=>by
  unfold nV at h;split at h
  ·rename_i h0;cases h0
  ·rename_i n r' h0;injection h0 with h1 h2;subst h1 h2;split at h
   ·rename_i l' hl;injection h with h;subst h;obtain⟨ns,rfl,rfl⟩:=Al hl;exact⟨n::ns,rfl,rfl⟩
   ·cases h
  ·cases h
theorem FP:∀(ns:List Int) (s:ByteArray),(ns.foldl (fun r n=>r.push (sF n.toNat)) s).data.toList=s.data.toList++ns.map (fun n=>sF n.toNat)
 |[],s=>by simp
 |n::ns,s=>by
  rw[List.foldl_cons,FP ns];simp[ByteArray.push]
theorem OY(hrep:aB w0 κ σ w){rows:List (List C)}{l:List UInt8}{v:Value}(h:RC κ.m (.sl rows) v)(hb:nV rows=some l):(Conv.bytesToString v).run P w= .ok (.string (bs l)) w:=by
 obtain⟨ns,rfl,rfl⟩:=Al hb;obtain⟨s,A,cap,xs,rfl,h0,h1,h2,h3,h4,h5⟩:=h.ke;have hfin:(ns.foldl (fun r n=>r.push (sF n.toNat)) ByteArray.empty)=bs (ns.map (fun n=>sF n.toNat)):=wI (by rw[FP];rfl);cases hns:ns with
 |nil=>
  subst hns;cases A with
  |none=>simp[Conv.bytesToString];rfl
  |some a=>
   have:=run_bytesToString (P:=P) w a 0 cap [] (by have:=run_loadCells_list (P:=P) w a [] (by simp);simpa using this);rw[show(List.map (fun n=>[C.int IntKind.u8 n]) ([]:List Int)).length=0 from rfl];rw[this];rfl
 |cons n0 ns0=>
  have hne:ns.map (fun n=>[C.int .u8 n])≠[]:=by rw[hns];simp
  have hs:s=1:=by
   have:=h0 [C.int .u8 n0] (by rw[hns];simp);simpa using this.symm
  subst hs;obtain⟨b,o,hA,hm⟩:=h4 hne;have hxs:xs=ns.map (Value.int .u8):=by
   apply List.ext_getElem (by rw[h3];simp);intro k hk hk';have hk2:k<ns.length:=by simpa using hk'
   have:=h5 k (by simpa using hk2) 0 (by simp);simp only[dE,dq,Nat.mul_one,mS]at this;rw[gQ hk]at this;generalize xs[k]=u at this;cases this;simp
  have hld:=run_loadCells_list (P:=P) w ⟨b,o,none⟩ xs (fun j v hj=>by
   rw[add_lit];have hjl:=(aK.1 hj).1;have:=hm j hjl;rw[hj]at this;exact hrep.mem _ _ _ this)
  have hlen:xs.length=ns.length:=by rw[hxs];simp
  rw[hlen,hxs]at hld;have:=run_bytesToString (P:=P) w ⟨b,o,none⟩ ns.length cap ns hld;rw[hA,<-hns,cd,this,hfin]
theorem OZ{o:Oper}{s t:Nat}{x:Operand}{i:bh}{v:V}(ho:o.op= .convert s t x)(ag:be P (.convert s t x)=some i)(hs:step ρ σ i=some (v,σ'))(hrep:aB w0 κ σ w)(he:b8 κ ρ a):
  bf w0 κ σ' v ((execOp a.eval o).run P w):=by
 simp only[be]at ag;split at ag
 ·rename_i k0 k h1 h2;obtain⟨y,hy,rfl⟩:=eA ag;have hr:=bO he hy;simp only[step]at hs;split at hs
  ·rename_i q n hx;injection hs with hs;injection hs with e1 e2;subst e1 e2;rw[hx]at hr;exact bf.still (v':=.int k (k.wrap n)) (by simp[execOp,ho,hr.iy,convert,cr h1,cr h2,Conv.intToInt]) hrep (.c (.int _ _))
  ·cases hs
 ·rename_i h1 h2;obtain⟨y,hy,rfl⟩:=eA ag;have hr:=bO he hy;simp only[step]at hs;split at hs
  ·rename_i l hx;injection hs with hs;injection hs with e1 e2;subst e1 e2;rw[hx]at hr;exact bf.still (v':=.string (bs l)) (by simp[execOp,ho,hr.o8,convert,cr h1,cr h2]) hrep (.c (.str _ hr.FK))
  ·cases hs
 ·rename_i e h1 h2;split at ag
  ·rename_i h3;obtain⟨y,hy,rfl⟩:=eA ag;have hr:=bO he hy;simp only[step]at hs;split at hs
   ·rename_i r hx;split at hs
    ·rename_i l hl;injection hs with hs;injection hs with e1 e2;subst e1 e2;have hrc:=hr.kX hx;obtain⟨s0,A,cap,xs,hv,q0,q1,q2,_⟩:=hrc.ke;have hrun:=OY (P:=P) hrep hrc hl;have hlm:l.length<=maxLen:=by
      obtain⟨ns,rfl,rfl⟩:=Al hl;simp only[cd]at q1⊢;omega
     rw[hv]at hrun;exact bf.still (v':=.string (bs l)) (by simp[execOp,ho,hv,run_convert_bytes_string w s t e A r.length cap h1 h3 h2,hrun]) hrep (.c (.str _ hlm))
    ·cases hs
   ·cases hs
  ·cases ag
 ·cases ag
theorem O0{o:Oper}{f:FuncId}{caps:Array Operand}{i:bh}{v:V}(ho:o.op= .makeFunc (.func f) #[] caps)(ag:be P (.makeFunc (.func f) #[] caps)=some i)(hs:step ρ σ i=some (v,σ'))(hrep:aB w0 κ σ w)(he:b8 κ ρ a):
  bf w0 κ σ' v ((execOp a.eval o).run P w):=by
 simp only[be]at ag;split at ag
 ·rename_i cs hcs;injection ag with ag;subst ag;simp only[step]at hs;injection hs with hs;injection hs with h1 h2;subst h1 h2;obtain⟨hl,hc⟩:=mapM_some hcs;refine bf.still (v':=.func (.func f) #[] (caps.toList.map a.eval).toArray) ?_ hrep (.fn (by simp[hl]) fun j hj=>?_)
  ·simp only[execOp,ho,Instr.makeFunc,jj,jT,jU,List.map_toArray,List.map_nil];congr 3;apply Array.ext';simp
  ·have hj1:j<cs.length:=by simpa using hj
   have hj2:j<caps.toList.length:=by omega
   rw[gQ (by simpa using hj2),dE,dE];exact bO he (hc j hj2 hj1)
 ·cases ag
theorem O1{o:Oper}{ats:Array TypeId}{x y:Operand}{x' y':ai}{k k':IntKind}{m n:Int}(ho:o.op= .call {callee:=.builtin .max,args:=#[x,y],argTypes:=ats})(hx:bF x=some x')(hy:bF y=some y')
  (h1:x'.ev ρ= .c (.int k m)) (h2:y'.ev ρ= .c (.int k' n)) (hrep:aB w0 κ σ w) (he:b8 κ ρ a):bf w0 κ σ (.c (.int k (if n>m then n else m))) ((execOp a.eval o).run P w):=by
 have hxr:=bO he hx;have hyr:=bO he hy;rw[h1]at hxr;rw[h2]at hyr;exact bf.still (v':=.int k (if n>m then n else m)) (by simp[execOp,ho,resolve,invoke,builtin,hxr.iy,hyr.iy,Builtin.max_,Builtin.max2]) hrep (.c (.int _ _))
theorem O2{o:Oper}{ats:Array TypeId}{x y:Operand}{x' y':ai}{k k':IntKind}{m n:Int}(ho:o.op= .call {callee:=.builtin .min,args:=#[x,y],argTypes:=ats})(hx:bF x=some x')(hy:bF y=some y')
  (h1:x'.ev ρ= .c (.int k m)) (h2:y'.ev ρ= .c (.int k' n)) (hrep:aB w0 κ σ w) (he:b8 κ ρ a):bf w0 κ σ (.c (.int k (if n<m then n else m))) ((execOp a.eval o).run P w):=by
 have hxr:=bO he hx;have hyr:=bO he hy;rw[h1]at hxr;rw[h2]at hyr;exact bf.still (v':=.int k (if n<m then n else m)) (by simp[execOp,ho,resolve,invoke,builtin,hxr.iy,hyr.iy,Builtin.min_,Builtin.min2]) hrep (.c (.int _ _))
theorem O3{o:Oper}{t:TypeId}{x:Operand}{i:bh}{v:V}(ho:o.op= .call {callee:=.builtin .len,args:=#[x],argTypes:=#[t]})(ag:lT P .len [x] [t]=some i)(hs:step ρ σ i=some (v,σ'))(hrep:aB w0 κ σ w)(he:b8 κ ρ a):
  bf w0 κ σ' v ((execOp a.eval o).run P w):=by
 simp only[lT]at ag;split at ag
 ·rename_i hu;obtain⟨y,hy,rfl⟩:=eA ag;have hr:=bO he hy;simp only[step]at hs;split at hs
  ·rename_i l hx;injection hs with hs;injection hs with e1 e2;subst e1 e2;rw[hx]at hr;exact bf.still (v':=.int .i64 l.length) (by simp[execOp,ho,resolve,invoke,builtin,hr.o8,E5,cr hu,goInt,iX]) hrep (.c (.int _ _))
  ·cases hs
 ·rename_i e hu;obtain⟨y,hy,rfl⟩:=eA ag;have hr:=bO he hy;simp only[step]at hs;split at hs
  ·rename_i b n hx;injection hs with hs;injection hs with e1 e2;subst e1 e2;rw[hx]at hr;generalize hva:a.eval x=va at hr;cases hr with
   |vec q0 q1 q2 q3 q4 q5=>exact bf.still (v':=.int .i64 n) (by simp[execOp,ho,resolve,invoke,builtin,hva,E5,cr hu,goInt]) hrep (.c (.int _ _))
  split at hs
  ·rename_i u hnar r hx;injection hs with hs;injection hs with e1 e2;subst e1 e2;obtain⟨s,A,cap,xs,hv,_⟩:=(hr.kX hx).ke;exact bf.still (v':=.int .i64 r.length) (by simp[execOp,ho,resolve,invoke,builtin,hv,E5,cr hu,goInt]) hrep (.c (.int _ _))
  ·cases hs
 ·rename_i kt et hu;obtain⟨y,hy,rfl⟩:=eA ag;have hr:=bO he hy;simp only[step]at hs;split at hs
  ·rename_i b hx;split at hs
   ·rename_i kvs hb;injection hs with hs;injection hs with e1 e2;subst e1 e2;rw[hx]at hr;obtain⟨hlt,hb'⟩:=aK.1 hb;have hblk:=hrep.cz b hlt;rw[hb']at hblk;obtain⟨es,clock,k1,k2,k3⟩:=hblk.row;generalize hva:a.eval x=va at hr;cases hr with
    |mp h0 h1=>
     have k4:es.size=kvs.length:=by rw[<-k2];simp
     exact bf.still (v':=.int .i64 kvs.length) (by simp[execOp,ho,resolve,invoke,builtin,hva,E5,cr hu,goInt,MapKept.run_getObj_map k1,k4,Result.andThen]) hrep (.c (.int _ _))
   ·cases hs
  ·cases hs
 ·cases ag
end
section
variable {P:Program} {w0 w w':World} {κ:K} {σ σ':H} {a:Act} {ρ:Env}
theorem pa{x:Option Operand}{y:Option ai}(h:gP x=some y):(x=none/\y=none)\/∃x' y',x=some x'/\y=some y'/\bF x'=some y':=by
 unfold gP at h;split at h
 ·injection h with h;exact .inl ⟨rfl,h.symm⟩
 ·split at h
  ·rename_i x' y' hy;injection h with h;exact .inr ⟨_,_,rfl,h.symm,hy⟩
  ·cases h
theorem Am{y:ai}{n h:Nat}(hb:gC ρ n (some y)=some h):∃k i,y.ev ρ= .c (.int k i)/\0<=i/\i<=n/\i.toNat=h:=by
 simp only[gC]at hb;split at hb
 ·rename_i k i hi;split at hb
  ·rename_i hc;injection hb with hb;exact⟨k,i,hi,hc.1,hc.2,hb⟩
  ·cases hb
 ·cases hb
theorem O4{y:ai}{n h:Nat}(hb:jt ρ n (some y)=some h):∃k i,y.ev ρ= .c (.int k i)/\0<=i/\i<=n/\i.toNat=h:=by
 simp only[jt]at hb;split at hb
 ·rename_i k i hi;split at hb
  ·rename_i hc;injection hb with hb;exact⟨k,i,hi,hc.1,hc.2,hb⟩
  ·cases hb
 ·cases hb
theorem wJ{k:IntKind}{i:Int}{y:Nat}{c:BoundsCode}(h0:0<=i)(h1:i<=y):(E6 (.int k i) y c).run P w= .ok i.toNat w:=by
 simp[E6,asIntOf,h0,h1]
theorem FQ{n h:Nat}{lo:Option Operand}{lo':Option ai}{c:BoundsCode}(he:b8 κ ρ a)(ht:gP lo=some lo')(hb:jt ρ n lo'=some h):
  (match lo.map a.eval with|some v=>E6 v n c|none=>pure 0:Sem Nat).run P w= .ok h w/\h<=n:=by
 rcases pa ht with⟨rfl,rfl⟩|⟨x,y,rfl,rfl,hx⟩
 ·simp only[jt]at hb;injection hb with hb;subst hb;exact⟨rfl,bx _⟩
 ·obtain⟨k,i,hi,h0,h1,rfl⟩:=O4 hb;have hr:=bO he hx;rw[hi]at hr;refine⟨?_,by omega⟩;simp only[iq,hr.iy];exact wJ h0 h1
theorem O5{n cap h:Nat}{hi:Option Operand}{hi':Option ai}{c:BoundsCode}(he:b8 κ ρ a)(ht:gP hi=some hi')(hb:gC ρ n hi'=some h)(hc:n<=cap):
  (match hi.map a.eval with|some v=>E6 v cap c|none=>pure n:Sem Nat).run P w= .ok h w/\h<=n:=by
 rcases pa ht with⟨rfl,rfl⟩|⟨x,y,rfl,rfl,hx⟩
 ·simp only[gC]at hb;injection hb with hb;subst hb;exact⟨rfl,aA _⟩
 ·obtain⟨k,i,hi,h0,h1,rfl⟩:=Am hb;have hr:=bO he hx;rw[hi]at hr;refine⟨?_,by omega⟩;simp only[iq,hr.iy];exact wJ h0 (by omega)
theorem An{isS:Bool}{n cap h l:Nat}{lo hi:Option Operand}{lo' hi':Option ai}(he:b8 κ ρ a)(ht1:gP lo=some lo')(ht2:gP hi=some hi')(hb:gC ρ n hi'=some h)(hl:jt ρ h lo'=some l)(hc:n<=cap):
  (E7 isS n cap (lo.map a.eval) (hi.map a.eval) none).run P w= .ok (l,h,cap) w/\l<=h/\h<=n:=by
 obtain⟨k1,k2⟩:=O5 (P:=P) (w:=w) (c:=if isS then .sliceAcap else .sliceAlen) he ht2 hb hc;obtain⟨k3,k4⟩:=FQ (P:=P) (w:=w) (c:=.sliceB) he ht1 hl;refine⟨?_,k4,k2⟩;unfold E7;cases hhi:hi.map a.eval<;>cases hlo:lo.map a.eval<;>simp only[hhi,hlo]at k1 k3<;>simp[k1,k3]
 all_goals simp at k1 k3
 all_goals simp[*]
theorem O6{o:Oper}{t:TypeId}{x:Operand}{lo hi:Option Operand}{x':ai}{lo' hi':Option ai}{v:V}(ho:o.op= .slice t x lo hi none)(hu:P.underlying t=some .string)(hx:bF x=some x')(h1:gP lo=some lo')(h2:gP hi=some hi')
  (hs:step ρ σ (.qK x' lo' hi')=some (v,σ')) (hrep:aB w0 κ σ w) (he:b8 κ ρ a):bf w0 κ σ' v ((execOp a.eval o).run P w):=by
 have hr:=bO he hx;simp only[step]at hs;split at hs
 ·rename_i l hl;split at hs
  ·rename_i h hh;split at hs
   ·rename_i q hq;injection hs with hs;injection hs with e1 e2;subst e1 e2;rw[hl]at hr;obtain⟨k,_,_⟩:=An (P:=P) (w:=w) (isS:=false) (cap:=l.length) he h1 h2 hh hq (aA _);refine bf.still (v':=.string (bs ((l.drop q).take (h-q)))) ?_ hrep (.c (.str _ (bB (by simp;omega) hr.FK)));simp[execOp,ho,E8,cr hu,hr.o8,E9,iX,k,O7]
   ·cases hs
  ·cases hs
 ·cases hs
theorem RC.sub{m:Mem}{rows:List (List C)}{A:Option Addr}{cap s l k c:Nat}(h:RC m (.sl rows) (.slice A rows.length cap))(hs:∀cs∈rows,cs.length=s)(hl:l+k<=rows.length)(hc:k<=c)(hcm:c+l<=cap):
  RC m (.sl ((rows.drop l).take k)) (.slice (if c+l=l then A else A.map (·.add (l*s))) k c):=by
 obtain⟨s',A',cap',xs,hv,h0,h1,h2,h3,h4,h5⟩:=h.ke;injection hv with e1 _ e3;subst e1 e3;have hlen:((rows.drop l).take k).length=k:=by simp;omega
 by_cases hk:k=0
 ·subst hk;have:(rows.drop l).take 0=[]:=rfl;rw[this];exact .sl [] s _ c [] (by simp) (bx _) (by omega) (by simp) (by simp) (by simp)
 ·have iz:s'=s:=by
   have h6:0<rows.length:=by omega
   rw[<-h0 _ (bw h6),hs _ (bw h6)]
  subst iz;obtain⟨b,o,rfl,hm⟩:=h4 (by intro e;rw[e]at hl;simp at hl;omega);have hxs:((xs.drop (l*s')).take (k*s')).length=k*s':=by
   have:(l+k)*s'<=rows.length*s':=iN _ hl;rw[fi]at this;simp;omega
  have:=RC.sl (m:=m) ((rows.drop l).take k) s' (if c+l=l then some ⟨b,o,none⟩else(some (⟨b,o,none⟩:Addr)).map (·.add (l*s'))) c ((xs.drop (l*s')).take (k*s'))
   (fun r hr=>h0 r (Oc (Ob hr))) (by rw[hlen];exact hc) (by omega) (by rw[hlen,hxs]) (fun _=>⟨b,o+l*s',by
     rw[if_neg (by omega)];simp[add_lit],fun j hj=>by
     rw[hxs]at hj;have h6:l*s'+j<xs.length:=by
      have:(l+k)*s'<=rows.length*s':=iN _ hl;rw[fi]at this;omega
     rw[lH,if_pos hj,mR,<-hm _ h6,jk]⟩) (fun i hi j hj=>by
     have hi':i<k:=by omega
     have e:((rows.drop l).take k)[i]=rows[l+i]'(by omega):=by rw[oU,E0]
     have hj':j<(rows[l+i]'(by omega)).length:=by rw[<-e];exact hj
     have h7:=h5 (l+i) (by omega) j hj';have hjs:j<s':=by rw[<-h0 _ (bw (show l+i<rows.length by omega))];exact hj'
     have e2:((xs.drop (l*s')).take (k*s')).getD (i*s'+j) undef=xs.getD ((l+i)*s'+j) undef:=by
      rw[cc,cc,lH,if_pos (mul_lt hi' hjs),mR,fi,jk]
     rw[e2];simpa[e]using h7)
  rwa [hlen]at this
theorem O8{o:Oper}{t e:TypeId}{inf:TypeInfo}{x:Operand}{lo hi mx:Option Operand}{x':ai}{lo' hi' mx':Option ai}{v:V}(ho:o.op= .slice t x lo hi mx)(hu:P.underlying t=some (.slice e))(hi0:P.info? e=some inf)(hx:bF x=some x')
  (h1:gP lo=some lo') (h2:gP hi=some hi') (h3:gP mx=some mx') (hmh:¬(mx'.isSome&&hi'.isNone)=true)
  (hs:step ρ σ (.jq inf.size x' lo' hi' mx')=some (v,σ')) (hrep:aB w0 κ σ w) (he:b8 κ ρ a):bf w0 κ σ' v ((execOp a.eval o).run P w):=by
 have hr:=bO he hx;simp only[step]at hs;split at hs
 ·rename_i b n hsub;split at hs
  ·rename_i h hh;injection hs with hs;injection hs with e1 e2;subst e1 e2;have hsub:x'.ev ρ= .vec b n/\lo'=none/\mx'=none:=by
    generalize x'.ev ρ=u at hsub;cases u<;>simp only[V.sub]at hsub<;>first|(cases hsub;done)|skip
    split at hsub
    ·injection hsub with hsub;injection hsub with e1 e2;subst e1 e2;exact⟨rfl,rfl,rfl⟩
    ·cases hsub
   obtain⟨hx',rfl,rfl⟩:=hsub;have hmx:mx=none:=by
    rcases pa h3 with⟨h,_⟩|⟨_,_,_,h,_⟩
    ·exact h
    ·cases h
   subst hmx;have hlo:lo=none:=by
    rcases pa h1 with⟨h,_⟩|⟨_,_,_,h,_⟩
    ·exact h
    ·cases h
   subst hlo;rw[hx']at hr;generalize hva:a.eval x=va at hr;cases hr with
   |vec q0 q1 q2 q3 q4 q5=>
    rename_i n0 cap;obtain⟨k,k1,k2⟩:=An (P:=P) (w:=w) (isS:=true) (cap:=cap) (l:=0) he h1 h2 hh rfl (by omega);simp only[Option.map_none]at k;refine bf.still (v':=_) ?_ hrep (RV.vec q0 q1 q2 (k:=h) (by omega) q4 q5);simp[execOp,ho,E8,cr hu,hva,E9,k,run_sizeOf hi0,add_lit]
  ·cases hs
 split at hs
 ·rename_i r hrows;split at hs
  ·rename_i hsz;split at hs
   ·rename_i h hh;split at hs
    ·rename_i q hq;have hrc:=hr.kX hrows;obtain⟨s,A,cap,xs,hv,_,hcap,_⟩:=hrc.ke;rw[hv]at hrc;split at hs
     ·injection hs with hs;injection hs with e1 e2;subst e1 e2;have hmx:mx=none:=by
       rcases pa h3 with⟨h,_⟩|⟨_,_,_,h,_⟩
       ·exact h
       ·cases h
      subst hmx;obtain⟨k,k1,k2⟩:=An (P:=P) (w:=w) (isS:=true) (cap:=cap) he h1 h2 hh hq hcap;have hsub:=hrc.sub (s:=inf.size) (l:=q) (k:=h-q) (c:=cap-q) hsz (by omega) (by omega) (by omega);rw[show cap-q+q=cap from by omega]at hsub;refine bf.still (v':=_) ?_ hrep (.c hsub);simp[execOp,ho,E8,cr hu,hv,E9,k,run_sizeOf hi0]
     ·rename_i m;split at hs
      ·rename_i m' hm';split at hs
       ·rename_i hmeq;injection hs with hs;injection hs with e1 e2;subst e1 e2;subst hmeq;rcases pa h3 with⟨_,h⟩|⟨xm,ym,rfl,hym,hxm⟩
        ·cases h
        injection hym with hym;subst hym;rcases pa h2 with⟨_,rfl⟩|⟨xh,yh,rfl,rfl,hxh⟩
        ·simp at hmh
        obtain⟨km,im,him,m0,m1,m2⟩:=Am hm';obtain⟨kh,ih,hih,n0,n1,n2⟩:=Am hh;have hmr:=bO he hxm;rw[him]at hmr;have hhr:=bO he hxh;rw[hih]at hhr;obtain⟨k3,k4⟩:=FQ (P:=P) (w:=w) (c:=.slice3C) he h1 hq;have b1:=wJ (P:=P) (w:=w) (k:=km) (i:=im) (y:=cap) (c:=.slice3Acap) m0 (by omega);have b2:=wJ (P:=P) (w:=w) (k:=kh) (i:=ih) (y:=im.toNat) (c:=.slice3B) n0 (by omega);rw[m2]at b1 b2;rw[n2]at b2;have hb:(E7 true r.length cap (lo.map a.eval) (some (.int kh ih)) (some (.int km im))).run P w= .ok (q,m',m') w:=by
         unfold E7;cases hlo:lo.map a.eval<;>simp only[hlo]at k3<;>simp[b1,b2]
         ·simp at k3;simp[k3]
         ·simp[k3]
        have hsub:=hrc.sub (s:=inf.size) (l:=q) (k:=m'-q) (c:=m'-q) hsz (by omega) (by omega) (by omega);rw[show m'-q+q=m' from by omega]at hsub;have hlen:((r.drop q).take (m'-q)).length=m'-q:=by simp;omega
        have hcs:=RV.ab (κ:=κ) (rows:=(r.drop q).take (m'-q)) (A:=if m'=q then A else A.map (·.add (q*inf.size))) (by rw[hlen];exact hsub);rw[hlen]at hcs;refine bf.still (v':=_) ?_ hrep hcs;simp[execOp,ho,E8,cr hu,hv,E9,hmr.iy,hhr.iy,hb,run_sizeOf hi0]
       ·cases hs
      ·cases hs
    ·cases hs
   ·cases hs
  ·cases hs
 ·cases hs
theorem FR{o:Oper}{op:BinOp}{t t':Nat}{x y:Operand}{x' y':ai}{v:V}(ho:o.op= .binOp op t x y t')(hx:bF x=some x')(hy:bF y=some y')(hs:step ρ σ (.bin op x' y')=some (v,σ'))(hrep:aB w0 κ σ w)(he:b8 κ ρ a):
  bf w0 κ σ' v ((execOp a.eval o).run P w):=by
 have hxr:=bO he hx;have hyr:=bO he hy;simp only[step]at hs;split at hs
 ·rename_i u hb;injection hs with hs;injection hs with e1 e2;subst e1 e2;unfold wB at hb;split at hb
  ·rename_i k m k' n h1 h2;rw[h1]at hxr;rw[h2]at hyr;have hxv:=hxr.iy;have hyv:=hyr.iy;split at hb
   ·rename_i hk;subst hk;have g:∀u,(eqGuard op t x y (.int k m) (.int k n)).run P u= .ok () u:=fun u=>by unfold eqGuard;split<;>simp
    cases op<;>simp only[Ac]at hb
    case quo|rem=>
     split at hb
     ·cases hb
     ·rename_i hn;simp only[iq,zP]at hb;subst hb;refine bf.still (v':=_) ?_ hrep (.c (.int _ _));simp[execOp,ho,hxv,hyv,g,binOp,Op.intDiv,hn]
    case add|sub|mul=>
     simp only[iq,zP]at hb;subst hb;refine bf.still (v':=_) ?_ hrep (.c (.int _ _));simp[execOp,ho,hxv,hyv,g,binOp,Op.intArith]
    case eql|neq|lss|leq|gtr|geq=>
     simp only[iq,zP]at hb;subst hb;refine bf.still (v':=_) ?_ hrep (.c (.bool _));simp[execOp,ho,hxv,hyv,g,binOp,Op.intCmp]
    all_goals cases hb
   ·cases hb
  ·rename_i l r h1 h2;rw[h1]at hxr;rw[h2]at hyr;have hxv:=hxr.o8;have hyv:=hyr.o8;have g:∀u,(eqGuard op t x y (.string (bs l)) (.string (bs r))).run P u= .ok () u:=fun u=>by unfold eqGuard;split<;>simp
   cases op<;>simp only[Ad]at hb
   case add=>
    split at hb
    ·rename_i hle;simp only[iq,zP]at hb;subst hb;refine bf.still (v':=.string (bs (l++r))) ?_ hrep (.c (.str _ (by unfold maxLen;simp;omega)));have hmax:((l.length:Int)+(r.length:Int))<=9223372036854775807:=by omega
     simp[execOp,ho,hxv,hyv,g,binOp,Op.stringOp,iX,hmax,O9]
    ·cases hb
   case eql|neq|lss=>
    simp only[iq,zP]at hb;subst hb;refine bf.still (v':=_) ?_ hrep (.c (.bool _));simp[execOp,ho,hxv,hyv,g,binOp,Op.stringOp,Ao]
   all_goals cases hb
  ·cases hb
 ·cases hs
theorem run_equalIn_bool{t:Nat}(d:Nat)(p q:Bool)(hu:P.underlying t=some .bool):(gx (d+1) t (.bool p) (.bool q)).run P w= .ok (p==q) w:=by
 simp[gx,cr hu]
theorem FT{o:Oper}{op:BinOp}{t t':Nat}{x y:Operand}{x' y':ai}{v:V}{neg:Bool}(ho:o.op= .binOp op t x y t')(hu:P.underlying t=some .bool)(hop:op=if neg then .neq else .eql)(hx:bF x=some x')(hy:bF y=some y')
  (hs:step ρ σ (.o4 neg x' y')=some (v,σ')) (hrep:aB w0 κ σ w) (he:b8 κ ρ a):bf w0 κ σ' v ((execOp a.eval o).run P w):=by
 have hxr:=bO he hx;have hyr:=bO he hy;simp only[step]at hs;split at hs
 ·rename_i p q h1 h2;injection hs with hs;injection hs with e1 e2;subst e1 e2;rw[h1]at hxr;rw[h2]at hyr;have hxv:=hxr.qR;have hyv:=hyr.qR;have g:∀u,(eqGuard op t x y (.bool p) (.bool q)).run P u= .ok () u:=fun u=>by unfold eqGuard;split<;>simp
  have q1:(Op.equal t (.bool p) (.bool q)).run P w= .ok (p==q) w:=run_equalIn_bool 9999 p q hu;refine bf.still (v':=.bool (if neg then !(p==q)else p==q)) ?_ hrep (.c (.bool _));cases neg
  ·simp only[e9,if_false]at hop;subst hop;simp only[execOp,ho,hxv,hyv,jj,g,jU,binOp,q1,jT,e9,if_false]
  ·simp only[if_true]at hop;subst hop;simp only[execOp,ho,hxv,hyv,jj,g,jU,binOp,q1,jT,if_true]
 ·cases hs
end
end Go.Lamb
