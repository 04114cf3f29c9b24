/- . -/
import Derived.Test.YtdlkenpilhakfaaGreatDoorQLexSpec
import Derived.Laws.OwnMore
import Derived.Laws.AppendOwn
import Derived.Laws.IdiomCopy
import Derived.WalkKit
import Derived.Lib.Hide
import Derived.RangeFuncOwn
import Derived.Laws.Cells
import Derived.MapKept
import Derived.Laws.BytesString
set_option linter.unusedSimpArgs false
set_option linter.unusedVariables false
set_option maxHeartbeats 8000000
set_option maxRecDepth 20000
open Array renaming getD->mF,getD_eq_getD_getElem?->ij,getElem?_eq_some_iff->dS
open Bool renaming false_eq_true->fe
open Go renaming heap_alloc_new->kE,run_underlying->cp
open Go.Builtin renaming len_->EG
open Go.Instr renaming loadAt->vW,slice->EK,sliceAt->EJ,sliceBound->EH,sliceBounds->EI,sureAddr->ss
open Go.Op renaming equalIn->gw
open Go.Result renaming andThen_ok->jP
open Go.Sem renaming run_bind->jh,run_pure->jO
open Go.World renaming cell?_of_block->vX,setRow->zy
open List renaming all_eq_true->cU,getD->lA,getD_eq_getElem?_getD->cf,getElem?_append->ZR,getElem?_drop->nJ,getElem?_eq_getElem->aO,getElem?_eq_some_iff->aL,getElem?_take->mH,getElem_append_left->cL,getElem_append_right->dU,getElem_cons_zero->dC,getElem_drop->EE,getElem_map->dN,getElem_mem->bt,getElem_of_mem->fD,getElem_set_ne->fE,getElem_set_self->gv,getElem_take->oQ,length_map->bW,mem_of_mem_drop->NT,mem_of_mem_take->NS
open Nat renaming add_assoc->ji,add_mul->fo,add_zero->mG,le_refl->aA,le_succ->mE,le_trans->bE,lt_or_ge->dT,mul_le_mul_right->jg,sub_self->cq,zero_le->bC
open Ne renaming symm->dn
open Option renaming map_some->iI
open Option.some renaming injEq->zC
open UInt8 renaming ofNat->mD
namespace Go.Lamb
open Go Go.RowKit
inductive C where
 |bool (b:Bool)
 |int (k:IntKind) (n:Int)
 |str (l:List UInt8)
 |sl (rows:List (List C))
 |ey
 |ref (cs:List C) (o:Nat)
 |iO
 |err
 deriving Inhabited
abbrev Mem:=Nat->Nat->Option Value
inductive RC (m:Mem):C->Value->Prop where
 |bool (b:Bool):RC m (.bool b) (.bool b)
 |int (k:IntKind) (n:Int):RC m (.int k n) (.int k n)
 |str (l:List UInt8) (h:l.length<=maxLen):RC m (.str l) (.string (bs l))
 |sl (rows:List (List C)) (s:Nat) (A:Option Addr) (cap:Nat) (xs:List Value) (h0:∀r∈rows,r.length=s) (h1:rows.length<=cap) (h2:cap<=maxLen)
   (h3:xs.length=rows.length*s) (h4:rows≠[]->∃b o,A=some ⟨b,o,none⟩/\∀k,k<xs.length->m b (o+k)=xs[k]?)
   (h5:∀i (hi:i<rows.length) j (hj:j<rows[i].length),RC m rows[i][j] (xs.getD (i*s+j) undef)):RC m (.sl rows) (.slice A rows.length cap)
 |ey:RC m .ey (.pointer none)
 |ref (cs:List C) (o b p:Nat) (xs:List Value) (h3:xs.length=cs.length) (h4:∀k,k<xs.length->m b (p+k)=xs[k]?)
   (h5:∀j (hj:j<cs.length),RC m cs[j] (xs.getD j undef)):RC m (.ref cs o) (.pointer (some ⟨b,p+o,none⟩))
 |iO:RC m .iO .nilIface
 |err (t:TypeId) (v:Value):RC m .err (.iface t v)
def Mem.le(m m':Mem):Prop:=∀b o v,m b o=some v->m' b o=some v
theorem Mem.le_refl(m:Mem):m.le m:=fun _ _ _ h=>h
theorem Mem.le_trans{a b c:Mem}(h:a.le b)(k:b.le c):a.le c:=fun x y v e=>k x y v (h x y v e)
theorem Mem.E8{m m':Mem}(h:m.le m'){b o:Nat}{xs:List Value}(hm:∀k,k<xs.length->m b (o+k)=xs[k]?):∀k,k<xs.length->m' b (o+k)=xs[k]?:=by
 intro k hk;have:=hm k hk;rw[aO hk]at this⊢;exact h _ _ _ this
theorem RC.mono{m m':Mem}(h:m.le m'){x:C}{v:Value}(r:RC m x v):RC m' x v:=by
 induction r with
 |bool b=>exact .bool b
 |int k n=>exact .int k n
 |str l h=>exact .str l h
 |sl rows s A cap xs h0 h1 h2 h3 h4 h5 ih=>
  exact .sl rows s A cap xs h0 h1 h2 h3 (fun hn=>let ⟨b,o,hA,hm⟩:=h4 hn;⟨b,o,hA,Mem.E8 h hm⟩) ih
 |ey=>exact .ey
 |ref cs o b p xs h3 h4 h5 ih=>exact .ref cs o b p xs h3 (Mem.E8 h h4) ih
 |iO=>exact .iO
 |err t v=>exact .err t v
theorem RC.one{m:Mem}{x:C}{v:Value}(r:RC m x v):v.oneCell'=true:=by cases r<;>rfl
theorem RC.nil(m:Mem):RC m (.sl []) (.slice none 0 0):=
 .sl [] 0 none 0 [] (by simp) (aA _) (bC _) (by simp) (by simp) (by simp)
structure K where
 m:Mem
 n:Nat
 pos:Nat->Nat
 fr:Nat->Option Nat
 sv:Nat->Value
 sz:Nat->Nat
 rest:Nat->Option Obj:=fun _=>none
 dw:Nat:=0
inductive V where
 |void
 |any
 |c (x:C)
 |ptr (b o:Nat)
 |aG (b:Nat) (rows:List (List C))
 |ab (rows:List (List C))
 |fn (f:FuncId) (caps:List V)
 |cg
 |mp (b:Nat)
 |cC
 |vec (b k:Nat)
 |agg (vs:List V)
 |ay (vs:List V)
 deriving Inhabited
inductive RV (κ:K):V->Value->Prop where
 |void:RV κ .void undef
 |any (v:Value):RV κ .any v
 |c {x:C} {v:Value} (h:RC κ.m x v):RV κ (.c x) v
 |ptr {b o:Nat} (h:b<κ.n) (h1:κ.fr b=none):RV κ (.ptr b o) (.pointer (some ⟨κ.pos b,o,none⟩))
 |aG {b f:Nat} {rows:List (List C)} {v:Value} (h:RC κ.m (.sl rows) v) (h1:b<κ.n) (h2:κ.fr b=some f) (h3:rows.length<=f) (h4:rows.length=f->v=κ.sv b) (h5:∀r∈rows,r.length=κ.sz b):RV κ (.aG b rows) v
 |ab {rows:List (List C)} {A:Option Addr} (h:RC κ.m (.sl rows) (.slice A rows.length rows.length)):RV κ (.ab rows) (.slice A rows.length rows.length)
 |fn {f:FuncId} {caps:List V} {vs:List Value} (h:vs.length=caps.length) (h1:∀j (hj:j<caps.length),RV κ caps[j] (vs.getD j undef)):RV κ (.fn f caps) (.func (.func f) #[] vs.toArray)
 |cg:RV κ .cg .nilFunc
 |mp {b:Nat} (h:b<κ.n) (h1:κ.fr b=none):RV κ (.mp b) (.map (some (κ.pos b)))
 |cC:RV κ .cC (.map none)
 |vec {b k n cap:Nat} (h:b<κ.n) (h1:κ.fr b=none) (h2:κ.sv b= .slice (some ⟨κ.pos b,0,none⟩) n cap) (h3:k<=n) (h4:n<=cap) (h5:cap<=maxLen):RV κ (.vec b k) (.slice (some ⟨κ.pos b,0,none⟩) k cap)
 |agg {vs:List V} {xs:List Value} (h:xs.length=vs.length) (h1:∀j (hj:j<vs.length),RV κ vs[j] (xs.getD j undef)):RV κ (.agg vs) (.agg xs.toArray)
 |ay {vs:List V} {xs:List Value} (h:xs.length=vs.length) (h1:∀j (hj:j<vs.length),RV κ vs[j] (xs.getD j undef)):RV κ (.ay vs) (.tuple xs.toArray)
structure K.le (κ κ':K):Prop where
 m:κ.m.le κ'.m
 n:κ.n<=κ'.n
 cells:∀b,b<κ.n->κ.fr b=none->κ'.fr b=none/\κ'.pos b=κ.pos b
 spare:∀b f,b<κ.n->κ.fr b=some f->∃f',κ'.fr b=some f'/\f<=f'/\(f'=f->κ'.sv b=κ.sv b)/\κ'.sz b=κ.sz b
 sI:∀b,b<κ.n->κ.fr b=none->κ'.sv b=κ.sv b
 rest:κ'.rest=κ.rest
 dw:κ'.dw=κ.dw
theorem K.le_refl(κ:K):κ.le κ:=⟨Mem.le_refl _,aA _,fun _ _ h=>⟨h,rfl⟩,fun _ f _ h=>⟨f,h,aA _,fun _=>rfl,rfl⟩,fun _ _ _=>rfl,rfl,rfl⟩
theorem K.le_trans{a b c:K}(h:a.le b)(k:b.le c):a.le c:=by
 refine⟨Mem.le_trans h.m k.m,bE h.n k.n,fun i hi hf=>?_,fun i f hi hf=>?_,fun i hi hf=>(k.sI i (by have:=h.n;omega) (h.cells i hi hf).1).trans (h.sI i hi hf),k.rest.trans h.rest,k.dw.trans h.dw⟩
 ·obtain⟨h1,h2⟩:=h.cells i hi hf;obtain⟨k1,k2⟩:=k.cells i (by have:=h.n;omega) h1;exact⟨k1,k2.trans h2⟩
 ·obtain⟨f1,h1,h2,h3,h4⟩:=h.spare i f hi hf;obtain⟨f2,k1,k2,k3,k4⟩:=k.spare i f1 (by have:=h.n;omega) h1;refine⟨f2,k1,by omega,fun e=>?_,k4.trans h4⟩;have e1:f1=f:=by omega
  have e2:f2=f1:=by omega
  exact(k3 e2).trans (h3 e1)
theorem RV.mono{κ κ':K}(h:κ.le κ'){x:V}{v:Value}(r:RV κ x v):RV κ' x v:=by
 induction r with
 |void=>exact .void
 |any v=>exact .any v
 |c h0=>exact .c (h0.mono h.m)
 |ptr h0 h1=>
  obtain⟨k1,k2⟩:=h.cells _ h0 h1;rw[<-k2];exact .ptr (by have:=h.n;omega) k1
 |aG h0 h1 h2 h3 h4 h5=>
  obtain⟨f',k1,k2,k3,k4⟩:=h.spare _ _ h1 h2;refine .aG (h0.mono h.m) (by have:=h.n;omega) k1 (by omega) (fun e=>?_) (by rw[k4];exact h5);have e1:f'=_:=(show f'=_ from by have:f'<=_:=e▸h3;exact Nat.le_antisymm this k2);rw[k3 e1];exact h4 (by omega)
 |ab h0=>exact .ab (h0.mono h.m)
 |fn h0 h1 ih=>exact .fn h0 ih
 |cg=>exact .cg
 |mp h0 h1=>
  obtain⟨k1,k2⟩:=h.cells _ h0 h1;rw[<-k2];exact .mp (by have:=h.n;omega) k1
 |cC=>exact .cC
 |vec h0 h1 h2 h3 h4 h5=>
  obtain⟨k1,k2⟩:=h.cells _ h0 h1;have k3:=h.sI _ h0 h1;rw[<-k2];rw[<-k2]at h2;exact .vec (by have:=h.n;omega) k1 (k3.trans h2) h3 h4 h5
 |agg h0 h1 ih=>exact .agg h0 ih
 |ay h0 h1 ih=>exact .ay h0 ih
def V.leaf:V->Bool
 | .c _| .ptr ..| .aG ..| .ab ..| .fn ..| .cg| .mp _| .cC| .vec ..=>true
 |_=>false
theorem RV.one{κ:K}{x:V}{v:Value}(r:RV κ x v)(h:x.leaf=true):v.oneCell'=true:=by
 cases r with
 |c h=>exact h.one
 |aG h=>exact h.one
 |void|any|agg|ay=>cases h
 |ptr|ab|fn|cg|mp|cC|vec=>rfl
inductive V.wk:V->V->Prop where
 |rfl (x:V):V.wk x x
 |any (x:V):V.wk x .any
 |aG (b:Nat) (rows:List (List C)):V.wk (.aG b rows) (.c (.sl rows))
 |ab (rows:List (List C)):V.wk (.ab rows) (.c (.sl rows))
 |agg {vs us:List V} (h:us.length=vs.length) (h1:∀j (hj:j<vs.length) (hj':j<us.length),V.wk vs[j] us[j]):V.wk (.agg vs) (.agg us)
 |ay {vs us:List V} (h:us.length=vs.length) (h1:∀j (hj:j<vs.length) (hj':j<us.length),V.wk vs[j] us[j]):V.wk (.ay vs) (.ay us)
theorem RV.wk{κ:K}{x y:V}{v:Value}(h:V.wk x y)(r:RV κ x v):RV κ y v:=by
 induction h generalizing v with
 |rfl x=>exact r
 |any x=>exact .any v
 |aG b rows=>cases r with|aG h=>exact .c h
 |ab rows=>cases r with|ab h=>exact .c h
 |agg h h1 ih=>cases r with|agg k k1=>exact .agg (by omega) fun j hj=>ih j (by omega) hj (k1 j (by omega))
 |ay h h1 ih=>cases r with|ay k k1=>exact .ay (by omega) fun j hj=>ih j (by omega) hj (k1 j (by omega))
def V.fX:V->Option C
 | .c x=>some x
 | .aG _ rows=>some (.sl rows)
 | .ab rows=>some (.sl rows)
 |_=>none
theorem RV.fX{κ:K}{x:V}{y:C}{v:Value}(r:RV κ x v)(h:x.fX=some y):RC κ.m y v:=by
 cases r with
 |c h0=>simp only[V.fX]at h;injection h with h;subst h;exact h0
 |aG h0=>simp only[V.fX]at h;injection h with h;subst h;exact h0
 |ab h0=>simp only[V.fX]at h;injection h with h;subst h;exact h0
 |_=>cases h
inductive V.low (n:Nat):V->Prop where
 |void:V.low n .void
 |any:V.low n .any
 |c (x:C):V.low n (.c x)
 |ptr {b o:Nat} (h:b<n):V.low n (.ptr b o)
 |aG {b:Nat} {rows:List (List C)} (h:b<n):V.low n (.aG b rows)
 |ab (rows:List (List C)):V.low n (.ab rows)
 |fn {f:FuncId} {caps:List V} (h:∀x∈caps,V.low n x):V.low n (.fn f caps)
 |cg:V.low n .cg
 |mp {b:Nat} (h:b<n):V.low n (.mp b)
 |cC:V.low n .cC
 |vec {b k:Nat} (h:b<n):V.low n (.vec b k)
 |agg {vs:List V} (h:∀x∈vs,V.low n x):V.low n (.agg vs)
 |ay {vs:List V} (h:∀x∈vs,V.low n x):V.low n (.ay vs)
def K.cut(κ:K)(n:Nat):K:={κ with n:=n}
theorem RV.cut{κ:K}{n:Nat}{x:V}{v:Value}(h:V.low n x)(r:RV κ x v):RV (κ.cut n) x v:=by
 induction r with
 |void=>exact .void
 |any v=>exact .any v
 |c h0=>exact .c h0
 |ptr h0 h1=>cases h with|ptr hb=>exact .ptr (κ:=κ.cut n) hb h1
 |aG h0 h1 h2 h3 h4 h5=>cases h with|aG hb=>exact .aG (κ:=κ.cut n) h0 hb h2 h3 h4 h5
 |ab h0=>exact .ab h0
 |fn h0 h1 ih=>cases h with|fn hc=>exact .fn h0 fun j hj=>ih j hj (hc _ (bt hj))
 |cg=>exact .cg
 |mp h0 h1=>cases h with|mp hb=>exact .mp (κ:=κ.cut n) hb h1
 |cC=>exact .cC
 |vec h0 h1 h2 h3 h4 h5=>cases h with|vec hb=>exact .vec (κ:=κ.cut n) hb h1 h2 h3 h4 h5
 |agg h0 h1 ih=>cases h with|agg hc=>exact .agg h0 fun j hj=>ih j hj (hc _ (bt hj))
 |ay h0 h1 ih=>cases h with|ay hc=>exact .ay h0 fun j hj=>ih j hj (hc _ (bt hj))
theorem RV.low{κ:K}{x:V}{v:Value}(r:RV κ x v):V.low κ.n x:=by
 induction r with
 |void=>exact .void
 |any v=>exact .any
 |c h0=>exact .c _
 |ptr h0 h1=>exact .ptr h0
 |aG h0 h1 h2 h3 h4 h5=>exact .aG h1
 |ab h0=>exact .ab _
 |fn h0 h1 ih=>exact .fn fun x hx=>by obtain⟨j,hj,rfl⟩:=fD hx;exact ih j hj
 |cg=>exact .cg
 |mp h0 h1=>exact .mp h0
 |cC=>exact .cC
 |vec h0=>exact .vec h0
 |agg h0 h1 ih=>exact .agg fun x hx=>by obtain⟨j,hj,rfl⟩:=fD hx;exact ih j hj
 |ay h0 h1 ih=>exact .ay fun x hx=>by obtain⟨j,hj,rfl⟩:=fD hx;exact ih j hj
inductive ad where
 |cells (cs:List V) (tg:Option TypeId:=none)
 |spare (e:TypeId) (size n:Nat)
 |mp (kvs:List (C×C))
 |vec (e:TypeId) (size:Nat) (cs:List C)
 |gone
 deriving Inhabited
abbrev H:=List ad
def heldBy:Value->Option Nat
 | .slice (some a) _ (_+1)=>some a.block
 |_=>none
theorem wu{v:Value}{g:Nat}(h:heldBy v=some g):v.ownBlock=some g:=by
 unfold heldBy at h;split at h
 ·exact h
 ·cases h
theorem E9{w:World}{base e size n g:Nat}{v:Value}{xs:List Value}(h:w.ownsRow base e size v n xs)(hn:0<n)(hg:v.ownBlock=some g):heldBy v=some g:=by
 rcases h.2 with⟨_,h0⟩|⟨b,cap,cur,rfl,_,_,hc,_⟩
 ·omega
 ·cases cap with
  |zero=>omega
  |succ c=>exact hg
def ad.be(κ:K)(b:Nat):ad->Option Nat
 | .cells _ _=>some (κ.pos b)
 | .spare _ _ _=>heldBy (κ.sv b)
 | .mp _=>some (κ.pos b)
 | .vec _ _ _=>some (κ.pos b)
 | .gone=>none
structure ad.df (w0:World) (κ:K) (w:World) (b:Nat) (cs:List V) (tg:Option TypeId):Prop where
 fr:κ.fr b=none
 row:∃vs t,w.heap[κ.pos b]?=some (.cells vs t (0,0))/\vs.size=cs.length/\∀j (hj:j<cs.length),cs[j].leaf=true/\RV κ cs[j] (vs.getD j undef)
 own:w0.heap.size<=κ.pos b
 free:∀o,κ.m (κ.pos b) o=none
 ty:∀T,tg=some T->∃vs,w.heap[κ.pos b]?=some (.cells vs T (0,0))
structure ad.Oi (w0:World) (κ:K) (w:World) (b:Nat) (e:TypeId) (size n:Nat):Prop where
 fr:κ.fr b=some n
 sz:κ.sz b=size
 row:(n=0/\∃A,κ.sv b= .slice A 0 0)\/(∃xs,w.ownsRow w0.heap.size e size (κ.sv b) n xs)
 free:∀g,heldBy (κ.sv b)=some g->∀o,n*size<=o->κ.m g o=none
structure ad.mapped (w0:World) (κ:K) (w:World) (b:Nat) (kvs:List (C×C)):Prop where
 fr:κ.fr b=none
 row:∃es clock,w.heap[κ.pos b]?=some (.map es clock)/\es.toList.length=kvs.length/\∀j (hj:j<kvs.length) (hj':j<es.toList.length),RC κ.m kvs[j].1 (es.toList[j]).key/\RC κ.m kvs[j].2 (es.toList[j]).val
 own:w0.heap.size<=κ.pos b
 free:∀o,κ.m (κ.pos b) o=none
theorem ad.mapped.le{w0 w:World}{κ κ':K}{b:Nat}{kvs:List (C×C)}(h:ad.mapped w0 κ w b kvs)(hm:κ.m.le κ'.m)(hf:κ'.fr b=none)(hp:κ'.pos b=κ.pos b)(hfree:∀o,κ'.m (κ.pos b) o=none):ad.mapped w0 κ' w b kvs:=by
 obtain⟨es,clock,h1,h2,h3⟩:=h.row;exact⟨hf,⟨es,clock,by rw[hp];exact h1,h2,fun j hj hj'=>⟨(h3 j hj hj').1.mono hm,(h3 j hj hj').2.mono hm⟩⟩,by rw[hp];exact h.own,by rw[hp];exact hfree⟩
structure ad.lJ (w0:World) (κ:K) (w:World) (b:Nat) (e size:Nat) (cs:List C):Prop where
 fr:κ.fr b=none
 row:∃vs n cap,κ.sv b= .slice (some ⟨κ.pos b,0,none⟩) n cap/\w.heap[κ.pos b]?=some (.cells vs e (0,0))/\cs.length=n*size/\n<=cap/\cap<=maxLen/\vs.size=cap*size/\∀j (hj:j<cs.length),RC κ.m cs[j] (vs.getD j undef)
 own:w0.heap.size<=κ.pos b
 free:∀o,κ.m (κ.pos b) o=none
theorem ad.lJ.le{w0 w:World}{κ κ':K}{b e size:Nat}{cs:List C}(h:ad.lJ w0 κ w b e size cs)(hm:κ.m.le κ'.m)(hf:κ'.fr b=none)(hp:κ'.pos b=κ.pos b)(hs:κ'.sv b=κ.sv b)(hfree:∀o,κ'.m (κ.pos b) o=none):ad.lJ w0 κ' w b e size cs:=by
 obtain⟨vs,n,cap,h1,h2,h3,h4,h5,h6,h7⟩:=h.row;exact⟨hf,⟨vs,n,cap,by rw[hs,hp];exact h1,by rw[hp];exact h2,h3,h4,h5,h6,fun j hj=>(h7 j hj).mono hm⟩,by rw[hp];exact h.own,by rw[hp];exact hfree⟩
theorem ad.lJ.lt{w0 w:World}{κ:K}{b e size:Nat}{cs:List C}(h:ad.lJ w0 κ w b e size cs){j:Nat}(hj:j<cs.length){vs:Array Value}(hv:w.heap[κ.pos b]?=some (.cells vs e (0,0))):j<vs.size:=by
 obtain⟨vs',n,cap,h1,h2,h3,h4,h5,h6,h7⟩:=h.row;rw[hv]at h2;injection h2 with h2;injection h2 with h2;subst h2;have:=jg size h4;omega
def ad.is(w0:World)(κ:K)(w:World)(b:Nat):ad->Prop
 | .cells cs tg=>ad.df w0 κ w b cs tg
 | .spare e size n=>ad.Oi w0 κ w b e size n
 | .mp kvs=>ad.mapped w0 κ w b kvs
 | .vec e size cs=>ad.lJ w0 κ w b e size cs
 | .gone=>True
structure aC (w0:World) (κ:K) (σ:H) (w:World):Prop where
 n:κ.n=σ.length
 ext:Below w0.heap.size w0 w
 mem:∀b o v,κ.m b o=some v->w.cell? ⟨b,o,none⟩=some v
 cD:∀b (h:b<σ.length),(σ[b]).is w0 κ w b
 apart:∀a b (ha:a<σ.length) (hb:b<σ.length) g,a≠b->(σ[a]).be κ a=some g->(σ[b]).be κ b≠some g
 rest:∀l o,κ.rest l=some o->w.heap[l]?=some o/\o.isCells=false/\∀b (hb:b<σ.length),(σ[b]).be κ b≠some l
 dw:κ.dw<=w.heap.size
theorem V.wv{n n':Nat}(h:n<=n'){x:V}(r:V.low n x):V.low n' x:=by
 induction r with
 |void=>exact .void
 |any=>exact .any
 |c x=>exact .c x
 |ptr h0=>exact .ptr (by omega)
 |aG h0=>exact .aG (by omega)
 |ab r=>exact .ab r
 |fn h0 ih=>exact .fn ih
 |cg=>exact .cg
 |mp h0=>exact .mp (by omega)
 |cC=>exact .cC
 |vec h0=>exact .vec (by omega)
 |agg h0 ih=>exact .agg ih
 |ay h0 ih=>exact .ay ih
def H.ok(σ:H):Prop:=∀b∈σ,∀cs tg,b= .cells cs tg->∀x∈cs,V.low σ.length x
theorem aC.ok{w0 w:World}{κ:K}{σ:H}(h:aC w0 κ σ w):H.ok σ:=by
 intro b hb cs tg hc x hx;obtain⟨i,hi,rfl⟩:=fD hb;have:=h.cD i hi;rw[hc]at this;obtain⟨vs,t,_,_,hr⟩:=this.row;obtain⟨j,hj,rfl⟩:=fD hx;rw[<-h.n];exact(hr j hj).2.low
theorem aC.cut{w0 w:World}{κ:K}{σ:H}(h:aC w0 κ σ w)(n:Nat)(hn:n<=σ.length)(hok:H.ok (σ.take n)):aC w0 (κ.cut n) (σ.take n) w:=by
 have hl:(σ.take n).length=n:=by simp[hn]
 refine⟨by rw[hl];rfl,h.ext,h.mem,fun b hb=>?_,fun a b ha hb g hne=>?_,fun l o hr=>⟨(h.rest l o hr).1,(h.rest l o hr).2.1,fun b hb=>by simp only[oQ];exact(h.rest l o hr).2.2 b (by omega)⟩,h.dw⟩
 ·have hb':b<σ.length:=by omega
  have hg:(σ.take n)[b]=σ[b]:=oQ;have:=h.cD b hb';have hmem:(σ.take n)[b]∈σ.take n:=bt hb;rw[hg]at hmem⊢;cases hσ:σ[b]with
  |cells cs tg=>
   rw[hσ]at this hmem;obtain⟨vs,t,h1,h2,h3⟩:=this.row;refine⟨this.fr,⟨vs,t,h1,h2,fun j hj=>⟨(h3 j hj).1,(h3 j hj).2.cut ?_⟩⟩,this.own,this.free,this.ty⟩;have:=hok _ hmem cs tg rfl cs[j] (bt hj);rwa [hl]at this
  |spare e size k=>
   rw[hσ]at this;exact⟨this.fr,this.sz,this.row,this.free⟩
  |mp kvs=>
   rw[hσ]at this;exact⟨this.fr,this.row,this.own,this.free⟩
  |vec e size cs=>
   rw[hσ]at this;exact⟨this.fr,this.row,this.own,this.free⟩
  |gone=>trivial
 ·simp only[oQ];exact h.apart a b (by omega) (by omega) g hne
theorem K.zU{κ κ':K}{n:Nat}(h:κ.le κ')(hn:κ.n<=n):κ.le (κ'.cut n):=⟨h.m,hn,h.cells,h.spare,h.sI,h.rest,h.dw⟩
abbrev Env:=Nat->V
inductive aj where
 |t (n:Nat)
 |k (v:V)
 deriving Inhabited
def aj.ev(ρ:Env):aj->V
 | .t n=>ρ n
 | .k v=>v
inductive KD where
 |b
 |i (k:IntKind)
 |s
 deriving Inhabited
def mQ:TypeDesc->Option KD
 | .bool=>some .b
 | .int k=>some (.i k)
 | .string=>some .s
 |_=>none
def KD.ok:KD->C->Bool
 | .b,.bool _=>true
 | .i k,.int k' _=>k'==k
 | .s,.str _=>true
 |_,_=>false
def iP:C->C->Bool
 | .bool a,.bool b=>a==b
 | .int _ a,.int _ b=>a==b
 | .str a,.str b=>a==b
 |_,_=>false
def iq(k:C):List (C×C)->Option C
 |[]=>none
 |(x,v)::l=>if iP k x then some v else iq k l
def ir(k v:C):List (C×C)->List (C×C)
 |[]=>[(k,v)]
 |(x,u)::l=>if iP k x then(k,v)::l else(x,u)::ir k v l
def nR(ok:Bool)(z:C)(r:Option C):V:=if ok then .ay [.c (r.getD z),.c (.bool r.isSome)]else .c (r.getD z)
inductive bq where
 |af (x:aj)
 |pick (c a b:aj)
 |box (x:aj) (tg:Option TypeId:=none)
 |build (zero:List V) (parts:List (Nat×Nat×aj))
 |bo (size:Nat) (parts:List aj)
 |aU (x:aj)
 |eK (n:Nat) (x:aj)
 |store (n:Nat) (x y:aj)
 |gN (x:aj)
 |bin (op:BinOp) (x y:aj)
 |oY (neg:Bool) (x y:aj)
 |lK (neg:Bool) (k:Nat) (x:aj)
 |eqs (neg:Bool) (ks:List Nat) (x y:aj)
 |un (op:UnOp) (x:aj)
 |conv (k:IntKind) (x:aj)
 |gA (f:FuncId) (caps:List aj)
 |qz (x:aj)
 |qA (x:aj)
 |nS (x:aj) (lo hi:Option aj)
 |jn (size:Nat) (x:aj) (lo hi mx:Option aj)
 |aV (off:Nat) (x:aj)
 |jo (off:Nat) (x:aj)
 |sJ (off n:Nat) (x:aj)
 |aI (size:Nat) (x i:aj)
 |index (x i:aj)
 |ext (x:aj) (i:Nat)
 |lens (x:aj)
 |aR (x:aj)
 |app (e:TypeId) (size bytes:Nat) (x y:aj)
 |lL (e:TypeId) (bytes:Nat) (x y:aj)
 |mx (x y:aj)
 |mn (x y:aj)
 |iu (neg:Bool) (x:aj)
 |kJ
 |kK (e:TypeId) (bytes:Nat) (z:C) (x:aj)
 |look (ok:Bool) (q:KD) (z:C) (x k:aj)
 |jT (q:KD) (x k y:aj)
 |oZ (x:aj)
 |call (f:aj) (args:List aj)
 |bad
 deriving Inhabited
def V.ai:V->List V
 | .agg vs=>vs
 |x=>[x]
def leaves(l:List V):Bool:=l.all V.leaf
def fv:List V->Option (List C)
 |[]=>some []
 |x::l=>match x.fX,fv l with
  |some a,some r=>some (a::r)
  |_,_=>none
def iQ(σ:H):V->Option (List V×Nat)
 | .ptr b o=>match σ[b]? with
   |some (.cells cs _)=>some (cs,o)
   |some (.vec _ _ cs)=>some (cs.map .c,o)
   |_=>none
 | .c (.ref cs o)=>some (cs.map .c,o)
 |_=>none
def V.rows:V->Option (List (List C))
 | .c (.sl r)=>some r
 | .aG _ r=>some r
 | .ab r=>some r
 |_=>none
def V.sub(lo mx:Option aj):V->Option (Nat×Nat)
 | .vec b k=>match lo,mx with
   |none,none=>some (b,k)
   |_,_=>none
 |_=>none
def nT:List (List C)->Option (List UInt8)
 |[]=>some []
 |[.int .u8 n]::r=>match nT r with
  |some l=>some (mD n.toNat::l)
  |none=>none
 |_::_=>none
def kL(ρ:Env):List V->List (Nat×Nat×aj)->Option (List V)
 |cs,[]=>some cs
 |cs,(off,size,x)::l=>
  if leaves (x.ev ρ).ai=true/\(x.ev ρ).ai.length=size/\off+size<=cs.length then kL ρ (cs.take off++(x.ev ρ).ai++cs.drop (off+size)) l else none
def iR(ρ:Env)(size:Nat):List aj->Option (List (List C))
 |[]=>some []
 |x::l=>match fv (x.ev ρ).ai,iR ρ size l with
  |some a,some r=>if a.length=size then some (a::r)else none
  |_,_=>none
def gB(ρ:Env)(n:Nat):Option aj->Option Nat
 |none=>some n
 |some x=>match x.ev ρ with
  | .c (.int _ i)=>if 0<=i/\i<=n then some i.toNat else none
  |_=>none
def jq(ρ:Env)(n:Nat):Option aj->Option Nat
 |none=>some 0
 |some x=>match x.ev ρ with
  | .c (.int _ i)=>if 0<=i/\i<=n then some i.toNat else none
  |_=>none
def zV(op:BinOp)(k:IntKind)(a b:Int):Option C:=
 match op with
 | .add=>some (.int k (k.wrap (a+b)))
 | .sub=>some (.int k (k.wrap (a-b)))
 | .mul=>some (.int k (k.wrap (a*b)))
 | .quo=>if b=0 then none else some (.int k (k.wrap (a.tdiv b)))
 | .rem=>if b=0 then none else some (.int k (a.tmod b))
 | .eql=>some (.bool (a==b))
 | .neq=>some (.bool (a !=b))
 | .lss=>some (.bool (a<b))
 | .leq=>some (.bool (a<=b))
 | .gtr=>some (.bool (a>b))
 | .geq=>some (.bool (a>=b))
 |_=>none
def zW(op:BinOp)(a b:List UInt8):Option C:=
 match op with
 | .add=>if a.length+b.length<=9223372036854775807 then some (.str (a++b))else none
 | .eql=>some (.bool (a==b))
 | .neq=>some (.bool (!(a==b)))
 | .lss=>some (.bool (Op.bytesLess a b))
 |_=>none
def wx(op:BinOp):V->V->Option V
 | .c (.int k a),.c (.int k' b)=>if k=k' then(zV op k a b).map .c else none
 | .c (.str a),.c (.str b)=>(zW op a b).map .c
 |_,_=>none
def V.isNil:Nat->V->Option Bool
 |0,.c .ey=>some true
 |0,.ptr ..=>some false
 |0,.c (.ref ..)=>some false
 |1,.c .iO=>some true
 |1,.c .err=>some false
 |2,.cg=>some true
 |2,.fn ..=>some false
 |_,_=>none
def qB:Nat->C->C->Option Bool
 |0,.bool a,.bool b=>some (a==b)
 |1,.int k a,.int k' b=>if k=k' then some (a==b)else none
 |2,.str a,.str b=>some (a==b)
 |_,_,_=>none
def kM:List Nat->List V->List V->Option Bool
 |[],[],[]=>some true
 |k::ks,.c x::l,.c y::r=>match qB k x y,kM ks l r with
  |some a,some b=>some (a&&b)
  |_,_=>none
 |_,_,_=>none
def mR(l:List UInt8):List (List C):=l.map fun b=>[.int .u8 b.toNat]
def mS(e:TypeId)(size bytes:Nat)(x:V)(news:List (List C))(σ:H):Option (V×H):=match x with
 | .vec b k=>match news with
   |[]=>some (.vec b k,σ)
   |_::_=>match σ[b]? with
   |some (.vec e' size' cs)=>if e'=e/\size'=size/\k*size<=cs.length/\news≠[]/\(∀r∈news,r.length=size)/\(k+news.length)*bytes<=140737488355328/\k+news.length<=140737488355328 then
     some (.vec σ.length (k+news.length),σ.set b .gone++[.vec e size (cs.take (k*size)++news.flatten)])else none
   |_=>none
 | .aG b rows=>match σ[b]? with
   |some (.spare e' size' n)=>if e'=e/\size'=size/\rows.length=n/\(∀r∈news,r.length=size)/\(n+news.length)*bytes<=140737488355328/\n+news.length<=140737488355328 then
     some (.aG b (rows++news),σ.set b (.spare e size (n+news.length)))else none
   |_=>none
 | .ab olds=>if(olds=[]\/news≠[])/\(∀r∈olds,r.length=size)/\(∀r∈news,r.length=size)/\(olds.length+news.length)*bytes<=140737488355328/\olds.length+news.length<=140737488355328 then
    some (.aG σ.length (olds++news),σ++[.spare e size (olds.length+news.length)])else none
 |_=>none
def step(ρ:Env)(σ:H):bq->Option (V×H)
 | .af x=>some (x.ev ρ,σ)
 | .pick c a b=>match c.ev ρ with
   | .c (.bool t)=>some (if t then a.ev ρ else b.ev ρ,σ)
   |_=>none
 | .box x tg=>if leaves (x.ev ρ).ai then some (.ptr σ.length 0,σ++[.cells (x.ev ρ).ai tg])else none
 | .build zero parts=>match kL ρ zero parts with
   |some cs=>some (.agg cs,σ)
   |none=>none
 | .bo size parts=>match iR ρ size parts with
   |some rows=>some (.ab rows,σ)
   |none=>none
 | .aU x=>match iQ σ (x.ev ρ)with
   |some (cs,o)=>match cs[o]? with
    |some u=>some (u,σ)
    |none=>none
   |none=>none
 | .eK n x=>match iQ σ (x.ev ρ)with
   |some (cs,o)=>if o+n<=cs.length then some (.agg ((cs.drop o).take n),σ)else none
   |none=>none
 | .store n x y=>match x.ev ρ with
   | .ptr b o=>match σ[b]? with
     |some (.cells cs tg)=>if(y.ev ρ).ai.length=n/\o+n<=cs.length/\leaves (y.ev ρ).ai=true then some (.void,σ.set b (.cells (cs.take o++(y.ev ρ).ai++cs.drop (o+n)) tg))else none
     |some (.vec e size cs)=>match fv (y.ev ρ).ai with
      |some ys=>if ys.length=n/\o+n<=cs.length then some (.void,σ.set b (.vec e size (cs.take o++ys++cs.drop (o+n))))else none
      |none=>none
     |_=>none
   |_=>none
 | .gN x=>match x.ev ρ with
   | .ptr b o=>some (.ptr b o,σ)
   | .c (.ref cs o)=>some (.c (.ref cs o),σ)
   | .fn f caps=>some (.fn f caps,σ)
   |_=>none
 | .bin op x y=>match wx op (x.ev ρ) (y.ev ρ)with
   |some v=>some (v,σ)
   |none=>none
 | .oY neg x y=>match x.ev ρ,y.ev ρ with
   | .c (.bool p),.c (.bool q)=>some (.c (.bool (if neg then !(p==q)else p==q)),σ)
   |_,_=>none
 | .lK neg k x=>match(x.ev ρ).isNil k with
   |some p=>some (.c (.bool (if neg then !p else p)),σ)
   |none=>none
 | .eqs neg ks x y=>match x.ev ρ,y.ev ρ with
   | .agg xs,.agg ys=>match kM ks xs ys with
     |some p=>some (.c (.bool (if neg then !p else p)),σ)
     |none=>none
   |_,_=>none
 | .un op x=>match op,x.ev ρ with
   | .not,.c (.bool b)=>some (.c (.bool (!b)),σ)
   | .neg,.c (.int k n)=>some (.c (.int k (k.wrap (0-n))),σ)
   |_,_=>none
 | .conv k x=>match x.ev ρ with
   | .c (.int _ n)=>some (.c (.int k (k.wrap n)),σ)
   |_=>none
 | .gA f caps=>some (.fn f (caps.map (·.ev ρ)),σ)
 | .qz x=>match x.ev ρ with
   | .c (.str l)=>some (.c (.str l),σ)
   |_=>none
 | .qA x=>match(x.ev ρ).rows with
   |some r=>match nT r with
    |some l=>some (.c (.str l),σ)
    |none=>none
   |none=>none
 | .nS x lo hi=>match x.ev ρ with
   | .c (.str l)=>match gB ρ l.length hi with
     |some h=>match jq ρ h lo with
      |some a=>some (.c (.str ((l.drop a).take (h-a))),σ)
      |none=>none
     |none=>none
   |_=>none
 | .jn size x lo hi mx=>match(x.ev ρ).sub lo mx with
   |some (b,k)=>match gB ρ k hi with
    |some h=>some (.vec b h,σ)
    |none=>none
   |none=>match(x.ev ρ).rows with
   |some r=>if∀cs∈r,cs.length=size then match gB ρ r.length hi with
    |some h=>match jq ρ h lo with
     |some a=>match mx with
      |none=>some (.c (.sl ((r.drop a).take (h-a))),σ)
      |some m=>match gB ρ r.length (some m)with
       |some m'=>if m'=h then some (.ab ((r.drop a).take (h-a)),σ)else none
       |none=>none
     |none=>none
    |none=>none else none
   |none=>none
 | .aV off x=>match x.ev ρ with
   | .ptr b o=>some (.ptr b (o+off),σ)
   | .c (.ref cs o)=>some (.c (.ref cs (o+off)),σ)
   |_=>none
 | .jo off x=>match x.ev ρ with
   | .agg vs=>match vs[off]? with
     |some u=>some (u,σ)
     |none=>none
   |_=>none
 | .sJ off n x=>match x.ev ρ with
   | .agg vs=>if off+n<=vs.length then some (.agg ((vs.drop off).take n),σ)else none
   |_=>none
 | .aI size x i=>match i.ev ρ with
   | .c (.int _ j)=>match x.ev ρ with
     | .vec b k=>if 0<=j/\j<k then some (.ptr b (j.toNat*size),σ)else none
     |u=>match u.rows with
      |some r=>if 0<=j/\j<r.length then match r[j.toNat]? with
        |some cs=>if cs.length=size then some (.c (.ref cs 0),σ)else none
        |none=>none
       else none
      |none=>none
   |_=>none
 | .index x i=>match x.ev ρ,i.ev ρ with
   | .c (.str l),.c (.int _ j)=>if 0<=j/\j<l.length then match l[j.toNat]? with
      |some b=>some (.c (.int .u8 b.toNat),σ)
      |none=>none
     else none
   |_,_=>none
 | .ext x i=>match x.ev ρ with
   | .ay vs=>match vs[i]? with
     |some u=>some (u,σ)
     |none=>none
   |_=>none
 | .lens x=>match x.ev ρ with
   | .c (.str l)=>some (.c (.int .i64 l.length),σ)
   |_=>none
 | .aR x=>match x.ev ρ with
   | .vec _ k=>some (.c (.int .i64 k),σ)
   |u=>match u.rows with
    |some r=>some (.c (.int .i64 r.length),σ)
    |none=>none
 | .app e size bytes x y=>match(y.ev ρ).rows with
   |some news=>mS e size bytes (x.ev ρ) news σ
   |none=>none
 | .lL e bytes x y=>match y.ev ρ with
   | .c (.str l)=>mS e 1 bytes (x.ev ρ) (mR l) σ
   |_=>none
 | .mx x y=>match x.ev ρ,y.ev ρ with
   | .c (.int k a),.c (.int _ b)=>some (.c (.int k (if b>a then b else a)),σ)
   |_,_=>none
 | .mn x y=>match x.ev ρ,y.ev ρ with
   | .c (.int k a),.c (.int _ b)=>some (.c (.int k (if b<a then b else a)),σ)
   |_,_=>none
 | .iu _ _=>none
 | .kJ=>some (.mp σ.length,σ++[.mp []])
 | .kK e bytes z x=>match x.ev ρ with
   | .c (.int _ n)=>if 0<=n/\bytes*n<=140737488355328/\n<=140737488355328 then some (.vec σ.length n.toNat,σ++[.vec e 1 (List.replicate n.toNat z)])else none
   |_=>none
 | .look ok q z x k=>match x.ev ρ,k.ev ρ with
   | .mp b,.c kc=>match σ[b]? with
     |some (.mp kvs)=>if q.ok kc=true/\(kvs.all fun p=>q.ok p.1)=true then some (nR ok z (iq kc kvs),σ)else none
     |_=>none
   |_,_=>none
 | .jT q x k y=>match x.ev ρ,k.ev ρ,(y.ev ρ).fX with
   | .mp b,.c kc,some vc=>match σ[b]? with
     |some (.mp kvs)=>if q.ok kc=true/\(kvs.all fun p=>q.ok p.1)=true then some (.void,σ.set b (.mp (ir kc vc kvs)))else none
     |_=>none
   |_,_,_=>none
 | .oZ x=>match x.ev ρ with
   | .mp b=>match σ[b]? with
     |some (.mp kvs)=>some (.c (.int .i64 kvs.length),σ)
     |_=>none
   |_=>none
 | .call _ _=>none
 | .bad=>none
def fJ:Value->Option V
 | .bool b=>some (.c (.bool b))
 | .int k n=>some (.c (.int k n))
 | .string s=>if s.data.toList.length<=maxLen then some (.c (.str s.data.toList))else none
 | .pointer none=>some (.c .ey)
 | .slice none 0 0=>some (.ab [])
 | .nilFunc=>some .cg
 | .nilIface=>some (.c .iO)
 | .map none=>some .cC
 |_=>none
def qC:Value->Option V
 | .agg xs=>(xs.toList.mapM fJ).map .agg
 | .func (.func f) ⟨[]⟩ ⟨[]⟩=>some (.fn f [])
 |v=>fJ v
def bH:Operand->Option aj
 | .tmp t=>some (.t t)
 | .const v=>(qC v).map .k
 | .func f=>some (.k (.fn f []))
 | .global _=>none
def gO:Option Operand->Option (Option aj)
 |none=>some none
 |some x=>match bH x with
  |some y=>some (some y)
  |none=>none
def dz(f:aj->bq)(x:Operand):Option bq:=match bH x with
 |some a=>some (f a)
 |none=>none
def ed(f:aj->aj->bq)(x y:Operand):Option bq:=match bH x,bH y with
 |some a,some b=>some (f a b)
 |_,_=>none
def bw(P:Program)(t:TypeId):Option Nat:=(P.info? t).map (·.size)
def qD(P:Program):List Field->Option (List (Nat×Nat))
 |[]=>some []
 |f::l=>match bw P f.type,qD P l with
  |some s,some r=>some ((f.offset,s)::r)
  |_,_=>none
def qE(pl:List (Nat×Nat)):List (Nat×Operand)->Option (List (Nat×Nat×aj))
 |[]=>some []
 |(i,x)::l=>match pl[i]?,bH x,qE pl l with
  |some (o,s),some y,some r=>some ((o,s,y)::r)
  |_,_,_=>none
def mT:Nat->List (Nat×Operand)->Option (List aj)
 |_,[]=>some []
 |k,(i,x)::l=>if i=k then match bH x,mT (k+1) l with
   |some y,some r=>some (y::r)
   |_,_=>none
  else none
def jr:TypeDesc->Bool
 | .struct _| .array ..=>true
 |_=>false
def lM(P:Program)(t:TypeId):Option V:=match P.info? t with
 |some i=>match i.zero with
  |some z=>qC z
  |none=>none
 |none=>none
def Fa(P:Program)(name:String)(t:TypeId):Bool:=match P.underlying t with
 |some (.struct fs)=>fs.any fun f=>f.name==name
 |_=>false
def Oj(P:Program)(t:TypeId):Bool:=Fa P "addr" t||(match P.underlying t with|some (.struct fs)=>fs.any fun f=>Fa P "addr" f.type|_=>false)
def o4(P:Program)(t:TypeId):Option TypeId:=if Oj P t then some t else none
def lN(P:Program)(b:Builtin)(args:List Operand)(ats:List TypeId):Option bq:=
 match b,args,ats with
 | .len,[x],[t]=>match P.underlying t with
   |some .string=>dz .lens x
   |some (.slice _)=>dz .aR x
   |some (.map _ _)=>dz .oZ x
   |_=>none
 | .append,[x,y],[t,t']=>if t=t' then match P.underlying t with
    |some (.slice e)=>match P.info? e with
     |some i=>match i.zero with
      |some z=>if z.cells.size=i.size/\0<i.size then ed (.app e i.size i.bytes) x y else none
      |none=>none
     |none=>none
    |_=>none
   else match P.underlying t,P.underlying t' with
    |some (.slice e),some .string=>match P.info? e with
     |some i=>match i.zero with
      |some z=>if z.cells.size=i.size/\i.size=1 then ed (.lL e i.bytes) x y else none
      |none=>none
     |none=>none
    |_,_=>none
 | .max,[x,y],_=>ed .mx x y
 | .min,[x,y],_=>ed .mn x y
 |_,_,_=>none
def _root_.Go.BinOp.plain:BinOp->Bool
 | .add| .sub| .mul| .quo| .rem| .eql| .neq| .lss| .leq| .gtr| .geq=>true
 |_=>false
def zX:Operand->Bool
 | .const (.slice none 0 0)=>true
 |_=>false
def sK(op:BinOp)(x:Operand):Option bq:=match op with
 | .eql=>dz (.iu false) x
 | .neq=>dz (.iu true) x
 |_=>none
def nU(k:Nat)(op:BinOp)(x:Operand):Option bq:=match op with
 | .eql=>dz (.lK false k) x
 | .neq=>dz (.lK true k) x
 |_=>none
def wy:TypeDesc->Option Nat
 | .bool=>some 0
 | .int _=>some 1
 | .string=>some 2
 |_=>none
def qF(P:Program):Nat->List Field->Option (List Nat)
 |_,[]=>some []
 |k,f::l=>if f.offset=k/\f.name≠ "_" then match P.underlying f.type with
   |some d=>match wy d,qF P (k+1) l with
    |some q,some r=>some (q::r)
    |_,_=>none
   |none=>none
  else none
def wz(P:Program)(t:TypeId):Option (KD×C):=match P.underlying t with
 |some (.map kt et)=>match P.underlying kt,lM P et with
  |some d,some (.c z)=>match mQ d with
   |some q=>some (q,z)
   |none=>none
  |_,_=>none
 |_=>none
def wA(P:Program)(t:TypeId):Option KD:=match P.underlying t with
 |some (.map kt _)=>match P.underlying kt with
  |some d=>mQ d
  |none=>none
 |_=>none
def jt(P:Program)(t:TypeId):Operand->Operand->Option bq
 | .tmp l,.tmp c=>if l=c then match P.underlying t with
    |some (.slice e)=>match P.info? e with
     |some i=>match i.zero with
      |some z=>match fJ z with
       |some (.c zc)=>if i.size=1/\z.cells.size=1 then some (.kK e i.bytes zc (.t l))else none
       |_=>none
      |none=>none
     |none=>none
    |_=>none
   else none
 |_,_=>none
theorem zY{P:Program}{t:TypeId}{l c:Operand}{i:bq}(h:jt P t l c=some i):∃e b z x,i= .kK e b z x:=by
 unfold jt at h
 repeat' split at h
 all_goals first
  |(cases h;done)
  |(injection h with h;exact⟨_,_,_,_,h.symm⟩)
def bf(P:Program)(o:Op):Option bq:=
 match o with
 | .move x=>dz .af x
 | .assign x=>dz .af x
 | .pick c a b=>match bH c,bH a,bH b with
   |some c,some a,some b=>some (.pick c a b)
   |_,_,_=>none
 | .alloc t=>match lM P t with
   |some z=>some (.box (.k z) (o4 P t))
   |none=>none
 | .box t x=>dz (fun y=>.box y (o4 P t)) x
 | .build t parts=>match P.underlying t,lM P t with
   |some (.struct fields),some z=>match qD P fields.toList with
    |some pl=>match qE pl parts.toList with
     |some ps=>if leaves z.ai=true then some (.build z.ai ps)else none
     |none=>none
    |none=>none
   |_,_=>none
 | .buildSlice t n parts=>match P.underlying t with
   |some (.slice e)=>match P.info? e with
    |some i=>match i.zero,mT 0 parts.toList with
     |some z,some ps=>if z.cells.size=i.size/\ps.length=n/\0<i.size/\n*i.size<=16777216 then some (.bo i.size ps)else none
     |_,_=>none
    |none=>none
   |_=>none
 | .load t x=>match P.underlying t,P.info? t with
   |some d,some i=>if jr d then dz (.eK i.size) x else dz .aU x
   |_,_=>none
 | .store t x y=>match P.info? t with
   |some i=>ed (.store i.size) x y
   |none=>none
 | .nilCheck x=>dz .gN x
 | .binOp op t x y _=>match P.underlying t with
   |some (.int _)=>if op.plain then ed (.bin op) x y else none
   |some .string=>if op.plain then ed (.bin op) x y else none
   |some .bool=>match op with
    | .eql=>ed (.oY false) x y
    | .neq=>ed (.oY true) x y
    |_=>none
   |some (.pointer _)=>match y with
    | .const (.pointer none)=>nU 0 op x
    |_=>none
   |some (.interface _)=>match y with
    | .const .nilIface=>nU 1 op x
    |_=>none
   |some (.func ..)=>match y with
    | .const .nilFunc=>nU 2 op x
    |_=>none
   |some (.slice _)=>if zX y then sK op x else none
   |some (.struct fields)=>match qF P 0 fields.toList with
    |some ks=>if P.stoodInHeld t||P.eqGuardType P.depth t then none else match op with
     | .eql=>ed (.eqs false ks) x y
     | .neq=>ed (.eqs true ks) x y
     |_=>none
    |none=>none
   |_=>none
 | .unOp op _ x=>dz (.un op) x
 | .convert s t x=>match P.underlying s,P.underlying t with
   |some (.int _),some (.int k)=>dz (.conv k) x
   |some .string,some .string=>dz .qz x
   |some (.slice e),some .string=>match P.underlying e with
    |some (.int .u8)=>dz .qA x
    |_=>none
   |_,_=>none
 | .makeFunc (.func f) ⟨[]⟩ caps=>match caps.toList.mapM bH with
   |some cs=>some (.gA f cs)
   |none=>none
 | .slice t x lo hi mx=>match P.underlying t with
   |some .string=>match mx,bH x,gO lo,gO hi with
    |none,some x,some lo,some hi=>some (.nS x lo hi)
    |_,_,_,_=>none
   |some (.slice e)=>match P.info? e,bH x,gO lo,gO hi,gO mx with
    |some i,some x,some lo,some hi,some mx=>if mx.isSome&&hi.isNone then none else some (.jn i.size x lo hi mx)
    |_,_,_,_,_=>none
   |_=>none
 | .fieldAddr s x f=>match P.underlying s with
   |some (.struct fields)=>match fields[f]? with
    |some fl=>match bw P fl.type with
     |some k=>if k=0 then none else dz (.aV fl.offset) x
     |none=>none
    |none=>none
   |_=>none
 | .field s x f=>match P.underlying s with
   |some (.struct fields)=>match fields[f]? with
    |some fl=>match P.underlying fl.type,bw P fl.type with
     |some d,some k=>if jr d then dz (.sJ fl.offset k) x else dz (.jo fl.offset) x
     |_,_=>none
    |none=>none
   |_=>none
 | .indexAddr t x i=>match P.underlying t with
   |some (.slice e)=>match bw P e with
    |some k=>ed (.aI k) x i
    |none=>none
   |_=>none
 | .index t x i=>match P.underlying t with
   |some .string=>ed .index x i
   |_=>none
 | .extract x i=>dz (fun a=>.ext a i) x
 | .makeMap _ r=>if r.isNone then some .kJ else none
 | .makeSlice t l c=>jt P t l c
 | .lookup t x k ok=>match wz P t with
   |some (q,z)=>ed (.look ok q z) x k
   |none=>none
 | .mapUpdate t x k y=>match wA P t,bH x,bH k,bH y with
   |some q,some x,some k,some y=>some (.jT q x k y)
   |_,_,_,_=>none
 | .call c=>match c.callee with
   | .builtin b=>lN P b c.args.toList c.argTypes.toList
   | .value f=>match bH f,c.args.toList.mapM bH with
     |some f,some as=>some (.call f as)
     |_,_=>none
   |_=>none
 |_=>none
section
variable {P:Program} {w0 w:World} {κ:K} {σ σ':H} {a:Act} {ρ:Env}
theorem zZ{v:Value}{x:V}(h:fJ v=some x):RV κ x v:=by
 cases v with
 |bool b=>simp only[fJ]at h;injection h with h;subst h;exact .c (.bool _)
 |int k n=>simp only[fJ]at h;injection h with h;subst h;exact .c (.int _ _)
 |string s=>
  simp only[fJ]at h;split at h
  ·rename_i hl;injection h with h;subst h;have:=RC.str (m:=κ.m) s.data.toList hl;exact .c this
  ·cases h
 |pointer p=>
  cases p with
  |none=>simp only[fJ]at h;injection h with h;subst h;exact .c .ey
  |some a=>simp only[fJ]at h;cases h
 |slice p n c=>
  unfold fJ at h;split at h
  all_goals first
   |(cases h;done)
   |skip
  all_goals first
   |(rename_i hh;cases hh;done)
   |skip
  rename_i hh;injection hh with h1 h2 h3;subst h1 h2 h3;injection h with h;subst h;exact .ab (A:=none) (RC.nil _)
 |nilFunc=>simp only[fJ]at h;injection h with h;subst h;exact .cg
 |nilIface=>simp only[fJ]at h;injection h with h;subst h;exact .c .iO
 |map r=>
  cases r with
  |none=>simp only[fJ]at h;injection h with h;subst h;exact .cC
  |some r=>simp only[fJ]at h;cases h
 |_=>simp only[fJ]at h;cases h
theorem mapM_some{α β:Type}{f:α->Option β}:∀{l:List α} {r:List β},l.mapM f=some r->r.length=l.length/\∀j (hj:j<l.length) (hj':j<r.length),f l[j]=some r[j]
 |[],r,h=>by
  simp at h;subst h;exact⟨rfl,fun j hj=>by simp at hj⟩
 |x::l,r,h=>by
  simp only[List.mapM_cons]at h;cases hx:f x with
  |none=>rw[hx]at h;cases h
  |some y=>
   rw[hx]at h;cases hl:l.mapM f with
   |none=>rw[hl]at h;cases h
   |some ys=>
    rw[hl]at h;have h:y::ys=r:=by simpa using h
    subst h;obtain⟨h1,h2⟩:=mapM_some hl;refine⟨by simp[h1],fun j hj hj'=>?_⟩;cases j with
    |zero=>exact hx
    |succ j=>exact h2 j (by simpa using hj) (by simpa using hj')
theorem gP{xs:List Value}{j:Nat}(h:j<xs.length):xs.getD j undef=xs[j]:=by simp[lA,h]
theorem wB{v:Value}{x:V}(h:qC v=some x):RV κ x v:=by
 unfold qC at h;split at h
 ·rename_i xs;cases hm:xs.toList.mapM fJ with
  |none=>rw[hm]at h;cases h
  |some vs=>
   rw[hm]at h;injection h with h;subst h;obtain⟨h1,h2⟩:=mapM_some hm;have:=RV.agg (κ:=κ) (vs:=vs) (xs:=xs.toList) h1.symm fun j hj=>by
    have hj':j<xs.toList.length:=by omega
    rw[gP hj'];exact zZ (κ:=κ) (h2 j hj' hj)
   simpa using this
 ·injection h with h;subst h;exact .fn (caps:=[]) (vs:=[]) rfl (fun j hj=>by simp at hj)
 ·exact zZ h
def b8(κ:K)(ρ:Env)(a:Act):Prop:=∀k,RV κ (ρ k) (a.tmps.getD k undef)
theorem b8.mono{κ':K}(h:κ.le κ')(he:b8 κ ρ a):b8 κ' ρ a:=fun k=>(he k).mono h
theorem bO(he:b8 κ ρ a){x:Operand}{y:aj}(h:bH x=some y):RV κ (y.ev ρ) (a.eval x):=by
 cases x with
 |tmp t=>simp only[bH]at h;injection h with h;subst h;exact he t
 |const v=>
  simp only[bH]at h;cases hv:qC v with
  |none=>rw[hv]at h;cases h
  |some u=>rw[hv]at h;injection h with h;subst h;exact wB hv
 |global g=>cases h
 |func f=>
  simp only[bH]at h;injection h with h;subst h;exact .fn (caps:=[]) (vs:=[]) rfl (fun j hj=>by simp at hj)
def bg(w0:World)(κ:K)(σ:H)(v:V)(r:Result Next):Prop:=
 ∃κ' v' w',(r= .ok (.value v') w'\/(r= .ok .skip w'/\v'=undef))/\κ.le κ'/\aC w0 κ' σ w'/\RV κ' v v'
theorem bg.still{v:V}{v':Value}{r:Result Next}(hr:r= .ok (.value v') w)(hrep:aC w0 κ σ w)(hv:RV κ v v'):bg w0 κ σ v r:=
 ⟨κ,v',w,.inl hr,K.le_refl κ,hrep,hv⟩
theorem add_lit(b o n:Nat):(⟨b,o,none⟩:Addr).add n=⟨b,o+n,none⟩:=by unfold Addr.add;split<;>simp_all
theorem z6{x:V}{v:Value}{cs:List V}{o:Nat}(hrep:aC w0 κ σ w)(h:iQ σ x=some (cs,o))(hv:RV κ x v):
  ∃b p,v= .pointer (some ⟨b,p+o,none⟩)/\∀j (hj:j<cs.length),∃u,w.cell? ⟨b,p+j,none⟩=some u/\RV κ cs[j] u:=by
 cases hv with
 |ptr h0 h1=>
  rename_i bb oo;simp only[iQ]at h;cases hb:σ[bb]? with
  |none=>rw[hb]at h;cases h
  |some cD=>
   rw[hb]at h;cases cD with
   |cells cs' tg=>
    injection h with h;injection h with h2 h3;subst h2 h3;obtain⟨hlt,hb'⟩:=aL.1 hb;have:=hrep.cD bb hlt;rw[hb']at this;obtain⟨vs,t,k1,k2,k3⟩:=this.row;refine⟨κ.pos bb,0,by simp,fun j hj=>⟨vs.getD j undef,?_,(k3 j hj).2⟩⟩;have hj':j<vs.size:=by omega
    simp[World.cell?,k1,hj']
   |vec e size cs'=>
    injection h with h;injection h with h2 h3;subst h2 h3;obtain⟨hlt,hb'⟩:=aL.1 hb;have:=hrep.cD bb hlt;rw[hb']at this;obtain⟨vs,n,cap,k1,k2,k3,k4,k5,k6,k7⟩:=this.row;refine⟨κ.pos bb,0,by simp,fun j hj=>?_⟩;have hj2:j<cs'.length:=by simpa using hj
    have hj':j<vs.size:=this.lt hj2 k2;refine⟨vs.getD j undef,by simp[World.cell?,k2,hj'],?_⟩;rw[dN];exact .c (k7 j hj2)
   |spare|mp|gone=>cases h
 |c hc=>
  cases hc with
  |ref cs' oo b p xs h3 h4 h5=>
   injection h with h;injection h with k2 k3;subst k2 k3;refine⟨b,p,rfl,fun j hj=>⟨xs.getD j undef,?_,?_⟩⟩
   ·have hj':j<xs.length:=by simpa[h3]using hj
    have:=h4 j hj';rw[aO hj']at this;have:=hrep.mem _ _ _ this;simpa[lA,hj']using this
   ·have hj':j<cs'.length:=by simpa using hj
    have:=h5 j hj';simpa using RV.c this
  |_=>cases h
 |_=>cases h
theorem nV{t:TypeId}{d:TypeDesc}(h:P.underlying t=some d):(isAgg t).run P w= .ok (jr d) w:=by
 simp only[isAgg,jh,cp h];cases d<;>rfl
theorem run_sizeOf{t:TypeId}{i:TypeInfo}(h:P.info? t=some i):(sizeOf t).run P w= .ok i.size w:=by
 simp[sizeOf,typeInfo,h]
theorem Fb{t:TypeId}{d:TypeDesc}{x:V}{v:Value}{cs:List V}{o:Nat}{u:V}(hrep:aC w0 κ σ w)(hd:P.underlying t=some d)(hg:jr d=false)
  (h:iQ σ x=some (cs,o)) (hv:RV κ x v) (hu:cs[o]?=some u):∃v',(vW t v).run P w= .ok v' w/\RV κ u v':=by
 obtain⟨b,p,rfl,hc⟩:=z6 hrep h hv;obtain⟨ho,hu'⟩:=aL.1 hu;obtain⟨v',h1,h2⟩:=hc o ho;refine⟨v',?_,hu'▸h2⟩;simp[vW,ss,loadVar,nV hd,hg,h1]
theorem Fc{t:TypeId}{d:TypeDesc}{i:TypeInfo}{x:V}{v:Value}{cs:List V}{o:Nat}(hrep:aC w0 κ σ w)(hd:P.underlying t=some d)(hg:jr d=true)
  (hi:P.info? t=some i) (h:iQ σ x=some (cs,o)) (hv:RV κ x v) (hle:o+i.size<=cs.length):
  ∃v',(vW t v).run P w= .ok v' w/\RV κ (.agg ((cs.drop o).take i.size)) v':=by
 obtain⟨b,p,rfl,hc⟩:=z6 hrep h hv;have hf:∀j,j<i.size->∃u,w.cell? ⟨b,p+o+j,none⟩=some u/\∀hj:o+j<cs.length,RV κ cs[o+j] u:=fun j hj=>by
  obtain⟨u,h1,h2⟩:=hc (o+j) (by omega);exact⟨u,by rw[<-h1,ji],fun _=>h2⟩
 have hex:∃f:Nat->Value,∀j,j<i.size->w.cell? ⟨b,p+o+j,none⟩=some (f j)/\∀hj:o+j<cs.length,RV κ cs[o+j] (f j):=
  ⟨fun j=>if hj:j<i.size then(hf j hj).choose else undef,fun j hj=>by simp only[hj];exact(hf j hj).choose_spec⟩
 obtain⟨f,hf⟩:=hex;refine⟨.agg ((List.range i.size).map f).toArray,?_,?_⟩
 ·have:=run_loadCells (P:=P) w ⟨b,p+o,none⟩ i.size f (fun j hj=>by rw[add_lit];exact(hf j hj).1);simp only[vW,ss,jh,jO,jP,loadVar,nV hd,hg,if_true,run_sizeOf hi,this]
 ·refine .agg (by simp;omega) fun j hj=>?_;have hj1:j<i.size:=by simp at hj;omega
  have:=(hf j hj1).2 (by omega);simpa[lA,hj1]using this
end
section
variable {P:Program} {w0 w w':World} {κ:K} {σ σ':H} {a:Act} {ρ:Env}
theorem aC.gQ(h:aC w0 κ σ w){b g:Nat}(hb:b<σ.length)(hl:(σ[b]).be κ b=some g):w0.heap.size<=g/\g<w.heap.size:=by
 have:=h.cD b hb;cases hσ:σ[b]with
 |cells cs=>
  rw[hσ]at this hl;simp only[ad.be]at hl;injection hl with hl;obtain⟨vs,t,h1,_⟩:=this.row;rw[<-hl];exact⟨this.own,(dS.1 h1).1⟩
 |spare e size n=>
  rw[hσ]at this hl;simp only[ad.be]at hl;rcases this.row with⟨_,A,h0⟩|⟨xs,ho⟩
  ·rw[h0]at hl;cases A<;>cases hl
  ·exact ho.lt g (wu hl)
 |mp kvs=>
  rw[hσ]at this hl;simp only[ad.be]at hl;injection hl with hl;obtain⟨es,clock,h1,_⟩:=this.row;rw[<-hl];exact⟨this.own,(dS.1 h1).1⟩
 |vec e size cs=>
  rw[hσ]at this hl;simp only[ad.be]at hl;injection hl with hl;obtain⟨vs,n,cap,_,h1,_⟩:=this.row;rw[<-hl];exact⟨this.own,(dS.1 h1).1⟩
 |gone=>rw[hσ]at hl;cases hl
theorem aC.mU(h:aC w0 κ σ w){b o:Nat}{v:Value}(hm:κ.m b o=some v):b<w.heap.size:=
 World.block_lt_of_cell? w ⟨b,o,none⟩ (h.mem b o v hm)
theorem aC.fresh(h:aC w0 κ σ w){b:Nat}(hb:w.heap.size<=b)(o:Nat):κ.m b o=none:=by
 cases hm:κ.m b o with
 |none=>rfl
 |some v=>have:=h.mU hm;omega
theorem ad.qG{κ:K}{b:Nat}{x:ad}(h:x.is w0 κ w b)(hk:∀g,x.be κ b=some g->w'.heap[g]?=w.heap[g]?):x.is w0 κ w' b:=by
 cases x with
 |cells cs=>
  obtain⟨vs,t,h1,h2,h3⟩:=h.row;exact⟨h.fr,⟨vs,t,(hk _ rfl).trans h1,h2,h3⟩,h.own,h.free,fun T hT=>let ⟨us,hu⟩:=h.ty T hT;⟨us,(hk _ rfl).trans hu⟩⟩
 |spare e size n=>
  refine⟨h.fr,h.sz,?_,h.free⟩;rcases h.row with h0|⟨xs,ho⟩
  ·exact .inl h0
  ·rcases ho.2 with hz|⟨g,cap,cur,hv,hg,hh,rest⟩
   ·exact .inr ⟨xs,ho.1,.inl hz⟩
   ·cases cap with
    |zero=>exact .inl ⟨Nat.le_zero.1 rest.1,some ⟨g,0,none⟩,by rw[hv,Nat.le_zero.1 rest.1]⟩
    |succ c=>
     refine .inr ⟨xs,ho.1,.inr ⟨g,c+1,cur,hv,hg,(hk g ?_).trans hh,rest⟩⟩;simp only[ad.be];rw[hv];rfl
 |mp kvs=>
  obtain⟨es,clock,h1,h2⟩:=h.row;exact⟨h.fr,⟨es,clock,(hk _ rfl).trans h1,h2⟩,h.own,h.free⟩
 |vec e size cs=>
  obtain⟨vs,n,cap,h0,h1,h2⟩:=h.row;exact⟨h.fr,⟨vs,n,cap,h0,(hk _ rfl).trans h1,h2⟩,h.own,h.free⟩
 |gone=>trivial
theorem aC.grow(h:aC w0 κ σ w)(hb:Below w.heap.size w w'):aC w0 κ σ w':=
 ⟨h.n,h.ext.trans (hb.mono h.ext.size),fun b o v hm=>(hb.cell (p:=⟨b,o,none⟩) (h.mU hm)).trans (h.mem b o v hm),
   fun b hb'=>ad.qG (h.cD b hb') fun g hg=>hb.block g (h.gQ hb' hg).2,h.apart,fun l o hr=>⟨(hb.block l (dS.1 (h.rest l o hr).1).1).trans (h.rest l o hr).1,(h.rest l o hr).2⟩,bE h.dw hb.size⟩
theorem aC.drawn(h:aC w0 κ σ w)(n:Nat):aC w0 κ σ {w with drawn:=n}:=h.grow ⟨rfl,rfl,rfl,aA _,fun _ _=>rfl⟩
theorem aC.alloc(h:aC w0 κ σ w)(o:Obj):aC w0 κ σ (w.alloc o):=h.grow (Below.alloc (Below.refl _ _) (aA _) o)
theorem RV.same{κ':K}(hm:κ.m.le κ'.m)(hn:κ.n<=κ'.n)(hp:∀b,b<κ.n->κ'.pos b=κ.pos b)(hf:∀b,b<κ.n->κ'.fr b=κ.fr b)(hs:∀b,b<κ.n->κ'.sv b=κ.sv b)(hz:∀b,b<κ.n->κ'.sz b=κ.sz b)(hr:κ'.rest=κ.rest:=by rfl)(hlm:κ'.dw=κ.dw:=by rfl):κ.le κ':=
 ⟨hm,hn,fun b hb hf'=>⟨(hf b hb).trans hf',hp b hb⟩,fun b f hb hf'=>⟨f,(hf b hb).trans hf',aA _,fun _=>hs b hb,hz b hb⟩,fun b hb _=>hs b hb,hr,hlm⟩
def K.froze(κ:K)(g:Nat)(xs:List Value):K:={κ with m:=fun b o=>if b=g then xs[o]? else κ.m b o}
theorem K.z7{g:Nat}{xs:List Value}(hg:∀o,κ.m g o=none):κ.le (κ.froze g xs):=
 RV.same (fun b o v h=>by
  unfold K.froze;by_cases hb:b=g
  ·subst hb;rw[hg]at h;cases h
  ·simpa[hb]using h) (aA _) (fun _ _=>rfl) (fun _ _=>rfl) (fun _ _=>rfl) (fun _ _=>rfl)
theorem aC.froze(h:aC w0 κ σ w){g:Nat}{xs:List Value}(hg:∀o,κ.m g o=none)(hx:∀o v,xs[o]?=some v->w.cell? ⟨g,o,none⟩=some v)
  (hl:∀b (hb:b<σ.length),(σ[b]).be κ b≠some g):aC w0 (κ.froze g xs) σ w:=by
 have hle:κ.le (κ.froze g xs):=K.z7 hg;refine⟨h.n,h.ext,fun b o v hm=>?_,fun b hb=>?_,fun a b ha hb=>h.apart a b ha hb,fun l o hr=>h.rest l o hr,h.dw⟩
 ·unfold K.froze at hm;by_cases hbg:b=g
  ·subst hbg;simp only[if_true]at hm;exact hx o v hm
  ·simp only[hbg,if_false]at hm;exact h.mem b o v hm
 ·have:=h.cD b hb;have hne:=hl b hb;cases hσ:σ[b]with
  |cells cs=>
   rw[hσ]at this hne;obtain⟨vs,t,h1,h2,h3⟩:=this.row;refine⟨this.fr,⟨vs,t,h1,h2,fun j hj=>⟨(h3 j hj).1,(h3 j hj).2.mono hle⟩⟩,this.own,fun o=>?_,this.ty⟩;have:κ.pos b≠g:=fun e=>hne (by simp[ad.be,e]);show(if κ.pos b=g then _ else _)=none;rw[if_neg this];exact ad.df.free ‹_› o
  |spare e size n=>
   rw[hσ]at this hne;refine⟨this.fr,this.sz,this.row,fun g' hg' o ho=>?_⟩;have hgg:g'≠g:=fun e=>hne (by simp only[ad.be];exact(show heldBy (κ.sv b)=some g' from hg').trans (by rw[e]));show(if g'=g then _ else _)=none;rw[if_neg hgg];exact this.free g' hg' o ho
  |mp kvs=>
   rw[hσ]at this hne;have hpne:κ.pos b≠g:=fun e=>hne (by simp[ad.be,e]);exact ad.mapped.le this hle.m this.fr rfl (fun o=>by
    show(if κ.pos b=g then _ else _)=none;rw[if_neg hpne];exact this.free o)
  |vec e size cs=>
   rw[hσ]at this hne;have hpne:κ.pos b≠g:=fun e=>hne (by simp[ad.be,e]);exact ad.lJ.le this hle.m this.fr rfl rfl (fun o=>by
    show(if κ.pos b=g then _ else _)=none;rw[if_neg hpne];exact this.free o)
  |gone=>trivial
def K.more(κ:K)(g:Nat):K:={κ with n:=κ.n+1,pos:=fun b=>if b=κ.n then g else κ.pos b,fr:=fun b=>if b=κ.n then none else κ.fr b}
theorem K.sL{g:Nat}:κ.le (κ.more g):=
 RV.same (Mem.le_refl _) (mE _) (fun b hb=>by show(if b=κ.n then _ else _)=_;rw[if_neg (by omega)]) (fun b hb=>by show(if b=κ.n then _ else _)=_;rw[if_neg (by omega)]) (fun _ _=>rfl) (fun _ _=>rfl)
theorem ad.is_le{κ':K}{b:Nat}{x:ad}(hm:κ'.m=κ.m)(hle:κ.le κ')(hp:κ'.pos b=κ.pos b)(hf:κ'.fr b=κ.fr b)(hs:κ'.sv b=κ.sv b)(hz:κ'.sz b=κ.sz b)(h:x.is w0 κ w b):x.is w0 κ' w b:=by
 cases x with
 |cells cs=>
  obtain⟨vs,t,h1,h2,h3⟩:=h.row;exact⟨hf.trans h.fr,⟨vs,t,by rw[hp];exact h1,h2,fun j hj=>⟨(h3 j hj).1,(h3 j hj).2.mono hle⟩⟩,by rw[hp];exact h.own,by rw[hp,hm];exact h.free,by rw[hp];exact h.ty⟩
 |spare e size n=>exact⟨hf.trans h.fr,hz.trans h.sz,by rw[hs];exact h.row,by rw[hs,hm];exact h.free⟩
 |mp kvs=>exact ad.mapped.le h (by rw[hm];exact Mem.le_refl _) (hf.trans h.fr) hp (by rw[hm];exact h.free)
 |vec e size cs=>exact ad.lJ.le h (by rw[hm];exact Mem.le_refl _) (hf.trans h.fr) hp hs (by rw[hm];exact h.free)
 |gone=>trivial
theorem ad.jU{κ':K}{b:Nat}{x:ad}(hp:κ'.pos b=κ.pos b)(hs:κ'.sv b=κ.sv b):x.be κ' b=x.be κ b:=by
 cases x<;>simp[ad.be,hp,hs]
theorem aC.Fe(h:aC w0 κ σ w){b g:Nat}(hb:b<σ.length)(hl:(σ[b]).be κ b=some g):κ.rest g=none:=by
 cases hr:κ.rest g with
 |none=>rfl
 |some o=>exact absurd hl ((h.rest g o hr).2.2 b hb)
theorem aC.Ff(h:aC w0 κ σ w){g:Nat}(hg:w.heap.size<=g):κ.rest g=none:=by
 cases hr:κ.rest g with
 |none=>rfl
 |some o=>have:=(dS.1 (h.rest g o hr).1).1;omega
theorem sM{κ':K}{X:ad}{l:Nat}(hlies:∀b (hb:b<σ.length),(σ[b]).be κ' b=(σ[b]).be κ b)(h:∀b (hb:b<σ.length),(σ[b]).be κ b≠some l)(hX:X.be κ' σ.length≠some l):
  ∀b (hb:b<(σ++[X]).length),((σ++[X])[b]).be κ' b≠some l:=fun b hb=>by
 rcases dT b σ.length with hb'|hb'
 ·rw[cL hb',hlies b hb'];exact h b hb'
 ·have hbe:b=σ.length:=by simp at hb;omega
  subst hbe;rw[dU (aA _)];simp only[cq,dC];exact hX
theorem sN{κ':K}{X:ad}{l c:Nat}(hlies:∀b (hb:b<σ.length),b≠c->(σ[b]).be κ' b=(σ[b]).be κ b)(h:∀b (hb:b<σ.length),(σ[b]).be κ b≠some l)(hX:X.be κ' c≠some l):
  ∀b (hb:b<(σ.set c X).length),((σ.set c X)[b]).be κ' b≠some l:=fun b hb=>by
 have hb':b<σ.length:=by simpa using hb
 by_cases hbc:b=c
 ·subst hbc;rw[gv];exact hX
 ·rw[fE (dn hbc),hlies b hb' hbc];exact h b hb'
theorem aC.box(h:aC w0 κ σ w){cs:List V}{vs:List Value}(t:TypeId){tg:Option TypeId}(htg:∀T,tg=some T->T=t)(hl:leaves cs=true)(hlen:vs.length=cs.length)(hv:∀j (hj:j<cs.length),RV κ cs[j] (vs.getD j undef)):
  aC w0 (κ.more w.heap.size) (σ++[.cells cs tg]) (w.alloc (.cells vs.toArray t))/\RV (κ.more w.heap.size) (.ptr σ.length 0) (.pointer (some ⟨w.heap.size,0,none⟩)):=by
 have hle:κ.le (κ.more w.heap.size):=K.sL;have hA:=h.alloc (.cells vs.toArray t);have hpos:∀b,b<σ.length->(κ.more w.heap.size).pos b=κ.pos b:=fun b hb=>by show(if b=κ.n then _ else _)=_;rw[if_neg (by rw[h.n];omega)]
 have hfr:∀b,b<σ.length->(κ.more w.heap.size).fr b=κ.fr b:=fun b hb=>by show(if b=κ.n then _ else _)=_;rw[if_neg (by rw[h.n];omega)]
 have hposn:(κ.more w.heap.size).pos σ.length=w.heap.size:=by show(if σ.length=κ.n then _ else _)=_;rw[if_pos h.n.symm]
 have hfrn:(κ.more w.heap.size).fr σ.length=none:=by show(if σ.length=κ.n then _ else _)=_;rw[if_pos h.n.symm]
 have hlies:∀b (hb:b<σ.length),(σ[b]).be (κ.more w.heap.size) b=(σ[b]).be κ b:=fun b hb=>ad.jU (hpos b hb) rfl;refine⟨⟨by show κ.n+1=_;rw[h.n];simp,hA.ext,hA.mem,fun b hb=>?_,fun x y hx hy g hne=>?_,fun l o hr=>⟨(hA.rest l o hr).1,(hA.rest l o hr).2.1,sM hlies (h.rest l o hr).2.2 (by simp only[ad.be,hposn];intro e;injection e with e;have:=(dS.1 (h.rest l o hr).1).1;omega)⟩,hA.dw⟩,?_⟩
 ·rcases dT b σ.length with hb'|hb'
  ·rw[cL hb'];exact ad.is_le (κ:=κ) rfl hle (hpos b hb') (hfr b hb') rfl rfl (hA.cD b hb')
  ·have hbe:b=σ.length:=by simp at hb;omega
   subst hbe;rw[dU (aA _)];simp only[cq,dC];refine⟨hfrn,⟨vs.toArray,t,by rw[hposn];exact kE w _,by simpa using hlen,fun j hj=>⟨by unfold leaves at hl;rw[cU]at hl;exact hl _ (bt hj),?_⟩⟩,by rw[hposn];exact h.ext.size,fun o=>by rw[hposn];exact h.fresh (aA _) o,fun T hT=>⟨vs.toArray,by rw[hposn,htg T hT];exact kE w _⟩⟩;have:=(hv j hj).mono hle;simpa[lA,mF,hlen,hj]using this
 ·rcases dT x σ.length with hx'|hx'<;>rcases dT y σ.length with hy'|hy'
  ·rw[cL hx',cL hy',hlies x hx',hlies y hy'];exact h.apart x y hx' hy' g hne
  ·have hye:y=σ.length:=by simp at hy;omega
   subst hye;rw[cL hx',hlies x hx',dU (aA _)];simp only[cq,dC,ad.be,hposn];intro h1 h2;have:=(h.gQ hx' h1).2;injection h2;omega
  ·have hxe:x=σ.length:=by simp at hx;omega
   subst hxe;rw[cL hy',hlies y hy',dU (aA _)];simp only[cq,dC,ad.be,hposn];intro h1 h2;have:=(h.gQ hy' h2).2;injection h1;omega
  ·simp at hx hy;omega
 ·have:=RV.ptr (κ:=κ.more w.heap.size) (b:=σ.length) (o:=0) (by show _<κ.n+1;rw[h.n];omega) hfrn;rwa [hposn]at this
theorem aC.wrote(h:aC w0 κ σ w){b:Nat}{cs cs':List V}{vs:List Value}{tg:Option TypeId}(hb:σ[b]?=some (.cells cs tg))(hl:leaves cs'=true)(hlen:vs.length=cs'.length)
  (hv:∀j (hj:j<cs'.length),RV κ cs'[j] (vs.getD j undef)):aC w0 κ (σ.set b (.cells cs' tg)) (w.setRow (κ.pos b) vs.toArray):=by
 obtain⟨hlt,hb'⟩:=aL.1 hb;have hblk:=h.cD b hlt;rw[hb']at hblk;obtain⟨us,t,k1,k2,k3⟩:=hblk.row;have hother:∀g,g≠κ.pos b->(w.setRow (κ.pos b) vs.toArray).heap[g]?=w.heap[g]?:=fun g hg=>setRow_other w (κ.pos b) g _ hg;have hself:=setRow_heap w (κ.pos b) us vs.toArray t (0,0) k1;refine⟨by simpa using h.n,?_,fun x o v hm=>?_,fun x hx=>?_,fun x y hx hy g hne=>?_,fun l o hr=>?_,by simpa[zy]using h.dw⟩
 rotate_right
 ·obtain⟨a1,a2,a3⟩:=h.rest l o hr;have hb1:=a3 b hlt;rw[hb']at hb1;exact⟨(hother l (fun e=>hb1 (by rw[e];rfl))).trans a1,a2,sN (fun _ _ _=>rfl) a3 hb1⟩
 ·exact h.ext.trans ⟨rfl,rfl,rfl,by simp[zy],fun k hk=>hother k (by have:=hblk.own;omega)⟩
 ·have hne:x≠κ.pos b:=fun e=>by rw[e,hblk.free]at hm;cases hm
  rw[vX (w:=w) (a:=⟨x,o,none⟩) (hother x hne)];exact h.mem x o v hm
 ·by_cases hxb:x=b
  ·subst hxb;rw[gv];refine⟨hblk.fr,⟨vs.toArray,t,hself,by simpa using hlen,fun j hj=>⟨by unfold leaves at hl;rw[cU]at hl;exact hl _ (bt hj),?_⟩⟩,hblk.own,hblk.free,fun T hT=>by
    obtain⟨us',hu⟩:=hblk.ty T hT;rw[k1]at hu;injection hu with hu;injection hu with _ hu;subst hu;exact⟨_,hself⟩⟩
   simpa[lA,mF,hlen,hj]using hv j hj
  ·have hx':x<σ.length:=by simpa using hx
   rw[fE (dn hxb)];refine ad.qG (h.cD x hx') fun g hg=>hother g fun e=>?_;subst e;exact h.apart x b hx' hlt _ hxb hg (by rw[hb'];rfl)
 ·have hx':x<σ.length:=by simpa using hx
  have hy':y<σ.length:=by simpa using hy
  have lies_set:∀z (hz:z<σ.length) (hz':z<(σ.set b (.cells cs' tg)).length),((σ.set b (.cells cs' tg))[z]).be κ z=(σ[z]).be κ z:=fun z hz hz'=>by
   by_cases hzb:z=b
   ·subst hzb;rw[gv,hb'];rfl
   ·rw[fE (dn hzb)]
  rw[lies_set x hx',lies_set y hy'];exact h.apart x y hx' hy' g hne
end
section
variable {P:Program} {w0 w w':World} {κ:K} {σ σ':H} {a:Act} {ρ:Env}
theorem Fg:∀{l:List V} {r:List C},fv l=some r->r.length=l.length
 |[],r,h=>by simp only[fv]at h;injection h with h;subst h;rfl
 |x::l,r,h=>by
  simp only[fv]at h;split at h
  ·rename_i a0 r0 _ h2;injection h with h;subst h;simp[Fg h2]
  ·cases h
theorem Fh:∀{l:List V} {r:List C} {xs:List Value},fv l=some r->xs.length=l.length->(∀j (hj:j<l.length),RV κ l[j] (xs.getD j undef))->∀j (hj:j<r.length),RC κ.m r[j] (xs.getD j undef)
 |[],r,xs,h,_,_,j,hj=>by simp only[fv]at h;injection h with h;subst h;simp at hj
 |x::l,r,xs,h,hl,hv,j,hj=>by
  simp only[fv]at h;split at h
  ·rename_i a0 r0 h1 h2;injection h with h;subst h;cases xs with
   |nil=>simp at hl
   |cons u us=>
    cases j with
    |zero=>exact(hv 0 (by simp)).fX h1
    |succ j=>exact Fh h2 (by simpa using hl) (fun i hi=>hv (i+1) (by simpa using hi)) j (by simpa using hj)
  ·cases h
theorem Fi:∀{l:List V} {r:List C},fv l=some r->∀x∈l,x.leaf=true
 |[],r,h,x,hx=>by cases hx
 |y::l,r,h,x,hx=>by
  simp only[fv]at h;split at h
  ·rename_i a0 r0 h1 h2;rcases List.mem_cons.1 hx with rfl|hx
   ·cases x<;>first|rfl|(cases h1;done)
   ·exact Fi h2 x hx
  ·cases h
theorem aC.Fj(h:aC w0 κ σ w)(b:Nat):aC w0 κ (σ.set b .gone) w:=by
 refine⟨by simpa using h.n,h.ext,h.mem,fun x hx=>?_,fun x y hx hy g hne=>?_,fun l o hr=>⟨(h.rest l o hr).1,(h.rest l o hr).2.1,sN (fun _ _ _=>rfl) (h.rest l o hr).2.2 (fun e=>by cases e)⟩,h.dw⟩
 ·have hx':x<σ.length:=by simpa using hx
  by_cases hxb:x=b
  ·subst hxb;rw[gv];trivial
  ·rw[fE (dn hxb)];exact h.cD x hx'
 ·have hx':x<σ.length:=by simpa using hx
  have hy':y<σ.length:=by simpa using hy
  by_cases hxb:x=b
  ·subst hxb;rw[gv];intro e;cases e
  ·rw[fE (dn hxb)];by_cases hyb:y=b
   ·subst hyb;rw[gv];intro _ e;cases e
   ·rw[fE (dn hyb)];exact h.apart x y hx' hy' g hne
theorem aC.Ol(h:aC w0 κ σ w){g:Nat}(hg:w.grownBy w' (some g))(hb:Below w0.heap.size w0 w')(hm:∀o,κ.m g o=none)(hl:∀x (hx:x<σ.length),(σ[x]).be κ x≠some g)(hgr:κ.rest g=none):aC w0 κ σ w':=by
 have hother:∀x,x<w.heap.size->x≠g->w'.heap[x]?=w.heap[x]?:=fun x hx hne=>hg.block x hx (by simpa using hne);refine⟨h.n,hb,fun x o v hv=>?_,fun x hx=>?_,h.apart,fun l o hr=>⟨(hother l (dS.1 (h.rest l o hr).1).1 (fun e=>by rw[e,hgr]at hr;cases hr)).trans (h.rest l o hr).1,(h.rest l o hr).2⟩,bE h.dw hg.size⟩
 ·have hne:x≠g:=fun e=>by rw[e,hm]at hv;cases hv
  rw[vX (w:=w) (a:=⟨x,o,none⟩) (hother x (h.mU hv) hne)];exact h.mem x o v hv
 ·exact ad.qG (h.cD x hx) fun z hz=>hother z (h.gQ hx hz).2 fun e=>hl x hx (by rw[hz,e])
def K.jV(κ:K)(g:Nat)(v:Value):K:={κ with n:=κ.n+1,pos:=fun b=>if b=κ.n then g else κ.pos b,fr:=fun b=>if b=κ.n then none else κ.fr b,sv:=fun b=>if b=κ.n then v else κ.sv b}
theorem K.z8{g:Nat}{v:Value}:κ.le (κ.jV g v):=
 RV.same (Mem.le_refl _) (mE _) (fun b hb=>by show(if b=κ.n then _ else _)=_;rw[if_neg (by omega)]) (fun b hb=>by show(if b=κ.n then _ else _)=_;rw[if_neg (by omega)]) (fun b hb=>by show(if b=κ.n then _ else _)=_;rw[if_neg (by omega)]) (fun _ _=>rfl)
theorem aC.Fk(h:aC w0 κ σ w){g e size n cap:Nat}{cs:List C}{cur:Array Value}(hg:w0.heap.size<=g)(hm:∀o,κ.m g o=none)(hl:∀x (hx:x<σ.length),(σ[x]).be κ x≠some g)
  (hh:w.heap[g]?=some (.cells cur e (0,0))) (hc:cs.length=n*size) (hn:n<=cap) (hcap:cap<=maxLen) (hcs:cur.size=cap*size) (hv:∀j (hj:j<cs.length),RC κ.m cs[j] (cur.getD j undef)):
  aC w0 (κ.jV g (.slice (some ⟨g,0,none⟩) n cap)) (σ++[.vec e size cs]) w/\∀k,k<=n->RV (κ.jV g (.slice (some ⟨g,0,none⟩) n cap)) (.vec σ.length k) (.slice (some ⟨g,0,none⟩) k cap):=by
 have hle:κ.le (κ.jV g (.slice (some ⟨g,0,none⟩) n cap)):=K.z8;have hpos:∀b,b<σ.length->(κ.jV g (.slice (some ⟨g,0,none⟩) n cap)).pos b=κ.pos b:=fun b hb=>by show(if b=κ.n then _ else _)=_;rw[if_neg (by rw[h.n];omega)]
 have hfr:∀b,b<σ.length->(κ.jV g (.slice (some ⟨g,0,none⟩) n cap)).fr b=κ.fr b:=fun b hb=>by show(if b=κ.n then _ else _)=_;rw[if_neg (by rw[h.n];omega)]
 have hsv:∀b,b<σ.length->(κ.jV g (.slice (some ⟨g,0,none⟩) n cap)).sv b=κ.sv b:=fun b hb=>by show(if b=κ.n then _ else _)=_;rw[if_neg (by rw[h.n];omega)]
 have hposn:(κ.jV g (.slice (some ⟨g,0,none⟩) n cap)).pos σ.length=g:=by show(if σ.length=κ.n then _ else _)=_;rw[if_pos h.n.symm]
 have hfrn:(κ.jV g (.slice (some ⟨g,0,none⟩) n cap)).fr σ.length=none:=by show(if σ.length=κ.n then _ else _)=_;rw[if_pos h.n.symm]
 have hsvn:(κ.jV g (.slice (some ⟨g,0,none⟩) n cap)).sv σ.length= .slice (some ⟨g,0,none⟩) n cap:=by show(if σ.length=κ.n then _ else _)=_;rw[if_pos h.n.symm]
 have hlies:∀b (hb:b<σ.length),(σ[b]).be (κ.jV g (.slice (some ⟨g,0,none⟩) n cap)) b=(σ[b]).be κ b:=fun b hb=>ad.jU (hpos b hb) (hsv b hb);refine⟨⟨by show κ.n+1=_;rw[h.n];simp,h.ext,h.mem,fun b hb=>?_,fun x y hx hy z hne=>?_,fun l o hr=>⟨(h.rest l o hr).1,(h.rest l o hr).2.1,sM hlies (h.rest l o hr).2.2 (by simp only[ad.be,hposn];intro e;injection e with e;have a1:=(h.rest l o hr).1;have a2:=(h.rest l o hr).2.1;rw[<-e,hh]at a1;injection a1 with a1;rw[<-a1]at a2;cases a2)⟩,h.dw⟩,fun k hk=>?_⟩
 ·rcases dT b σ.length with hb'|hb'
  ·rw[cL hb'];exact ad.is_le (κ:=κ) rfl hle (hpos b hb') (hfr b hb') (hsv b hb') rfl (h.cD b hb')
  ·have hbe:b=σ.length:=by simp at hb;omega
   subst hbe;rw[dU (aA _)];simp only[cq,dC];exact⟨hfrn,⟨cur,n,cap,by rw[hsvn,hposn],by rw[hposn];exact hh,hc,hn,hcap,hcs,hv⟩,by rw[hposn];exact hg,fun o=>by rw[hposn];exact hm o⟩
 ·rcases dT x σ.length with hx'|hx'<;>rcases dT y σ.length with hy'|hy'
  ·rw[cL hx',cL hy',hlies x hx',hlies y hy'];exact h.apart x y hx' hy' z hne
  ·have hye:y=σ.length:=by simp at hy;omega
   subst hye;rw[cL hx',hlies x hx',dU (aA _)];simp only[cq,dC,ad.be,hposn];intro h1 h2;exact hl x hx' (h1.trans h2.symm)
  ·have hxe:x=σ.length:=by simp at hx;omega
   subst hxe;rw[cL hy',hlies y hy',dU (aA _)];simp only[cq,dC,ad.be,hposn];intro h1 h2;exact hl y hy' (h2.trans h1.symm)
  ·simp at hx hy;omega
 ·have:=RV.vec (κ:=κ.jV g (.slice (some ⟨g,0,none⟩) n cap)) (b:=σ.length) (k:=k) (n:=n) (cap:=cap) (by show _<κ.n+1;rw[h.n];omega) hfrn (by rw[hsvn,hposn]) hk hn hcap;rwa [hposn]at this
theorem aC.Om(h:aC w0 κ σ w){b e size:Nat}{cs cs':List C}{us:Array Value}{vs:List Value}(hb:σ[b]?=some (.vec e size cs))(hus:w.heap[κ.pos b]?=some (.cells us e (0,0)))(hlen:vs.length=us.size)(hcl:cs'.length=cs.length)
  (hv:∀j (hj:j<cs'.length),RC κ.m cs'[j] (vs.getD j undef)):aC w0 κ (σ.set b (.vec e size cs')) (w.setRow (κ.pos b) vs.toArray):=by
 obtain⟨hlt,hb'⟩:=aL.1 hb;have hblk:=h.cD b hlt;rw[hb']at hblk;obtain⟨us',n,cap,k0,k1,k2,k3,k4,k5,k6⟩:=hblk.row;rw[hus]at k1;injection k1 with k1;injection k1 with k1;subst k1;have hother:∀g,g≠κ.pos b->(w.setRow (κ.pos b) vs.toArray).heap[g]?=w.heap[g]?:=fun g hg=>setRow_other w (κ.pos b) g _ hg;have hself:=setRow_heap w (κ.pos b) us vs.toArray e (0,0) hus;refine⟨by simpa using h.n,?_,fun x o v hm=>?_,fun x hx=>?_,fun x y hx hy g hne=>?_,fun l o hr=>?_,by simpa[zy]using h.dw⟩
 rotate_right
 ·obtain⟨a1,a2,a3⟩:=h.rest l o hr;have hb1:=a3 b hlt;rw[hb']at hb1;exact⟨(hother l (fun e=>hb1 (by rw[e];rfl))).trans a1,a2,sN (fun _ _ _=>rfl) a3 hb1⟩
 ·exact h.ext.trans ⟨rfl,rfl,rfl,by simp[zy],fun k hk=>hother k (by have:=hblk.own;omega)⟩
 ·have hne:x≠κ.pos b:=fun e=>by rw[e,hblk.free]at hm;cases hm
  rw[vX (w:=w) (a:=⟨x,o,none⟩) (hother x hne)];exact h.mem x o v hm
 ·by_cases hxb:x=b
  ·subst hxb;rw[gv];refine⟨hblk.fr,⟨vs.toArray,n,cap,k0,hself,hcl.trans k2,k3,k4,by simp[hlen,k5],fun j hj=>?_⟩,hblk.own,hblk.free⟩;simpa[ij,cf]using hv j hj
  ·have hx':x<σ.length:=by simpa using hx
   rw[fE (dn hxb)];refine ad.qG (h.cD x hx') fun g hg=>hother g fun e=>?_;subst e;exact h.apart x b hx' hlt _ hxb hg (by rw[hb'];rfl)
 ·have hx':x<σ.length:=by simpa using hx
  have hy':y<σ.length:=by simpa using hy
  have lies_set:∀z (hz:z<σ.length) (hz':z<(σ.set b (.vec e size cs')).length),((σ.set b (.vec e size cs'))[z]).be κ z=(σ[z]).be κ z:=fun z hz hz'=>by
   by_cases hzb:z=b
   ·subst hzb;rw[gv,hb'];rfl
   ·rw[fE (dn hzb)]
  rw[lies_set x hx',lies_set y hy'];exact h.apart x y hx' hy' g hne
end
section
variable {P:Program} {w0 w w':World} {κ:K} {σ σ':H} {a:Act} {ρ:Env}
theorem ez{f:aj->bq}{x:Operand}{i:bq}(h:dz f x=some i):∃y,bH x=some y/\i=f y:=by
 unfold dz at h;split at h
 ·rename_i y hy;injection h with h;exact⟨y,hy,h.symm⟩
 ·cases h
theorem iv{f:aj->aj->bq}{x x':Operand}{i:bq}(h:ed f x x'=some i):∃y y',bH x=some y/\bH x'=some y'/\i=f y y':=by
 unfold ed at h;split at h
 ·rename_i y y' hy hy';injection h with h;exact⟨y,y',hy,hy',h.symm⟩
 ·cases h
theorem o5{x:V}{v:Value}(r:RV κ x v):∀(_:leaves x.ai=true),v.cells.toList.length=x.ai.length/\∀j (hj:j<x.ai.length),RV κ x.ai[j] (v.cells.toList.getD j undef):=by
 intro hl;have single:∀{x:V} {v:Value},RV κ x v->x.ai=[x]->v.cells=#[v]->v.cells.toList.length=x.ai.length/\∀j (hj:j<x.ai.length),RV κ x.ai[j] (v.cells.toList.getD j undef):=by
  intro x v r h1 h2;rw[h2];refine⟨by rw[h1];rfl,fun j hj=>?_⟩;have hj0:j=0:=by rw[h1]at hj;simpa using hj
  subst hj0;simp only[h1,dC];exact r
 cases r with
 |agg h h1=>exact⟨h,h1⟩
 |void=>simp[leaves,V.ai,V.leaf]at hl
 |any=>simp[leaves,V.ai,V.leaf]at hl
 |ay=>simp[leaves,V.ai,V.leaf]at hl
 |c h=>exact single (.c h) rfl (by cases h<;>rfl)
 |ptr h h1=>exact single (.ptr h h1) rfl rfl
 |aG h h1 h2 h3 h4 h5=>exact single (.aG h h1 h2 h3 h4 h5) rfl (by cases h<;>rfl)
 |ab h=>exact single (.ab h) rfl rfl
 |fn h h1=>exact single (.fn h h1) rfl rfl
 |cg=>exact single .cg rfl rfl
 |mp h h1=>exact single (.mp h h1) rfl rfl
 |cC=>exact single .cC rfl rfl
 |vec h0 h1 h2 h3 h4 h5=>exact single (.vec h0 h1 h2 h3 h4 h5) rfl rfl
theorem Fl{o:Oper}{x:Operand}{y:aj}(ho:o.op= .move x\/o.op= .assign x)(hx:bH x=some y)(hrep:aC w0 κ σ w)(he:b8 κ ρ a):
  bg w0 κ σ (y.ev ρ) ((execOp a.eval o).run P w):=by
 refine bg.still (v':=a.eval x) ?_ hrep (bO he hx);rcases ho with ho|ho<;>simp[execOp,ho]
theorem RV.qH{b:Bool}{v:Value}(r:RV κ (.c (.bool b)) v):v= .bool b:=by cases r with|c h=>cases h;rfl
theorem RV.iw{k:IntKind}{n:Int}{v:Value}(r:RV κ (.c (.int k n)) v):v= .int k n:=by cases r with|c h=>cases h;rfl
theorem RV.o6{l:List UInt8}{v:Value}(r:RV κ (.c (.str l)) v):v= .string (bs l):=by cases r with|c h=>cases h;rfl
theorem RV.Fm{l:List UInt8}{v:Value}(r:RV κ (.c (.str l)) v):l.length<=maxLen:=by cases r with|c h=>cases h;assumption
theorem On{o:Oper}{c x y:Operand}{c' x' y':aj}{t:Bool}(ho:o.op= .pick c x y)(hc:bH c=some c')(hx:bH x=some x')(hy:bH y=some y')(ht:c'.ev ρ= .c (.bool t))
  (hrep:aC w0 κ σ w) (he:b8 κ ρ a):bg w0 κ σ (if t then x'.ev ρ else y'.ev ρ) ((execOp a.eval o).run P w):=by
 have h1:=bO he hc;rw[ht]at h1;have h1:=h1.qH;refine bg.still (v':=if t then a.eval x else a.eval y) ?_ hrep ?_
 ·simp[execOp,ho,h1,asBool]
 ·cases t
  ·exact bO he hy
  ·exact bO he hx
theorem Fo{P:Program}{t:TypeId}:∀T,o4 P t=some T->T=t:=fun T h=>by
 unfold o4 at h;split at h
 ·injection h with h;exact h.symm
 ·cases h
theorem Oo{o:Oper}{t:TypeId}{z:V}(ho:o.op= .alloc t)(hz:lM P t=some z)(hl:leaves z.ai=true)(hrep:aC w0 κ σ w):
  bg w0 κ (σ++[.cells z.ai (o4 P t)]) (.ptr σ.length 0) ((execOp a.eval o).run P w):=by
 unfold lM at hz;cases hi:P.info? t with
 |none=>rw[hi]at hz;cases hz
 |some i=>
  rw[hi]at hz;simp only at hz;cases hzz:i.zero with
  |none=>rw[hzz]at hz;cases hz
  |some zv=>
   rw[hzz]at hz;have hr:=wB (κ:=κ) hz;obtain⟨h1,h2⟩:=o5 hr hl;obtain⟨k1,k2⟩:=hrep.box t (Fo (P:=P)) hl h1 h2;refine⟨_,_,_,.inl ?_,K.sL,k1,k2⟩;simp[execOp,ho,Instr.alloc,zeroValue,typeInfo,hi,hzz,newVar,newRow]
theorem Oq{o:Oper}{t:TypeId}{x:Operand}{y:aj}(ho:o.op= .box t x)(hx:bH x=some y)(hl:leaves (y.ev ρ).ai=true)(hrep:aC w0 κ σ w)(he:b8 κ ρ a):
  bg w0 κ (σ++[.cells (y.ev ρ).ai (o4 P t)]) (.ptr σ.length 0) ((execOp a.eval o).run P w):=by
 obtain⟨h1,h2⟩:=o5 (bO he hx) hl;obtain⟨k1,k2⟩:=hrep.box t (Fo (P:=P)) hl h1 h2;refine⟨_,_,_,.inl ?_,K.sL,k1,k2⟩;simp[execOp,ho,Instr.box,newVar,newRow]
theorem Ot{o:Oper}{t:TypeId}{x:Operand}{i:bq}{v:V}(ho:o.op= .load t x)(ag:bf P (.load t x)=some i)(hs:step ρ σ i=some (v,σ'))(hrep:aC w0 κ σ w)(he:b8 κ ρ a):
  bg w0 κ σ' v ((execOp a.eval o).run P w):=by
 simp only[bf]at ag;cases hd:P.underlying t with
 |none=>rw[hd]at ag;cases ag
 |some d=>
  cases hi:P.info? t with
  |none=>rw[hd,hi]at ag;cases ag
  |some inf=>
   rw[hd,hi]at ag;simp only at ag;cases hg:jr d
   ·rw[hg]at ag;obtain⟨y,hy,rfl⟩:=ez ag;simp only[step]at hs;split at hs
    ·rename_i cs o' hc;split at hs
     ·rename_i u hu;injection hs with hs;injection hs with h1 h2;subst h1 h2;obtain⟨v',k1,k2⟩:=Fb hrep hd hg hc (bO he hy) hu;exact bg.still (by simp[execOp,ho,k1]) hrep k2
     ·cases hs
    ·cases hs
   ·rw[hg]at ag;obtain⟨y,hy,rfl⟩:=ez ag;simp only[step]at hs;split at hs
    ·rename_i cs o' hc;split at hs
     ·rename_i hle;injection hs with hs;injection hs with h1 h2;subst h1 h2;obtain⟨v',k1,k2⟩:=Fc hrep hd hg hi hc (bO he hy) hle;exact bg.still (by simp[execOp,ho,k1]) hrep k2
     ·cases hs
    ·cases hs
theorem Aa{l:List V}{xs:List Value}(hl:leaves l=true)(h:∀j (hj:j<l.length),RV κ l[j] (xs.getD j undef))(hlen:xs.length=l.length):∀v∈xs,v.oneCell'=true:=by
 intro v hv;obtain⟨j,hj,rfl⟩:=fD hv;have:=h j (by omega);rw[gP hj]at this;refine this.one ?_;unfold leaves at hl;rw[cU]at hl;exact hl _ (bt _)
theorem Fp{l r:List V}:leaves (l++r)=(leaves l&&leaves r):=by simp[leaves]
theorem Fq{l:List V}(h:leaves l=true){r:List V}(hr:∀x∈r,x∈l):leaves r=true:=by
 unfold leaves at*
 rw[cU]at*
 exact fun x hx=>h x (hr x hx)
theorem wC{α:Type}(l ys:List α)(o:Nat)(h:o+ys.length<=l.length)(j:Nat):
  (l.take o++ys++l.drop (o+ys.length))[j]?=if j<o then l[j]? else if j<o+ys.length then ys[j-o]? else l[j]?:=by
 rw[List.append_assoc,ZR,List.length_take,Nat.min_eq_left (by omega)];by_cases h1:j<o
 ·simp[h1]
 ·rw[if_neg h1,if_neg h1,ZR];by_cases h2:j<o+ys.length
  ·rw[if_pos (by omega),if_pos h2]
  ·rw[if_neg (by omega),if_neg h2,nJ];congr 1;omega
theorem o7{α:Type}(l ys:List α)(o:Nat)(h:o+ys.length<=l.length):(l.take o++ys++l.drop (o+ys.length)).length=l.length:=by
 simp;omega
def Fits(κ:K)(l:List V)(xs:List Value):Prop:=xs.length=l.length/\∀j (hj:j<l.length),RV κ l[j] (xs.getD j undef)
theorem Fits.Fs{l ys:List V}{xs us:List Value}{o:Nat}(h:Fits κ l xs)(k:Fits κ ys us)(ho:o+ys.length<=l.length):
  Fits κ (l.take o++ys++l.drop (o+ys.length)) (xs.take o++us++xs.drop (o+us.length)):=by
 refine⟨by rw[o7 _ _ _ ho,o7 _ _ _ (by rw[k.1,h.1];exact ho)];exact h.1,fun j hj=>?_⟩;have hj':j<l.length:=by rwa [o7 _ _ _ ho]at hj
 have e1:=wC l ys o ho j;have e2:=wC xs us o (by rw[k.1,h.1];exact ho) j;rw[aO hj]at e1;have hxl:j<(xs.take o++us++xs.drop (o+us.length)).length:=by rw[o7 _ _ _ (by rw[k.1,h.1];exact ho),h.1];exact hj'
 rw[gP hxl];rw[aO hxl]at e2;have hjx:j<xs.length:=by rw[h.1];exact hj'
 by_cases h1:j<o
 ·rw[if_pos h1,aO hj']at e1;rw[if_pos h1,aO hjx]at e2;injection e1 with e1;injection e2 with e2;rw[e1,e2];have:=h.2 j hj';rwa [gP hjx]at this
 ·rw[if_neg h1]at e1 e2;by_cases h2:j<o+ys.length
  ·have hu:j-o<us.length:=by rw[k.1];omega
   rw[if_pos h2,aO (by omega)]at e1;rw[if_pos (by rw[k.1];exact h2),aO hu]at e2;injection e1 with e1;injection e2 with e2;rw[e1,e2];have:=k.2 (j-o) (by omega);rwa [gP hu]at this
  ·rw[if_neg h2,aO hj']at e1;rw[if_neg (by rw[k.1];exact h2),aO hjx]at e2;injection e1 with e1;injection e2 with e2;rw[e1,e2];have:=h.2 j hj';rwa [gP hjx]at this
theorem Ou{o:Oper}{t:TypeId}{x y:Operand}{i:bq}{v:V}(ho:o.op= .store t x y)(ag:bf P (.store t x y)=some i)(hs:step ρ σ i=some (v,σ'))(hrep:aC w0 κ σ w)(he:b8 κ ρ a):
  bg w0 κ σ' v ((execOp a.eval o).run P w):=by
 simp only[bf]at ag;cases hi:P.info? t with
 |none=>rw[hi]at ag;cases ag
 |some inf=>
  rw[hi]at ag;obtain⟨x',y',hx,hy,rfl⟩:=iv ag;simp only[step]at hs;split at hs
  ·rename_i b off hxe;split at hs
   ·rename_i cs tg hb;split at hs
    ·rename_i hc;obtain⟨c1,c2,c3⟩:=hc;injection hs with hs;injection hs with h1 h2;subst h1 h2;have hxr:=bO he hx;rw[hxe]at hxr;obtain⟨hlt,hb'⟩:=aL.1 hb;have hblk:=hrep.cD b hlt;rw[hb']at hblk;obtain⟨us,tt,k1,k2,k3⟩:=hblk.row;have hyc:=o5 (bO he hy) c3;cases hxr':a.eval x with
     |pointer p=>
      rw[hxr']at hxr;cases hxr with
      |ptr q0 q1=>
       have hcs:leaves cs=true:=by
        unfold leaves;rw[cU];intro z hz;obtain⟨j,hj,rfl⟩:=fD hz;exact(k3 j hj).1
       have hfit:Fits κ cs us.toList:=⟨by simpa using k2,fun j hj=>by have:=(k3 j hj).2;simpa[mF,lA,k2,hj]using this⟩;have hfit2:Fits κ (y'.ev ρ).ai (a.eval y).cells.toList:=hyc;have hsp:=hfit.Fs hfit2 (o:=off) (by omega);have hst:=run_storeCells_at P (κ.pos b) off tt (a.eval y).cells.toList 0 us w k1 (by have:=hyc.1;omega) (Aa c3 hyc.2 hyc.1);simp only[mG]at hst;have hw:=hrep.wrote (cs':=cs.take off++(y'.ev ρ).ai++cs.drop (off+inf.size)) hb (by
        rw[Fp,Fp];simp only[Bool.and_eq_true];exact⟨⟨Fq hcs fun z hz=>NS hz,c3⟩,Fq hcs fun z hz=>NT hz⟩) (by have:=hsp.1;rw[c1]at this;exact this) (by
         have:=hsp.2;rw[c1]at this;exact this)
       refine⟨κ,undef,_,.inr ⟨?_,rfl⟩,K.le_refl κ,hw,.void⟩;have hsz:(a.eval y).cells.size=inf.size:=by have:=hyc.1;simp at this;omega
       have hlt':¬(a.eval y).cells.size≠inf.size:=by simpa using hsz
       simp only[execOp,ho,Instr.storeAt,hxr',ss,jh,jO,jP,storeVar,run_sizeOf hi,if_neg hlt',hst]
     |_=>rw[hxr']at hxr;cases hxr
    ·cases hs
   ·rename_i e size cs hb;split at hs
    ·rename_i ys hys;split at hs
     ·rename_i hc;obtain⟨c1,c2⟩:=hc;injection hs with hs;injection hs with h1 h2;subst h1 h2;have hxr:=bO he hx;rw[hxe]at hxr;obtain⟨hlt,hb'⟩:=aL.1 hb;have hblk:=hrep.cD b hlt;rw[hb']at hblk;obtain⟨us,n,cap,k0,k1,k2,k3,k4,k5,k6⟩:=hblk.row;have c3:leaves (y'.ev ρ).ai=true:=by unfold leaves;rw[cU];exact Fi hys
      have hyc:=o5 (bO he hy) c3;have hyl:=Fg hys;have hyr:=Fh hys hyc.1 hyc.2;cases hxr':a.eval x with
      |pointer p=>
       rw[hxr']at hxr;cases hxr with
       |ptr q0 q1=>
        have hcu:cs.length<=us.size:=by rw[k2,k5];exact jg _ k3
        have hol:off+(a.eval y).cells.toList.length<=us.size:=by have:=hyc.1;omega
        have hst:=run_storeCells_at P (κ.pos b) off e (a.eval y).cells.toList 0 us w k1 (by have:=hyc.1;omega) (Aa c3 hyc.2 hyc.1);simp only[mG]at hst;have hl1:(us.toList.take off++(a.eval y).cells.toList++us.toList.drop (off+(a.eval y).cells.toList.length)).length=us.size:=by
         have:=o7 us.toList (a.eval y).cells.toList off (by simpa using hol);simpa using this
        have hl2:(cs.take off++ys++cs.drop (off+inf.size)).length=cs.length:=by
         have:=o7 cs ys off (by omega);rwa [c1]at this
        have hw:=hrep.Om (cs':=cs.take off++ys++cs.drop (off+inf.size)) (vs:=us.toList.take off++(a.eval y).cells.toList++us.toList.drop (off+(a.eval y).cells.toList.length)) hb k1 hl1 hl2 (fun j hj=>by
         have hjc:j<cs.length:=by rw[<-hl2];exact hj
         have e1:=wC cs ys off (by omega) j;rw[c1,aO hj]at e1;have e2:=wC us.toList (a.eval y).cells.toList off (by simpa using hol) j;rw[cf,e2];have hyl':(a.eval y).cells.toList.length=ys.length:=by have:=hyc.1;omega
         by_cases g1:j<off
         ·rw[if_pos g1]at e1⊢;rw[aO hjc]at e1;injection e1 with e1;rw[e1];simpa[ij]using k6 j hjc
         ·rw[if_neg g1]at e1⊢;by_cases g2:j<off+inf.size
          ·rw[if_pos g2]at e1;rw[if_pos (by omega)];have hjy:j-off<ys.length:=by omega
           rw[aO hjy]at e1;injection e1 with e1;rw[e1];have:=hyr (j-off) hjy;rwa [cf]at this
          ·rw[if_neg g2,aO hjc]at e1;rw[if_neg (by omega)];injection e1 with e1;rw[e1];simpa[ij]using k6 j hjc)
        refine⟨κ,undef,_,.inr ⟨?_,rfl⟩,K.le_refl κ,hw,.void⟩;have hsz:(a.eval y).cells.size=inf.size:=by have:=hyc.1;simp at this;omega
        have hlt':¬(a.eval y).cells.size≠inf.size:=by simpa using hsz
        simp only[execOp,ho,Instr.storeAt,hxr',ss,jh,jO,jP,storeVar,run_sizeOf hi,if_neg hlt',hst]
      |_=>rw[hxr']at hxr;cases hxr
     ·cases hs
    ·cases hs
   ·cases hs
  ·cases hs
theorem Ov{o:Oper}{x:Operand}{i:bq}{v:V}(ho:o.op= .nilCheck x)(ag:bf P (.nilCheck x)=some i)(hs:step ρ σ i=some (v,σ'))(hrep:aC w0 κ σ w)(he:b8 κ ρ a):
  bg w0 κ σ' v ((execOp a.eval o).run P w):=by
 obtain⟨y,hy,rfl⟩:=ez ag;have hr:=bO he hy;simp only[step]at hs;split at hs
 ·rename_i b off hx;injection hs with hs;injection hs with h1 h2;subst h1 h2;rw[hx]at hr;refine bg.still (v':=a.eval x) ?_ hrep hr;cases hv:a.eval x with
  |pointer p=>rw[hv]at hr;cases hr;simp[execOp,ho,hv]
  |_=>rw[hv]at hr;cases hr
 ·rename_i cs off hx;injection hs with hs;injection hs with h1 h2;subst h1 h2;rw[hx]at hr;refine bg.still (v':=a.eval x) ?_ hrep hr;cases hv:a.eval x with
  |pointer p=>rw[hv]at hr;cases hr with|c h=>cases h;simp[execOp,ho,hv]
  |_=>rw[hv]at hr;cases hr with|c h=>cases h
 ·rename_i f caps hx;injection hs with hs;injection hs with h1 h2;subst h1 h2;rw[hx]at hr;refine bg.still (v':=a.eval x) ?_ hrep hr;cases hv:a.eval x with
  |func fn first cap=>rw[hv]at hr;cases hr;simp[execOp,ho,hv]
  |_=>rw[hv]at hr;cases hr
 ·cases hs
theorem Ow{o:Oper}{s f:Nat}{x:Operand}{i:bq}{v:V}(ho:o.op= .fieldAddr s x f)(ag:bf P (.fieldAddr s x f)=some i)(hs:step ρ σ i=some (v,σ'))(hrep:aC w0 κ σ w)(he:b8 κ ρ a):
  bg w0 κ σ' v ((execOp a.eval o).run P w):=by
 simp only[bf]at ag;split at ag
 ·rename_i fields hu;split at ag
  ·rename_i fl hf;split at ag
   ·rename_i k hk;split at ag
    ·cases ag
    ·rename_i hk0;obtain⟨y,hy,rfl⟩:=ez ag;have hr:=bO he hy;unfold bw at hk;cases hi:P.info? fl.type with
     |none=>rw[hi]at hk;cases hk
     |some inf=>
      rw[hi]at hk;have hk:inf.size=k:=by simpa using hk
      have hne:¬inf.size=0:=by omega
      have key:∀b p,a.eval x= .pointer (some ⟨b,p,none⟩)->(execOp a.eval o).run P w= .ok (.value (.pointer (some ⟨b,p+fl.offset,none⟩))) w:=by
       intro b p hp;simp[execOp,ho,Instr.fieldAt,cp hu,hf,hp,ss,fieldPlace,run_sizeOf hi,hne,add_lit]
      simp only[step]at hs;split at hs
      ·rename_i b off hx;injection hs with hs;injection hs with h1 h2;subst h1 h2;rw[hx]at hr;cases hv:a.eval x with
       |pointer p=>
        rw[hv]at hr;cases hr with
        |ptr q0 q1=>exact bg.still (key _ _ hv) hrep (.ptr q0 q1)
       |_=>rw[hv]at hr;cases hr
      ·rename_i cs off hx;injection hs with hs;injection hs with h1 h2;subst h1 h2;rw[hx]at hr;cases hv:a.eval x with
       |pointer p=>
        rw[hv]at hr;cases hr with
        |c h=>
         cases h with
         |ref cs o b p xs h3 h4 h5=>
          refine bg.still (key _ _ hv) hrep (.c ?_);have:=RC.ref (m:=κ.m) cs (off+fl.offset) b p xs h3 h4 h5;rwa [<-ji]at this
       |_=>rw[hv]at hr;cases hr with|c h=>cases h
      ·cases hs
   ·cases ag
  ·cases ag
 ·cases ag
end
section
variable {P:Program} {w0 w w':World} {κ:K} {σ σ':H} {a:Act} {ρ:Env}
theorem RV.wD{vs:List V}{v:Value}(r:RV κ (.agg vs) v):∃xs:List Value,v= .agg xs.toArray/\Fits κ vs xs:=by cases r with|agg h h1=>exact⟨_,rfl,h,h1⟩
theorem RV.Ox{vs:List V}{v:Value}(r:RV κ (.ay vs) v):∃xs:List Value,v= .tuple xs.toArray/\Fits κ vs xs:=by cases r with|ay h h1=>exact⟨_,rfl,h,h1⟩
theorem Fits.at_{l:List V}{xs:List Value}(h:Fits κ l xs){j:Nat}{u:V}(hu:l[j]?=some u):∃v,xs[j]?=some v/\RV κ u v:=by
 obtain⟨hj,e⟩:=aL.1 hu;have hx:j<xs.length:=by rw[h.1];exact hj
 refine⟨xs[j],aO hx,?_⟩;have:=h.2 j hj;rw[gP hx,e]at this;exact this
theorem Fits.sub{l:List V}{xs:List Value}(h:Fits κ l xs)(o n:Nat)(hle:o+n<=l.length):Fits κ ((l.drop o).take n) ((xs.drop o).take n):=by
 have hx:=h.1;refine⟨by simp[hx],fun j hj=>?_⟩;have hj1:j<n:=by simp at hj;omega
 have hj2:j<((xs.drop o).take n).length:=by simp;omega
 rw[gP hj2,oQ,oQ,EE,EE];have:=h.2 (o+j) (by omega);rwa [gP (by omega)]at this
theorem Oy{o:Oper}{s f:Nat}{x:Operand}{i:bq}{v:V}(ho:o.op= .field s x f)(ag:bf P (.field s x f)=some i)(hs:step ρ σ i=some (v,σ'))(hrep:aC w0 κ σ w)(he:b8 κ ρ a):
  bg w0 κ σ' v ((execOp a.eval o).run P w):=by
 simp only[bf]at ag;split at ag
 ·rename_i fields hu;split at ag
  ·rename_i fl hf;split at ag
   ·rename_i d k hd hk;unfold bw at hk;cases hi:P.info? fl.type with
    |none=>rw[hi]at hk;cases hk
    |some inf=>
     rw[hi]at hk;have hk:inf.size=k:=by simpa using hk
     split at ag
     ·rename_i hg;obtain⟨y,hy,rfl⟩:=ez ag;have hr:=bO he hy;simp only[step]at hs;split at hs
      ·rename_i vs hx;split at hs
       ·rename_i hle;injection hs with hs;injection hs with h1 h2;subst h1 h2;rw[hx]at hr;obtain⟨xs,hv,hfit⟩:=hr.wD;have hsub:=hfit.sub fl.offset k hle;refine bg.still (v':=.agg ((xs.drop fl.offset).take k).toArray) ?_ hrep (.agg hsub.1 hsub.2);simp[execOp,ho,Instr.field,cp hu,hf,hv,asAgg,part,nV hd,hg,run_sizeOf hi,hk]
       ·cases hs
      ·cases hs
     ·rename_i hg;obtain⟨y,hy,rfl⟩:=ez ag;have hr:=bO he hy;simp only[step]at hs;split at hs
      ·rename_i vs hx;split at hs
       ·rename_i u hu';injection hs with hs;injection hs with h1 h2;subst h1 h2;rw[hx]at hr;obtain⟨xs,hv,hfit⟩:=hr.wD;obtain⟨v',hv',hr'⟩:=hfit.at_ hu';refine bg.still (v':=v') ?_ hrep hr';have hg':jr d=false:=by simpa using hg
        simp[execOp,ho,Instr.field,cp hu,hf,hv,asAgg,part,nV hd,hg',hv']
       ·cases hs
      ·cases hs
   ·cases ag
  ·cases ag
 ·cases ag
theorem Oz{o:Oper}{x:Operand}{k:Nat}{i:bq}{v:V}(ho:o.op= .extract x k)(ag:bf P (.extract x k)=some i)(hs:step ρ σ i=some (v,σ'))(hrep:aC w0 κ σ w)(he:b8 κ ρ a):
  bg w0 κ σ' v ((execOp a.eval o).run P w):=by
 obtain⟨y,hy,rfl⟩:=ez ag;have hr:=bO he hy;simp only[step]at hs;split at hs
 ·rename_i vs hx;split at hs
  ·rename_i u hu;injection hs with hs;injection hs with h1 h2;subst h1 h2;rw[hx]at hr;obtain⟨xs,hv,hfit⟩:=hr.Ox;obtain⟨v',hv',hr'⟩:=hfit.at_ hu;exact bg.still (v':=v') (by simp[execOp,ho,Instr.extract,hv,hv']) hrep hr'
  ·cases hs
 ·cases hs
theorem RV.kN{x:V}{r:List (List C)}{v:Value}(h:RV κ x v)(hr:x.rows=some r):RC κ.m (.sl r) v:=by
 cases h with
 |c h0=>
  cases h0 with
  |sl rows s A cap xs k0 k1 k2 k3 k4 k5=>simp only[V.rows]at hr;injection hr with hr;subst hr;exact .sl _ s A cap xs k0 k1 k2 k3 k4 k5
  |_=>cases hr
 |aG h0=>simp only[V.rows]at hr;injection hr with hr;subst hr;exact h0
 |ab h0=>simp only[V.rows]at hr;injection hr with hr;subst hr;exact h0
 |_=>cases hr
theorem RC.jW{m:Mem}{rows:List (List C)}{v:Value}(h:RC m (.sl rows) v):∃(s:Nat) (A:Option Addr) (cap:Nat) (xs:List Value),v= .slice A rows.length cap/\(∀r∈rows,r.length=s)/\rows.length<=cap/\cap<=maxLen/\
  xs.length=rows.length*s/\(rows≠[]->∃b o,A=some ⟨b,o,none⟩/\∀k,k<xs.length->m b (o+k)=xs[k]?)/\(∀i (hi:i<rows.length) j (hj:j<rows[i].length),RC m rows[i][j] (xs.getD (i*s+j) undef)):=by
 cases h with|sl _ s A cap xs h0 h1 h2 h3 h4 h5=>exact⟨s,A,cap,xs,rfl,h0,h1,h2,h3,h4,h5⟩
theorem mul_lt{i n s j:Nat}(hi:i<n)(hj:j<s):i*s+j<n*s:=by
 have:(i+1)*s<=n*s:=jg _ hi;rw[fo]at this;omega
theorem RC.OA{m:Mem}{rows:List (List C)}{s b o:Nat}{xs:List Value}(h0:∀r∈rows,r.length=s)(h3:xs.length=rows.length*s)(h4:∀k,k<xs.length->m b (o+k)=xs[k]?)
  (h5:∀i (hi:i<rows.length) j (hj:j<rows[i].length),RC m rows[i][j] (xs.getD (i*s+j) undef)) {i:Nat} (hi:i<rows.length):RC m (.ref rows[i] 0) (.pointer (some ⟨b,o+i*s,none⟩)):=by
 have hl:rows[i].length=s:=h0 _ (bt hi);have hlen:((xs.drop (i*s)).take s).length=s:=by
  have:=mul_lt (s:=s+1) hi (Nat.lt_succ_self s);have h6:(i+1)*s<=rows.length*s:=jg _ hi;rw[fo]at h6;simp;omega
 have key:∀k,k<s->((xs.drop (i*s)).take s)[k]?=xs[i*s+k]?:=fun k hk=>by rw[mH,if_pos hk,nJ]
 have:=RC.ref (m:=m) rows[i] 0 b (o+i*s) ((xs.drop (i*s)).take s) (by rw[hlen,hl]) (fun k hk=>by
  rw[hlen]at hk;rw[key k hk,<-h4 (i*s+k) (by rw[h3];exact mul_lt hi hk),ji]) (fun j hj=>by
  have hj':j<s:=by omega
  have:=h5 i hi j hj;rw[cf]at this⊢;rwa [key j hj'])
 simpa using this
theorem OB{o:Oper}{t:Nat}{x k:Operand}{i:bq}{v:V}(ho:o.op= .indexAddr t x k)(ag:bf P (.indexAddr t x k)=some i)(hs:step ρ σ i=some (v,σ'))(hrep:aC w0 κ σ w)(he:b8 κ ρ a):
  bg w0 κ σ' v ((execOp a.eval o).run P w):=by
 simp only[bf]at ag;split at ag
 ·rename_i e hu;split at ag
  ·rename_i sz hsz;obtain⟨x',k',hx,hk,rfl⟩:=iv ag;unfold bw at hsz;cases hi:P.info? e with
   |none=>rw[hi]at hsz;cases hsz
   |some inf=>
    rw[hi]at hsz;have hsz:inf.size=sz:=by simpa using hsz
    have hxr:=bO he hx;have hkr:=bO he hk;simp only[step]at hs;split at hs
    case h_2=>cases hs
    rename_i q j hj;split at hs
    ·rename_i b n hxe;split at hs
     ·rename_i hb;injection hs with hs;injection hs with h1 h2;subst h1 h2;rw[hj]at hkr;have hkv:=hkr.iw;rw[hxe]at hxr;generalize hva:a.eval x=va at hxr;cases hxr with
      |vec q0 q1 q2 q3 q4 q5=>
       refine bg.still (v':=.pointer (some ⟨κ.pos b,0+j.toNat*sz,none⟩)) ?_ hrep (by rw[Nat.zero_add];exact .ptr q0 q1);simp[execOp,ho,Instr.indexAt,cp hu,hva,hkv,asIntOf,hb,run_sizeOf hi,hsz,add_lit]
     ·cases hs
    split at hs
    ·rename_i u hnar r hr;split at hs
     ·rename_i hb;split at hs
      ·rename_i cs hcs;split at hs
       ·rename_i hl;injection hs with hs;injection hs with h1 h2;subst h1 h2;rw[hj]at hkr;have hkv:=hkr.iw;obtain⟨s,A,cap,xs,hv,h0,h1,h2,h3,h4,h5⟩:=(hxr.kN hr).jW;obtain⟨hi',hcs'⟩:=aL.1 hcs;obtain⟨b,p,rfl,k4⟩:=h4 (by intro e;rw[e]at hi';simp at hi');have hs':s=inf.size:=by rw[hsz,<-hl,<-hcs',h0 _ (bt hi')]
        have hrow:=RC.OA h0 h3 k4 h5 hi';rw[hcs']at hrow;refine bg.still (v':=.pointer (some ⟨b,p+j.toNat*s,none⟩)) ?_ hrep (.c hrow);simp[execOp,ho,Instr.indexAt,cp hu,hv,hkv,asIntOf,hb,run_sizeOf hi,hs',add_lit]
       ·cases hs
      ·cases hs
     ·cases hs
    ·cases hs
  ·cases ag
 ·cases ag
theorem OC{o:Oper}{t:Nat}{x k:Operand}{i:bq}{v:V}(ho:o.op= .index t x k)(ag:bf P (.index t x k)=some i)(hs:step ρ σ i=some (v,σ'))(hrep:aC w0 κ σ w)(he:b8 κ ρ a):
  bg w0 κ σ' v ((execOp a.eval o).run P w):=by
 simp only[bf]at ag;split at ag
 ·rename_i hu;obtain⟨x',k',hx,hk,rfl⟩:=iv ag;have hxr:=bO he hx;have hkr:=bO he hk;simp only[step]at hs;split at hs
  ·rename_i l q j hl hj;split at hs
   ·rename_i hb;split at hs
    ·rename_i c hc;injection hs with hs;injection hs with h1 h2;subst h1 h2;rw[hl]at hxr;rw[hj]at hkr;have hkv:=hkr.iw;have hxv:=hxr.o6;obtain⟨hlt,hc'⟩:=aL.1 hc;have bT:(bs l)[j.toNat]?=some c:=by
      rw[getElem?_pos (bs l) j.toNat (by rw[iS];exact hlt),OD];rw[hc']
     refine bg.still (v':=.int .u8 c.toNat) ?_ hrep (.c (.int _ _));simp[execOp,ho,Instr.index,cp hu,hxv,hkv,asIntOf,hb.1,bT]
    ·cases hs
   ·cases hs
  ·cases hs
 ·cases ag
theorem OE{o:Oper}{op:UnOp}{t:Nat}{x:Operand}{i:bq}{v:V}(ho:o.op= .unOp op t x)(ag:bf P (.unOp op t x)=some i)(hs:step ρ σ i=some (v,σ'))(hrep:aC w0 κ σ w)(he:b8 κ ρ a):
  bg w0 κ σ' v ((execOp a.eval o).run P w):=by
 obtain⟨y,hy,rfl⟩:=ez ag;have hr:=bO he hy;simp only[step]at hs;split at hs
 ·rename_i b hx;injection hs with hs;injection hs with h1 h2;subst h1 h2;rw[hx]at hr;exact bg.still (v':=.bool (!b)) (by simp[execOp,ho,hr.qH,Op.unary]) hrep (.c (.bool _))
 ·rename_i k n hx;injection hs with hs;injection hs with h1 h2;subst h1 h2;rw[hx]at hr;exact bg.still (v':=.int k (k.wrap (0-n))) (by simp[execOp,ho,hr.iw,Op.unary,Op.intArith]) hrep (.c (.int _ _))
 ·cases hs
theorem Ab:∀{rows:List (List C)} {l:List UInt8},nT rows=some l->∃ns:List Int,rows=ns.map (fun n=>[C.int .u8 n])/\l=ns.map (fun n=>mD n.toNat)
 |[],l,h=>by simp only[nT]at h;injection h with h;subst h;exact⟨[],rfl,rfl⟩
 |r::rows,l,h=>by
  unfold nT at h;split at h
  ·rename_i h0;cases h0
  ·rename_i n r' h0;injection h0 with h1 h2;subst h1 h2;split at h
   ·rename_i l' hl;injection h with h;subst h;obtain⟨ns,rfl,rfl⟩:=Ab hl;exact⟨n::ns,rfl,rfl⟩
   ·cases h
  ·cases h
theorem Ft:∀(ns:List Int) (s:ByteArray),(ns.foldl (fun r n=>r.push (mD n.toNat)) s).data.toList=s.data.toList++ns.map (fun n=>mD n.toNat)
 |[],s=>by simp
 |n::ns,s=>by
  rw[List.foldl_cons,Ft ns];simp[ByteArray.push]
theorem OF(hrep:aC w0 κ σ w){rows:List (List C)}{l:List UInt8}{v:Value}(h:RC κ.m (.sl rows) v)(hb:nT rows=some l):(Conv.bytesToString v).run P w= .ok (.string (bs l)) w:=by
 obtain⟨ns,rfl,rfl⟩:=Ab hb;obtain⟨s,A,cap,xs,rfl,h0,h1,h2,h3,h4,h5⟩:=h.jW;have hfin:(ns.foldl (fun r n=>r.push (mD n.toNat)) ByteArray.empty)=bs (ns.map (fun n=>mD n.toNat)):=wE (by rw[Ft];rfl);cases hns:ns with
 |nil=>
  subst hns;cases A with
  |none=>simp[Conv.bytesToString];rfl
  |some a=>
   have:=run_bytesToString (P:=P) w a 0 cap [] (by have:=run_loadCells_list (P:=P) w a [] (by simp);simpa using this);rw[show(List.map (fun n=>[C.int IntKind.u8 n]) ([]:List Int)).length=0 from rfl];rw[this];rfl
 |cons n0 ns0=>
  have hne:ns.map (fun n=>[C.int .u8 n])≠[]:=by rw[hns];simp
  have hs:s=1:=by
   have:=h0 [C.int .u8 n0] (by rw[hns];simp);simpa using this.symm
  subst hs;obtain⟨b,o,hA,hm⟩:=h4 hne;have hxs:xs=ns.map (Value.int .u8):=by
   apply List.ext_getElem (by rw[h3];simp);intro k hk hk';have hk2:k<ns.length:=by simpa using hk'
   have:=h5 k (by simpa using hk2) 0 (by simp);simp only[dN,dC,Nat.mul_one,mG]at this;rw[gP hk]at this;generalize xs[k]=u at this;cases this;simp
  have hld:=run_loadCells_list (P:=P) w ⟨b,o,none⟩ xs (fun j v hj=>by
   rw[add_lit];have hjl:=(aL.1 hj).1;have:=hm j hjl;rw[hj]at this;exact hrep.mem _ _ _ this)
  have hlen:xs.length=ns.length:=by rw[hxs];simp
  rw[hlen,hxs]at hld;have:=run_bytesToString (P:=P) w ⟨b,o,none⟩ ns.length cap ns hld;rw[hA,<-hns,bW,this,hfin]
theorem OG{o:Oper}{s t:Nat}{x:Operand}{i:bq}{v:V}(ho:o.op= .convert s t x)(ag:bf P (.convert s t x)=some i)(hs:step ρ σ i=some (v,σ'))(hrep:aC w0 κ σ w)(he:b8 κ ρ a):
  bg w0 κ σ' v ((execOp a.eval o).run P w):=by
 simp only[bf]at ag;split at ag
 ·rename_i k0 k h1 h2;obtain⟨y,hy,rfl⟩:=ez ag;have hr:=bO he hy;simp only[step]at hs;split at hs
  ·rename_i q n hx;injection hs with hs;injection hs with e1 e2;subst e1 e2;rw[hx]at hr;exact bg.still (v':=.int k (k.wrap n)) (by simp[execOp,ho,hr.iw,convert,cp h1,cp h2,Conv.intToInt]) hrep (.c (.int _ _))
  ·cases hs
 ·rename_i h1 h2;obtain⟨y,hy,rfl⟩:=ez ag;have hr:=bO he hy;simp only[step]at hs;split at hs
  ·rename_i l hx;injection hs with hs;injection hs with e1 e2;subst e1 e2;rw[hx]at hr;exact bg.still (v':=.string (bs l)) (by simp[execOp,ho,hr.o6,convert,cp h1,cp h2]) hrep (.c (.str _ hr.Fm))
  ·cases hs
 ·rename_i e h1 h2;split at ag
  ·rename_i h3;obtain⟨y,hy,rfl⟩:=ez ag;have hr:=bO he hy;simp only[step]at hs;split at hs
   ·rename_i r hx;split at hs
    ·rename_i l hl;injection hs with hs;injection hs with e1 e2;subst e1 e2;have hrc:=hr.kN hx;obtain⟨s0,A,cap,xs,hv,q0,q1,q2,_⟩:=hrc.jW;have hrun:=OF (P:=P) hrep hrc hl;have hlm:l.length<=maxLen:=by
      obtain⟨ns,rfl,rfl⟩:=Ab hl;simp only[bW]at q1⊢;omega
     rw[hv]at hrun;exact bg.still (v':=.string (bs l)) (by simp[execOp,ho,hv,run_convert_bytes_string w s t e A r.length cap h1 h3 h2,hrun]) hrep (.c (.str _ hlm))
    ·cases hs
   ·cases hs
  ·cases ag
 ·cases ag
theorem OH{o:Oper}{f:FuncId}{caps:Array Operand}{i:bq}{v:V}(ho:o.op= .makeFunc (.func f) #[] caps)(ag:bf P (.makeFunc (.func f) #[] caps)=some i)(hs:step ρ σ i=some (v,σ'))(hrep:aC w0 κ σ w)(he:b8 κ ρ a):
  bg w0 κ σ' v ((execOp a.eval o).run P w):=by
 simp only[bf]at ag;split at ag
 ·rename_i cs hcs;injection ag with ag;subst ag;simp only[step]at hs;injection hs with hs;injection hs with h1 h2;subst h1 h2;obtain⟨hl,hc⟩:=mapM_some hcs;refine bg.still (v':=.func (.func f) #[] (caps.toList.map a.eval).toArray) ?_ hrep (.fn (by simp[hl]) fun j hj=>?_)
  ·simp only[execOp,ho,Instr.makeFunc,jh,jO,jP,List.map_toArray,List.map_nil];congr 3;apply Array.ext';simp
  ·have hj1:j<cs.length:=by simpa using hj
   have hj2:j<caps.toList.length:=by omega
   rw[gP (by simpa using hj2),dN,dN];exact bO he (hc j hj2 hj1)
 ·cases ag
theorem OI{o:Oper}{ats:Array TypeId}{x y:Operand}{x' y':aj}{k k':IntKind}{m n:Int}(ho:o.op= .call {callee:=.builtin .max,args:=#[x,y],argTypes:=ats})(hx:bH x=some x')(hy:bH y=some y')
  (h1:x'.ev ρ= .c (.int k m)) (h2:y'.ev ρ= .c (.int k' n)) (hrep:aC w0 κ σ w) (he:b8 κ ρ a):bg w0 κ σ (.c (.int k (if n>m then n else m))) ((execOp a.eval o).run P w):=by
 have hxr:=bO he hx;have hyr:=bO he hy;rw[h1]at hxr;rw[h2]at hyr;exact bg.still (v':=.int k (if n>m then n else m)) (by simp[execOp,ho,resolve,invoke,builtin,hxr.iw,hyr.iw,Builtin.max_,Builtin.max2]) hrep (.c (.int _ _))
theorem OJ{o:Oper}{ats:Array TypeId}{x y:Operand}{x' y':aj}{k k':IntKind}{m n:Int}(ho:o.op= .call {callee:=.builtin .min,args:=#[x,y],argTypes:=ats})(hx:bH x=some x')(hy:bH y=some y')
  (h1:x'.ev ρ= .c (.int k m)) (h2:y'.ev ρ= .c (.int k' n)) (hrep:aC w0 κ σ w) (he:b8 κ ρ a):bg w0 κ σ (.c (.int k (if n<m then n else m))) ((execOp a.eval o).run P w):=by
 have hxr:=bO he hx;have hyr:=bO he hy;rw[h1]at hxr;rw[h2]at hyr;exact bg.still (v':=.int k (if n<m then n else m)) (by simp[execOp,ho,resolve,invoke,builtin,hxr.iw,hyr.iw,Builtin.min_,Builtin.min2]) hrep (.c (.int _ _))
theorem OK{o:Oper}{t:TypeId}{x:Operand}{i:bq}{v:V}(ho:o.op= .call {callee:=.builtin .len,args:=#[x],argTypes:=#[t]})(ag:lN P .len [x] [t]=some i)(hs:step ρ σ i=some (v,σ'))(hrep:aC w0 κ σ w)(he:b8 κ ρ a):
  bg w0 κ σ' v ((execOp a.eval o).run P w):=by
 simp only[lN]at ag;split at ag
 ·rename_i hu;obtain⟨y,hy,rfl⟩:=ez ag;have hr:=bO he hy;simp only[step]at hs;split at hs
  ·rename_i l hx;injection hs with hs;injection hs with e1 e2;subst e1 e2;rw[hx]at hr;exact bg.still (v':=.int .i64 l.length) (by simp[execOp,ho,resolve,invoke,builtin,hr.o6,EG,cp hu,goInt,iS]) hrep (.c (.int _ _))
  ·cases hs
 ·rename_i e hu;obtain⟨y,hy,rfl⟩:=ez ag;have hr:=bO he hy;simp only[step]at hs;split at hs
  ·rename_i b n hx;injection hs with hs;injection hs with e1 e2;subst e1 e2;rw[hx]at hr;generalize hva:a.eval x=va at hr;cases hr with
   |vec q0 q1 q2 q3 q4 q5=>exact bg.still (v':=.int .i64 n) (by simp[execOp,ho,resolve,invoke,builtin,hva,EG,cp hu,goInt]) hrep (.c (.int _ _))
  split at hs
  ·rename_i u hnar r hx;injection hs with hs;injection hs with e1 e2;subst e1 e2;obtain⟨s,A,cap,xs,hv,_⟩:=(hr.kN hx).jW;exact bg.still (v':=.int .i64 r.length) (by simp[execOp,ho,resolve,invoke,builtin,hv,EG,cp hu,goInt]) hrep (.c (.int _ _))
  ·cases hs
 ·rename_i kt et hu;obtain⟨y,hy,rfl⟩:=ez ag;have hr:=bO he hy;simp only[step]at hs;split at hs
  ·rename_i b hx;split at hs
   ·rename_i kvs hb;injection hs with hs;injection hs with e1 e2;subst e1 e2;rw[hx]at hr;obtain⟨hlt,hb'⟩:=aL.1 hb;have hblk:=hrep.cD b hlt;rw[hb']at hblk;obtain⟨es,clock,k1,k2,k3⟩:=hblk.row;generalize hva:a.eval x=va at hr;cases hr with
    |mp h0 h1=>
     have k4:es.size=kvs.length:=by rw[<-k2];simp
     exact bg.still (v':=.int .i64 kvs.length) (by simp[execOp,ho,resolve,invoke,builtin,hva,EG,cp hu,goInt,MapKept.run_getObj_map k1,k4,Result.andThen]) hrep (.c (.int _ _))
   ·cases hs
  ·cases hs
 ·cases ag
end
section
variable {P:Program} {w0 w w':World} {κ:K} {σ σ':H} {a:Act} {ρ:Env}
theorem o8{x:Option Operand}{y:Option aj}(h:gO x=some y):(x=none/\y=none)\/∃x' y',x=some x'/\y=some y'/\bH x'=some y':=by
 unfold gO at h;split at h
 ·injection h with h;exact .inl ⟨rfl,h.symm⟩
 ·split at h
  ·rename_i x' y' hy;injection h with h;exact .inr ⟨_,_,rfl,h.symm,hy⟩
  ·cases h
theorem Ac{y:aj}{n h:Nat}(hb:gB ρ n (some y)=some h):∃k i,y.ev ρ= .c (.int k i)/\0<=i/\i<=n/\i.toNat=h:=by
 simp only[gB]at hb;split at hb
 ·rename_i k i hi;split at hb
  ·rename_i hc;injection hb with hb;exact⟨k,i,hi,hc.1,hc.2,hb⟩
  ·cases hb
 ·cases hb
theorem OL{y:aj}{n h:Nat}(hb:jq ρ n (some y)=some h):∃k i,y.ev ρ= .c (.int k i)/\0<=i/\i<=n/\i.toNat=h:=by
 simp only[jq]at hb;split at hb
 ·rename_i k i hi;split at hb
  ·rename_i hc;injection hb with hb;exact⟨k,i,hi,hc.1,hc.2,hb⟩
  ·cases hb
 ·cases hb
theorem wF{k:IntKind}{i:Int}{y:Nat}{c:BoundsCode}(h0:0<=i)(h1:i<=y):(EH (.int k i) y c).run P w= .ok i.toNat w:=by
 simp[EH,asIntOf,h0,h1]
theorem Fu{n h:Nat}{lo:Option Operand}{lo':Option aj}{c:BoundsCode}(he:b8 κ ρ a)(ht:gO lo=some lo')(hb:jq ρ n lo'=some h):
  (match lo.map a.eval with|some v=>EH v n c|none=>pure 0:Sem Nat).run P w= .ok h w/\h<=n:=by
 rcases o8 ht with⟨rfl,rfl⟩|⟨x,y,rfl,rfl,hx⟩
 ·simp only[jq]at hb;injection hb with hb;subst hb;exact⟨rfl,bC _⟩
 ·obtain⟨k,i,hi,h0,h1,rfl⟩:=OL hb;have hr:=bO he hx;rw[hi]at hr;refine⟨?_,by omega⟩;simp only[iI,hr.iw];exact wF h0 h1
theorem OM{n cap h:Nat}{hi:Option Operand}{hi':Option aj}{c:BoundsCode}(he:b8 κ ρ a)(ht:gO hi=some hi')(hb:gB ρ n hi'=some h)(hc:n<=cap):
  (match hi.map a.eval with|some v=>EH v cap c|none=>pure n:Sem Nat).run P w= .ok h w/\h<=n:=by
 rcases o8 ht with⟨rfl,rfl⟩|⟨x,y,rfl,rfl,hx⟩
 ·simp only[gB]at hb;injection hb with hb;subst hb;exact⟨rfl,aA _⟩
 ·obtain⟨k,i,hi,h0,h1,rfl⟩:=Ac hb;have hr:=bO he hx;rw[hi]at hr;refine⟨?_,by omega⟩;simp only[iI,hr.iw];exact wF h0 (by omega)
theorem Ad{isS:Bool}{n cap h l:Nat}{lo hi:Option Operand}{lo' hi':Option aj}(he:b8 κ ρ a)(ht1:gO lo=some lo')(ht2:gO hi=some hi')(hb:gB ρ n hi'=some h)(hl:jq ρ h lo'=some l)(hc:n<=cap):
  (EI isS n cap (lo.map a.eval) (hi.map a.eval) none).run P w= .ok (l,h,cap) w/\l<=h/\h<=n:=by
 obtain⟨k1,k2⟩:=OM (P:=P) (w:=w) (c:=if isS then .sliceAcap else .sliceAlen) he ht2 hb hc;obtain⟨k3,k4⟩:=Fu (P:=P) (w:=w) (c:=.sliceB) he ht1 hl;refine⟨?_,k4,k2⟩;unfold EI;cases hhi:hi.map a.eval<;>cases hlo:lo.map a.eval<;>simp only[hhi,hlo]at k1 k3<;>simp[k1,k3]
 all_goals simp at k1 k3
 all_goals simp[*]
theorem ON{o:Oper}{t:TypeId}{x:Operand}{lo hi:Option Operand}{x':aj}{lo' hi':Option aj}{v:V}(ho:o.op= .slice t x lo hi none)(hu:P.underlying t=some .string)(hx:bH x=some x')(h1:gO lo=some lo')(h2:gO hi=some hi')
  (hs:step ρ σ (.nS x' lo' hi')=some (v,σ')) (hrep:aC w0 κ σ w) (he:b8 κ ρ a):bg w0 κ σ' v ((execOp a.eval o).run P w):=by
 have hr:=bO he hx;simp only[step]at hs;split at hs
 ·rename_i l hl;split at hs
  ·rename_i h hh;split at hs
   ·rename_i q hq;injection hs with hs;injection hs with e1 e2;subst e1 e2;rw[hl]at hr;obtain⟨k,_,_⟩:=Ad (P:=P) (w:=w) (isS:=false) (cap:=l.length) he h1 h2 hh hq (aA _);refine bg.still (v':=.string (bs ((l.drop q).take (h-q)))) ?_ hrep (.c (.str _ (bE (by simp;omega) hr.Fm)));simp[execOp,ho,EJ,cp hu,hr.o6,EK,iS,k,OO]
   ·cases hs
  ·cases hs
 ·cases hs
theorem RC.sub{m:Mem}{rows:List (List C)}{A:Option Addr}{cap s l k c:Nat}(h:RC m (.sl rows) (.slice A rows.length cap))(hs:∀cs∈rows,cs.length=s)(hl:l+k<=rows.length)(hc:k<=c)(hcm:c+l<=cap):
  RC m (.sl ((rows.drop l).take k)) (.slice (if c+l=l then A else A.map (·.add (l*s))) k c):=by
 obtain⟨s',A',cap',xs,hv,h0,h1,h2,h3,h4,h5⟩:=h.jW;injection hv with e1 _ e3;subst e1 e3;have hlen:((rows.drop l).take k).length=k:=by simp;omega
 by_cases hk:k=0
 ·subst hk;have:(rows.drop l).take 0=[]:=rfl;rw[this];exact .sl [] s _ c [] (by simp) (bC _) (by omega) (by simp) (by simp) (by simp)
 ·have ix:s'=s:=by
   have h6:0<rows.length:=by omega
   rw[<-h0 _ (bt h6),hs _ (bt h6)]
  subst ix;obtain⟨b,o,rfl,hm⟩:=h4 (by intro e;rw[e]at hl;simp at hl;omega);have hxs:((xs.drop (l*s')).take (k*s')).length=k*s':=by
   have:(l+k)*s'<=rows.length*s':=jg _ hl;rw[fo]at this;simp;omega
  have:=RC.sl (m:=m) ((rows.drop l).take k) s' (if c+l=l then some ⟨b,o,none⟩else(some (⟨b,o,none⟩:Addr)).map (·.add (l*s'))) c ((xs.drop (l*s')).take (k*s'))
   (fun r hr=>h0 r (NT (NS hr))) (by rw[hlen];exact hc) (by omega) (by rw[hlen,hxs]) (fun _=>⟨b,o+l*s',by
     rw[if_neg (by omega)];simp[add_lit],fun j hj=>by
     rw[hxs]at hj;have h6:l*s'+j<xs.length:=by
      have:(l+k)*s'<=rows.length*s':=jg _ hl;rw[fo]at this;omega
     rw[mH,if_pos hj,nJ,<-hm _ h6,ji]⟩) (fun i hi j hj=>by
     have hi':i<k:=by omega
     have e:((rows.drop l).take k)[i]=rows[l+i]'(by omega):=by rw[oQ,EE]
     have hj':j<(rows[l+i]'(by omega)).length:=by rw[<-e];exact hj
     have h7:=h5 (l+i) (by omega) j hj';have hjs:j<s':=by rw[<-h0 _ (bt (show l+i<rows.length by omega))];exact hj'
     have e2:((xs.drop (l*s')).take (k*s')).getD (i*s'+j) undef=xs.getD ((l+i)*s'+j) undef:=by
      rw[cf,cf,mH,if_pos (mul_lt hi' hjs),nJ,fo,ji]
     rw[e2];simpa[e]using h7)
  rwa [hlen]at this
theorem OP{o:Oper}{t e:TypeId}{inf:TypeInfo}{x:Operand}{lo hi mx:Option Operand}{x':aj}{lo' hi' mx':Option aj}{v:V}(ho:o.op= .slice t x lo hi mx)(hu:P.underlying t=some (.slice e))(hi0:P.info? e=some inf)(hx:bH x=some x')
  (h1:gO lo=some lo') (h2:gO hi=some hi') (h3:gO mx=some mx') (hmh:¬(mx'.isSome&&hi'.isNone)=true)
  (hs:step ρ σ (.jn inf.size x' lo' hi' mx')=some (v,σ')) (hrep:aC w0 κ σ w) (he:b8 κ ρ a):bg w0 κ σ' v ((execOp a.eval o).run P w):=by
 have hr:=bO he hx;simp only[step]at hs;split at hs
 ·rename_i b n hsub;split at hs
  ·rename_i h hh;injection hs with hs;injection hs with e1 e2;subst e1 e2;have hsub:x'.ev ρ= .vec b n/\lo'=none/\mx'=none:=by
    generalize x'.ev ρ=u at hsub;cases u<;>simp only[V.sub]at hsub<;>first|(cases hsub;done)|skip
    split at hsub
    ·injection hsub with hsub;injection hsub with e1 e2;subst e1 e2;exact⟨rfl,rfl,rfl⟩
    ·cases hsub
   obtain⟨hx',rfl,rfl⟩:=hsub;have hmx:mx=none:=by
    rcases o8 h3 with⟨h,_⟩|⟨_,_,_,h,_⟩
    ·exact h
    ·cases h
   subst hmx;have hlo:lo=none:=by
    rcases o8 h1 with⟨h,_⟩|⟨_,_,_,h,_⟩
    ·exact h
    ·cases h
   subst hlo;rw[hx']at hr;generalize hva:a.eval x=va at hr;cases hr with
   |vec q0 q1 q2 q3 q4 q5=>
    rename_i n0 cap;obtain⟨k,k1,k2⟩:=Ad (P:=P) (w:=w) (isS:=true) (cap:=cap) (l:=0) he h1 h2 hh rfl (by omega);simp only[Option.map_none]at k;refine bg.still (v':=_) ?_ hrep (RV.vec q0 q1 q2 (k:=h) (by omega) q4 q5);simp[execOp,ho,EJ,cp hu,hva,EK,k,run_sizeOf hi0,add_lit]
  ·cases hs
 split at hs
 ·rename_i r hrows;split at hs
  ·rename_i hsz;split at hs
   ·rename_i h hh;split at hs
    ·rename_i q hq;have hrc:=hr.kN hrows;obtain⟨s,A,cap,xs,hv,_,hcap,_⟩:=hrc.jW;rw[hv]at hrc;split at hs
     ·injection hs with hs;injection hs with e1 e2;subst e1 e2;have hmx:mx=none:=by
       rcases o8 h3 with⟨h,_⟩|⟨_,_,_,h,_⟩
       ·exact h
       ·cases h
      subst hmx;obtain⟨k,k1,k2⟩:=Ad (P:=P) (w:=w) (isS:=true) (cap:=cap) he h1 h2 hh hq hcap;have hsub:=hrc.sub (s:=inf.size) (l:=q) (k:=h-q) (c:=cap-q) hsz (by omega) (by omega) (by omega);rw[show cap-q+q=cap from by omega]at hsub;refine bg.still (v':=_) ?_ hrep (.c hsub);simp[execOp,ho,EJ,cp hu,hv,EK,k,run_sizeOf hi0]
     ·rename_i m;split at hs
      ·rename_i m' hm';split at hs
       ·rename_i hmeq;injection hs with hs;injection hs with e1 e2;subst e1 e2;subst hmeq;rcases o8 h3 with⟨_,h⟩|⟨xm,ym,rfl,hym,hxm⟩
        ·cases h
        injection hym with hym;subst hym;rcases o8 h2 with⟨_,rfl⟩|⟨xh,yh,rfl,rfl,hxh⟩
        ·simp at hmh
        obtain⟨km,im,him,m0,m1,m2⟩:=Ac hm';obtain⟨kh,ih,hih,n0,n1,n2⟩:=Ac hh;have hmr:=bO he hxm;rw[him]at hmr;have hhr:=bO he hxh;rw[hih]at hhr;obtain⟨k3,k4⟩:=Fu (P:=P) (w:=w) (c:=.slice3C) he h1 hq;have b1:=wF (P:=P) (w:=w) (k:=km) (i:=im) (y:=cap) (c:=.slice3Acap) m0 (by omega);have b2:=wF (P:=P) (w:=w) (k:=kh) (i:=ih) (y:=im.toNat) (c:=.slice3B) n0 (by omega);rw[m2]at b1 b2;rw[n2]at b2;have hb:(EI true r.length cap (lo.map a.eval) (some (.int kh ih)) (some (.int km im))).run P w= .ok (q,m',m') w:=by
         unfold EI;cases hlo:lo.map a.eval<;>simp only[hlo]at k3<;>simp[b1,b2]
         ·simp at k3;simp[k3]
         ·simp[k3]
        have hsub:=hrc.sub (s:=inf.size) (l:=q) (k:=m'-q) (c:=m'-q) hsz (by omega) (by omega) (by omega);rw[show m'-q+q=m' from by omega]at hsub;have hlen:((r.drop q).take (m'-q)).length=m'-q:=by simp;omega
        have hcs:=RV.ab (κ:=κ) (rows:=(r.drop q).take (m'-q)) (A:=if m'=q then A else A.map (·.add (q*inf.size))) (by rw[hlen];exact hsub);rw[hlen]at hcs;refine bg.still (v':=_) ?_ hrep hcs;simp[execOp,ho,EJ,cp hu,hv,EK,hmr.iw,hhr.iw,hb,run_sizeOf hi0]
       ·cases hs
      ·cases hs
    ·cases hs
   ·cases hs
  ·cases hs
 ·cases hs
theorem Fv{o:Oper}{op:BinOp}{t t':Nat}{x y:Operand}{x' y':aj}{v:V}(ho:o.op= .binOp op t x y t')(hx:bH x=some x')(hy:bH y=some y')(hs:step ρ σ (.bin op x' y')=some (v,σ'))(hrep:aC w0 κ σ w)(he:b8 κ ρ a):
  bg w0 κ σ' v ((execOp a.eval o).run P w):=by
 have hxr:=bO he hx;have hyr:=bO he hy;simp only[step]at hs;split at hs
 ·rename_i u hb;injection hs with hs;injection hs with e1 e2;subst e1 e2;unfold wx at hb;split at hb
  ·rename_i k m k' n h1 h2;rw[h1]at hxr;rw[h2]at hyr;have hxv:=hxr.iw;have hyv:=hyr.iw;split at hb
   ·rename_i hk;subst hk;have g:∀u,(eqGuard op t x y (.int k m) (.int k n)).run P u= .ok () u:=fun u=>by unfold eqGuard;split<;>simp
    cases op<;>simp only[zV]at hb
    case quo|rem=>
     split at hb
     ·cases hb
     ·rename_i hn;simp only[iI,zC]at hb;subst hb;refine bg.still (v':=_) ?_ hrep (.c (.int _ _));simp[execOp,ho,hxv,hyv,g,binOp,Op.intDiv,hn]
    case add|sub|mul=>
     simp only[iI,zC]at hb;subst hb;refine bg.still (v':=_) ?_ hrep (.c (.int _ _));simp[execOp,ho,hxv,hyv,g,binOp,Op.intArith]
    case eql|neq|lss|leq|gtr|geq=>
     simp only[iI,zC]at hb;subst hb;refine bg.still (v':=_) ?_ hrep (.c (.bool _));simp[execOp,ho,hxv,hyv,g,binOp,Op.intCmp]
    all_goals cases hb
   ·cases hb
  ·rename_i l r h1 h2;rw[h1]at hxr;rw[h2]at hyr;have hxv:=hxr.o6;have hyv:=hyr.o6;have g:∀u,(eqGuard op t x y (.string (bs l)) (.string (bs r))).run P u= .ok () u:=fun u=>by unfold eqGuard;split<;>simp
   cases op<;>simp only[zW]at hb
   case add=>
    split at hb
    ·rename_i hle;simp only[iI,zC]at hb;subst hb;refine bg.still (v':=.string (bs (l++r))) ?_ hrep (.c (.str _ (by unfold maxLen;simp;omega)));have hmax:((l.length:Int)+(r.length:Int))<=9223372036854775807:=by omega
     simp[execOp,ho,hxv,hyv,g,binOp,Op.stringOp,iS,hmax,OQ]
    ·cases hb
   case eql|neq|lss=>
    simp only[iI,zC]at hb;subst hb;refine bg.still (v':=_) ?_ hrep (.c (.bool _));simp[execOp,ho,hxv,hyv,g,binOp,Op.stringOp,Ae]
   all_goals cases hb
  ·cases hb
 ·cases hs
theorem run_equalIn_bool{t:Nat}(d:Nat)(p q:Bool)(hu:P.underlying t=some .bool):(gw (d+1) t (.bool p) (.bool q)).run P w= .ok (p==q) w:=by
 simp[gw,cp hu]
theorem Fw{o:Oper}{op:BinOp}{t t':Nat}{x y:Operand}{x' y':aj}{v:V}{neg:Bool}(ho:o.op= .binOp op t x y t')(hu:P.underlying t=some .bool)(hop:op=if neg then .neq else .eql)(hx:bH x=some x')(hy:bH y=some y')
  (hs:step ρ σ (.oY neg x' y')=some (v,σ')) (hrep:aC w0 κ σ w) (he:b8 κ ρ a):bg w0 κ σ' v ((execOp a.eval o).run P w):=by
 have hxr:=bO he hx;have hyr:=bO he hy;simp only[step]at hs;split at hs
 ·rename_i p q h1 h2;injection hs with hs;injection hs with e1 e2;subst e1 e2;rw[h1]at hxr;rw[h2]at hyr;have hxv:=hxr.qH;have hyv:=hyr.qH;have g:∀u,(eqGuard op t x y (.bool p) (.bool q)).run P u= .ok () u:=fun u=>by unfold eqGuard;split<;>simp
  have q1:(Op.equal t (.bool p) (.bool q)).run P w= .ok (p==q) w:=run_equalIn_bool 9999 p q hu;refine bg.still (v':=.bool (if neg then !(p==q)else p==q)) ?_ hrep (.c (.bool _));cases neg
  ·simp only[fe,if_false]at hop;subst hop;simp only[execOp,ho,hxv,hyv,jh,g,jP,binOp,q1,jO,fe,if_false]
  ·simp only[if_true]at hop;subst hop;simp only[execOp,ho,hxv,hyv,jh,g,jP,binOp,q1,jO,if_true]
 ·cases hs
end
end Go.Lamb
