/- . -/
import Derived.Test.YtdlkenpilhakfaaGreatDoorQJ11
import Derived.Laws.StructEq
import Derived.Laws.Tables
import Derived.MapKept
import Derived.Deep.LoopGhost
import Derived.Orders
set_option linter.unusedSimpArgs false
set_option linter.unusedVariables false
set_option maxHeartbeats 8000000
set_option maxRecDepth 20000
open Array renaming ext'->nM,getD_eq_getD_getElem?->ik,getElem?_eq_some_iff->dR,length_toList->Of,replicate->fa
open Bool renaming false_eq_true->e9
open Go renaming heap_alloc_new->kN,run_underlying->cr
open Go.Builtin renaming append_->nN,firstCells->wg,lenOf->Oe,nextslicecap->aaa,zeroCells->qt
open Go.Instr renaming fill->qv,findNow->wh,lookup->Fa,mapUpdate->Fe
open Go.MapKept renaming run_checkKey->Fb,run_findKey->Fc,run_getObj_map->zO,run_setObj_map->aac
open Go.Op renaming equalIn->gx
open Go.Region renaming binds->fD,ready->eH
open Go.Result renaming andThen->lI,andThen_ok->jU
open Go.RowKit.Below renaming refl->ep
open Go.Sem renaming run_bind->jj,run_pure->jT
open Go.World renaming cell?_of_block->wa
open List renaming all_cons->jl,append_assoc->dc,eq_nil_of_length_eq_zero->fA,flatten_cons->dU,getD_eq_getElem?_getD->cc,getElem?_append_left->cF,getElem?_append_right->cY,getElem?_eq_getElem->aR,getElem?_eq_some_iff->aK,getElem?_take->lH,getElem_append_left->cC,getElem_append_right->dJ,getElem_cons_zero->dq,getElem_mem->bw,getElem_set_ne->fz,getElem_set_self->gw,length_append->bt,length_cons->bo,length_pos_iff->jV,length_take->eu,map_cons->cE,mem_append->cH,mem_cons->cD,nil_append->er,range->dI,size_toArray->oV,take_left->mT
open Nat renaming add_assoc->jk,add_mul->fi,add_zero->mS,div_lt_iff_lt_mul->aab,le_refl->aA,le_trans->bB,lt_or_ge->dS,mul_le_mul_right->iN,sub_self->ck,zero_add->eF
open Ne renaming symm->di
namespace Go.Lamb
open Go Go.RowKit
section
variable {P:Program} {w0 w w':World} {κ:K} {σ σ':H} {a:Act} {ρ:Env}
theorem Ap{k:Nat}{op:BinOp}{x:Operand}{i:bh}(h:nW k op x=some i):∃neg y,op=(if neg then .neq else .eql)/\bF x=some y/\i= .lQ neg k y:=by
 unfold nW at h;split at h
 ·obtain⟨y,hy,rfl⟩:=eA h;exact⟨false,y,rfl,hy,rfl⟩
 ·obtain⟨y,hy,rfl⟩:=eA h;exact⟨true,y,rfl,hy,rfl⟩
 ·cases h
theorem pb{o:Oper}{op:BinOp}{t t':Nat}{x y:Operand}{neg p:Bool}{u v:Value}(ho:o.op= .binOp op t x y t')(hop:op=if neg then .neq else .eql)(hu:a.eval x=u)(hv:a.eval y=v)
  (hg:(eqGuard op t x y u v).run P w= .ok () w) (hq:(Op.equal t u v).run P w= .ok p w) (hb:∀op,(op= .eql->binOp op t u v=(do pure (.bool (<-Op.equal t u v))))/\(op= .neq->binOp op t u v=(do pure (.bool (!(<-Op.equal t u v)))))):
  (execOp a.eval o).run P w= .ok (.value (.bool (if neg then !p else p))) w:=by
 cases neg
 ·simp only[e9,if_false]at hop;subst hop;simp only[execOp,ho,hu,hv,jj,hg,jU,(hb _).1 rfl,hq,jT,e9,if_false]
 ·simp only[if_true]at hop;subst hop;simp only[execOp,ho,hu,hv,jj,hg,jU,(hb _).2 rfl,hq,jT,if_true]
theorem Aq{o:Oper}{op:BinOp}{t t':Nat}{x y:Operand}{i:bh}{v:V}(ho:o.op= .binOp op t x y t')(hs:step ρ σ i=some (v,σ'))(hrep:aB w0 κ σ w)(he:b8 κ ρ a)
  {neg:Bool} {k:Nat} {x':ai} (hop:op=if neg then .neq else .eql) (hx:bF x=some x') (hi:i= .lQ neg k x')
  (hk:(k=0/\y= .const (.pointer none)/\∃e,P.underlying t=some (.pointer e))\/(k=1/\y= .const .nilIface/\∃ms,P.underlying t=some (.interface ms))\/(k=2/\y= .const .nilFunc/\∃p q r,P.underlying t=some (.func p q r))):
  bf w0 κ σ' v ((execOp a.eval o).run P w):=by
 have hxr:=bO he hx;subst hi;simp only[step]at hs;split at hs
 ·rename_i p hp;injection hs with hs;injection hs with e1 e2;subst e1 e2;refine bf.still (v':=.bool (if neg then !p else p)) ?_ hrep (.c (.bool _));rcases hk with⟨rfl,rfl,e,hu⟩|⟨rfl,rfl,ms,hu⟩|⟨rfl,rfl,q1,q2,q3,hu⟩
  ·have key:∀A:Option Addr,a.eval x= .pointer A->A.isNone=p->(execOp a.eval o).run P w= .ok (.value (.bool (if neg then !p else p))) w:=by
    intro A hA hp;refine pb ho hop hA (v:=.pointer none) rfl ?_ ?_ (fun op=>⟨fun h=>by subst h;rfl,fun h=>by subst h;rfl⟩)
    ·unfold eqGuard;split<;>simp
    ·have:∀d,(gx (d+1) t (.pointer A) (.pointer none)).run P w= .ok A.isNone w:=fun d=>by cases A<;>simp[gx,cr hu]
     rw[<-hp];exact this 9999
   cases hxe:x'.ev ρ with
   |c z=>
    rw[hxe]at hxr hp;generalize hxv:a.eval x=u at hxr;cases hxr with
    |c hz=>
     cases hz<;>simp only[V.isNil]at hp<;>first|(cases hp;done)|(injection hp with hp;subst hp)
     ·exact key none hxv rfl
     ·exact key _ hxv rfl
   |ptr b o=>
    rw[hxe]at hxr hp;simp only[V.isNil]at hp;injection hp with hp;subst hp;cases hxv:a.eval x with
    |pointer A=>rw[hxv]at hxr;cases hxr;exact key _ hxv rfl
    |_=>rw[hxv]at hxr;cases hxr
   |_=>rw[hxe]at hp;cases hp
  ·have hg:∀u,(eqGuard op t x (.const .nilIface) u .nilIface).run P w= .ok () w:=fun u=>by
    unfold eqGuard;split<;>cases u<;>simp
   cases hxe:x'.ev ρ with
   |c z=>
    rw[hxe]at hxr hp;cases hxv:a.eval x with
    |nilIface=>
     rw[hxv]at hxr;cases hxr with
     |c hz=>
      cases hz;simp only[V.isNil]at hp;injection hp with hp;subst hp;refine pb ho hop hxv (v:=.nilIface) rfl (hg _) ?_ (fun op=>⟨fun h=>by subst h;rfl,fun h=>by subst h;rfl⟩);have:∀d,(gx (d+1) t .nilIface .nilIface).run P w= .ok true w:=fun d=>by simp[gx,cr hu]
      exact this 9999
    |iface T u=>
     rw[hxv]at hxr;cases hxr with
     |c hz=>
      cases hz;simp only[V.isNil]at hp;injection hp with hp;subst hp;refine pb ho hop hxv (v:=.nilIface) rfl (hg _) ?_ (fun op=>⟨fun h=>by subst h;rfl,fun h=>by subst h;rfl⟩);have:∀d,(gx (d+1) t (.iface T u) .nilIface).run P w= .ok false w:=fun d=>by simp[gx,cr hu]
      exact this 9999
    |_=>rw[hxv]at hxr;cases hxr with|c hz=>cases hz<;>cases hp
   |_=>rw[hxe]at hp;cases hp
  ·have hg:∀u,(∀q,u≠ .agg q)->u≠ .nilIface->(eqGuard op t x (.const .nilFunc) u .nilFunc).run P w= .ok () w:=fun u h1 h2=>by
    unfold eqGuard;split<;>cases u<;>simp
   cases hxe:x'.ev ρ with
   |cj=>
    rw[hxe]at hxr hp;simp only[V.isNil]at hp;injection hp with hp;subst hp;cases hxv:a.eval x with
    |nilFunc=>
     refine pb ho hop hxv (v:=.nilFunc) rfl (hg _ (by simp) (by simp)) ?_ (fun op=>⟨fun h=>by subst h;rfl,fun h=>by subst h;rfl⟩);have:∀d,(gx (d+1) t .nilFunc .nilFunc).run P w= .ok true w:=fun d=>by simp[gx,cr hu]
     exact this 9999
    |_=>rw[hxv]at hxr;cases hxr
   |fn f caps=>
    rw[hxe]at hxr hp;simp only[V.isNil]at hp;injection hp with hp;subst hp;cases hxv:a.eval x with
    |func f1 f2 f3=>
     refine pb ho hop hxv (v:=.nilFunc) rfl (hg _ (by simp) (by simp)) ?_ (fun op=>⟨fun h=>by subst h;rfl,fun h=>by subst h;rfl⟩);have:∀d,(gx (d+1) t (.func f1 f2 f3) .nilFunc).run P w= .ok false w:=fun d=>by simp[gx,cr hu]
     exact this 9999
    |_=>rw[hxv]at hxr;cases hxr
   |_=>rw[hxe]at hp;cases hp
 ·cases hs
theorem FU(l r:List UInt8):(bs l==bs r)=(l==r):=by rw[beq_toListBytes,Ao,Ao]
theorem Pa{x y:C}{u v:Value}{m:Mem}{p:Bool}{t k:Nat}{dd:TypeDesc}(d:Nat)(hx:RC m x u)(hy:RC m y v)(hp:qL k x y=some p)(hu:P.underlying t=some dd)(hk:wC dd=some k):
  (gx (d+1) t u v).run P w= .ok p w:=by
 cases dd<;>simp only[wC]at hk<;>try (cases hk;done)
 ·injection hk with hk;subst hk;cases x<;>cases y<;>simp only[qL]at hp<;>first|(cases hp;done)|(injection hp with hp;subst hp)
  cases hx;cases hy;simp[gx,cr hu]
 ·injection hk with hk;subst hk;cases x<;>cases y<;>simp only[qL]at hp<;>try (cases hp;done)
  split at hp
  ·rename_i hq;subst hq;injection hp with hp;subst hp;cases hx;cases hy;simp[gx,cr hu]
  ·cases hp
 ·injection hk with hk;subst hk;cases x<;>cases y<;>simp only[qL]at hp<;>first|(cases hp;done)|(injection hp with hp;subst hp)
  cases hx;cases hy;simp[gx,cr hu,FU]
theorem FV{xs ys:List Value}(d:Nat):∀(fs:List Field) (n:Nat) (ks:List Nat) (l r:List V) (p:Bool),qP P n fs=some ks->kW ks l r=some p->
  (∀j (hj:j<l.length),∃v,xs[n+j]?=some v/\RV κ l[j] v)->(∀j (hj:j<r.length),∃v,ys[n+j]?=some v/\RV κ r[j] v)->
  (Op.eqFields (d+1) xs.toArray ys.toArray fs).run P w= .ok p w
 |[],n,ks,l,r,p,hb,hp,_,_=>by
  simp only[qP]at hb;injection hb with hb;subst hb;unfold kW at hp;split at hp
  ·injection hp with hp;subst hp;rfl
  ·rename_i h _ _;cases h
  ·cases hp
 |f::fs,n,ks,l,r,p,hb,hp,hl,hr=>by
  simp only[qP]at hb;split at hb
  ·rename_i hf;split at hb
   ·rename_i dd hu;split at hb
    ·rename_i q rest hq hrest;injection hb with hb;subst hb;cases l with
     |nil=>simp[kW]at hp
     |cons a0 l'=>
     cases r with
     |nil=>cases a0<;>simp[kW]at hp
     |cons b0 r'=>
     cases a0 with
     |c x=>
      cases b0 with
      |c y=>
      simp only[kW]at hp;split at hp
      ·rename_i b1 b2 hb1 hb2;injection hp with hp;subst hp;obtain⟨u,hu1,hu2⟩:=hl 0 (by simp);obtain⟨v,hv1,hv2⟩:=hr 0 (by simp);simp only[dq]at hu2 hv2;cases hu2 with
       |c hu2=>
        cases hv2 with
        |c hv2=>
         have e1:=Pa (P:=P) (w:=w) d hu2 hv2 hb1 hu hq;have hg:ju dd=false:=by cases dd<;>simp[wC,ju]at hq⊢
         have pu:(part f.type xs.toArray f.offset).run P w= .ok u w:=by
          rw[hf.1];simp at hu1;simp[part,nX hu,hg,hu1]
         have pv:(part f.type ys.toArray f.offset).run P w= .ok v w:=by
          rw[hf.1];simp at hv1;simp[part,nX hu,hg,hv1]
         have ih:=FV d fs (n+1) rest l' r' b2 hrest hb2 (fun j hj=>by
          have:=hl (j+1) (by simpa using hj);rwa [show n+(j+1)=n+1+j from by omega]at this) (fun j hj=>by
          have:=hr (j+1) (by simpa using hj);rwa [show n+(j+1)=n+1+j from by omega]at this)
         unfold Op.eqFields;rw[if_pos hf.2];cases b1
         ·simp[pu,pv,e1]
         ·simp[pu,pv,e1,ih]
      ·cases hp
      |_=>simp[kW]at hp
     |_=>simp[kW]at hp
    ·cases hb
   ·cases hb
  ·cases hb
theorem FW{o:Oper}{op:BinOp}{t t':Nat}{x y:Operand}{x' y':ai}{v:V}{neg:Bool}{ks:List Nat}{fields:Array Field}(ho:o.op= .binOp op t x y t')(hu:P.underlying t=some (.struct fields))(hks:qP P 0 fields.toList=some ks)
  (hg:P.stoodInHeld t=false) (hm:P.eqGuardType P.depth t=false) (hop:op=if neg then .neq else .eql) (hx:bF x=some x') (hy:bF y=some y')
  (hs:step ρ σ (.eqs neg ks x' y')=some (v,σ')) (hrep:aB w0 κ σ w) (he:b8 κ ρ a):bf w0 κ σ' v ((execOp a.eval o).run P w):=by
 have hxr:=bO he hx;have hyr:=bO he hy;simp only[step]at hs;split at hs
 ·rename_i xs ys h1 h2;split at hs
  ·rename_i p hp;injection hs with hs;injection hs with e1 e2;subst e1 e2;rw[h1]at hxr;rw[h2]at hyr;obtain⟨us,hxv,hxf⟩:=hxr.wH;obtain⟨vs,hyv,hyf⟩:=hyr.wH;have hfo:P.fieldsOf t=fields:=by unfold Program.fieldsOf;rw[hu]
   have q:(Op.equal t (.agg us.toArray) (.agg vs.toArray)).run P w= .ok p w:=by
    have:=run_equalIn_struct (P:=P) w 9999 t us.toArray vs.toArray (by rw[hfo];exact hu) hg;rw[hfo,FV (κ:=κ) 9998 fields.toList 0 ks xs ys p hks hp (fun j hj=>by simpa using hxf.at_ (aR hj)) (fun j hj=>by simpa using hyf.at_ (aR hj))]at this;exact this
   exact bf.still (v':=.bool (if neg then !p else p)) (pb ho hop hxv hyv (run_eqGuard_agg w op t x y _ _ hm) q (fun op=>⟨fun h=>by subst h;rfl,fun h=>by subst h;rfl⟩)) hrep (.c (.bool _))
  ·cases hs
 ·cases hs
end
section
variable {P:Program} {w0 w w':World} {κ:K} {σ σ':H} {a:Act} {ρ:Env}
theorem FX(off:Nat):∀(us:List Value) (k:Nat) (arr:Array Value),off+k+us.length<=arr.size->
  (us.zipIdx k).foldl (fun cs (x:Value×Nat)=>cs.setIfInBounds (off+x.2) x.1) arr=(arr.toList.take (off+k)++us++arr.toList.drop (off+k+us.length)).toArray
 |[],k,arr,_=>by simp
 |u::us,k,arr,h=>by
  simp only[List.zipIdx_cons,List.foldl_cons];have h':off+(k+1)+us.length<=(arr.setIfInBounds (off+k) u).size:=by simp at h⊢;omega
  rw[FX off us (k+1) _ h'];congr 1;have e:=list_seg_step arr.toList (off+k) u us (by simp at h⊢;omega);simpa[Array.toList_setIfInBounds,jk]using e
theorem FY{place:Nat->Option (Nat×Nat)}{i off size:Nat}{v:Value}{arr:Array Value}{rest:List (Nat×Value)}(hp:place i=some (off,size))(hv:v.cells.size=size)(hle:off+size<=arr.size):
  qv place arr ((i,v)::rest)=qv place (arr.toList.take off++v.cells.toList++arr.toList.drop (off+v.cells.toList.length)).toArray rest:=by
 have:=FX off v.cells.toList 0 arr (by simp;omega);simp only[mS]at this;rw[qv,hp];simp only
 rw[if_neg (by simp;omega),<-this];congr 1;rw[<-Array.foldl_toList,Array.toList_zipIdx]
theorem FZ{pl:List (Nat×Nat)}(he:b8 κ ρ a):∀{parts:List (Nat×Operand)} {ps:List (Nat×Nat×ai)},qO pl parts=some ps->∀{cs cs':List V} {xs:List Value},Fits κ cs xs->kV ρ cs ps=some cs'->
  ∃xs',qv (pl.toArray[·]?) xs.toArray (parts.map fun(i,x)=>(i,a.eval x))=some xs'.toArray/\Fits κ cs' xs'
 |[],ps,h,cs,cs',xs,hf,hfill=>by
  simp only[qO]at h;injection h with h;subst h;simp only[kV]at hfill;injection hfill with hfill;subst hfill;exact⟨xs,rfl,hf⟩
 |(i,x)::parts,ps,h,cs,cs',xs,hf,hfill=>by
  simp only[qO]at h;split at h
  ·rename_i off size y r hpl hy hr;injection h with h;subst h;simp only[kV]at hfill;split at hfill
   ·rename_i hc;obtain⟨c0,c1,c2⟩:=hc;have hyc:=o7 (bO he hy) c0;have hsp:=hf.FO (ys:=(y.ev ρ).ah) (us:=(a.eval x).cells.toList) hyc (o:=off) (by omega);rw[c1]at hsp;obtain⟨xs',h1,h2⟩:=FZ he hr hsp hfill;refine⟨xs',?_,h2⟩;simp only[cE];have hs:(a.eval x).cells.size=size:=by have:=hyc.1;simp at this;omega
    rw[FY (off:=off) (size:=size) (by simpa using hpl) hs (by simp[hf.1];omega)];exact h1
   ·cases hfill
  ·cases h
theorem F0{P:Program}:∀{l:List Field} {pl:List (Nat×Nat)},qN P l=some pl->l.mapM (fun f=>(P.info? f.type).map fun i=>(f.offset,i.size))=some pl
 |[],pl,h=>by simp only[qN]at h;injection h with h;subst h;rfl
 |f::l,pl,h=>by
  simp only[qN]at h;split at h
  ·rename_i s r hs hr;injection h with h;subst h;have ih:=F0 hr;unfold bR at hs;cases hi:P.info? f.type with
   |none=>rw[hi]at hs;cases hs
   |some i=>
    rw[hi]at hs;have hs:i.size=s:=by simpa using hs
    simp[List.mapM_cons,hi,ih,hs]
  ·cases h
theorem Pb{z:V}{zv:Value}(h:qM zv=some z)(hl:leaves z.ah=true):Fits κ z.ah zv.cells.toList:=o7 (wF h) hl
theorem Pc{o:Oper}{t:Nat}{parts:Array (Nat×Operand)}{fields:Array Field}{z:V}{pl:List (Nat×Nat)}{ps:List (Nat×Nat×ai)}{cs:List V}(ho:o.op= .build t parts)(hu:P.underlying t=some (.struct fields))(hz:lS P t=some z)
  (hl:leaves z.ah=true) (hpl:qN P fields.toList=some pl) (hps:qO pl parts.toList=some ps) (hf:kV ρ z.ah ps=some cs) (hrep:aB w0 κ σ w) (he:b8 κ ρ a):bf w0 κ σ (.agg cs) ((execOp a.eval o).run P w):=by
 unfold lS at hz;cases hi:P.info? t with
 |none=>rw[hi]at hz;cases hz
 |some i=>
  rw[hi]at hz;simp only at hz;cases hzz:i.zero with
  |none=>rw[hzz]at hz;cases hz
  |some zv=>
   rw[hzz]at hz;simp only at hz;obtain⟨xs,h1,h2⟩:=FZ he hps (Pb (κ:=κ) hz hl) hf;have hb:P.built t (parts.map fun(i,x)=>(i,a.eval x)).toList=some xs.toArray:=by
    unfold Program.built;simp only[hi,hu,hzz,F0 hpl];simpa using h1
   exact bf.still (v':=.agg xs.toArray) (by simp only[execOp,ho,jj,run_build w t _ _ hb,jU,jT]) hrep (.agg h2.1 h2.2)
theorem Ar{α:Type}{s:Nat}:∀(l:List (List α)) (i j:Nat),(∀r∈l,r.length=s)->j<s->l.flatten[i*s+j]?=(l[i]?).bind (·[j]?)
 |[],i,j,_,_=>by simp
 |x::l,0,j,h,hj=>by
  have hx:=h x (by simp);simp only[dU,Nat.zero_mul,eF,List.getElem?_cons_zero,Option.bind_some];rw[cF (by omega)]
 |x::l,i+1,j,h,hj=>by
  have hx:=h x (by simp);simp only[dU,List.getElem?_cons_succ];rw[cY (by rw[hx,fi];omega),hx,show(i+1)*s+j-s=i*s+j from by rw[fi];omega];exact Ar l i j (fun r hr=>h r (by simp[hr])) hj
theorem sZ{α:Type}{s:Nat}:∀(l:List (List α)),(∀r∈l,r.length=s)->l.flatten.length=l.length*s
 |[],_=>by simp
 |x::l,h=>by
  simp only[dU,bt,bo,h x (by simp),sZ l (fun r hr=>h r (by simp[hr])),fi];omega
theorem s7:∀{l:List V} {r:List C},fq l=some r->r.length=l.length/\leaves l=true/\∀j (hj:j<l.length) (hj':j<r.length),l[j].fW=some r[j]
 |[],r,h=>by simp only[fq]at h;injection h with h;subst h;exact⟨rfl,rfl,fun j hj=>by simp at hj⟩
 |x::l,r,h=>by
  simp only[fq]at h;split at h
  ·rename_i y r' hy hr;injection h with h;subst h;obtain⟨h1,h2,h3⟩:=s7 hr;refine⟨by simp[h1],?_,fun j hj hj'=>?_⟩
   ·unfold leaves at*
    simp only[jl,h2,Bool.and_true];cases x<;>simp only[V.fW]at hy<;>first|(cases hy;done)|rfl
   ·cases j with
    |zero=>exact hy
    |succ j=>exact h3 j (by simpa using hj) (by simpa using hj')
  ·cases h
def wK(m:Mem)(l:List C)(xs:List Value):Prop:=xs.length=l.length/\∀j (hj:j<l.length),RC m l[j] (xs.getD j undef)
theorem Fits.fW{l:List V}{r:List C}{xs:List Value}(h:Fits κ l xs)(hr:fq l=some r):wK κ.m r xs:=by
 obtain⟨h1,_,h3⟩:=s7 hr;exact⟨by rw[h.1,h1],fun j hj=>(h.2 j (by omega)).fW (h3 j (by omega) hj)⟩
theorem F4{size:Nat}(he:b8 κ ρ a):∀{k:Nat} {parts:List (Nat×Operand)} {ps:List ai} {rows:List (List C)},nd k parts=some ps->iW ρ size ps=some rows->
  ∃uss:List (List Value),uss.length=rows.length/\(∀i (hi:i<rows.length) (hi':i<uss.length),wK κ.m rows[i] uss[i])/\(∀r∈rows,r.length=size)/\(∀r∈uss,r.length=size)/\(∀u∈uss.flatten,u.oneCell'=true)/\
   ∀arr:Array Value,(k+rows.length)*size<=arr.size->qv (fun i=>some (i*size,size)) arr (parts.map fun(i,x)=>(i,a.eval x))=some (arr.toList.take (k*size)++uss.flatten++arr.toList.drop ((k+rows.length)*size)).toArray
 |k,[],ps,rows,h,hr=>by
  simp only[nd]at h;injection h with h;subst h;simp only[iW]at hr;injection hr with hr;subst hr;exact⟨[],rfl,fun i hi=>by simp at hi,by simp,by simp,by simp,fun arr _=>by simp[qv]⟩
 |k,(i,x)::parts,ps,rows,h,hr=>by
  simp only[nd]at h;split at h
  ·rename_i hik;subst hik;split at h
   ·rename_i y r hy hrest;injection h with h;subst h;simp only[iW]at hr;split at hr
    ·rename_i row rows' hrow hrows;split at hr
     ·rename_i hlen;injection hr with hr;subst hr;obtain⟨uss,q1,q2,q3,q4,q6,q5⟩:=F4 he hrest hrows;obtain⟨t1,t2,t3⟩:=s7 hrow;have hyc:=o7 (bO he hy) t2;have hfc:wK κ.m row (a.eval x).cells.toList:=Fits.fW (l:=(y.ev ρ).ah) hyc hrow;have hcl:(a.eval x).cells.toList.length=size:=by rw[hfc.1,hlen]
      refine⟨(a.eval x).cells.toList::uss,by simp[q1],fun j hj hj'=>?_,fun r hr=>?_,fun r hr=>?_,fun u hu=>?_,fun arr harr=>?_⟩
      ·cases j with
       |zero=>exact hfc
       |succ j=>exact q2 j (by simpa using hj) (by simpa using hj')
      ·rcases cD.1 hr with rfl|hr
       ·exact hlen
       ·exact q3 r hr
      ·rcases cD.1 hr with rfl|hr
       ·exact hcl
       ·exact q4 r hr
      ·simp only[dU,cH]at hu;rcases hu with hu|hu
       ·exact Ak t2 hyc.2 hyc.1 u hu
       ·exact q6 u hu
      ·simp only[cE,bo]at harr⊢;have e1:(i+(rows'.length+1))*size=i*size+size+rows'.length*size:=by rw[show i+(rows'.length+1)=i+1+rows'.length from by omega,fi,fi];omega
       have e2:(i+1)*size=i*size+size:=by rw[fi];omega
       have e3:(i+1+rows'.length)*size=i*size+size+rows'.length*size:=by rw[fi,e2]
       rw[e1]at harr⊢;rw[FY (off:=i*size) (size:=size) rfl (by simpa using hcl) (by omega)];have hsz:(arr.toList.take (i*size)++(a.eval x).cells.toList++arr.toList.drop (i*size+(a.eval x).cells.toList.length)).length=arr.size:=by
        rw[o9 _ _ _ (by simp[hcl]at*;omega)];simp
       rw[q5 _ (by rw[oV,hsz,e3];exact harr)];congr 2;rw[e2,e3,dU];have ht:(arr.toList.take (i*size)).length=i*size:=by simp;omega
       rw[show i*size+size=(arr.toList.take (i*size)++(a.eval x).cells.toList).length from by rw[bt,ht,hcl]];rw[mT];rw[List.drop_append,List.drop_eq_nil_of_le (by omega),er,List.drop_drop,dc (arr.toList.take (i*size))];congr 2;rw[bt,ht,hcl];omega
     ·cases hr
    ·cases hr
   ·cases h
  ·cases h
end
section
variable {P:Program} {w0 w w':World} {κ:K} {σ σ':H} {a:Act} {ρ:Env}
theorem wL{m:Mem}{rows:List (List C)}{size:Nat}{xs:List Value}(hl:xs.length=rows.length*size)(hr:∀r∈rows,r.length=size)
  (h:∀i (hi:i<rows.length) j (hj:j<rows[i].length),RC m rows[i][j] (xs.getD (i*size+j) undef)) {b o cap:Nat} (hm:∀k,k<xs.length->m b (o+k)=xs[k]?) (hc:rows.length<=cap) (hcm:cap<=maxLen):
  RC m (.sl rows) (.slice (some ⟨b,o,none⟩) rows.length cap):=
 .sl rows size _ cap xs hr hc hcm hl (fun _=>⟨b,o,rfl,hm⟩) h
theorem Pd{g:Nat}{xs:List Value}(k:Nat):(κ.froze g xs).m g k=xs[k]?:=by simp[K.froze]
theorem F5{m:Mem}{rows:List (List C)}{uss:List (List Value)}{size:Nat}(q1:uss.length=rows.length)(q2:∀i (hi:i<rows.length) (hi':i<uss.length),wK m rows[i] uss[i])(q3:∀r∈rows,r.length=size)(q4:∀r∈uss,r.length=size):
  ∀i (hi:i<rows.length) j (hj:j<rows[i].length),RC m rows[i][j] (uss.flatten.getD (i*size+j) undef):=by
 intro i hi j hj;have hi':i<uss.length:=by omega
 have hjs:j<size:=by rw[<-q3 _ (bw hi)];exact hj
 have:=(q2 i hi hi').2 j hj;rw[cc,Ar uss i j q4 hjs,aR hi'];simpa using this
theorem Pe{o:Oper}{t n e:Nat}{parts:Array (Nat×Operand)}{i:TypeInfo}{z:Value}{ps:List ai}{rows:List (List C)}(ho:o.op= .buildSlice t n parts)(hu:P.underlying t=some (.slice e))(hi:P.info? e=some i)(hz:i.zero=some z)
  (hps:nd 0 parts.toList=some ps) (hlen:ps.length=n) (hs0:0<i.size) (hle:n*i.size<=16777216) (hr:iW ρ i.size ps=some rows) (hrep:aB w0 κ σ w) (he:b8 κ ρ a):
  bf w0 κ σ (.ab rows) ((execOp a.eval o).run P w):=by
 obtain⟨uss,q1,q2,q3,q4,_,q5⟩:=F4 he hps hr;have hrl:rows.length=n:=by
  have:∀{l:List ai} {r:List (List C)},iW ρ i.size l=some r->r.length=l.length:=by
   intro l;induction l with
   |nil=>intro r h;simp only[iW]at h;injection h with h;subst h;rfl
   |cons x l ih=>
    intro r h;simp only[iW]at h;split at h
    ·rename_i a0 r0 _ h2;split at h
     ·injection h with h;subst h;simp[ih h2]
     ·cases h
    ·cases h
  rw[this hr,hlen]
 have hfl:uss.flatten.length=n*i.size:=by rw[sZ uss q4,q1,hrl]
 have hfill:=q5 ((Array.range (n*i.size)).map (z.cells[·%z.cells.size]!)) (by simp[hrl]);have hcells:qv (fun k=>some (k*i.size,i.size)) ((Array.range (n*i.size)).map (z.cells[·%z.cells.size]!)) (parts.toList.map fun(i,x)=>(i,a.eval x))=some uss.flatten.toArray:=by
  rw[hfill];simp[hrl]
 have hA:=hrep.alloc (.cells uss.flatten.toArray e);have hfree:∀o,κ.m w.heap.size o=none:=fun o=>hrep.fresh (aA _) o;have hF:=hA.froze (g:=w.heap.size) (xs:=uss.flatten) hfree (fun o v hv=>by
  rw[cell_of_row _ w.heap.size o uss.flatten.toArray e (0,0) (kN w _)];simpa using hv) (fun b hb hl=>by have:=(hrep.gR hb hl).2;omega)
 have hle':κ.le (κ.froze w.heap.size uss.flatten):=K.Ai hfree;have hrc:=wL (m:=(κ.froze w.heap.size uss.flatten).m) (rows:=rows) (size:=i.size) (xs:=uss.flatten) (by rw[hfl,hrl]) q3
  (fun i' hi' j hj=>RC.mono hle'.m (F5 q1 q2 q3 q4 i' hi' j hj)) (b:=w.heap.size) (o:=0) (cap:=rows.length) (fun k hk=>by rw[eF];exact Pd k) (aA _) (by
    have:n*1<=n*i.size:=Nat.mul_le_mul_left _ hs0;unfold maxLen;omega)
 have hcsl:=RV.ab (κ:=κ.froze w.heap.size uss.flatten) hrc;rw[hrl]at hcsl;refine⟨_,_,_,.inl ?_,hle',hF,hcsl⟩;by_cases hn0:n=0
 ·subst hn0;have hu0:uss.flatten=[]:=fA (by rw[hfl];simp);have hp0:parts=#[]:=by
   have:∀{k:Nat} {l:List (Nat×Operand)} {r:List ai},nd k l=some r->r.length=l.length:=by
    intro k l;induction l generalizing k with
    |nil=>intro r h;simp only[nd]at h;injection h with h;subst h;rfl
    |cons x l ih=>
     intro r h;obtain⟨q,x⟩:=x;simp only[nd]at h;split at h
     ·split at h
      ·rename_i h2;injection h with h;subst h;simp[ih h2]
      ·cases h
     ·cases h
   have:=this hps;apply nM;exact fA (by rw[<-this,hlen])
  rw[hu0];simp[execOp,ho,Instr.buildSlice,cr hu,run_sizeOf hi,hp0,qv,newRow];congr 2;apply nM;simp
 have h0:¬(n*i.size=0):=by
  have:n*1<=n*i.size:=Nat.mul_le_mul_left _ hs0;intro e;omega
 have hle16:¬(16777216<n*i.size):=by omega
 simp[execOp,ho,Instr.buildSlice,cr hu,run_sizeOf hi,hle16,zeroValue,typeInfo,hi,hz,hcells,newRow];exact fun h=>absurd h h0
theorem nT{size n:Nat}{A:Option Addr}{c:Nat}{news:List Value}(hl:news.length=n*size)(h:n≠0->∃b o,A=some ⟨b,o,none⟩/\∀k,k<news.length->w.cell? ⟨b,o+k,none⟩=news[k]?):
  (wg size n (.slice A n c)).run P w= .ok news.toArray w:=by
 by_cases hn:n=0
 ·subst hn;have:news=[]:=fA (by simpa using hl);subst this;cases A with
  |none=>simp[wg]
  |some a=>
   have:=run_loadCells_list (P:=P) w a [] (by simp);simpa[wg]using this
 ·obtain⟨b,o,rfl,hc⟩:=h hn;have:=run_loadCells_list (P:=P) w ⟨b,o,none⟩ news (fun j v hv=>by
   rw[add_lit];have hj:=(aK.1 hv).1;rw[hc j hj,hv])
  rw[hl]at this;simpa[wg]using this
structure Src (P:Program) (w:World) (t2:TypeId) (u:Value) (size m:Nat) (news:List Value):Prop where
 kind:(∃e,P.underlying t2=some (.slice e))\/P.underlying t2=some .string
 len:∀w',(Oe u).run P w'= .ok m w'
 first:∀w',(∀b o,w'.cell? ⟨b,o,none⟩=w.cell? ⟨b,o,none⟩)->(wg size m u).run P w'= .ok news.toArray w'
theorem Src.slice{t2 e size m c:Nat}{A:Option Addr}{news:List Value}(ht:P.underlying t2=some (.slice e))(hl:news.length=m*size)(h:m≠0->∃b o,A=some ⟨b,o,none⟩/\∀k,k<news.length->w.cell? ⟨b,o+k,none⟩=news[k]?):Src P w t2 (.slice A m c) size m news:=
 ⟨.inl ⟨e,ht⟩,fun w'=>by simp[Oe],fun w' hw=>nT hl (fun hm=>by obtain⟨b,o,h1,h2⟩:=h hm;exact⟨b,o,h1,fun k hk=>by rw[hw];exact h2 k hk⟩)⟩
theorem Src.str{t2:TypeId}{l:List UInt8}(ht:P.underlying t2=some .string):Src P w t2 (.string (bs l)) 1 l.length (l.map fun b=>Value.int .u8 b.toNat):=
 ⟨.inr ht,fun w'=>by simp[Oe];rfl,fun w' _=>by
   simp[wg];apply nM;simp[bs];exact List.take_of_length_le (by simp)⟩
theorem Pf{t t2 ty e n cap m g:Nat}{i:TypeInfo}{u:Value}{news:List Value}{cur:Array Value}(ht:P.underlying t=some (.slice e))(hi:P.info? e=some i)(hg:w.heap[g]?=some (.cells cur e (0,0)))
  (hl:news.length=m*i.size) (hs:Src P w t2 u i.size m news) (h1:∀u∈news,u.oneCell'=true) (hroom:n+m<=cap) (hfit:n*i.size+news.length<=cur.size):
  (nN #[t,t2] ty #[.slice (some ⟨g,0,none⟩) n cap,u]).run P w=
    .ok (.slice (some ⟨g,0,none⟩) (n+m) cap) (w.setRow g (cur.toList.take (n*i.size)++news++cur.toList.drop (n*i.size+news.length)).toArray):=by
 have hf:=hs.first w (fun _ _=>rfl);have hln:=hs.len w;have hst:=run_storeCells_at P g (n*i.size) e news 0 cur w hg (by simpa using hfit) h1;simp only[mS]at hst;rcases hs.kind with⟨e2,hk⟩|hk
 all_goals simp[nN,cr ht,cr hk,sizeOf,typeInfo,hi,hln,hroom,hf,add_lit,hst]
theorem F6{t t2 ty e n cap m:Nat}{i:TypeInfo}{z u:Value}{A0:Option Addr}{olds news:List Value}(ht:P.underlying t=some (.slice e))(hi:P.info? e=some i)(hz:i.zero=some z)
  (hlo:olds.length=n*i.size) (ho:n≠0->∃b o,A0=some ⟨b,o,none⟩/\∀k,k<olds.length->w.cell? ⟨b,o+k,none⟩=olds[k]?)
  (hl:news.length=m*i.size) (hs:Src P w t2 u i.size m news) (hg:cap<n+m) (h63:((n+m:Nat):Int)<=9223372036854775807) (hfit:aaa (n+m) cap*i.bytes<=281474976710656):
  (nN #[t,t2] ty #[.slice A0 n cap,u]).run P w=
    .ok (.slice (some ⟨w.heap.size,0,none⟩) (n+m) (grownCap w (n+m) cap e)) (w.drew.alloc (.cells (olds.toArray++news.toArray++qt z.cells (grownCap w (n+m) cap e-(n+m))) e)):=by
 have hn:¬(n+m<=cap):=by omega
 have h63':¬(9223372036854775807<((n:Int)+(m:Int))):=by omega
 have h48':¬(281474976710656<aaa (n+m) cap*i.bytes):=by omega
 have hf:=hs.first w.drew (fun b o=>by simp);have hln:=hs.len w;have hfo:=nT (P:=P) (w:=w.drew) (c:=cap) (A:=A0) hlo (fun hm=>by obtain⟨b,o,h1,h2⟩:=ho hm;exact⟨b,o,h1,fun k hk=>by simpa using h2 k hk⟩);rcases hs.kind with⟨e2,hk⟩|hk
 all_goals
  simp[nN,cr ht,cr hk,sizeOf,typeInfo,zeroValue,hi,hz,hln,hn,h63',h48',Question.forced,hf,hfo,newRow,grownCap];congr 2;apply nM;simp[dc]
def K.gS(κ:K)(b k g:Nat)(v:Value)(xs:List Value):K:=
 {κ with m:=fun x o=>if x=g/\o<xs.length then xs[o]? else κ.m x o,fr:=fun x=>if x=b then some k else κ.fr x,sv:=fun x=>if x=b then v else κ.sv x}
theorem K.Pg{b k g n:Nat}{v:Value}{xs:List Value}(hf:κ.fr b=some n)(hn:n<k)(hm:∀o u,κ.m g o=some u->o<xs.length->xs[o]?=some u):κ.le (κ.gS b k g v xs):=by
 refine⟨fun x o u h=>?_,aA _,fun x hx hfx=>⟨?_,rfl⟩,fun x f hx hfx=>?_,fun x hx hfx=>by
  show(if x=b then _ else _)=_;rw[if_neg (fun e=>by rw[e,hf]at hfx;cases hfx)],rfl,rfl⟩
 ·show(if x=g/\o<xs.length then _ else _)=_;by_cases hc:x=g/\o<xs.length
  ·rw[if_pos hc];obtain⟨rfl,ho⟩:=hc;exact hm o u h ho
  ·rw[if_neg hc];exact h
 ·show(if x=b then _ else _)=_;rw[if_neg (fun e=>by rw[e,hf]at hfx;cases hfx)];exact hfx
 ·by_cases hxb:x=b
  ·subst hxb;rw[hf]at hfx;injection hfx with hfx;subst hfx;exact⟨k,by show(if x=x then _ else _)=_;rw[if_pos rfl],by omega,fun e=>by omega,rfl⟩
  ·exact⟨f,by show(if x=b then _ else _)=_;rw[if_neg hxb];exact hfx,aA _,fun _=>by show(if x=b then _ else _)=_;rw[if_neg hxb],rfl⟩
theorem aB.gS(h:aB w0 κ σ w){b n k g:Nat}{e:TypeId}{size:Nat}{v:Value}{xs:List Value}(hb:σ[b]?=some (.spare e size n))(hn:n<k)
  (hown:w'.ownsRow w0.heap.size e size v k xs) (hv:v.ownBlock=some g) (hg:w.grownBy w' (some g)) (hbw:Below w0.heap.size w0 w')
  (hgl:∀x (hx:x<σ.length),x≠b->(σ[x]).bc κ x≠some g) (hold:∀o u,κ.m g o=some u->o<n*size/\xs[o]?=some u) (hgr:κ.rest g=none):
  aB w0 (κ.gS b k g v xs) (σ.set b (.spare e size k)) w'/\κ.le (κ.gS b k g v xs):=by
 obtain⟨hlt,hb'⟩:=aK.1 hb;have hblk:=h.cz b hlt;rw[hb']at hblk;have hle:κ.le (κ.gS b k g v xs):=K.Pg hblk.fr hn fun o u hu _=>(hold o u hu).2;have hlen:xs.length=k*size:=hown.1;have hother:∀x,x<w.heap.size->x≠g->w'.heap[x]?=w.heap[x]?:=fun x hx hne=>hg.block x hx (by simpa using hne);have frb:(κ.gS b k g v xs).fr b=some k:=by show(if b=b then _ else _)=_;rw[if_pos rfl]
 have svb:(κ.gS b k g v xs).sv b=v:=by show(if b=b then _ else _)=_;rw[if_pos rfl]
 have fro:∀x,x≠b->(κ.gS b k g v xs).fr x=κ.fr x:=fun x hx=>by show(if x=b then _ else _)=_;rw[if_neg hx]
 have svo:∀x,x≠b->(κ.gS b k g v xs).sv x=κ.sv x:=fun x hx=>by show(if x=b then _ else _)=_;rw[if_neg hx]
 have mo:∀x o,x≠g->(κ.gS b k g v xs).m x o=κ.m x o:=fun x o hx=>by show(if x=g/\_ then _ else _)=_;rw[if_neg (fun e=>hx e.1)]
 have lies_b:(ad.spare e size k).bc (κ.gS b k g v xs) b=some g:=by simp only[ad.bc];rw[svb];exact Fy hown (by omega) hv
 have lies_o:∀x (hx:x<σ.length),x≠b->(σ[x]).bc (κ.gS b k g v xs) x=(σ[x]).bc κ x:=fun x hx hne=>ad.ka rfl (svo x hne);refine⟨⟨by show κ.n=_;simpa using h.n,hbw,fun x o u hm=>?_,fun x hx=>?_,fun x y hx hy z hne=>?_,fun l o hr=>?_,bB h.dt hg.size⟩,hle⟩
 rotate_right
 ·obtain⟨a1,a2,a3⟩:=h.rest l o hr;have hlg:l≠g:=fun e=>by have hr':κ.rest l=some o:=hr;rw[e,hgr]at hr';cases hr'
  exact⟨(hother l (dR.1 a1).1 hlg).trans a1,a2,sY lies_o a3 (by rw[lies_b];intro e;injection e with e;exact hlg e.symm)⟩
 ·by_cases hxg:x=g
  ·subst hxg;have hm':(if x=x/\o<xs.length then xs[o]? else κ.m x o)=some u:=hm;by_cases ho:o<xs.length
   ·rw[if_pos ⟨rfl,ho⟩]at hm';have:=hown.cells hv o u hm';rwa [add_lit,eF]at this
   ·rw[if_neg (fun e=>ho e.2)]at hm';have:=(hold o u hm').1;have:n*size<=k*size:=iN _ (by omega);omega
  ·rw[mo x o hxg]at hm;rw[wa (w:=w) (a:=⟨x,o,none⟩) (hother x (h.nf hm) hxg)];exact h.mem x o u hm
 ·by_cases hxb:x=b
  ·subst hxb;rw[gw];refine⟨frb,hblk.sz,.inr ⟨xs,by rw[svb];exact hown⟩,fun g' hg' o ho=>?_⟩;rw[svb,Fy hown (by omega) hv]at hg';injection hg' with hg';subst hg';show(if g=g/\o<xs.length then _ else _)=_;rw[if_neg (by omega)];cases hm:κ.m g o with
   |none=>rfl
   |some u=>
    have:=(hold o u hm).1;have:n*size<=k*size:=iN _ (by omega);omega
  ·have hx':x<σ.length:=by simpa using hx
   rw[fz (di hxb)];have h1:=h.cz x hx';have hne:=hgl x hx' hxb;have h2:=ad.qQ (w':=w') h1 fun z hz=>hother z (h.gR hx' hz).2 (fun e=>hne (by rw[hz,e]));cases hσ:σ[x]with
   |cells cs=>
    rw[hσ]at h2 hne;obtain⟨vs,t,k1,k2,k3⟩:=h2.row;refine⟨(fro x hxb).trans h2.fr,⟨vs,t,k1,k2,fun j hj=>⟨(k3 j hj).1,(k3 j hj).2.mono hle⟩⟩,h2.own,fun o=>?_,h2.ty⟩;rw[mo _ o (fun e=>hne (by simp[ad.bc];exact e))];exact h2.free o
   |spare e1 s1 n1=>
    rw[hσ]at h2 hne;refine⟨(fro x hxb).trans h2.fr,h2.sz,by rw[svo x hxb];exact h2.row,fun g' hg' o ho=>?_⟩;rw[svo x hxb]at hg';rw[mo _ o (fun e=>hne (by simp only[ad.bc];rw[hg',e]))];exact h2.free g' hg' o ho
   |mp kvs=>
    rw[hσ]at h2 hne;refine ad.mapped.le h2 hle.m ((fro x hxb).trans h2.fr) rfl (fun o=>?_);rw[mo _ o (fun e=>hne (by simp[ad.bc];exact e))];exact h2.free o
   |vec e1 s1 cs1=>
    rw[hσ]at h2 hne;refine ad.lP.le h2 hle.m ((fro x hxb).trans h2.fr) rfl (svo x hxb) (fun o=>?_);rw[mo _ o (fun e=>hne (by simp[ad.bc];exact e))];exact h2.free o
   |gone=>trivial
 ·have hx':x<σ.length:=by simpa using hx
  have hy':y<σ.length:=by simpa using hy
  by_cases hxb:x=b
  ·subst hxb;rw[gw,lies_b,fz hne,lies_o y hy' (di hne)];intro e1;injection e1 with e1;subst e1;exact hgl y hy' (di hne)
  ·by_cases hyb:y=b
   ·subst hyb;rw[gw,lies_b,fz (di hne),lies_o x hx' hne];intro e1 e2;injection e2 with e2;subst e2;exact hgl x hx' hne e1
   ·rw[fz (di hxb),fz (di hyb),lies_o x hx' hxb,lies_o y hy' hyb];exact h.apart x y hx' hy' z hne
end
section
variable {P:Program} {w0 w w':World} {κ:K} {σ σ':H} {a:Act} {ρ:Env}
theorem RC.source(hrep:aB w0 κ σ w){rows:List (List C)}{size:Nat}{v:Value}(h:RC κ.m (.sl rows) v)(hs:∀r∈rows,r.length=size):
  ∃(A:Option Addr) (c:Nat) (news:List Value),v= .slice A rows.length c/\news.length=rows.length*size/\(rows.length≠0->∃b o,A=some ⟨b,o,none⟩/\∀k,k<news.length->w.cell? ⟨b,o+k,none⟩=news[k]?)/\(∀u∈news,u.oneCell'=true)/\
   (∀i (hi:i<rows.length) j (hj:j<rows[i].length),RC κ.m rows[i][j] (news.getD (i*size+j) undef)):=by
 obtain⟨s,A,cap,xs,rfl,h0,h1,h2,h3,h4,h5⟩:=h.ke;by_cases hn:rows=[]
 ·subst hn;exact⟨A,cap,[],rfl,by simp,by simp,by simp,fun i hi=>by simp at hi⟩
 ·have hpos:0<rows.length:=jV.2 hn;have iz:s=size:=by rw[<-h0 _ (bw hpos),hs _ (bw hpos)]
  subst iz;obtain⟨b,o,rfl,hm⟩:=h4 hn;have hc:∀k,k<xs.length->w.cell? ⟨b,o+k,none⟩=xs[k]?:=fun k hk=>by
   have:=hm k hk;rw[aR hk]at this⊢;exact hrep.mem _ _ _ this
  refine⟨some ⟨b,o,none⟩,cap,xs,rfl,h3,fun _=>⟨b,o,rfl,hc⟩,fun u hu=>?_,h5⟩;obtain⟨k,hk,rfl⟩:=List.getElem_of_mem hu;by_cases hs0:s=0
  ·subst hs0;simp at h3;subst h3;simp at hk
  ·have hs0:0<s:=by omega
   have hi:k/s<rows.length:=by rw[aab hs0];omega
   have hj:k%s<rows[k/s].length:=by rw[h0 _ (bw hi)];exact Nat.mod_lt _ hs0
   have:=h5 (k/s) hi (k%s) hj;rw[show k/s*s+k%s=k from by rw[Nat.mul_comm];exact Nat.div_add_mod k s,gQ hk]at this;exact this.one
theorem As{m:Mem}{l r:List (List C)}{size:Nat}{xs ys:List Value}(hl:xs.length=l.length*size)(hsl:∀q∈l,q.length=size)
  (h1:∀i (hi:i<l.length) j (hj:j<l[i].length),RC m l[i][j] (xs.getD (i*size+j) undef)) (h2:∀i (hi:i<r.length) j (hj:j<r[i].length),RC m r[i][j] (ys.getD (i*size+j) undef)):
  ∀i (hi:i<(l++r).length) j (hj:j<(l++r)[i].length),RC m (l++r)[i][j] ((xs++ys).getD (i*size+j) undef):=by
 intro i hi j hj;rw[cc];by_cases hil:i<l.length
 ·have e:(l++r)[i]=l[i]:=cC hil;have hj':j<l[i].length:=by rw[<-e];exact hj
  have hjs:j<size:=by rw[<-hsl _ (bw hil)];exact hj'
  have:=h1 i hil j hj';rw[cc]at this;rw[cF (by rw[hl];exact mul_lt hil hjs)];simpa[e]using this
 ·have hir:i-l.length<r.length:=by simp at hi;omega
  have e:(l++r)[i]=r[i-l.length]:=dJ (by omega);have hj':j<r[i-l.length].length:=by rw[<-e];exact hj
  have:=h2 (i-l.length) hir j hj';rw[cc]at this;have e2:l.length*size<=i*size:=iN _ (by omega);have e3:(i-l.length)*size=i*size-l.length*size:=Nat.sub_mul _ _ _;rw[cY (by omega),hl,show i*size+j-l.length*size=(i-l.length)*size+j from by omega];simpa[e]using this
theorem F7{e:Nat}{i:TypeInfo}{z:Value}{n m:Nat}{news:List Value}(hzs:z.cells.size=i.size)(hl:news.length=m*i.size)(hnm:n+m<=140737488355328)(hbase:w0.heap.size<=w.heap.size)(old:Nat)(xs:List Value)(hxs:xs.length=n*i.size):
  (w.drew.alloc (.cells (xs.toArray++news.toArray++qt z.cells (grownCap w (n+m) old e-(n+m))) e)).ownsRow w0.heap.size e i.size (.slice (some ⟨w.heap.size,0,none⟩) (n+m) (grownCap w (n+m) old e)) (n+m) (xs++news):=by
 have hge:=grownCap_ge w (n+m) old e;have hlen:(xs++news).length=(n+m)*i.size:=by rw[bt,hxs,hl,fi]
 refine⟨hlen,.inr ⟨w.heap.size,_,_,rfl,hbase,kN w.drew _,hge,grownCap_le_maxLen w (n+m) old e (by unfold maxLen;omega),?_,?_⟩⟩
 ·simp only[Array.size_append,oV,size_zeroCells,hzs,hxs,hl,<-fi];congr 1;omega
 ·simp only[Array.toList_append,dc];rw[<-dc,<-hlen];exact mT
theorem At{t t2 ty e:Nat}{i:TypeInfo}{z u2:Value}{n m:Nat}{A0:Option Addr}{xs news:List Value}(hu:P.underlying t=some (.slice e))(hi:P.info? e=some i)(hz:i.zero=some z)(hzs:z.cells.size=i.size)
  (hxl:xs.length=n*i.size) (hxc:n≠0->∃b o,A0=some ⟨b,o,none⟩/\∀k,k<xs.length->w.cell? ⟨b,o+k,none⟩=xs[k]?) (hl:news.length=m*i.size) (h:Src P w t2 u2 i.size m news)
  (hm:0<m) (hb:(n+m)*i.bytes<=140737488355328) (hnm:n+m<=140737488355328) (hbase:w0.heap.size<=w.heap.size):
  ∃v' w',(nN #[t,t2] ty #[.slice A0 n n,u2]).run P w= .ok v' w'/\w'.ownsRow w0.heap.size e i.size v' (n+m) (xs++news)/\v'.ownBlock=some w.heap.size/\Below w.heap.size w w':=by
 have hr:=F6 (P:=P) (w:=w) (t:=t) (t2:=t2) (ty:=ty) (n:=n) (cap:=n) (A0:=A0) (olds:=xs) hu hi hz hxl hxc hl h (by omega) (by omega) (growslice_fits (by omega) hb);exact⟨_,_,hr,F7 hzs hl hnm hbase n xs hxl,rfl,Below.alloc (Below.drew (ep _ _)) (aA _) _⟩
theorem F8{t t2 ty e:Nat}{i:TypeInfo}{z u2:Value}{n m:Nat}{v:Value}{xs news:List Value}(hu:P.underlying t=some (.slice e))(hi:P.info? e=some i)(hz:i.zero=some z)(hzs:z.cells.size=i.size)
  (hv:(n=0/\xs=[]/\∃A0,v= .slice A0 0 0)\/w.ownsRow w0.heap.size e i.size v n xs) (hl:news.length=m*i.size) (h:Src P w t2 u2 i.size m news)
  (h1:∀u∈news,u.oneCell'=true) (hm:0<m) (hb:(n+m)*i.bytes<=140737488355328) (hnm:n+m<=140737488355328) (hbase:w0.heap.size<=w.heap.size):
  ∃v' w' g,(nN #[t,t2] ty #[v,u2]).run P w= .ok v' w'/\w'.ownsRow w0.heap.size e i.size v' (n+m) (xs++news)/\v'.ownBlock=some g/\
   ((heldBy v=some g/\w.grownBy w' (some g)/\w0.heap.size<=g)\/(g=w.heap.size/\Below w.heap.size w w')):=by
 have hv:(n=0/\xs=[]/\∃A0,v= .slice A0 0 0)\/∃g cap cur,v= .slice (some ⟨g,0,none⟩) n cap/\w0.heap.size<=g/\w.heap[g]?=some (.cells cur e (0,0))/\n<=cap/\cap<=maxLen/\cur.size=cap*i.size/\cur.toList.take (n*i.size)=xs/\w.ownsRow w0.heap.size e i.size v n xs:=by
  rcases hv with h0|hown
  ·exact .inl h0
  ·rcases hown.2 with⟨rfl,rfl⟩|⟨g,cap,cur,q1,q2,q3,q4,q5,q6,q7⟩
   ·exact .inl ⟨rfl,fA (by have:=hown.1;simpa using this),none,rfl⟩
   ·exact .inr ⟨g,cap,cur,q1,q2,q3,q4,q5,q6,q7,hown⟩
 rcases hv with⟨rfl,rfl,A0,rfl⟩|⟨g,cap,cur,rfl,hbg,hg,hnc,hcm,hcs,htake,hown⟩
 ·obtain⟨v',w',h1,h2,h3,h4⟩:=At (P:=P) (w0:=w0) (w:=w) (t:=t) (t2:=t2) (ty:=ty) (n:=0) (m:=m) (A0:=A0) (xs:=[]) (news:=news) hu hi hz hzs (by simp) (fun h=>absurd rfl h) hl h hm hb hnm hbase;exact⟨v',w',_,h1,h2,h3,.inr ⟨rfl,h4⟩⟩
 ·by_cases hroom:n+m<=cap
  ·have hfit:n*i.size+news.length<=cur.size:=by rw[hl,hcs,<-fi];exact iN _ hroom
   have hr:=Pf (P:=P) (w:=w) (t2:=t2) (ty:=ty) hu hi hg hl h h1 hroom hfit;have hlen:(xs++news).length=(n+m)*i.size:=by rw[bt,hown.1,hl,fi]
   refine⟨_,_,g,hr,⟨hlen,.inr ⟨g,cap,_,rfl,hbg,setRow_heap w g cur _ e _ hg,hroom,hcm,?_,?_⟩⟩,rfl,.inl ⟨?_,⟨rfl,rfl,rfl,by simp[World.setRow],fun k _ hk=>setRow_other w g k _ (fun e=>hk (by rw[e]))⟩,hbg⟩⟩
   ·simp only[oV,bt,eu,List.length_drop,Of];omega
   ·rw[htake,<-hlen];exact mT
   ·cases cap with
    |zero=>omega
    |succ c=>rfl
  ·have holds:∀k,k<xs.length->w.cell? ⟨g,0+k,none⟩=xs[k]?:=fun k hk=>by
    have:=hown.cells (g:=g) rfl k xs[k] (aR hk);rw[add_lit]at this;rw[this,aR hk]
   have hr:=F6 (P:=P) (w:=w) (t:=t) (t2:=t2) (ty:=ty) (n:=n) (cap:=cap) (A0:=some ⟨g,0,none⟩) (olds:=xs) hu hi hz hown.1 (fun _=>⟨g,0,rfl,holds⟩) hl h (by omega) (by omega) (growslice_fits (by omega) hb);exact⟨_,_,w.heap.size,hr,F7 hzs hl hnm hbase cap xs hown.1,rfl,.inr ⟨rfl,Below.alloc (Below.drew (ep _ _)) (aA _) _⟩⟩
theorem Au{t t2 ty e:Nat}{i:TypeInfo}{n cap:Nat}{A0:Option Addr}{u2:Value}(hu:P.underlying t=some (.slice e))(hi:P.info? e=some i)(hc:n<=cap)(h:Src P w t2 u2 i.size 0 []):
  (nN #[t,t2] ty #[.slice A0 n cap,u2]).run P w= .ok (.slice A0 n cap) w:=by
 have hf:=h.first w (fun _ _=>rfl);have hln:=h.len w;rcases h.kind with⟨e2,hk⟩|hk
 all_goals
  cases A0 with
  |none=>simp[nN,cr hu,cr hk,sizeOf,typeInfo,hi,hln,hc,hf]
  |some a=>simp[nN,cr hu,cr hk,sizeOf,typeInfo,hi,hln,hc,hf,storeCells]
def K.own(κ:K)(v:Value)(size:Nat):K:={κ with n:=κ.n+1,fr:=fun b=>if b=κ.n then some 0 else κ.fr b,sv:=fun b=>if b=κ.n then v else κ.sv b,sz:=fun b=>if b=κ.n then size else κ.sz b}
theorem K.qS{v:Value}{size:Nat}:κ.le (κ.own v size):=
 RV.same (Mem.le_refl _) (Nat.le_succ _) (fun _ _=>rfl) (fun b hb=>by show(if b=κ.n then _ else _)=_;rw[if_neg (by omega)]) (fun b hb=>by show(if b=κ.n then _ else _)=_;rw[if_neg (by omega)])
  (fun b hb=>by show(if b=κ.n then _ else _)=_;rw[if_neg (by omega)])
theorem aB.own(h:aB w0 κ σ w)(e:TypeId)(size:Nat)(A:Option Addr):aB w0 (κ.own (.slice A 0 0) size) (σ++[.spare e size 0]) w:=by
 have hle:κ.le (κ.own (.slice A 0 0) size):=K.qS;have fro:∀b,b<σ.length->(κ.own (.slice A 0 0) size).fr b=κ.fr b:=fun b hb=>by show(if b=κ.n then _ else _)=_;rw[if_neg (by rw[h.n];omega)]
 have svo:∀b,b<σ.length->(κ.own (.slice A 0 0) size).sv b=κ.sv b:=fun b hb=>by show(if b=κ.n then _ else _)=_;rw[if_neg (by rw[h.n];omega)]
 have szo:∀b,b<σ.length->(κ.own (.slice A 0 0) size).sz b=κ.sz b:=fun b hb=>by show(if b=κ.n then _ else _)=_;rw[if_neg (by rw[h.n];omega)]
 have frn:(κ.own (.slice A 0 0) size).fr σ.length=some 0:=by show(if σ.length=κ.n then _ else _)=_;rw[if_pos h.n.symm]
 have svn:(κ.own (.slice A 0 0) size).sv σ.length= .slice A 0 0:=by show(if σ.length=κ.n then _ else _)=_;rw[if_pos h.n.symm]
 have szn:(κ.own (.slice A 0 0) size).sz σ.length=size:=by show(if σ.length=κ.n then _ else _)=_;rw[if_pos h.n.symm]
 refine⟨by show κ.n+1=_;rw[h.n];simp,h.ext,h.mem,fun b hb=>?_,fun x y hx hy g hne=>?_,fun l o hr=>⟨(h.rest l o hr).1,(h.rest l o hr).2.1,sX (κ:=κ) (fun b hb=>ad.ka (κ:=κ) rfl (svo b hb)) (h.rest l o hr).2.2 (by simp only[ad.bc];rw[svn];cases A<;>(intro e;cases e))⟩,h.dt⟩
 ·rcases dS b σ.length with hb'|hb'
  ·rw[cC hb'];exact ad.is_le (κ:=κ) rfl hle rfl (fro b hb') (svo b hb') (szo b hb') (h.cz b hb')
  ·have hbe:b=σ.length:=by simp at hb;omega
   subst hbe;rw[dJ (aA _)];simp only[ck,dq];exact⟨frn,szn,.inl ⟨rfl,A,svn⟩,fun g hg=>by rw[svn]at hg;cases A<;>cases hg⟩
 ·have last:∀z (hz:z<(σ++[ad.spare e size 0]).length),σ.length<=z->((σ++[ad.spare e size 0])[z]).bc (κ.own (.slice A 0 0) size) z=none:=fun z hz hge=>by
   have hze:z=σ.length:=by simp at hz;omega
   subst hze;rw[dJ (aA _)];simp only[ck,dq,ad.bc];rw[svn];cases A<;>rfl
  rcases dS x σ.length with hx'|hx'
  ·rcases dS y σ.length with hy'|hy'
   ·rw[cC hx',cC hy',ad.ka (κ:=κ) (κ':=κ.own (.slice A 0 0) size) rfl (svo x hx'),ad.ka (κ:=κ) (κ':=κ.own (.slice A 0 0) size) rfl (svo y hy')];exact h.apart x y hx' hy' g hne
   ·rw[last y hy hy'];intro _ e;cases e
  ·rw[last x hx hx'];intro e;cases e
theorem F9{m:Mem}{cs:List C}{news:List (List C)}{size:Nat}{xs ys:List Value}(hl:xs.length=cs.length)(hn:∀q∈news,q.length=size)(h1:∀j (hj:j<cs.length),RC m cs[j] (xs.getD j undef))
  (h2:∀i (hi:i<news.length) j (hj:j<news[i].length),RC m news[i][j] (ys.getD (i*size+j) undef)):∀j (hj:j<(cs++news.flatten).length),RC m (cs++news.flatten)[j] ((xs++ys).getD j undef):=by
 intro j hj;by_cases hjc:j<cs.length
 ·rw[cC hjc,cc,cF (by omega),<-cc];exact h1 j hjc
 ·have hfl:=sZ news hn;have hj2:j-cs.length<news.length*size:=by rw[bt,hfl]at hj;omega
  have hs0:0<size:=by
   rcases Nat.eq_zero_or_pos size with h|h
   ·rw[h]at hj2;simp at hj2
   ·exact h
  have hi:(j-cs.length)/size<news.length:=by rw[aab hs0];exact hj2
  have hr:(j-cs.length)%size<size:=Nat.mod_lt _ hs0;have he:(j-cs.length)/size*size+(j-cs.length)%size=j-cs.length:=by rw[Nat.mul_comm];exact Nat.div_add_mod _ _
  have hr':(j-cs.length)%size<news[(j-cs.length)/size].length:=by rw[hn _ (bw hi)];exact hr
  have hg:=Ar news ((j-cs.length)/size) ((j-cs.length)%size) hn hr;rw[he,aR hi,Option.bind_some,aR hr']at hg;have h3:=h2 _ hi _ hr';rw[he]at h3;rw[dJ (by omega),cc,cY (by omega),hl,<-cc];obtain⟨_,hg⟩:=aK.1 hg;rw[hg];exact h3
theorem aB.Ga(h:aB w0 κ σ w){g e size n:Nat}{v:Value}{xs:List Value}{cs:List C}(hn:n≠0)(hown:w.ownsRow w0.heap.size e size v n xs)(hv:v.ownBlock=some g)(hm:∀o,κ.m g o=none)(hl:∀x (hx:x<σ.length),(σ[x]).bc κ x≠some g)
  (hc:∀j (hj:j<cs.length),RC κ.m cs[j] (xs.getD j undef)) (hcl:cs.length=n*size):∃κ',κ.le κ'/\aB w0 κ' (σ++[.vec e size cs]) w/\RV κ' (.vec σ.length n) v:=by
 rcases hown.2 with⟨_,h0⟩|⟨g',cap,cur,rfl,q2,q3,q4,q5,q6,q7⟩
 ·exact absurd h0 hn
 ·injection hv with hv;subst hv;obtain⟨r1,r2⟩:=h.FI (cs:=cs) (n:=n) (cap:=cap) q2 hm hl q3 hcl q4 q5 q6 (fun j hj=>by
   have:=hc j hj;have hjx:j<xs.length:=by rw[hown.1,<-hcl];exact hj
   have e1:cur.getD j undef=xs.getD j undef:=by
    rw[<-q7]at hjx;have hjt:j<n*size:=by simp at hjx;omega
    rw[<-q7,ik,cc,lH,if_pos hjt];simp
   rw[e1];exact this)
  exact⟨_,K.Aj,r1,r2 n (aA _)⟩
theorem pc{o:Oper}{t t2:Nat}{x y:Operand}{v u v':Value}(ho:o.op= .call {callee:=.builtin .append,args:=#[x,y],argTypes:=#[t,t2]})(hx:a.eval x=v)(hy:a.eval y=u)
  (hr:(nN #[t,t2] o.type #[v,u]).run P w= .ok v' w'):(execOp a.eval o).run P w= .ok (.value v') w':=by
 simp[execOp,ho,resolve,invoke,builtin,hx,hy,hr]
theorem Gb{o:Oper}{t t2 e:Nat}{x y:Operand}{x':ai}{i:TypeInfo}{z:Value}{v:V}{news:List (List C)}{ns:List Value}(ho:o.op= .call {callee:=.builtin .append,args:=#[x,y],argTypes:=#[t,t2]})(hu:P.underlying t=some (.slice e))(hi:P.info? e=some i)(hz:i.zero=some z)
  (hzs:z.cells.size=i.size) (hx:bF x=some x') (hna:Src P w t2 (a.eval y) i.size news.length ns) (hnlen:(∀r∈news,r.length=i.size)->ns.length=news.length*i.size) (hn1:∀u∈ns,u.oneCell'=true) (hnr:(∀r∈news,r.length=i.size)->∀k (hk:k<news.length) j (hj:j<news[k].length),RC κ.m news[k][j] (ns.getD (k*i.size+j) undef))
  (hs:nc e i.size i.bytes (x'.ev ρ) news σ=some (v,σ')) (hrep:aB w0 κ σ w) (he:b8 κ ρ a):bf w0 κ σ' v ((execOp a.eval o).run P w):=by
 have hxr:=bO he hx;have hyv:a.eval y=a.eval y:=rfl;unfold nc at hs;split at hs
 ·rename_i b k hxe;rw[hxe]at hxr;by_cases hnn:news=[]
  ·subst hnn;simp only at hs;injection hs with hs;injection hs with e1 e2;subst e1 e2;generalize hxv:a.eval x=u at hxr;cases hxr with
   |vec r1 r2 r3 r4 r5 r6=>
    rename_i n cap;have hns:ns=[]:=fA (by simpa using hnlen (by simp));subst hns;have hr:=Au (P:=P) (w:=w) (t:=t) (t2:=t2) (ty:=o.type) (A0:=some ⟨κ.pos b,0,none⟩) (n:=k) (cap:=cap) hu hi (bB r4 r5) hna;exact⟨κ,_,w,.inl (pc ho hxv hyv hr),K.le_refl κ,hrep,.vec r1 r2 r3 r4 r5 r6⟩
  have hs:(match σ[b]? with
   |some (.vec e' size' cs)=>if e'=e/\size'=i.size/\k*i.size<=cs.length/\news≠[]/\(∀r∈news,r.length=i.size)/\(k+news.length)*i.bytes<=140737488355328/\k+news.length<=140737488355328 then
     some (V.vec σ.length (k+news.length),σ.set b .gone++[.vec e i.size (cs.take (k*i.size)++news.flatten)])else none
   |_=>none)=some (v,σ'):=by
   cases news with
   |nil=>exact absurd rfl hnn
   |cons q r=>exact hs
  split at hs
  ·rename_i e' size' cs hb;split at hs
   ·rename_i hc;obtain⟨he1,rfl,hkc,hne,hnl,hby,hmx⟩:=hc;have he1:=he1.symm;subst he1;injection hs with hs;injection hs with e1 e2;subst e1 e2;have hnlen:=hnlen hnl;have hnr:=hnr hnl;have hmp:0<news.length:=jV.2 hne;obtain⟨hlt,hb'⟩:=aK.1 hb;have hblk:=hrep.cz b hlt;rw[hb']at hblk;obtain⟨vs,n1,cap1,k0,k1,k2,k3,k4,k5,k6⟩:=hblk.row;generalize hxv:a.eval x=u at hxr;cases hxr with
    |vec r1 r2 r3 r4 r5 r6=>
     rename_i n cap;rw[k0]at r3;injection r3 with _ e1 e2;subst e1 e2;have hvl:(vs.toList.take (k*i.size)).length=k*i.size:=by
      have:=iN i.size (bB r4 r5);rw[eu,Of,k5];omega
     have hown0:w.ownsRow w0.heap.size e i.size (.slice (some ⟨κ.pos b,0,none⟩) k cap1) k (vs.toList.take (k*i.size)):=
      ⟨hvl,.inr ⟨κ.pos b,cap1,vs,rfl,hblk.own,k1,bB r4 r5,k4,k5,rfl⟩⟩
     obtain⟨v',w',g,hr,hown',hvb,hcase⟩:=F8 (P:=P) (w0:=w0) (w:=w) (t:=t) (t2:=t2) (ty:=o.type) (n:=k) (m:=news.length) (xs:=vs.toList.take (k*i.size)) (news:=ns) hu hi hz hzs (.inr hown0) hnlen hna hn1 hmp hby hmx hrep.ext.size;have hR0:=hrep.FH b;have hfree:∀x (hx:x<(σ.set b .gone).length),((σ.set b .gone)[x]).bc κ x≠some (κ.pos b):=fun x hx=>by
      have hx':x<σ.length:=by simpa using hx
      by_cases hxb:x=b
      ·subst hxb;rw[gw];intro e;cases e
      ·rw[fz (di hxb)];intro e;exact hrep.apart x b hx' hlt _ hxb e (by rw[hb'];rfl)
     have hR1:aB w0 κ (σ.set b .gone) w'/\(∀o,κ.m g o=none)/\∀x (hx:x<(σ.set b .gone).length),((σ.set b .gone)[x]).bc κ x≠some g:=by
      rcases hcase with⟨c1,c3,c4⟩|⟨rfl,c2⟩
      ·have hg:g=κ.pos b:=by
        have:=wz c1;injection this with this;exact this.symm
       subst hg;exact⟨hR0.OH c3 (Below.grown hrep.ext c3 hrep.ext.size (fun k hk=>by injection hk with hk;omega)) hblk.free hfree (hrep.FC hlt (by rw[hb'];rfl)),hblk.free,hfree⟩
      ·exact⟨hR0.grow c2,fun o=>hrep.fresh (aA _) o,fun x hx hl=>by have:=(hR0.gR hx hl).2;omega⟩
     obtain⟨κ',q1,q2,q3⟩:=hR1.1.Ga (cs:=cs.take (k*i.size)++news.flatten) (by omega) hown' hvb hR1.2.1 hR1.2.2 (F9 (by rw[hvl,eu];omega) hnl (fun j hj=>by
      have hj':j<k*i.size:=by rw[eu]at hj;omega
      have hjc:j<cs.length:=by omega
      have:=k6 j hjc;rw[List.getElem_take,cc,lH,if_pos hj'];simpa[ik]using this) hnr) (by rw[bt,eu,sZ news hnl,fi];omega)
     rw[List.length_set]at q3;exact⟨κ',v',w',.inl (pc ho hxv hyv hr),q1,q2,q3⟩
   ·cases hs
  ·cases hs
 ·rename_i b rows hxe;rw[hxe]at hxr;split at hs
  ·rename_i e' size' n hb;split at hs
   ·rename_i hc;obtain⟨he1,rfl,hrn,hnl,hby,hmx⟩:=hc;have he1:=he1.symm;subst he1;injection hs with hs;injection hs with e1 e2;subst e1 e2;have hnlen:=hnlen hnl;have hnr:=hnr hnl;obtain⟨hlt,hb'⟩:=aK.1 hb;have hblk:=hrep.cz b hlt;rw[hb']at hblk;generalize hxv:a.eval x=u at hxr;cases hxr with
    |aF r1 r2 r3 r4 r5 r6=>
     rename_i f;have hff:f=n:=by have:=hblk.fr;rw[r3]at this;injection this
     subst hff;have hu':=r5 hrn;have hrs:∀q∈rows,q.length=i.size:=fun q hq=>(r6 q hq).trans hblk.sz;by_cases hm:news.length=0
     ·have:news=[]:=fA hm;subst this;obtain⟨s1,A1,cap1,xs1,hv1,_,hcap1,_⟩:=r1.ke;have hns:ns=[]:=fA (by simpa using hnlen);subst hns;have hr:=Au (P:=P) (w:=w) (t:=t) (t2:=t2) (ty:=o.type) (A0:=A1) (n:=rows.length) (cap:=cap1) hu hi hcap1 hna;refine⟨κ,u,w,.inl (pc ho hxv hyv (by rw[hv1];exact hr)),K.le_refl κ,?_,?_⟩
      ·simp only[List.length_nil,mS];rw[<-hb',List.set_getElem_self];exact hrep
      ·rw[List.append_nil];exact .aF r1 r2 r3 r4 r5 r6
     ·have hmp:0<news.length:=by omega
      have hv:∃xs:List Value,xs.length=rows.length*i.size/\(∀k (hk:k<rows.length) j (hj:j<rows[k].length),RC κ.m rows[k][j] (xs.getD (k*i.size+j) undef))/\
        ((rows.length=0/\xs=[]/\∃A0,u= .slice A0 0 0)\/w.ownsRow w0.heap.size e i.size u rows.length xs):=by
       rcases hblk.row with⟨h0,A0,hA0⟩|⟨xs,ho'⟩
       ·have hr0:rows=[]:=fA (by omega);subst hr0;exact⟨[],by simp,fun k hk=>by simp at hk,.inl ⟨rfl,rfl,A0,by rw[hu',hA0]⟩⟩
       ·rw[<-hu',<-hrn]at ho';obtain⟨s1,A1,cap1,xs1,hv1,k0,_,_,k3,k4,k5⟩:=r1.ke;by_cases hne:rows=[]
        ·subst hne;exact⟨xs,ho'.1,fun k hk=>by simp at hk,.inr ho'⟩
        have hpos:0<rows.length:=jV.2 hne;have hs1:s1=i.size:=by rw[<-k0 _ (bw hpos),hrs _ (bw hpos)]
        subst hs1;obtain⟨bb,oo,hA1,k4⟩:=k4 hne;rcases ho'.2 with⟨_,h0⟩|⟨g,cap,cur,hvg,hbg,hg,hnc,hcm,hcs,htake⟩
        ·omega
        ·rw[hvg]at hv1;injection hv1 with hv1 _ _;rw[hA1]at hv1;injection hv1 with hv1;injection hv1 with hg1 ho1 _;subst hg1 ho1;have hxx:xs1=xs:=by
          apply List.ext_getElem (by rw[k3,ho'.1]);intro k hk1 hk2;have q1:=k4 k hk1;rw[aR hk1]at q1;have q2:=hrep.mem _ _ _ q1;have q3:=ho'.cells (g:=g) (by rw[hvg];rfl) k xs[k] (aR hk2);rw[add_lit]at q3;rw[q2]at q3;injection q3
         subst hxx;exact⟨xs1,k3,k5,.inr ho'⟩
      obtain⟨xs,hxl,hxr',hv⟩:=hv;obtain⟨v',w',g,hr,hown',hvb,hcase⟩:=F8 (P:=P) (w0:=w0) (w:=w) (t:=t) (t2:=t2) (ty:=o.type) (n:=rows.length) (m:=news.length) (v:=u) (xs:=xs) (news:=ns) hu hi hz hzs hv hnlen hna hn1 hmp (by rw[hrn];exact hby) (by rw[hrn];exact hmx) hrep.ext.size;have hgb:w.grownBy w' (some g)/\Below w0.heap.size w0 w'/\(∀x (hx:x<σ.length),x≠b->(σ[x]).bc κ x≠some g)/\(∀p q,κ.m g p=some q->p<f*i.size/\(xs++ns)[p]?=some q)/\κ.rest g=none:=by
       rcases hcase with⟨c1,c3,c4⟩|⟨rfl,c2⟩
       ·refine⟨c3,Below.grown hrep.ext c3 hrep.ext.size (fun k hk=>by injection hk with hk;omega),fun x hx hne hl=>?_,fun p q hq=>?_,hrep.FC hlt (by rw[hb'];simp only[ad.bc];rw[<-hu',c1])⟩
        ·refine hrep.apart x b hx hlt g hne hl ?_;rw[hb'];simp only[ad.bc];rw[<-hu',c1]
        ·have hlt':p<f*i.size:=by
          rcases dS p (f*i.size)with h'|h'
          ·exact h'
          ·rw[hblk.free g (by rw[<-hu',c1]) p h']at hq;cases hq
         refine⟨hlt',?_⟩;rcases hv with⟨h0,_⟩|ho'
         ·rw[<-hrn,h0]at hlt';simp at hlt'
         ·have hpx:p<xs.length:=by rw[hxl,hrn];exact hlt'
          have q3:=ho'.cells (wz c1) p xs[p] (aR hpx);rw[add_lit,eF,hrep.mem _ _ _ hq]at q3;injection q3 with q3;rw[cF hpx,aR hpx,q3]
       ·refine⟨⟨c2.os,c2.tape,c2.output,c2.size,fun k hk _=>c2.block k hk⟩,hrep.ext.trans (c2.mono hrep.ext.size),fun x hx _ hl=>?_,fun p q hq=>?_,hrep.FD (aA _)⟩
        ·have:=(hrep.gR hx hl).2;omega
        ·rw[hrep.fresh (aA _)]at hq;cases hq
      obtain⟨g1,g2,g3,g4,g5⟩:=hgb;obtain⟨hrep',hle⟩:=hrep.gS (k:=f+news.length) hb (by omega) (by rw[<-hrn];exact hown') hvb g1 g2 g3 g4 g5;refine⟨_,v',w',.inl (pc ho hxv hyv hr),hle,hrep',?_⟩;have hv'':∃cap,v'= .slice (some ⟨g,0,none⟩) (rows++news).length cap/\(rows++news).length<=cap/\cap<=maxLen:=by
       rcases hown'.2 with⟨_,h0⟩|⟨g',cap,cur,hvg,_,_,hnc,hcm,_,_⟩
       ·omega
       ·rw[hvg]at hvb;injection hvb with hvb;subst hvb;exact⟨cap,by rw[hvg,bt],by rw[bt];exact hnc,hcm⟩
      obtain⟨cap',hv1,hv2,hv3⟩:=hv'';have hrc:=wL (m:=(κ.gS b (f+news.length) g v' (xs++ns)).m) (rows:=rows++news) (size:=i.size) (xs:=xs++ns) (by rw[hown'.1,bt]) (fun q hq=>by
       rcases cH.1 hq with hq|hq
       ·exact hrs q hq
       ·exact hnl q hq) (fun k hk j hj=>RC.mono hle.m (As hxl hrs hxr' hnr k hk j hj)) (b:=g) (o:=0) (cap:=cap') (fun k hk=>by
       rw[eF];show(if g=g/\k<(xs++ns).length then _ else _)=_;rw[if_pos ⟨rfl,hk⟩]) hv2 hv3
      rw[<-hv1]at hrc;refine .aF (f:=f+news.length) hrc r2 (by show(if b=b then _ else _)=_;rw[if_pos rfl]) (by rw[bt];omega) (fun _=>by show _=(if b=b then _ else _);rw[if_pos rfl]) (fun q hq=>?_);rcases cH.1 hq with hq|hq
      ·exact r6 q hq
      ·exact(hnl q hq).trans hblk.sz.symm
   ·cases hs
  ·cases hs
 ·rename_i olds hxe;rw[hxe]at hxr;split at hs
  ·rename_i hc;obtain⟨hne,hol,hnl,hby,hmx⟩:=hc;injection hs with hs;injection hs with e1 e2;subst e1 e2;have hnlen:=hnlen hnl;have hnr:=hnr hnl;generalize hxv:a.eval x=u at hxr;cases hxr with
   |ab r1=>
    rename_i A0;have hold:∃xs:List Value,xs.length=olds.length*i.size/\(∀k (hk:k<olds.length) j (hj:j<olds[k].length),RC κ.m olds[k][j] (xs.getD (k*i.size+j) undef))/\
      (olds.length≠0->∃b o,A0=some ⟨b,o,none⟩/\∀k,k<xs.length->w.cell? ⟨b,o+k,none⟩=xs[k]?):=by
     obtain⟨s1,A1,cap1,xs1,hv1,k0,_,_,k3,k4,k5⟩:=r1.ke;by_cases h0:olds=[]
     ·subst h0;exact⟨[],by simp,fun k hk=>by simp at hk,fun h=>absurd rfl h⟩
     ·have hpos:0<olds.length:=jV.2 h0;have hs1:s1=i.size:=by rw[<-k0 _ (bw hpos),hol _ (bw hpos)]
      subst hs1;obtain⟨bb,oo,hA1,k4⟩:=k4 h0;injection hv1 with hv1 _ _;refine⟨xs1,k3,k5,fun _=>⟨bb,oo,by rw[hv1,hA1],fun k hk=>?_⟩⟩;have q:=k4 k hk;rw[aR hk]at q⊢;exact hrep.mem _ _ _ q
    obtain⟨xo,hxo,hxor,hxoc⟩:=hold;have hO:=hrep.own e i.size A0;have hleO:κ.le (κ.own (.slice A0 0 0) i.size):=K.qS;have frn:(κ.own (.slice A0 0 0) i.size).fr σ.length=some 0:=by show(if σ.length=κ.n then _ else _)=_;rw[if_pos hrep.n.symm]
    have svn:(κ.own (.slice A0 0 0) i.size).sv σ.length= .slice A0 0 0:=by show(if σ.length=κ.n then _ else _)=_;rw[if_pos hrep.n.symm]
    have szn:(κ.own (.slice A0 0 0) i.size).sz σ.length=i.size:=by show(if σ.length=κ.n then _ else _)=_;rw[if_pos hrep.n.symm]
    have hnn:σ.length<(κ.own (.slice A0 0 0) i.size).n:=by show _<κ.n+1;rw[hrep.n];omega
    have hal:∀q∈olds++news,q.length=i.size:=fun q hq=>by
     rcases cH.1 hq with hq|hq
     ·exact hol q hq
     ·exact hnl q hq
    by_cases hm:news.length=0
    ·have:news=[]:=fA hm;subst this;have:olds=[]:=by rcases hne with h|h;exact h;exact absurd rfl h
     subst this;have hns:ns=[]:=fA (by simpa using hnlen);subst hns;have hr:=Au (P:=P) (w:=w) (t:=t) (t2:=t2) (ty:=o.type) (A0:=A0) (n:=0) (cap:=0) hu hi (aA _) hna;refine⟨_,_,w,.inl (pc ho hxv hyv hr),hleO,hO,?_⟩;exact .aF (hleO.m|>fun q=>r1.mono q) hnn frn (aA _) (fun _=>svn.symm) (by simp)
    ·have hmp:0<news.length:=by omega
     obtain⟨v',w',hr,hown',hvb,c2⟩:=At (P:=P) (w0:=w0) (w:=w) (t:=t) (t2:=t2) (ty:=o.type) (n:=olds.length) (m:=news.length) (A0:=A0) (xs:=xo) (news:=ns) hu hi hz hzs hxo hxoc hnlen hna hmp hby hmx hrep.ext.size;obtain⟨hrep',hle⟩:=hO.gS (k:=olds.length+news.length) (n:=0) (b:=σ.length) (e:=e) (size:=i.size) (by simp) (by omega) hown' hvb ⟨c2.os,c2.tape,c2.output,c2.size,fun k hk _=>c2.block k hk⟩ (hrep.ext.trans (c2.mono hrep.ext.size))
      (fun x hx _ hl=>by have:=(hO.gR hx hl).2;omega) (fun p q hq=>by rw[hO.fresh (aA _)]at hq;cases hq) (hO.FD (aA _))
     rw[show(σ++[ad.spare e i.size 0]).set σ.length (.spare e i.size (olds.length+news.length))=σ++[.spare e i.size (olds.length+news.length)]from by simp]at hrep';refine⟨_,v',w',.inl (pc ho hxv hyv hr),K.le_trans hleO hle,hrep',?_⟩;have hv'':∃cap,v'= .slice (some ⟨w.heap.size,0,none⟩) (olds++news).length cap/\(olds++news).length<=cap/\cap<=maxLen:=by
      rcases hown'.2 with⟨_,h0⟩|⟨g',cap,cur,hvg,_,_,hnc,hcm,_,_⟩
      ·omega
      ·rw[hvg]at hvb;injection hvb with hvb;subst hvb;exact⟨cap,by rw[hvg,bt],by rw[bt];exact hnc,hcm⟩
     obtain⟨cap',hv1,hv2,hv3⟩:=hv'';have hrc:=wL (m:=((κ.own (.slice A0 0 0) i.size).gS σ.length (olds.length+news.length) w.heap.size v' (xo++ns)).m) (rows:=olds++news) (size:=i.size) (xs:=xo++ns) (by rw[hown'.1,bt]) hal (fun k hk j hj=>RC.mono (K.le_trans hleO hle).m (As hxo hol hxor hnr k hk j hj)) (b:=w.heap.size) (o:=0) (cap:=cap') (fun k hk=>by
      rw[eF];show(if w.heap.size=w.heap.size/\k<(xo++ns).length then _ else _)=_;rw[if_pos ⟨rfl,hk⟩]) hv2 hv3
     rw[<-hv1]at hrc;exact .aF (f:=olds.length+news.length) hrc hnn (by show(if σ.length=σ.length then _ else _)=_;rw[if_pos rfl]) (by rw[bt];omega) (fun _=>by show _=(if σ.length=σ.length then _ else _);rw[if_pos rfl]) (fun q hq=>(hal q hq).trans szn.symm)
  ·cases hs
 ·cases hs
theorem Ph{o:Oper}{t e:Nat}{x y:Operand}{x' y':ai}{i:TypeInfo}{z:Value}{v:V}(ho:o.op= .call {callee:=.builtin .append,args:=#[x,y],argTypes:=#[t,t]})(hu:P.underlying t=some (.slice e))(hi:P.info? e=some i)(hz:i.zero=some z)
  (hzs:z.cells.size=i.size) (hx:bF x=some x') (hy:bF y=some y') (hs:step ρ σ (.app e i.size i.bytes x' y')=some (v,σ')) (hrep:aB w0 κ σ w) (he:b8 κ ρ a):bf w0 κ σ' v ((execOp a.eval o).run P w):=by
 have hyr:=bO he hy;simp only[step]at hs;split at hs
 ·rename_i news hnews;have hyc:=hyr.kX hnews;by_cases hnl:∀r∈news,r.length=i.size
  ·obtain⟨A,c,ns,hyv,hnlen,hna,hn1,hnr⟩:=RC.source hrep hyc hnl;exact Gb ho hu hi hz hzs hx (by rw[hyv];exact Src.slice hu hnlen hna) (fun _=>hnlen) hn1 (fun _=>hnr) hs hrep he
  ·unfold nc at hs;split at hs
   ·split at hs
    ·exact absurd (by simp) hnl
    ·split at hs
     ·rw[if_neg (fun h=>hnl h.2.2.2.2.1)]at hs;cases hs
     ·cases hs
   ·split at hs
    ·rw[if_neg (fun h=>hnl h.2.2.2.1)]at hs;cases hs
    ·cases hs
   ·rw[if_neg (fun h=>hnl h.2.2.1)]at hs;cases hs
   ·cases hs
 ·cases hs
theorem wM{o:Oper}{t e:Nat}{x y:Operand}{x' y':ai}{i:TypeInfo}{z:Value}{olds news:List (List C)}(ho:o.op= .call {callee:=.builtin .append,args:=#[x,y],argTypes:=#[t,t]})(hu:P.underlying t=some (.slice e))(hi:P.info? e=some i)(hz:i.zero=some z)
  (hzs:z.cells.size=i.size) (hx:bF x=some x') (hy:bF y=some y') (hxe:x'.ev ρ= .ab olds) (hye:(y'.ev ρ).rows=some news) (hne:news≠[]) (hol:∀r∈olds,r.length=i.size) (hnl:∀r∈news,r.length=i.size)
  (hby:(olds.length+news.length)*i.bytes<=140737488355328) (hmx:olds.length+news.length<=140737488355328) (hrep:aB w0 κ σ w) (he:b8 κ ρ a):bf w0 κ (σ++[.vec e i.size (olds++news).flatten]) (.vec σ.length (olds.length+news.length)) ((execOp a.eval o).run P w):=by
 have hxr:=bO he hx;have hyr:=bO he hy;have hyc:=hyr.kX hye;obtain⟨A,c,ns,hyv,hnlen,hna,hn1,hnr⟩:=RC.source hrep hyc hnl;have hmp:0<news.length:=jV.2 hne;rw[hxe]at hxr;generalize hxv:a.eval x=u at hxr;cases hxr with
 |ab r1=>
  rename_i A0;have hold:∃xs:List Value,xs.length=olds.length*i.size/\(∀k (hk:k<olds.length) j (hj:j<olds[k].length),RC κ.m olds[k][j] (xs.getD (k*i.size+j) undef))/\
    (olds.length≠0->∃b o,A0=some ⟨b,o,none⟩/\∀k,k<xs.length->w.cell? ⟨b,o+k,none⟩=xs[k]?):=by
   obtain⟨s1,A1,cap1,xs1,hv1,k0,_,_,k3,k4,k5⟩:=r1.ke;by_cases h0:olds=[]
   ·subst h0;exact⟨[],by simp,fun k hk=>by simp at hk,fun h=>absurd rfl h⟩
   ·have hpos:0<olds.length:=jV.2 h0;have hs1:s1=i.size:=by rw[<-k0 _ (bw hpos),hol _ (bw hpos)]
    subst hs1;obtain⟨bb,oo,hA1,k4⟩:=k4 h0;injection hv1 with hv1 _ _;refine⟨xs1,k3,k5,fun _=>⟨bb,oo,by rw[hv1,hA1],fun k hk=>?_⟩⟩;have q:=k4 k hk;rw[aR hk]at q⊢;exact hrep.mem _ _ _ q
  obtain⟨xo,hxo,hxor,hxoc⟩:=hold;obtain⟨v',w',hr,hown',hvb,c2⟩:=At (P:=P) (w0:=w0) (w:=w) (t:=t) (t2:=t) (ty:=o.type) (n:=olds.length) (m:=news.length) (A0:=A0) (xs:=xo) (news:=ns) hu hi hz hzs hxo hxoc hnlen (Src.slice (P:=P) (w:=w) hu hnlen hna) hmp hby hmx hrep.ext.size;have hal:∀q∈olds++news,q.length=i.size:=fun q hq=>by
   rcases cH.1 hq with hq|hq
   ·exact hol q hq
   ·exact hnl q hq
  obtain⟨κ',q1,q2,q3⟩:=(hrep.grow c2).Ga (cs:=[]++(olds++news).flatten) (by omega) hown' hvb (fun o=>hrep.fresh (aA _) o) (fun x hx hl=>by have:=(hrep.gR hx hl).2;omega)
   (F9 (xs:=[]) rfl hal (fun j hj=>by simp at hj) (As hxo hol hxor hnr)) (by rw[er,sZ _ hal,bt])
  exact⟨κ',v',w',.inl (pc ho hxv hyv hr),q1,q2,q3⟩
theorem Pj{o:Oper}{t t2 e:Nat}{x y:Operand}{x' y':ai}{i:TypeInfo}{z:Value}{v:V}(ho:o.op= .call {callee:=.builtin .append,args:=#[x,y],argTypes:=#[t,t2]})(hu:P.underlying t=some (.slice e))(hu2:P.underlying t2=some .string)(hi:P.info? e=some i)(hz:i.zero=some z)
  (hzs:z.cells.size=i.size) (h1:i.size=1) (hx:bF x=some x') (hy:bF y=some y') (hs:step ρ σ (.lR e i.bytes x' y')=some (v,σ')) (hrep:aB w0 κ σ w) (he:b8 κ ρ a):bf w0 κ σ' v ((execOp a.eval o).run P w):=by
 have hyr:=bO he hy;simp only[step]at hs;split at hs
 ·rename_i l hl;rw[hl]at hyr;have hyv:=hyr.o8;have hbl:(mZ l).length=l.length:=by simp[mZ]
  refine Gb (news:=mZ l) (ns:=l.map fun b=>Value.int .u8 b.toNat) ho hu hi hz hzs hx (by rw[hyv,hbl,h1];exact Src.str hu2) (fun _=>by rw[hbl,h1];simp) (fun u hu=>?_) (fun _ k hk j hj=>?_) (by rw[h1];exact hs) hrep he
  ·obtain⟨b,_,rfl⟩:=List.mem_map.1 hu;rfl
  ·have hk':k<l.length:=by rw[hbl]at hk;exact hk
   have hj':j=0:=by simp[mZ]at hj;exact hj
   subst hj';have e1:(mZ l)[k]=[.int .u8 l[k].toNat]:=by simp[mZ]
   simp only[e1,dq,h1,Nat.mul_one,mS];rw[gQ (by simpa using hk'),List.getElem_map];exact .int _ _
 ·cases hs
end
section
variable {P:Program} {w0 w w':World} {κ:K} {σ σ':H} {a:Act} {ρ:Env}
theorem aB.Pk(h:aB w0 κ σ w):aB w0 (κ.more w.heap.size) (σ++[.mp []]) (w.alloc (.map #[] 0))/\RV (κ.more w.heap.size) (.mp σ.length) (.map (some w.heap.size)):=by
 have hle:κ.le (κ.more w.heap.size):=K.sW;have hA:=h.alloc (.map #[] 0);have hpos:∀b,b<σ.length->(κ.more w.heap.size).pos b=κ.pos b:=fun b hb=>by show(if b=κ.n then _ else _)=_;rw[if_neg (by rw[h.n];omega)]
 have hfr:∀b,b<σ.length->(κ.more w.heap.size).fr b=κ.fr b:=fun b hb=>by show(if b=κ.n then _ else _)=_;rw[if_neg (by rw[h.n];omega)]
 have hposn:(κ.more w.heap.size).pos σ.length=w.heap.size:=by show(if σ.length=κ.n then _ else _)=_;rw[if_pos h.n.symm]
 have hfrn:(κ.more w.heap.size).fr σ.length=none:=by show(if σ.length=κ.n then _ else _)=_;rw[if_pos h.n.symm]
 have hlies:∀b (hb:b<σ.length),(σ[b]).bc (κ.more w.heap.size) b=(σ[b]).bc κ b:=fun b hb=>ad.ka (hpos b hb) rfl;refine⟨⟨by show κ.n+1=_;rw[h.n];simp,hA.ext,hA.mem,fun b hb=>?_,fun x y hx hy g hne=>?_,fun l o hr=>⟨(hA.rest l o hr).1,(hA.rest l o hr).2.1,sX hlies (h.rest l o hr).2.2 (by simp only[ad.bc,hposn];intro e;injection e with e;have:=(dR.1 (h.rest l o hr).1).1;omega)⟩,hA.dt⟩,?_⟩
 ·rcases dS b σ.length with hb'|hb'
  ·rw[cC hb'];exact ad.is_le (κ:=κ) rfl hle (hpos b hb') (hfr b hb') rfl rfl (hA.cz b hb')
  ·have hbe:b=σ.length:=by simp at hb;omega
   subst hbe;rw[dJ (aA _)];simp only[ck,dq];exact⟨hfrn,⟨#[],0,by rw[hposn];exact kN w _,rfl,fun j hj=>by simp at hj⟩,by rw[hposn];exact h.ext.size,fun o=>by rw[hposn];exact h.fresh (aA _) o⟩
 ·rcases dS x σ.length with hx'|hx'<;>rcases dS y σ.length with hy'|hy'
  ·rw[cC hx',cC hy',hlies x hx',hlies y hy'];exact h.apart x y hx' hy' g hne
  ·have hye:y=σ.length:=by simp at hy;omega
   subst hye;rw[cC hx',hlies x hx',dJ (aA _)];simp only[ck,dq,ad.bc,hposn];intro h1 h2;have:=(h.gR hx' h1).2;injection h2;omega
  ·have hxe:x=σ.length:=by simp at hx;omega
   subst hxe;rw[cC hy',hlies y hy',dJ (aA _)];simp only[ck,dq,ad.bc,hposn];intro h1 h2;have:=(h.gR hy' h2).2;injection h1;omega
  ·simp at hx hy;omega
 ·have:=RV.mp (κ:=κ.more w.heap.size) (b:=σ.length) (by show _<κ.n+1;rw[h.n];omega) hfrn;rwa [hposn]at this
theorem Pl{o:Oper}{t:TypeId}(ho:o.op= .makeMap t none)(hrep:aB w0 κ σ w):bf w0 κ (σ++[.mp []]) (.mp σ.length) ((execOp a.eval o).run P w):=by
 obtain⟨h1,h2⟩:=hrep.Pk;refine⟨_,_,_,.inl ?_,K.sW,h1,h2⟩;simp[execOp,ho,Instr.makeMap,lI]
theorem Pm{z:Value}{c:C}(h:fE z=some (.c c)):z.cells=#[z]:=by
 unfold fE at h;split at h<;>first|(cases h;done)|rfl|(split at h<;>first|rfl|cases h)
theorem Pn{o:Oper}{t e:TypeId}{l:Nat}{i:TypeInfo}{z:Value}{zc:C}(ho:o.op= .makeSlice t (.tmp l) (.tmp l))(hu:P.underlying t=some (.slice e))(hi:P.info? e=some i)(hz:i.zero=some z)(hzc:fE z=some (.c zc))(hs1:i.size=1)
  {v:V} (hs:step ρ σ (.kU e i.bytes zc (.t l))=some (v,σ')) (hrep:aB w0 κ σ w) (he:b8 κ ρ a):bf w0 κ σ' v ((execOp a.eval o).run P w):=by
 simp only[step]at hs;split at hs
 ·rename_i k n hx;split at hs
  ·rename_i hn;obtain⟨h0,hb,hm⟩:=hn;injection hs with hs;injection hs with q1 q2;subst q1 q2;have hv:=he l;have hx:ρ l= .c (.int k n):=hx;rw[hx]at hv;have hev:a.eval (.tmp l)= .int k n:=by
    have e1:a.eval (.tmp l)=a.tmps.getD l undef:=rfl;rw[e1];generalize a.tmps.getD l undef=u at hv;cases hv with
    |c hc=>cases hc;rfl
   have hrun:=run_make (P:=P) w t e i z hu hi hz k k n n h0 (Int.le_refl _) (by omega) (by omega);have hA:=hrep.alloc (.cells (madeCells z.cells (n.toNat*i.size)) e);have hcs:=Pm hzc;have hrc:RC κ.m zc z:=by
    have:=Ag (κ:=κ) hzc;cases this with
    |c h=>exact h
   obtain⟨r1,r2⟩:=hA.FI (g:=w.heap.size) (e:=e) (size:=1) (n:=n.toNat) (cap:=n.toNat) (cs:=List.replicate n.toNat zc) (cur:=madeCells z.cells (n.toNat*i.size)) hrep.ext.size (fun o=>hrep.fresh (aA _) o) (fun x hx hl=>by have:=(hrep.gR hx hl).2;omega) (kN w _) (by simp) (aA _) (by unfold maxLen;omega) (by rw[size_madeCells,hs1]) (fun j hj=>by
    have hj':j<n.toNat:=by simpa using hj
    rw[hs1,hcs];simp only[List.getElem_replicate];have:(madeCells #[z] (n.toNat*1)).getD j undef=z:=by
     simp[madeCells,ik,hj',Nat.mod_one]
    rw[this];exact hrc)
   refine⟨_,_,_,.inl ?_,K.Aj,r1,r2 _ (aA _)⟩;simp[execOp,ho,hev,hrun,lI]
  ·cases hs
 ·cases hs
theorem wN{d:TypeDesc}{q:KD}(h:mY d=some q){x:C}{v:Value}{m:Mem}(hx:RC m x v)(hq:q.ok x=true):MapKept.IsKey d v:=by
 cases d<;>simp only[mY]at h<;>first|(cases h;done)|skip
 all_goals injection h with h;subst h
 all_goals cases hx<;>simp_all [KD.ok,MapKept.IsKey]
theorem Po{d:TypeDesc}{q:KD}(h:mY d=some q){x y:C}{u v:Value}{m:Mem}(hx:RC m x u)(hy:RC m y v)(hqx:q.ok x=true)(hqy:q.ok y=true):Instr.sameNow d u v=some (iU x y):=by
 cases d<;>simp only[mY]at h<;>first|(cases h;done)|skip
 all_goals injection h with h;subst h
 all_goals cases hx<;>first|(simp[KD.ok]at hqx;done)|skip
 all_goals cases hy<;>first|(simp[KD.ok]at hqy;done)|skip
 all_goals simp_all [KD.ok,Instr.sameNow,iU,FU]
theorem Pq{q:KD}{x y:C}(hqx:q.ok x=true)(hqy:q.ok y=true)(h:iU x y=true):x=y:=by
 cases q<;>cases x<;>simp[KD.ok]at hqx<;>cases y<;>simp[KD.ok]at hqy<;>simp_all [iU]
def jw(m:Mem)(kvs:List (C×C))(es:List MapEntry):Prop:=es.length=kvs.length/\∀j (hj:j<kvs.length) (hj':j<es.length),RC m kvs[j].1 (es[j]).key/\RC m kvs[j].2 (es[j]).val
theorem jw.cons_inv{m:Mem}{p:C×C}{kvs:List (C×C)}{es:List MapEntry}(h:jw m (p::kvs) es):∃e r,es=e::r/\RC m p.1 e.key/\RC m p.2 e.val/\jw m kvs r:=by
 cases es with
 |nil=>have:=h.1;simp at this
 |cons e r=>
  have h0:=h.2 0 (by simp) (by simp);exact⟨e,r,rfl,h0.1,h0.2,by have:=h.1;simpa using this,fun j hj hj'=>h.2 (j+1) (by simpa using hj) (by simpa using hj')⟩
theorem Av{m:Mem}{d:TypeDesc}{q:KD}(hd:mY d=some q){k:C}{kv:Value}(hk:RC m k kv)(hq:q.ok k=true):∀{kvs:List (C×C)} {es:List MapEntry} (i:Nat),jw m kvs es->(kvs.all fun p=>q.ok p.1)=true->
  (iu k kvs=none/\wh d kv es i=some none/\∀v,iv k v kvs=kvs++[(k,v)])\/
  ∃j x e,iu k kvs=some x/\wh d kv es i=some (some (i+j,e.val))/\es[j]?=some e/\RC m x e.val/\e.key=kv/\∀v,iv k v kvs=kvs.set j (k,v)
 |[],es,i,h,_=>by
  have:es=[]:=fA h.1;subst this;exact .inl ⟨rfl,rfl,fun v=>rfl⟩
 |p::kvs,es,i,h,ha=>by
  obtain⟨e,r,rfl,h1,h2,h3⟩:=h.cons_inv;rw[jl,Bool.and_eq_true]at ha;obtain⟨pk,pv⟩:=p;simp only at h1 h2 ha;have hs:=Po hd hk h1 hq ha.1;cases he:iU k pk with
  |true=>
   right;have hkk:=Pq hq ha.1 he;refine⟨0,pv,e,by rw[iu,he];rfl,by rw[wh,hs,he];rfl,rfl,h2,?_,fun v=>by rw[iv,he];rfl⟩;obtain⟨rr,q1,q2⟩:=MapKept.sameNow_of_keys (wN hd hk hq) (wN hd h1 ha.1);rw[hs,he]at q1;injection q1 with q1;exact(q2.1 q1.symm).symm
  |false=>
   rcases Av hd hk hq (i+1) h3 ha.2 with⟨q1,q2,q3⟩|⟨j,x,e',q1,q2,q3,q4,q5,q6⟩
   ·left;refine⟨by rw[iu,he];exact q1,by rw[wh,hs,he];exact q2,fun v=>by rw[iv,he];show _::iv k v kvs=_;rw[q3];rfl⟩
   ·right;refine⟨j+1,x,e',by rw[iu,he];exact q1,?_,q3,q4,q5,fun v=>by rw[iv,he];show _::iv k v kvs=_;rw[q6];rfl⟩;rw[wh,hs,he];show wh d kv r (i+1)=_;rw[q2,jk,Nat.add_comm 1 j]
theorem Pr{t:TypeId}{q:KD}{z:C}(h:wD P t=some (q,z)):∃kt et d,P.underlying t=some (.map kt et)/\P.underlying kt=some d/\mY d=some q/\lS P et=some (.c z):=by
 unfold wD at h;split at h
 ·rename_i kt et hu;split at h
  ·rename_i d z' hk hz;split at h
   ·rename_i q' hq;injection h with h;injection h with h1 h2;subst h1 h2;exact⟨kt,et,d,hu,hk,hq,hz⟩
   ·cases h
  ·cases h
 ·cases h
theorem Ps{t:TypeId}{q:KD}(h:wE P t=some q):∃kt et d,P.underlying t=some (.map kt et)/\P.underlying kt=some d/\mY d=some q:=by
 unfold wE at h;split at h
 ·rename_i kt et hu;split at h
  ·rename_i d hk;exact⟨kt,et,d,hu,hk,h⟩
  ·cases h
 ·cases h
theorem Pt{t:TypeId}{x:V}(h:lS P t=some x):∃z,(zeroValue t).run P w= .ok z w/\RV κ x z:=by
 unfold lS at h;split at h
 ·rename_i i hi;split at h
  ·rename_i z hz;refine⟨z,?_,wF h⟩;simp[zeroValue,typeInfo,hi,hz,lI]
  ·cases h
 ·cases h
theorem RV.Gc{b:Nat}{v:Value}(r:RV κ (.mp b) v):v= .map (some (κ.pos b)):=by cases r;rfl
theorem RV.Gd{x:C}{v:Value}(r:RV κ (.c x) v):RC κ.m x v:=by cases r;assumption
theorem Pu{o:Oper}{t:TypeId}{x k:Operand}{ok:Bool}{q:KD}{z:C}{x' k':ai}{v:V}(ho:o.op= .lookup t x k ok)(hm:wD P t=some (q,z))(hx:bF x=some x')(hk:bF k=some k')(hs:step ρ σ (.look ok q z x' k')=some (v,σ'))(hrep:aB w0 κ σ w)(he:b8 κ ρ a):bf w0 κ σ' v ((execOp a.eval o).run P w):=by
 obtain⟨kt,et,d,hu,hkt,hq,hz⟩:=Pr hm;simp only[step]at hs;split at hs
 ·rename_i b kc e1 e2;split at hs
  ·rename_i kvs hb;split at hs
   ·rename_i hc;injection hs with hs;injection hs with q1 q2;subst q1 q2;have rx:=bO he hx;have rk:=bO he hk;rw[e1]at rx;rw[e2]at rk;have hxv:=rx.Gc;have hkc:=rk.Gd;obtain⟨hlt,hb'⟩:=aK.1 hb;have hblk:=hrep.cz b hlt;rw[hb']at hblk;obtain⟨es,clock,k1,k2,k3⟩:=hblk.row;have hkey:=wN hq hkc hc.1;rcases Av hq hkc hc.1 0 ⟨k2,k3⟩ hc.2 with⟨f1,f2,_⟩|⟨j,y,e,f1,f2,_,f4,_⟩
    ·obtain⟨zv,z1,z2⟩:=Pt (w:=w) (κ:=κ) hz;have hrun:(Fa t (a.eval x) (a.eval k) ok).run P w= .ok (if ok then .tuple #[zv,.bool false]else zv) w:=by
      rw[hxv];cases ok<;>simp[Fa,cr hu,zO k1,Fb hkt hkey,Fc hkt f2,z1,lI]
     refine bf.still (v':=if ok then .tuple #[zv,.bool false]else zv) (by simp[execOp,ho,hrun,lI]) hrep ?_;rw[f1];unfold nU;cases ok
     ·exact z2
     ·refine .av (xs:=[zv,.bool false]) rfl fun j hj=>?_
      match j,hj with
      |0,_=>exact z2
      |1,_=>exact .c (.bool _)
    ·have hrun:(Fa t (a.eval x) (a.eval k) ok).run P w= .ok (if ok then .tuple #[e.val,.bool true]else e.val) w:=by
      rw[hxv];cases ok<;>simp[Fa,cr hu,zO k1,Fb hkt hkey,Fc hkt f2,lI]
     refine bf.still (v':=if ok then .tuple #[e.val,.bool true]else e.val) (by simp[execOp,ho,hrun,lI]) hrep ?_;rw[f1];unfold nU;cases ok
     ·exact .c f4
     ·refine .av (xs:=[e.val,.bool true]) rfl fun j hj=>?_
      match j,hj with
      |0,_=>exact .c f4
      |1,_=>exact .c (.bool _)
   ·cases hs
  ·cases hs
 ·cases hs
theorem aB.Ge(h:aB w0 κ σ w){b:Nat}{kvs kvs':List (C×C)}{es es':Array MapEntry}{clock clock':Nat}(hb:σ[b]?=some (.mp kvs))(hold:w.heap[κ.pos b]?=some (.map es clock))(hnew:jw κ.m kvs' es'.toList):
  aB w0 κ (σ.set b (.mp kvs')) {w with heap:=w.heap.setIfInBounds (κ.pos b) (.map es' clock')}:=by
 obtain⟨hlt,hb'⟩:=aK.1 hb;have hblk:=h.cz b hlt;rw[hb']at hblk;obtain⟨hself,hother⟩:=MapKept.heap_set (w:=w) (o':=.map es' clock') hold;refine⟨by simpa using h.n,?_,fun x o v hm=>?_,fun x hx=>?_,fun x y hx hy g hne=>?_,fun l o hr=>?_,by simpa using h.dt⟩
 rotate_right
 ·obtain⟨a1,a2,a3⟩:=h.rest l o hr;have hb1:=a3 b hlt;rw[hb']at hb1;exact⟨(hother l (fun e=>hb1 (by rw[e];rfl))).trans a1,a2,sY (fun _ _ _=>rfl) a3 hb1⟩
 ·exact h.ext.trans ⟨rfl,rfl,rfl,by simp,fun k hk=>hother k (by have:=hblk.own;omega)⟩
 ·have hne:x≠κ.pos b:=fun e=>by rw[e,hblk.free]at hm;cases hm
  rw[wa (w:=w) (a:=⟨x,o,none⟩) (hother x hne)];exact h.mem x o v hm
 ·by_cases hxb:x=b
  ·subst hxb;rw[gw];exact⟨hblk.fr,⟨es',clock',hself,hnew.1,hnew.2⟩,hblk.own,hblk.free⟩
  ·have hx':x<σ.length:=by simpa using hx
   rw[fz (di hxb)];refine ad.qQ (h.cz x hx') fun g hg=>hother g fun e=>?_;subst e;exact h.apart x b hx' hlt _ hxb hg (by rw[hb'];rfl)
 ·have hx':x<σ.length:=by simpa using hx
  have hy':y<σ.length:=by simpa using hy
  have lies_set:∀z (hz:z<σ.length) (hz':z<(σ.set b (.mp kvs')).length),((σ.set b (.mp kvs'))[z]).bc κ z=(σ[z]).bc κ z:=fun z hz hz'=>by
   by_cases hzb:z=b
   ·subst hzb;rw[gw,hb'];rfl
   ·rw[fz (di hzb)]
  rw[lies_set x hx',lies_set y hy'];exact h.apart x y hx' hy' g hne
theorem jw.snoc{m:Mem}{kvs:List (C×C)}{es:List MapEntry}{k v:C}{e:MapEntry}(h:jw m kvs es)(h1:RC m k e.key)(h2:RC m v e.val):jw m (kvs++[(k,v)]) (es++[e]):=by
 refine⟨by simp[h.1],fun j hj hj'=>?_⟩;rcases dS j kvs.length with hl|hl
 ·have hl':j<es.length:=by rw[h.1];exact hl
  rw[cC hl,cC hl'];exact h.2 j hl hl'
 ·have hje:j=kvs.length:=by simp at hj;omega
  subst hje;have e1:(kvs++[(k,v)])[kvs.length]=(k,v):=by simp
  have e2:(es++[e])[kvs.length]=e:=by
   rw[dJ (by rw[h.1];exact aA _)];simp[h.1]
  rw[e1,e2];exact⟨h1,h2⟩
theorem jw.put{m:Mem}{kvs:List (C×C)}{es:List MapEntry}{k v:C}{f:MapEntry->MapEntry}{i:Nat}(h:jw m kvs es)(hf:∀e,RC m k (f e).key/\RC m v (f e).val):jw m (kvs.set i (k,v)) (es.modify i f):=by
 refine⟨by simp[h.1],fun j hj hj'=>?_⟩;have hj1:j<kvs.length:=by simpa using hj
 have hj2:j<es.length:=by rw[h.1];exact hj1
 by_cases hij:i=j
 ·subst hij;have e1:(es.modify i f)[i]=f es[i]:=by rw[List.getElem_modify];simp
  rw[gw,e1];exact hf _
 ·have e1:(es.modify i f)[j]=es[j]:=by rw[List.getElem_modify,if_neg hij]
  rw[fz hij,e1];exact h.2 j hj1 hj2
theorem Pv{o:Oper}{t:TypeId}{x k y:Operand}{q:KD}{x' k' y':ai}{v:V}(ho:o.op= .mapUpdate t x k y)(hm:wE P t=some q)(hx:bF x=some x')(hk:bF k=some k')(hy:bF y=some y')(hs:step ρ σ (.j0 q x' k' y')=some (v,σ'))(hrep:aB w0 κ σ w)(he:b8 κ ρ a):bf w0 κ σ' v ((execOp a.eval o).run P w):=by
 obtain⟨kt,et,d,hu,hkt,hq⟩:=Ps hm;simp only[step]at hs;split at hs
 ·rename_i b kc vc e1 e2 e3;split at hs
  ·rename_i kvs hb;split at hs
   ·rename_i hc;injection hs with hs;injection hs with q1 q2;subst q1 q2;have rx:=bO he hx;have rk:=bO he hk;have ry:=(bO he hy).fW e3;rw[e1]at rx;rw[e2]at rk;have hxv:=rx.Gc;have hkc:=rk.Gd;obtain⟨hlt,hb'⟩:=aK.1 hb;have hblk:=hrep.cz b hlt;rw[hb']at hblk;obtain⟨es,clock,k1,k2,k3⟩:=hblk.row;have hkey:=wN hq hkc hc.1;rcases Av hq hkc hc.1 0 ⟨k2,k3⟩ hc.2 with⟨f1,f2,f3⟩|⟨j,z,e,f1,f2,f3',f4,f5,f6⟩
    ·have hrun:(Fe t (a.eval x) (a.eval k) (a.eval y)).run P w= .ok () {w with heap:=w.heap.setIfInBounds (κ.pos b) (.map (es.push {key:=a.eval k,val:=a.eval y,born:=clock}) (clock+1))}:=by
      rw[hxv];simp[Fe,cr hu,zO k1,Fb hkt hkey,Fc hkt f2,aac _ k1,lI]
     rw[f3];exact⟨κ,undef,{w with heap:=w.heap.setIfInBounds (κ.pos b) (.map (es.push {key:=a.eval k,val:=a.eval y,born:=clock}) (clock+1))},.inr ⟨by simp[execOp,ho,hrun,lI],rfl⟩,K.le_refl κ,hrep.Ge hb k1 (by rw[Array.toList_push];exact jw.snoc (e:={key:=a.eval k,val:=a.eval y,born:=clock}) ⟨k2,k3⟩ hkc ry),.void⟩
    ·have hst:(Instr.keyThatStays (((es[j]?).map (·.key)).getD (a.eval k)) (a.eval k)).run P w= .ok (a.eval k) w:=by
      have:es[j]?=some e:=by rw[<-Array.getElem?_toList];exact f3'
      rw[this];simp only[Option.map_some,Option.getD_some,f5];exact MapKept.run_keyThatStays hkey
     have hrun:(Fe t (a.eval x) (a.eval k) (a.eval y)).run P w= .ok () {w with heap:=w.heap.setIfInBounds (κ.pos b) (.map (es.modify j fun e=>{e with key:=a.eval k,val:=a.eval y}) clock)}:=by
      rw[hxv];rw[eF]at f2;simp[Fe,cr hu,zO k1,Fb hkt hkey,Fc hkt f2,hst,aac _ k1,lI]
     rw[f6];exact⟨κ,undef,{w with heap:=w.heap.setIfInBounds (κ.pos b) (.map (es.modify j fun e=>{e with key:=a.eval k,val:=a.eval y}) clock)},.inr ⟨by simp[execOp,ho,hrun,lI],rfl⟩,K.le_refl κ,hrep.Ge hb k1 (by rw[Array.toList_modify];exact jw.put (f:=fun e=>{e with key:=a.eval k,val:=a.eval y}) ⟨k2,k3⟩ fun e=>⟨hkc,ry⟩),.void⟩
   ·cases hs
  ·cases hs
 ·cases hs
end
section
variable {P:Program} {w0 w w':World} {κ:K} {σ σ':H} {a:Act} {ρ:Env}
theorem Gf{α:Type}{l:Array α}{x:α}(h:l.toList=[x]):l=#[x]:=by apply nM;simpa using h
theorem qT{α:Type}{l:Array α}{x y:α}(h:l.toList=[x,y]):l=#[x,y]:=by apply nM;simpa using h
theorem Pw{o:Oper}{b:Builtin}{args:Array Operand}{ats:Array TypeId}{ins:bh}{v:V}(ho:o.op= .call {callee:=.builtin b,args,argTypes:=ats})(ag:lT P b args.toList ats.toList=some ins)
  (hs:step ρ σ ins=some (v,σ')) (hrep:aB w0 κ σ w) (he:b8 κ ρ a):bf w0 κ σ' v ((execOp a.eval o).run P w):=by
 unfold lT at ag;split at ag
 ·rename_i x t h1 h2;rw[Gf h1,Gf h2]at ho;exact O3 ho (by unfold lT;exact ag) hs hrep he
 ·rename_i x y t t' h1 h2;split at ag
  ·rename_i ht;subst ht;rw[qT h1,qT h2]at ho;split at ag
   ·rename_i e hu;split at ag
    ·rename_i i hi;split at ag
     ·rename_i z hz;split at ag
      ·rename_i hc;obtain⟨x',y',hx,hy,rfl⟩:=ix ag;exact Ph ho hu hi hz hc.1 hx hy hs hrep he
      ·cases ag
     ·cases ag
    ·cases ag
   ·cases ag
  ·rw[qT h1,qT h2]at ho;split at ag
   ·rename_i e hu hu2;split at ag
    ·rename_i i hi;split at ag
     ·rename_i z hz;split at ag
      ·rename_i hc;obtain⟨x',y',hx,hy,rfl⟩:=ix ag;exact Pj ho hu hu2 hi hz hc.1 hc.2 hx hy hs hrep he
      ·cases ag
     ·cases ag
    ·cases ag
   ·cases ag
 ·rename_i x y h1;rw[qT h1]at ho;obtain⟨x',y',hx,hy,rfl⟩:=ix ag;simp only[step]at hs;split at hs
  ·rename_i k p k' q e1 e2;injection hs with hs;injection hs with q1 q2;subst q1 q2;exact O1 ho hx hy e1 e2 hrep he
  ·cases hs
 ·rename_i x y h1;rw[qT h1]at ho;obtain⟨x',y',hx,hy,rfl⟩:=ix ag;simp only[step]at hs;split at hs
  ·rename_i k p k' q e1 e2;injection hs with hs;injection hs with q1 q2;subst q1 q2;exact O2 ho hx hy e1 e2 hrep he
  ·cases hs
 ·cases ag
theorem s9{o:Oper}{ins:bh}{v:V}(ag:be P o.op=some ins)(hs:step ρ σ ins=some (v,σ'))(hrep:aB w0 κ σ w)(he:b8 κ ρ a):bf w0 κ σ' v ((execOp a.eval o).run P w):=by
 cases ho:o.op with
 |move x=>
  rw[ho]at ag;obtain⟨y,hy,rfl⟩:=eA ag;simp only[step]at hs;injection hs with hs;injection hs with q1 q2;subst q1 q2;exact FJ (.inl ho) hy hrep he
 |assign x=>
  rw[ho]at ag;obtain⟨y,hy,rfl⟩:=eA ag;simp only[step]at hs;injection hs with hs;injection hs with q1 q2;subst q1 q2;exact FJ (.inr ho) hy hrep he
 |pick c x y=>
  rw[ho]at ag;simp only[be]at ag;split at ag
  ·rename_i c' x' y' hc hx hy;injection ag with ag;subst ag;simp only[step]at hs;split at hs
   ·rename_i t ht;injection hs with hs;injection hs with q1 q2;subst q1 q2;exact OJ ho hc hx hy ht hrep he
   ·cases hs
  ·cases ag
 |alloc t=>
  rw[ho]at ag;simp only[be]at ag;split at ag
  ·rename_i z hz;injection ag with ag;subst ag;have hs':(if leaves z.ah=true then some (V.ptr σ.length 0,σ++[ad.cells z.ah (o6 P t)])else none)=some (v,σ'):=hs;by_cases hl:leaves z.ah=true
   ·rw[if_pos hl]at hs';injection hs' with hs';injection hs' with q1 q2;subst q1 q2;exact OK ho hz hl hrep
   ·rw[if_neg hl]at hs';cases hs'
  ·cases ag
 |box t x=>
  rw[ho]at ag;obtain⟨y,hy,rfl⟩:=eA ag;simp only[step]at hs;split at hs
  ·rename_i hl;injection hs with hs;injection hs with q1 q2;subst q1 q2;exact OL ho hy hl hrep he
  ·cases hs
 |build t parts=>
  rw[ho]at ag;simp only[be]at ag;split at ag
  ·rename_i fields z hu hz;split at ag
   ·rename_i pl hpl;split at ag
    ·rename_i ps hps;split at ag
     ·rename_i hl;injection ag with ag;subst ag;simp only[step]at hs;split at hs
      ·rename_i cs hf;injection hs with hs;injection hs with q1 q2;subst q1 q2;exact Pc ho hu hz hl hpl hps hf hrep he
      ·cases hs
     ·cases ag
    ·cases ag
   ·cases ag
  ·cases ag
 |buildSlice t n parts=>
  rw[ho]at ag;simp only[be]at ag;split at ag
  ·rename_i e hu;split at ag
   ·rename_i i hi;split at ag
    ·rename_i z ps hz hps;split at ag
     ·rename_i hc;injection ag with ag;subst ag;simp only[step]at hs;split at hs
      ·rename_i rows hr;injection hs with hs;injection hs with q1 q2;subst q1 q2;exact Pe ho hu hi hz hps hc.2.1 hc.2.2.1 hc.2.2.2 hr hrep he
      ·cases hs
     ·cases ag
    ·cases ag
   ·cases ag
  ·cases ag
 |load t x=>rw[ho]at ag;exact OM ho ag hs hrep he
 |store t x y=>rw[ho]at ag;exact ON ho ag hs hrep he
 |nilCheck x=>rw[ho]at ag;exact OO ho ag hs hrep he
 |binOp op t x y t'=>
  rw[ho]at ag;simp only[be]at ag;split at ag
  ·split at ag
   ·obtain⟨x',y',hx,hy,rfl⟩:=ix ag;exact FR ho hx hy hs hrep he
   ·cases ag
  ·split at ag
   ·obtain⟨x',y',hx,hy,rfl⟩:=ix ag;exact FR ho hx hy hs hrep he
   ·cases ag
  ·rename_i hu;split at ag
   ·obtain⟨x',y',hx,hy,rfl⟩:=ix ag;exact FT ho hu rfl hx hy hs hrep he
   ·obtain⟨x',y',hx,hy,rfl⟩:=ix ag;exact FT ho hu rfl hx hy hs hrep he
   ·cases ag
  ·rename_i e hu;split at ag
   ·obtain⟨neg,x',hop,hx,rfl⟩:=Ap ag;exact Aq ho hs hrep he hop hx rfl (.inl ⟨rfl,rfl,e,hu⟩)
   ·cases ag
  ·rename_i ms hu;split at ag
   ·obtain⟨neg,x',hop,hx,rfl⟩:=Ap ag;exact Aq ho hs hrep he hop hx rfl (.inr (.inl ⟨rfl,rfl,ms,hu⟩))
   ·cases ag
  ·rename_i p q r hu;split at ag
   ·obtain⟨neg,x',hop,hx,rfl⟩:=Ap ag;exact Aq ho hs hrep he hop hx rfl (.inr (.inr ⟨rfl,rfl,p,q,r,hu⟩))
   ·cases ag
  ·split at ag
   ·unfold sV at ag;split at ag
    ·obtain⟨y',hy',rfl⟩:=eA ag;cases hs
    ·obtain⟨y',hy',rfl⟩:=eA ag;cases hs
    ·cases ag
   ·cases ag
  ·rename_i fields hu;split at ag
   ·rename_i ks hks;split at ag
    ·cases ag
    ·rename_i hg;simp only[Bool.or_eq_true,not_or,Bool.not_eq_true]at hg;split at ag
     ·obtain⟨x',y',hx,hy,rfl⟩:=ix ag;exact FW ho hu hks hg.1 hg.2 rfl hx hy hs hrep he
     ·obtain⟨x',y',hx,hy,rfl⟩:=ix ag;exact FW ho hu hks hg.1 hg.2 rfl hx hy hs hrep he
     ·cases ag
   ·cases ag
  ·cases ag
 |unOp op t x=>rw[ho]at ag;exact OX ho ag hs hrep he
 |convert s t x=>rw[ho]at ag;exact OZ ho ag hs hrep he
 |makeFunc fn first caps=>
  rw[ho]at ag;unfold be at ag;split at ag
  all_goals first|(rename_i h;cases h;done)|skip
  all_goals first|(cases ag;done)|skip
  rename_i f caps' hh;injection hh with h1 h2 h3;subst h1 h2 h3;exact O0 ho (by unfold be;exact ag) hs hrep he
 |slice t x lo hi mx=>
  rw[ho]at ag;simp only[be]at ag;split at ag
  ·rename_i hu;split at ag
   ·rename_i x' lo' hi' hx h1 h2;injection ag with ag;subst ag;exact O6 ho hu hx h1 h2 hs hrep he
   ·cases ag
  ·rename_i e hu;split at ag
   ·rename_i i x' lo' hi' mx' hi0 hx h1 h2 h3;split at ag
    ·cases ag
    ·rename_i hmh;injection ag with ag;subst ag;exact O8 ho hu hi0 hx h1 h2 h3 hmh hs hrep he
   ·cases ag
  ·cases ag
 |fieldAddr s x f=>rw[ho]at ag;exact OP ho ag hs hrep he
 |field s x f=>rw[ho]at ag;exact OR ho ag hs hrep he
 |indexAddr t x k=>rw[ho]at ag;exact OU ho ag hs hrep he
 |index t x k=>rw[ho]at ag;exact OV ho ag hs hrep he
 |extract x k=>rw[ho]at ag;exact OS ho ag hs hrep he
 |makeMap t r=>
  rw[ho]at ag;cases r with
  |none=>
   have ag:some bh.kT=some ins:=ag;injection ag with ag;subst ag;simp only[step]at hs;injection hs with hs;injection hs with q1 q2;subst q1 q2;exact Pl ho hrep
  |some r=>have ag:none=some ins:=ag;cases ag
 |makeSlice t l c=>
  rw[ho]at ag;cases l with
  |tmp l=>
   cases c with
   |tmp c=>
    simp only[be,jv]at ag;split at ag
    ·rename_i hlc;subst hlc;split at ag
     ·rename_i e hu;split at ag
      ·rename_i i hi;split at ag
       ·rename_i z hz;split at ag
        ·rename_i zc hzc;split at ag
         ·rename_i hsz;injection ag with ag;subst ag;exact Pn ho hu hi hz hzc hsz.1 hs hrep he
         ·cases ag
        ·cases ag
       ·cases ag
      ·cases ag
     ·cases ag
    ·cases ag
   |const _=>simp[be,jv]at ag
   |func _=>simp[be,jv]at ag
   |global _=>simp[be,jv]at ag
  |const _=>simp[be,jv]at ag
  |func _=>simp[be,jv]at ag
  |global _=>simp[be,jv]at ag
 |lookup t x k ok=>
  rw[ho]at ag;simp only[be]at ag;split at ag
  ·rename_i q z hm;obtain⟨x',k',hx,hk,rfl⟩:=ix ag;exact Pu ho hm hx hk hs hrep he
  ·cases ag
 |mapUpdate t x k y=>
  rw[ho]at ag;simp only[be]at ag;split at ag
  ·rename_i q x' k' y' hm hx hk hy;injection ag with ag;subst ag;exact Pv ho hm hx hk hy hs hrep he
  ·cases ag
 |call c=>
  rw[ho]at ag;simp only[be]at ag;obtain⟨callee,args,ats⟩:=c;cases callee with
  |builtin b=>exact Pw ho ag hs hrep he
  |value f=>
   simp only at ag;split at ag
   ·injection ag with ag;subst ag;simp only[step]at hs;cases hs
   ·cases ag
  |invoke r m=>cases ag
 |_=>rw[ho]at ag;cases ag
end
structure aj where
 dst:Option Nat
 ins:bh
 guard:Option (Nat×Bool):=none
 deriving Inhabited
structure cA where
 op:aj
 bK:Bool
 lo:Nat
 deriving Inhabited
inductive AC where
 |skip
 |aG (ops:List aj)
 |ft (ops:List aj) (e:List cA)
 |seq (a b:AC)
 |cond (c:ai) (x y:AC)
 |block (id:Nat) (c:AC)
 |loop (c:AC)
 |exit (id:Nat)
 |ret
 |bad
 deriving Inhabited
def Env.put(ρ:Env)(d:Option Nat)(v:V):Env:=match d with
 |none=>ρ
 |some d=>fun k=>if k=d then v else ρ k
def bU(ρ:Env):Option (Nat×Bool)->Option Bool
 |none=>some true
 |some (d,want)=>match ρ d with
  | .c (.bool b)=>some (b==want)
  | .void=>some false
  |_=>none
def ai.tmps:ai->List Nat
 | .t n=>[n]
 | .k _=>[]
def qU:Option ai->List Nat
 |none=>[]
 |some x=>x.tmps
def bh.looks:bh->List Nat
 | .bad| .kT=>[]
 | .iw _ x| .o5 x| .kU _ _ _ x| .af x| .box x _| .aU x| .eJ _ x| .gO x| .lQ _ _ x| .un _ x| .conv _ x| .qJ x| .sT x| .aX _ x| .jr _ x| .sU _ _ x| .ext x _| .lens x| .aO x=>x.tmps
 | .pick c a b=>c.tmps++a.tmps++b.tmps
 | .j0 _ a b c=>a.tmps++b.tmps++c.tmps
 | .build _ ps=>ps.flatMap fun p=>p.2.2.tmps
 | .bn _ ps=>ps.flatMap ai.tmps
 | .look _ _ _ x y| .store _ x y| .bin _ x y| .o4 _ x y| .eqs _ _ x y| .aI _ x y| .index x y| .app _ _ _ x y| .lR _ _ x y| .mx x y| .mn x y=>x.tmps++y.tmps
 | .gB _ cs=>cs.flatMap ai.tmps
 | .qK x lo hi=>x.tmps++qU lo++qU hi
 | .jq _ x lo hi q=>x.tmps++qU lo++qU hi++qU q
 | .call f as=>f.tmps++as.flatMap ai.tmps
def aj.looks(o:aj):List Nat:=o.ins.looks++(match o.guard with|some (d,_)=>[d]|none=>[])
def iY(x y:aj):Bool:=
 (match x.dst with
  |some d=>!y.looks.contains d&&y.dst !=some d
  |none=>true)&&
 (match y.dst with
  |some d=>!x.looks.contains d
  |none=>true)
def wO(ops:Array Oper)(aops:Array aj)(listed:Array Bool)(i:Nat):Bool:=
 (dI ops.size).all fun j=>(j==i)||listed.getD j true||(match ops[j]? with
   |some o=>o.after.any fun e=>fD .any e&&e.on==i
   |none=>true)||(match aops[i]?,aops[j]? with
   |some x,some y=>iY x y
   |_,_=>false)
def kY(ops:Array Oper)(aops:Array aj):Nat->Nat->Array Bool->Bool
 |0,_,listed=>(eH .any ops listed).isEmpty
 |fuel+1,k,listed=>(eH .any ops listed).contains k&&wO ops aops listed k&&kY ops aops fuel (k+1) (listed.setIfInBounds k true)
def aj.bK(o:aj)(q:Bool):Bool:=match o.ins with
 | .store ..| .app ..| .lR ..| .box ..| .kT| .kU ..| .j0 ..=>true
 | .call ..=>q
 |_=>false
def pd(ops:Array Oper):Array Nat:=Region.before ops
def gD(an:Array Nat)(k j:Nat):Bool:=(an.getD k 0).testBit j
def ta(q:Bool)(an:Array Nat)(aops:Array aj):List Nat:=
 let n:=aops.size
 let bK:=(dI n).filter fun k=>((aops.getD k default).bK q)
 let step:=fun(acc:List Nat) k=>acc++((dI n).filter fun j=>(j==k||gD an k j)&&!acc.contains j)
 let acc:=bK.foldl step []
 acc++(dI n).filter fun j=>!acc.contains j
def gE(q:Bool)(an:Array Nat)(aops:Array aj)(k:Nat):Nat:=((dI aops.size).filter fun j=>((aops.getD j default).bK q)&&gD an k j).length
def Aw(q:Bool)(ops:Array Oper)(an:Array Nat)(aops:Array aj)(listed:Array Bool)(k:Nat):Bool:=
 (dI ops.size).all fun j=>(j==k)||listed.getD j true||!((aops.getD j default).bK q)||gD an j k
def gT(q:Bool)(aops:Array aj)(listed:Array Bool):Nat:=((dI aops.size).filter fun j=>((aops.getD j default).bK q)&&listed.getD j false).length
def nY(q:Bool)(ops:Array Oper)(an:Array Nat)(aops:Array aj):List Nat->Array Bool->Bool
 |[],listed=>(eH .any ops listed).isEmpty
 |k::l,listed=>(eH .any ops listed).contains k&&wO ops aops listed k&&Aw q ops an aops listed k&&nY q ops an aops l (listed.setIfInBounds k true)
def lU(ops:Array Oper)(an:Array Nat):Bool:=
 (dI ops.size).all fun k=>match ops[k]? with
   |none=>true
   |some o=>(dI ops.size).all fun j=>!gD an k j||o.after.any fun e=>fD .any e&&(e.on==j||gD an e.on j)&&decide (e.on<k)
def nZ(q:Bool)(ops:Array Oper)(aops:Array aj):List cA:=
 let an:=pd ops
 let order:=ta q an aops
 if lU ops an&&nY q ops an aops order (fa ops.size false)&&order.length==ops.size then order.map fun k=>⟨aops.getD k default,((aops.getD k default).bK q),gE q an aops k⟩else[]
def Ax(ops:Array Oper)(aops:Array aj):List cA:=match nZ true ops aops with
 |[]=>nZ false ops aops
 |p=>p
def tb(n:Nat):Option Nat->Bool
 |none=>true
 |some d=>decide (d<n)
def wP(ops:Array Oper)(n:Nat):Option (Nat×Bool)->Option (Option (Nat×Bool))
 |none=>some none
 |some (j,want)=>match(ops[j]?).bind (·.dst)with
  |some d=>if d<n then some (some (d,want))else none
  |none=>none
def tc(P:Program)(n:Nat)(ops:Array Oper)(o:Oper):Option aj:=
 match wP ops n o.guard with
 |some g=>if tb n o.dst then some ⟨o.dst,(be P o.op).getD .bad,g⟩else none
 |none=>none
def iZ(P:Program)(n:Nat)(ops:Array Oper):List Oper->Option (List aj)
 |[]=>some []
 |o::l=>match tc P n ops o,iZ P n ops l with
  |some x,some r=>some (x::r)
  |_,_=>none
def tr(P:Program)(n:Nat):Code->Option AC
 | .skip=>some .skip
 | .region _ ops draw=>match iZ P n ops ops.toList with
   |some l=>if draw then(if kY ops l.toArray ops.size 0 (fa ops.size false)then some (.ft l (Ax ops l.toArray))else some .bad)else some (.aG l)
   |none=>none
 | .seq a b=>match tr P n a,tr P n b with
   |some x,some y=>some (.seq x y)
   |_,_=>none
 | .cond c a b=>match bF c,tr P n a,tr P n b with
   |some z,some x,some y=>some (.cond z x y)
   |_,_,_=>none
 | .block id c=>match tr P n c with
   |some x=>some (.block id x)
   |none=>none
 | .loop c=>match tr P n c with
   |some x=>some (.loop x)
   |none=>none
 | .exit id=>some (.exit id)
 | .ret=>some .ret
 | .scope c=>tr P n c
 | .label _=>some .skip
 |_=>some .bad
structure St where
 ρ:Env
 σ:H
inductive It where
 |code (c:AC)
 |ops (l:List aj)
 |fF (id:Nat)
 |inv (I:St->Prop)
def iA(id:Nat):List It->Option (List It)
 |[]=>none
 | .fF j::k=>if j=id then some k else iA id k
 |_::k=>iA id k
def Enters(P:Program)(f:FuncId):Prop:=∀(args:Array Value) (w:World),(callFunc f args).run P w= .ok (.enter f args) w
structure DC (P:Program) (w0:World) (f:FuncId) (args:List V) (σ:H) (R:V->H->Prop):Prop where
 enters:Enters P f
 run:∀κ w (vs:List Value),aB w0 κ σ w->Fits κ args vs->Calls P f vs.toArray w (fun e w'=>∃v d σ' κ',e= .returned v/\R d σ'/\κ.le κ'/\aB w0 κ' σ' w'/\RV κ' d v)
theorem DC.mono{P:Program}{w0:World}{f:FuncId}{args:List V}{σ:H}{R R':V->H->Prop}(h:DC P w0 f args σ R)(hr:∀d σ',R d σ'->R' d σ'):DC P w0 f args σ R':=
 ⟨h.enters,fun κ w vs hrep hf=>(h.run κ w vs hrep hf).mono fun _ _ ⟨v,d,σ',κ',h1,h2,h3⟩=>⟨v,d,σ',κ',h1,hr _ _ h2,h3⟩⟩
structure Rel (w0:World) (κ0:K) (n:Nat) (κ:K) (s:St) (a:Act) (w:World):Prop where
 cZ:aB w0 κ s.σ w
 env:b8 κ s.ρ a
 size:a.tmps.size=n
 defers:a.defers=[]
 le:κ0.le κ
def aq(n0:Nat)(t s:St):Prop:=∀w0 κ0 n κ a w,κ0.n=n0->Rel w0 κ0 n κ s a w->∃κ',Rel w0 κ0 n κ' t a w
theorem aq.refl(n0:Nat)(s:St):aq n0 s s:=fun _ _ _ κ _ _ _ h=>⟨κ,h⟩
theorem aq.trans{n0:Nat}{r t s:St}(h:aq n0 r t)(k:aq n0 t s):aq n0 r s:=fun w0 κ0 n κ a w e hr=>
 let ⟨κ1,h1⟩:=k w0 κ0 n κ a w e hr
 h w0 κ0 n κ1 a w e h1
inductive dF (P:Program) (w0:World) (σ:H) (o:aj) (ρ:Env):V->Prop where
 |skip (hg:bU ρ o.guard=some false):dF P w0 σ o ρ .void
 |step {v:V} (hg:bU ρ o.guard=some true) (hs:step ρ σ o.ins=some (v,σ)):dF P w0 σ o ρ v
 |call {f:ai} {as:List ai} {fid:FuncId} {caps:List V} {v:V} (hg:bU ρ o.guard=some true) (hi:o.ins= .call f as) (hf:f.ev ρ= .fn fid caps)
   (hc:DC P w0 fid (as.map (·.ev ρ)++caps) σ (fun d σ'=>d=v/\σ'=σ)):dF P w0 σ o ρ v
inductive Canon (P:Program) (w0:World) (σ:H):List aj->Env->Env->Prop where
 |nil {ρ:Env}:Canon P w0 σ [] ρ ρ
 |cons {o:aj} {l:List aj} {ρ ρ':Env} {v:V} (h:dF P w0 σ o ρ v) (k:Canon P w0 σ l (ρ.put o.dst v) ρ'):Canon P w0 σ (o::l) ρ ρ'
inductive fc (P:Program) (w0:World) (σ:H) (o:aj) (ρ:Env):V->H->Prop where
 |skip (hg:bU ρ o.guard=some false):fc P w0 σ o ρ .void σ
 |step {v:V} {σ':H} (hg:bU ρ o.guard=some true) (hs:step ρ σ o.ins=some (v,σ')):fc P w0 σ o ρ v σ'
 |call {f:ai} {as:List ai} {fid:FuncId} {caps:List V} {v:V} {σ':H} (hg:bU ρ o.guard=some true) (hi:o.ins= .call f as) (hf:f.ev ρ= .fn fid caps)
   (hc:DC P w0 fid (as.map (·.ev ρ)++caps) σ (fun d τ=>d=v/\τ=σ')):fc P w0 σ o ρ v σ'
 |vec {e size bytes:Nat} {x y:ai} {olds news:List (List C)} (hg:bU ρ o.guard=some true) (hi:o.ins= .app e size bytes x y) (hx:x.ev ρ= .ab olds) (hy:(y.ev ρ).rows=some news) (hc:news≠[]/\(∀r∈olds,r.length=size)/\(∀r∈news,r.length=size)/\(olds.length+news.length)*bytes<=140737488355328/\olds.length+news.length<=140737488355328):
   fc P w0 σ o ρ (.vec σ.length (olds.length+news.length)) (σ++[.vec e size (olds++news).flatten])
inductive ae (P:Program) (w0:World):List cA->Env->H->List H->Env->H->List H->Prop where
 |nil {ρ:Env} {σ:H} {past:List H}:ae P w0 [] ρ σ past ρ σ past
 |bK {o:aj} {lo:Nat} {l:List cA} {ρ ρ':Env} {σ σ1 σ':H} {past past':List H} {v:V} (h:fc P w0 σ o ρ v σ1) (k:ae P w0 l (ρ.put o.dst v) σ1 (σ::past) ρ' σ' past'):ae P w0 (⟨o,true,lo⟩::l) ρ σ past ρ' σ' past'
 |quiet {o:aj} {lo:Nat} {l:List cA} {ρ ρ':Env} {σ σ':H} {past past':List H} {v:V} (h:dF P w0 σ o ρ v) (hp:∀τ∈past.take (past.length-lo),dF P w0 τ o ρ v) (k:ae P w0 l (ρ.put o.dst v) σ past ρ' σ' past'):ae P w0 (⟨o,false,lo⟩::l) ρ σ past ρ' σ' past'
inductive dG (P:Program) (w0:World) (S S':H->Prop) (o:aj) (ρ:Env):V->Prop where
 |skip (hg:bU ρ o.guard=some false) (hS:∀σ,S σ->S' σ):dG P w0 S S' o ρ .void
 |step {v:V} (hg:bU ρ o.guard=some true) (hs:∀σ,S σ->∃σ',step ρ σ o.ins=some (v,σ')/\S' σ'):dG P w0 S S' o ρ v
 |call {f:ai} {as:List ai} {fid:FuncId} {caps:List V} {v:V} (hg:bU ρ o.guard=some true) (hi:o.ins= .call f as) (hf:f.ev ρ= .fn fid caps)
   (hc:∀σ,S σ->DC P w0 fid (as.map (·.ev ρ)++caps) σ (fun d σ'=>d=v/\S' σ')):dG P w0 S S' o ρ v
 |vec {e size bytes N:Nat} {x y:ai} {olds news:List (List C)} (hg:bU ρ o.guard=some true) (hi:o.ins= .app e size bytes x y) (hx:x.ev ρ= .ab olds) (hy:(y.ev ρ).rows=some news) (hc:news≠[]/\(∀r∈olds,r.length=size)/\(∀r∈news,r.length=size)/\(olds.length+news.length)*bytes<=140737488355328/\olds.length+news.length<=140737488355328)
   (hs:∀σ,S σ->σ.length=N/\S' (σ++[.vec e size (olds++news).flatten])):dG P w0 S S' o ρ (.vec N (olds.length+news.length))
inductive ng (P:Program) (w0:World):List cA->Env->(H->Prop)->List (H->Prop)->Env->(H->Prop)->List (H->Prop)->Prop where
 |nil {ρ:Env} {S:H->Prop} {past:List (H->Prop)}:ng P w0 [] ρ S past ρ S past
 |bK {o:aj} {lo:Nat} {l:List cA} {ρ ρ':Env} {S S1 S':H->Prop} {past past':List (H->Prop)} {v:V} (h:dG P w0 S S1 o ρ v) (k:ng P w0 l (ρ.put o.dst v) S1 (S::past) ρ' S' past'):ng P w0 (⟨o,true,lo⟩::l) ρ S past ρ' S' past'
 |quiet {o:aj} {lo:Nat} {l:List cA} {ρ ρ':Env} {S S':H->Prop} {past past':List (H->Prop)} {v:V} (h:dG P w0 S S o ρ v) (hp:∀T∈past.take (past.length-lo),dG P w0 T T o ρ v) (k:ng P w0 l (ρ.put o.dst v) S past ρ' S' past'):ng P w0 (⟨o,false,lo⟩::l) ρ S past ρ' S' past'
def pe(l:List aj)(k:Nat):List Nat:=(dI k).filter fun j=>!(iY (l.getD j default) (l.getD k default))
def Ay(l:List aj)(L:Nat->Bool):Prop:=∀k,k<l.length->L k=true->∀j∈pe l k,L j=true
def jx(L:Nat->Bool)(k:Nat):Nat->Bool:=fun j=>j==k||L j
def YG(P:Program)(w0:World)(l0:List aj)(S:(Nat->Bool)->H->Prop)(k:Nat)(o:aj)(ρ:Env)(v:V):Prop:=
 ∀L,Ay l0 L->L k=false->(∀j∈pe l0 k,L j=true)->dG P w0 (S L) (S (jx L k)) o ρ v
inductive oa (P:Program) (w0:World) (l0:List aj) (S:(Nat->Bool)->H->Prop):Nat->List aj->Env->Env->Prop where
 |nil {k:Nat} {ρ:Env}:oa P w0 l0 S k [] ρ ρ
 |cons {k:Nat} {o:aj} {l:List aj} {ρ ρ':Env} {v:V} (h:YG P w0 l0 S k o ρ v) (hk:oa P w0 l0 S (k+1) l (ρ.put o.dst v) ρ'):oa P w0 l0 S k (o::l) ρ ρ'
inductive W (P:Program) (w0:World) (n0:Nat) (Q:St->Prop):List It->St->Prop where
 |done {s:St} (h:Q s):W P w0 n0 Q [] s
 |skip {k:List It} {s:St} (h:W P w0 n0 Q k s):W P w0 n0 Q (.code .skip::k) s
 |aG {l:List aj} {k:List It} {s:St} (h:W P w0 n0 Q (.ops l::k) s):W P w0 n0 Q (.code (.aG l)::k) s
 |ft {l:List aj} {e:List cA} {k:List It} {s:St} {ρ:Env} (hc:Canon P w0 s.σ l s.ρ ρ) (h:W P w0 n0 Q k ⟨ρ,s.σ⟩):W P w0 n0 Q (.code (.ft l e)::k) s
 |aQ {l:List aj} {e:List cA} {k:List It} {s:St} {ρ:Env} {σ:H} {hs:List H} (he:e≠[]) (hc:ae P w0 e s.ρ s.σ [] ρ σ hs) (h:W P w0 n0 Q k ⟨ρ,σ⟩):W P w0 n0 Q (.code (.ft l e)::k) s
 |Px {l:List aj} {e:List cA} {k:List It} {s:St} {ρ:Env} {S0 S:H->Prop} {hs:List (H->Prop)} (he:e≠[]) (h0:S0 s.σ) (hc:ng P w0 e s.ρ S0 [] ρ S hs) (h:∀σ,S σ->W P w0 n0 Q k ⟨ρ,σ⟩):W P w0 n0 Q (.code (.ft l e)::k) s
 |Az {l:List aj} {e:List cA} {k:List It} {s:St} {ρ:Env} (S:(Nat->Bool)->H->Prop) (h0:S (fun _=>false) s.σ) (hc:oa P w0 l S 0 l s.ρ ρ) (h:∀L,(∀j,j<l.length->L j=true)->∀σ,S L σ->W P w0 n0 Q k ⟨ρ,σ⟩):W P w0 n0 Q (.code (.ft l e)::k) s
 |seq {a b:AC} {k:List It} {s:St} (h:W P w0 n0 Q (.code a:: .code b::k) s):W P w0 n0 Q (.code (.seq a b)::k) s
 |cond {c:ai} {x y:AC} {k:List It} {s:St} {t:Bool} (hc:c.ev s.ρ= .c (.bool t)) (h1:t=true->W P w0 n0 Q (.code x::k) s) (h2:t=false->W P w0 n0 Q (.code y::k) s):W P w0 n0 Q (.code (.cond c x y)::k) s
 |block {id:Nat} {c:AC} {k:List It} {s:St} (h:W P w0 n0 Q (.code c:: .fF id::k) s):W P w0 n0 Q (.code (.block id c)::k) s
 |fF {id:Nat} {k:List It} {s:St} (h:W P w0 n0 Q k s):W P w0 n0 Q (.fF id::k) s
 |exit {id:Nat} {k k':List It} {s:St} (hp:iA id k=some k') (h:W P w0 n0 Q k' s):W P w0 n0 Q (.code (.exit id)::k) s
 |ret {k:List It} {s:St} (h:Q s):W P w0 n0 Q (.code .ret::k) s
 |loop {c:AC} {k:List It} {s:St} {α:Type} (S:α->St) (μ:α->Nat) (x0:α) (h0:aq n0 (S x0) s) (h:∀x,W P w0 n0 Q (.code c:: .inv (fun s'=>∃y,μ y<μ x/\aq n0 (S y) s')::k) (S x)):W P w0 n0 Q (.code (.loop c)::k) s
 |inv {I:St->Prop} {k:List It} {s:St} (h:I s):W P w0 n0 Q (.inv I::k) s
 |wQ {k:List It} {s:St} (h:W P w0 n0 Q k s):W P w0 n0 Q (.ops []::k) s
 |AA {o:aj} {l:List aj} {k:List It} {s:St} (hg:bU s.ρ o.guard=some false) (h:W P w0 n0 Q (.ops l::k) ⟨s.ρ.put o.dst .void,s.σ⟩):W P w0 n0 Q (.ops (o::l)::k) s
 |jy {o:aj} {l:List aj} {k:List It} {s:St} {v:V} {σ':H} (hg:bU s.ρ o.guard=some true) (hs:step s.ρ s.σ o.ins=some (v,σ')) (h:W P w0 n0 Q (.ops l::k) ⟨s.ρ.put o.dst v,σ'⟩):W P w0 n0 Q (.ops (o::l)::k) s
 |wR {o:aj} {l:List aj} {k:List It} {s:St} {f:ai} {as:List ai} {fid:FuncId} {caps:List V} {R:V->H->Prop} (hg:bU s.ρ o.guard=some true) (hi:o.ins= .call f as) (hf:f.ev s.ρ= .fn fid caps)
   (hc:DC P w0 fid (as.map (·.ev s.ρ)++caps) s.σ R) (h:∀d σ',R d σ'->W P w0 n0 Q (.ops l::k) ⟨s.ρ.put o.dst d,σ'⟩):W P w0 n0 Q (.ops (o::l)::k) s
 |ja {o:aj} {l:List aj} {k:List It} {s:St} {neg:Bool} {x:ai} {r:List (List C)} (hg:bU s.ρ o.guard=some true) (hi:o.ins= .iw neg x) (hx:(x.ev s.ρ).rows=some r)
   (h:∀b:Bool,(b=true->r=[])->W P w0 n0 Q (.ops l::k) ⟨s.ρ.put o.dst (.c (.bool (if neg then !b else b))),s.σ⟩):W P w0 n0 Q (.ops (o::l)::k) s
 |pf {o:aj} {l:List aj} {k:List It} {s:St} {e size bytes:Nat} {x y:ai} {olds news:List (List C)} (hg:bU s.ρ o.guard=some true) (hi:o.ins= .app e size bytes x y) (hx:x.ev s.ρ= .ab olds) (hy:(y.ev s.ρ).rows=some news) (hc:news≠[]/\(∀r∈olds,r.length=size)/\(∀r∈news,r.length=size)/\(olds.length+news.length)*bytes<=140737488355328/\olds.length+news.length<=140737488355328)
   (h:W P w0 n0 Q (.ops l::k) ⟨s.ρ.put o.dst (.vec s.σ.length (olds.length+news.length)),s.σ++[.vec e size (olds++news).flatten]⟩):W P w0 n0 Q (.ops (o::l)::k) s
 |fG {k:List It} {t s:St} (hl:aq n0 t s) (h:W P w0 n0 Q k t):W P w0 n0 Q k s
section
variable {P:Program} {w0:World} {n0:Nat} {Q:St->Prop} {k:List It} {s:St}
theorem W.Gg(h:W P w0 n0 Q (.code .skip::k) s):∃t,aq n0 t s/\W P w0 n0 Q k t:=by
 generalize hk:It.code .skip::k=ks at h;induction h with
 |skip h=>injection hk with _ hk;subst hk;exact⟨_,aq.refl _ _,h⟩
 |fG hl _ ih=>obtain⟨t,h1,h2⟩:=ih hk;exact⟨t,h1.trans hl,h2⟩
 |_=>cases hk
theorem W.Py{l:List aj}(h:W P w0 n0 Q (.code (.aG l)::k) s):∃t,aq n0 t s/\W P w0 n0 Q (.ops l::k) t:=by
 generalize hk:It.code (.aG l)::k=ks at h;induction h with
 |aG h=>injection hk with hk1 hk;injection hk1 with hk1;injection hk1 with hk1;subst hk hk1;exact⟨_,aq.refl _ _,h⟩
 |fG hl _ ih=>obtain⟨t,h1,h2⟩:=ih hk;exact⟨t,h1.trans hl,h2⟩
 |_=>cases hk
inductive Pz (P:Program) (w0:World) (n0:Nat) (Q:St->Prop) (l:List aj) (e:List cA) (k:List It) (t:St):Prop where
 |one {ρ:Env} {σ:H} (hc:(Canon P w0 t.σ l t.ρ ρ/\σ=t.σ)\/(e≠[]/\∃hs,ae P w0 e t.ρ t.σ [] ρ σ hs)) (h:W P w0 n0 Q k ⟨ρ,σ⟩)
 |Gh {ρ:Env} {S0 S:H->Prop} {hs:List (H->Prop)} (he:e≠[]) (h0:S0 t.σ) (hc:ng P w0 e t.ρ S0 [] ρ S hs) (h:∀σ,S σ->W P w0 n0 Q k ⟨ρ,σ⟩)
 |gen {ρ:Env} {S:(Nat->Bool)->H->Prop} (h0:S (fun _=>false) t.σ) (hc:oa P w0 l S 0 l t.ρ ρ) (h:∀L,(∀j,j<l.length->L j=true)->∀σ,S L σ->W P w0 n0 Q k ⟨ρ,σ⟩)
theorem W.PA{l:List aj}{e:List cA}(h:W P w0 n0 Q (.code (.ft l e)::k) s):∃t,aq n0 t s/\Pz P w0 n0 Q l e k t:=by
 generalize hk:It.code (.ft l e)::k=ks at h;induction h with
 |ft hc h=>injection hk with hk1 hk;injection hk1 with hk1;injection hk1 with hk1 hk2;subst hk hk1 hk2;exact⟨_,aq.refl _ _,.one (.inl ⟨hc,rfl⟩) h⟩
 |aQ he hc h=>injection hk with hk1 hk;injection hk1 with hk1;injection hk1 with hk1 hk2;subst hk hk1 hk2;exact⟨_,aq.refl _ _,.one (.inr ⟨he,_,hc⟩) h⟩
 |Px he h0 hc h=>injection hk with hk1 hk;injection hk1 with hk1;injection hk1 with hk1 hk2;subst hk hk1 hk2;exact⟨_,aq.refl _ _,.Gh he h0 hc h⟩
 |Az S h0 hc h=>injection hk with hk1 hk;injection hk1 with hk1;injection hk1 with hk1 hk2;subst hk hk1 hk2;exact⟨_,aq.refl _ _,.gen h0 hc h⟩
 |fG hl _ ih=>obtain⟨t,h1,h2⟩:=ih hk;exact⟨t,h1.trans hl,h2⟩
 |_=>cases hk
theorem W.PB{a b:AC}(h:W P w0 n0 Q (.code (.seq a b)::k) s):∃t,aq n0 t s/\W P w0 n0 Q (.code a:: .code b::k) t:=by
 generalize hk:It.code (.seq a b)::k=ks at h;induction h with
 |seq h=>injection hk with hk1 hk;injection hk1 with hk1;injection hk1 with hk2 hk3;subst hk hk2 hk3;exact⟨_,aq.refl _ _,h⟩
 |fG hl _ ih=>obtain⟨t,h1,h2⟩:=ih hk;exact⟨t,h1.trans hl,h2⟩
 |_=>cases hk
theorem W.PC{c:ai}{x y:AC}(h:W P w0 n0 Q (.code (.cond c x y)::k) s):∃t b,aq n0 t s/\c.ev t.ρ= .c (.bool b)/\(b=true->W P w0 n0 Q (.code x::k) t)/\(b=false->W P w0 n0 Q (.code y::k) t):=by
 generalize hk:It.code (.cond c x y)::k=ks at h;induction h with
 |cond hc h1 h2=>injection hk with hk1 hk;injection hk1 with hk1;injection hk1 with hk2 hk3 hk4;subst hk hk2 hk3 hk4;exact⟨_,_,aq.refl _ _,hc,h1,h2⟩
 |fG hl _ ih=>obtain⟨t,b,h1,h2⟩:=ih hk;exact⟨t,b,h1.trans hl,h2⟩
 |_=>cases hk
theorem W.PD{id:Nat}{c:AC}(h:W P w0 n0 Q (.code (.block id c)::k) s):∃t,aq n0 t s/\W P w0 n0 Q (.code c:: .fF id::k) t:=by
 generalize hk:It.code (.block id c)::k=ks at h;induction h with
 |block h=>injection hk with hk1 hk;injection hk1 with hk1;injection hk1 with hk2 hk3;subst hk hk2 hk3;exact⟨_,aq.refl _ _,h⟩
 |fG hl _ ih=>obtain⟨t,h1,h2⟩:=ih hk;exact⟨t,h1.trans hl,h2⟩
 |_=>cases hk
theorem W.PE{id:Nat}(h:W P w0 n0 Q (.fF id::k) s):∃t,aq n0 t s/\W P w0 n0 Q k t:=by
 generalize hk:It.fF id::k=ks at h;induction h with
 |fF h=>injection hk with _ hk;subst hk;exact⟨_,aq.refl _ _,h⟩
 |fG hl _ ih=>obtain⟨t,h1,h2⟩:=ih hk;exact⟨t,h1.trans hl,h2⟩
 |_=>cases hk
theorem W.PF{id:Nat}(h:W P w0 n0 Q (.code (.exit id)::k) s):∃t k',aq n0 t s/\iA id k=some k'/\W P w0 n0 Q k' t:=by
 generalize hk:It.code (.exit id)::k=ks at h;induction h with
 |exit hp h=>injection hk with hk1 hk;injection hk1 with hk1;injection hk1 with hk2;subst hk hk2;exact⟨_,_,aq.refl _ _,hp,h⟩
 |fG hl _ ih=>obtain⟨t,k',h1,h2⟩:=ih hk;exact⟨t,k',h1.trans hl,h2⟩
 |_=>cases hk
theorem W.PG(h:W P w0 n0 Q (.code .ret::k) s):∃t,aq n0 t s/\Q t:=by
 generalize hk:It.code .ret::k=ks at h;induction h with
 |ret h=>exact⟨_,aq.refl _ _,h⟩
 |fG hl _ ih=>obtain⟨t,h1,h2⟩:=ih hk;exact⟨t,h1.trans hl,h2⟩
 |_=>cases hk
theorem W.AB(h:W P w0 n0 Q [] s):∃t,aq n0 t s/\Q t:=by
 generalize hk:([]:List It)=ks at h;induction h with
 |done h=>exact⟨_,aq.refl _ _,h⟩
 |fG hl _ ih=>obtain⟨t,h1,h2⟩:=ih hk;exact⟨t,h1.trans hl,h2⟩
 |_=>cases hk
theorem W.inv_inv{I:St->Prop}(h:W P w0 n0 Q (.inv I::k) s):∃t,aq n0 t s/\I t:=by
 generalize hk:It.inv I::k=ks at h;induction h with
 |inv h=>injection hk with hk1 hk;injection hk1 with hk1;subst hk hk1;exact⟨_,aq.refl _ _,h⟩
 |fG hl _ ih=>obtain⟨t,h1,h2⟩:=ih hk;exact⟨t,h1.trans hl,h2⟩
 |_=>cases hk
theorem W.PH{c:AC}(h:W P w0 n0 Q (.code (.loop c)::k) s):∃(t:St) (α:Type) (S:α->St) (μ:α->Nat) (x0:α),aq n0 t s/\aq n0 (S x0) t/\∀x,W P w0 n0 Q (.code c:: .inv (fun s'=>∃y,μ y<μ x/\aq n0 (S y) s')::k) (S x):=by
 generalize hk:It.code (.loop c)::k=ks at h;induction h with
 |loop S μ x0 h0 h=>injection hk with hk1 hk;injection hk1 with hk1;injection hk1 with hk2;subst hk hk2;exact⟨_,_,S,μ,x0,aq.refl _ _,h0,h⟩
 |fG hl _ ih=>obtain⟨t,α,S,μ,x0,h1,h2⟩:=ih hk;exact⟨t,α,S,μ,x0,h1.trans hl,h2⟩
 |_=>cases hk
inductive PI (P:Program) (w0:World) (n0:Nat) (Q:St->Prop) (o:aj) (l:List aj) (k:List It) (t:St):Prop where
 |skip (hg:bU t.ρ o.guard=some false) (h:W P w0 n0 Q (.ops l::k) ⟨t.ρ.put o.dst .void,t.σ⟩)
 |step {v:V} {σ':H} (hg:bU t.ρ o.guard=some true) (hs:step t.ρ t.σ o.ins=some (v,σ')) (h:W P w0 n0 Q (.ops l::k) ⟨t.ρ.put o.dst v,σ'⟩)
 |call {f:ai} {as:List ai} {fid:FuncId} {caps:List V} {R:V->H->Prop} (hg:bU t.ρ o.guard=some true) (hi:o.ins= .call f as) (hf:f.ev t.ρ= .fn fid caps)
   (hc:DC P w0 fid (as.map (·.ev t.ρ)++caps) t.σ R) (h:∀d σ',R d σ'->W P w0 n0 Q (.ops l::k) ⟨t.ρ.put o.dst d,σ'⟩)
 |fork {neg:Bool} {x:ai} {r:List (List C)} (hg:bU t.ρ o.guard=some true) (hi:o.ins= .iw neg x) (hx:(x.ev t.ρ).rows=some r)
   (h:∀b:Bool,(b=true->r=[])->W P w0 n0 Q (.ops l::k) ⟨t.ρ.put o.dst (.c (.bool (if neg then !b else b))),t.σ⟩)
 |vec {e size bytes:Nat} {x y:ai} {olds news:List (List C)} (hg:bU t.ρ o.guard=some true) (hi:o.ins= .app e size bytes x y) (hx:x.ev t.ρ= .ab olds) (hy:(y.ev t.ρ).rows=some news) (hc:news≠[]/\(∀r∈olds,r.length=size)/\(∀r∈news,r.length=size)/\(olds.length+news.length)*bytes<=140737488355328/\olds.length+news.length<=140737488355328)
   (h:W P w0 n0 Q (.ops l::k) ⟨t.ρ.put o.dst (.vec t.σ.length (olds.length+news.length)),t.σ++[.vec e size (olds++news).flatten]⟩)
theorem W.PJ{o:aj}{l:List aj}(h:W P w0 n0 Q (.ops (o::l)::k) s):∃t,aq n0 t s/\PI P w0 n0 Q o l k t:=by
 generalize hk:It.ops (o::l)::k=ks at h;induction h with
 |AA hg h=>injection hk with hk1 hk;injection hk1 with hk1;injection hk1 with hk2 hk3;subst hk hk2 hk3;exact⟨_,aq.refl _ _,.skip hg h⟩
 |jy hg hs h=>injection hk with hk1 hk;injection hk1 with hk1;injection hk1 with hk2 hk3;subst hk hk2 hk3;exact⟨_,aq.refl _ _,.step hg hs h⟩
 |wR hg hi hf hc h=>injection hk with hk1 hk;injection hk1 with hk1;injection hk1 with hk2 hk3;subst hk hk2 hk3;exact⟨_,aq.refl _ _,.call hg hi hf hc h⟩
 |ja hg hi hx h=>injection hk with hk1 hk;injection hk1 with hk1;injection hk1 with hk2 hk3;subst hk hk2 hk3;exact⟨_,aq.refl _ _,.fork hg hi hx h⟩
 |pf hg hi hx hy hc h=>injection hk with hk1 hk;injection hk1 with hk1;injection hk1 with hk2 hk3;subst hk hk2 hk3;exact⟨_,aq.refl _ _,.vec hg hi hx hy hc h⟩
 |fG hl _ ih=>obtain⟨t,h1,h2⟩:=ih hk;exact⟨t,h1.trans hl,h2⟩
 |wQ=>cases hk
 |_=>cases hk
theorem W.PK(h:W P w0 n0 Q (.ops []::k) s):∃t,aq n0 t s/\W P w0 n0 Q k t:=by
 generalize hk:It.ops []::k=ks at h;induction h with
 |wQ h=>injection hk with _ hk;subst hk;exact⟨_,aq.refl _ _,h⟩
 |fG hl _ ih=>obtain⟨t,h1,h2⟩:=ih hk;exact⟨t,h1.trans hl,h2⟩
 |_=>cases hk
end
end Go.Lamb
