/- . -/
import Derived.Test.YtdlkenpilhakfaaGreatDoorQJ11
import Derived.Laws.StructEq
import Derived.Laws.Tables
import Derived.MapKept
import Derived.Deep.LoopGhost
import Derived.Orders
set_option linter.unusedSimpArgs false
set_option linter.unusedVariables false
set_option maxHeartbeats 8000000
set_option maxRecDepth 20000
open Array renaming ext'->nK,getD_eq_getD_getElem?->ij,getElem?_eq_some_iff->dS,length_toList->NW,replicate->ff
open Bool renaming false_eq_true->fe
open Go renaming heap_alloc_new->kE,run_underlying->cp
open Go.Builtin renaming append_->nM,firstCells->v8,lenOf->NV,nextslicecap->ZS,zeroCells->qo
open Go.Instr renaming fill->qp,findNow->wa,lookup->EL,mapUpdate->EO
open Go.MapKept renaming run_checkKey->EM,run_findKey->EN,run_getObj_map->zB,run_setObj_map->ZU
open Go.Op renaming equalIn->gw
open Go.Region renaming binds->fG,ready->eI
open Go.Result renaming andThen->lB,andThen_ok->jP
open Go.RowKit.Below renaming refl->ep
open Go.Sem renaming run_bind->jh,run_pure->jO
open Go.World renaming cell?_of_block->vX
open List renaming all_cons->jQ,append_assoc->dt,eq_nil_of_length_eq_zero->fF,flatten_cons->dW,getD_eq_getElem?_getD->cf,getElem?_append_left->cI,getElem?_append_right->cZ,getElem?_eq_getElem->aO,getElem?_eq_some_iff->aL,getElem?_take->mH,getElem_append_left->cL,getElem_append_right->dU,getElem_cons_zero->dC,getElem_mem->bt,getElem_set_ne->fE,getElem_set_self->gv,length_append->bD,length_cons->bk,length_pos_iff->jR,length_take->dV,map_cons->cx,mem_append->cM,mem_cons->cA,nil_append->eH,range->fc,size_toArray->oR,take_left->nL
open Nat renaming add_assoc->ji,add_mul->fo,add_zero->mG,div_lt_iff_lt_mul->ZT,le_refl->aA,le_trans->bE,lt_or_ge->dT,mul_le_mul_right->jg,sub_self->cq,zero_add->er
open Ne renaming symm->dn
namespace Go.Lamb
open Go Go.RowKit
section
variable {P:Program} {w0 w w':World} {κ:K} {σ σ':H} {a:Act} {ρ:Env}
theorem Af{k:Nat}{op:BinOp}{x:Operand}{i:bq}(h:nU k op x=some i):∃neg y,op=(if neg then .neq else .eql)/\bH x=some y/\i= .lK neg k y:=by
 unfold nU at h;split at h
 ·obtain⟨y,hy,rfl⟩:=ez h;exact⟨false,y,rfl,hy,rfl⟩
 ·obtain⟨y,hy,rfl⟩:=ez h;exact⟨true,y,rfl,hy,rfl⟩
 ·cases h
theorem o9{o:Oper}{op:BinOp}{t t':Nat}{x y:Operand}{neg p:Bool}{u v:Value}(ho:o.op= .binOp op t x y t')(hop:op=if neg then .neq else .eql)(hu:a.eval x=u)(hv:a.eval y=v)
  (hg:(eqGuard op t x y u v).run P w= .ok () w) (hq:(Op.equal t u v).run P w= .ok p w) (hb:∀op,(op= .eql->binOp op t u v=(do pure (.bool (<-Op.equal t u v))))/\(op= .neq->binOp op t u v=(do pure (.bool (!(<-Op.equal t u v)))))):
  (execOp a.eval o).run P w= .ok (.value (.bool (if neg then !p else p))) w:=by
 cases neg
 ·simp only[fe,if_false]at hop;subst hop;simp only[execOp,ho,hu,hv,jh,hg,jP,(hb _).1 rfl,hq,jO,fe,if_false]
 ·simp only[if_true]at hop;subst hop;simp only[execOp,ho,hu,hv,jh,hg,jP,(hb _).2 rfl,hq,jO,if_true]
theorem Ag{o:Oper}{op:BinOp}{t t':Nat}{x y:Operand}{i:bq}{v:V}(ho:o.op= .binOp op t x y t')(hs:step ρ σ i=some (v,σ'))(hrep:aC w0 κ σ w)(he:b8 κ ρ a)
  {neg:Bool} {k:Nat} {x':aj} (hop:op=if neg then .neq else .eql) (hx:bH x=some x') (hi:i= .lK neg k x')
  (hk:(k=0/\y= .const (.pointer none)/\∃e,P.underlying t=some (.pointer e))\/(k=1/\y= .const .nilIface/\∃ms,P.underlying t=some (.interface ms))\/(k=2/\y= .const .nilFunc/\∃p q r,P.underlying t=some (.func p q r))):
  bg w0 κ σ' v ((execOp a.eval o).run P w):=by
 have hxr:=bO he hx;subst hi;simp only[step]at hs;split at hs
 ·rename_i p hp;injection hs with hs;injection hs with e1 e2;subst e1 e2;refine bg.still (v':=.bool (if neg then !p else p)) ?_ hrep (.c (.bool _));rcases hk with⟨rfl,rfl,e,hu⟩|⟨rfl,rfl,ms,hu⟩|⟨rfl,rfl,q1,q2,q3,hu⟩
  ·have key:∀A:Option Addr,a.eval x= .pointer A->A.isNone=p->(execOp a.eval o).run P w= .ok (.value (.bool (if neg then !p else p))) w:=by
    intro A hA hp;refine o9 ho hop hA (v:=.pointer none) rfl ?_ ?_ (fun op=>⟨fun h=>by subst h;rfl,fun h=>by subst h;rfl⟩)
    ·unfold eqGuard;split<;>simp
    ·have:∀d,(gw (d+1) t (.pointer A) (.pointer none)).run P w= .ok A.isNone w:=fun d=>by cases A<;>simp[gw,cp hu]
     rw[<-hp];exact this 9999
   cases hxe:x'.ev ρ with
   |c z=>
    rw[hxe]at hxr hp;generalize hxv:a.eval x=u at hxr;cases hxr with
    |c hz=>
     cases hz<;>simp only[V.isNil]at hp<;>first|(cases hp;done)|(injection hp with hp;subst hp)
     ·exact key none hxv rfl
     ·exact key _ hxv rfl
   |ptr b o=>
    rw[hxe]at hxr hp;simp only[V.isNil]at hp;injection hp with hp;subst hp;cases hxv:a.eval x with
    |pointer A=>rw[hxv]at hxr;cases hxr;exact key _ hxv rfl
    |_=>rw[hxv]at hxr;cases hxr
   |_=>rw[hxe]at hp;cases hp
  ·have hg:∀u,(eqGuard op t x (.const .nilIface) u .nilIface).run P w= .ok () w:=fun u=>by
    unfold eqGuard;split<;>cases u<;>simp
   cases hxe:x'.ev ρ with
   |c z=>
    rw[hxe]at hxr hp;cases hxv:a.eval x with
    |nilIface=>
     rw[hxv]at hxr;cases hxr with
     |c hz=>
      cases hz;simp only[V.isNil]at hp;injection hp with hp;subst hp;refine o9 ho hop hxv (v:=.nilIface) rfl (hg _) ?_ (fun op=>⟨fun h=>by subst h;rfl,fun h=>by subst h;rfl⟩);have:∀d,(gw (d+1) t .nilIface .nilIface).run P w= .ok true w:=fun d=>by simp[gw,cp hu]
      exact this 9999
    |iface T u=>
     rw[hxv]at hxr;cases hxr with
     |c hz=>
      cases hz;simp only[V.isNil]at hp;injection hp with hp;subst hp;refine o9 ho hop hxv (v:=.nilIface) rfl (hg _) ?_ (fun op=>⟨fun h=>by subst h;rfl,fun h=>by subst h;rfl⟩);have:∀d,(gw (d+1) t (.iface T u) .nilIface).run P w= .ok false w:=fun d=>by simp[gw,cp hu]
      exact this 9999
    |_=>rw[hxv]at hxr;cases hxr with|c hz=>cases hz<;>cases hp
   |_=>rw[hxe]at hp;cases hp
  ·have hg:∀u,(∀q,u≠ .agg q)->u≠ .nilIface->(eqGuard op t x (.const .nilFunc) u .nilFunc).run P w= .ok () w:=fun u h1 h2=>by
    unfold eqGuard;split<;>cases u<;>simp
   cases hxe:x'.ev ρ with
   |cg=>
    rw[hxe]at hxr hp;simp only[V.isNil]at hp;injection hp with hp;subst hp;cases hxv:a.eval x with
    |nilFunc=>
     refine o9 ho hop hxv (v:=.nilFunc) rfl (hg _ (by simp) (by simp)) ?_ (fun op=>⟨fun h=>by subst h;rfl,fun h=>by subst h;rfl⟩);have:∀d,(gw (d+1) t .nilFunc .nilFunc).run P w= .ok true w:=fun d=>by simp[gw,cp hu]
     exact this 9999
    |_=>rw[hxv]at hxr;cases hxr
   |fn f caps=>
    rw[hxe]at hxr hp;simp only[V.isNil]at hp;injection hp with hp;subst hp;cases hxv:a.eval x with
    |func f1 f2 f3=>
     refine o9 ho hop hxv (v:=.nilFunc) rfl (hg _ (by simp) (by simp)) ?_ (fun op=>⟨fun h=>by subst h;rfl,fun h=>by subst h;rfl⟩);have:∀d,(gw (d+1) t (.func f1 f2 f3) .nilFunc).run P w= .ok false w:=fun d=>by simp[gw,cp hu]
     exact this 9999
    |_=>rw[hxv]at hxr;cases hxr
   |_=>rw[hxe]at hp;cases hp
 ·cases hs
theorem Fx(l r:List UInt8):(bs l==bs r)=(l==r):=by rw[beq_toListBytes,Ae,Ae]
theorem OR{x y:C}{u v:Value}{m:Mem}{p:Bool}{t k:Nat}{dd:TypeDesc}(d:Nat)(hx:RC m x u)(hy:RC m y v)(hp:qB k x y=some p)(hu:P.underlying t=some dd)(hk:wy dd=some k):
  (gw (d+1) t u v).run P w= .ok p w:=by
 cases dd<;>simp only[wy]at hk<;>try (cases hk;done)
 ·injection hk with hk;subst hk;cases x<;>cases y<;>simp only[qB]at hp<;>first|(cases hp;done)|(injection hp with hp;subst hp)
  cases hx;cases hy;simp[gw,cp hu]
 ·injection hk with hk;subst hk;cases x<;>cases y<;>simp only[qB]at hp<;>try (cases hp;done)
  split at hp
  ·rename_i hq;subst hq;injection hp with hp;subst hp;cases hx;cases hy;simp[gw,cp hu]
  ·cases hp
 ·injection hk with hk;subst hk;cases x<;>cases y<;>simp only[qB]at hp<;>first|(cases hp;done)|(injection hp with hp;subst hp)
  cases hx;cases hy;simp[gw,cp hu,Fx]
theorem Fy{xs ys:List Value}(d:Nat):∀(fs:List Field) (n:Nat) (ks:List Nat) (l r:List V) (p:Bool),qF P n fs=some ks->kM ks l r=some p->
  (∀j (hj:j<l.length),∃v,xs[n+j]?=some v/\RV κ l[j] v)->(∀j (hj:j<r.length),∃v,ys[n+j]?=some v/\RV κ r[j] v)->
  (Op.eqFields (d+1) xs.toArray ys.toArray fs).run P w= .ok p w
 |[],n,ks,l,r,p,hb,hp,_,_=>by
  simp only[qF]at hb;injection hb with hb;subst hb;unfold kM at hp;split at hp
  ·injection hp with hp;subst hp;rfl
  ·rename_i h _ _;cases h
  ·cases hp
 |f::fs,n,ks,l,r,p,hb,hp,hl,hr=>by
  simp only[qF]at hb;split at hb
  ·rename_i hf;split at hb
   ·rename_i dd hu;split at hb
    ·rename_i q rest hq hrest;injection hb with hb;subst hb;cases l with
     |nil=>simp[kM]at hp
     |cons a0 l'=>
     cases r with
     |nil=>cases a0<;>simp[kM]at hp
     |cons b0 r'=>
     cases a0 with
     |c x=>
      cases b0 with
      |c y=>
      simp only[kM]at hp;split at hp
      ·rename_i b1 b2 hb1 hb2;injection hp with hp;subst hp;obtain⟨u,hu1,hu2⟩:=hl 0 (by simp);obtain⟨v,hv1,hv2⟩:=hr 0 (by simp);simp only[dC]at hu2 hv2;cases hu2 with
       |c hu2=>
        cases hv2 with
        |c hv2=>
         have e1:=OR (P:=P) (w:=w) d hu2 hv2 hb1 hu hq;have hg:jr dd=false:=by cases dd<;>simp[wy,jr]at hq⊢
         have pu:(part f.type xs.toArray f.offset).run P w= .ok u w:=by
          rw[hf.1];simp at hu1;simp[part,nV hu,hg,hu1]
         have pv:(part f.type ys.toArray f.offset).run P w= .ok v w:=by
          rw[hf.1];simp at hv1;simp[part,nV hu,hg,hv1]
         have ih:=Fy d fs (n+1) rest l' r' b2 hrest hb2 (fun j hj=>by
          have:=hl (j+1) (by simpa using hj);rwa [show n+(j+1)=n+1+j from by omega]at this) (fun j hj=>by
          have:=hr (j+1) (by simpa using hj);rwa [show n+(j+1)=n+1+j from by omega]at this)
         unfold Op.eqFields;rw[if_pos hf.2];cases b1
         ·simp[pu,pv,e1]
         ·simp[pu,pv,e1,ih]
      ·cases hp
      |_=>simp[kM]at hp
     |_=>simp[kM]at hp
    ·cases hb
   ·cases hb
  ·cases hb
theorem Fz{o:Oper}{op:BinOp}{t t':Nat}{x y:Operand}{x' y':aj}{v:V}{neg:Bool}{ks:List Nat}{fields:Array Field}(ho:o.op= .binOp op t x y t')(hu:P.underlying t=some (.struct fields))(hks:qF P 0 fields.toList=some ks)
  (hg:P.stoodInHeld t=false) (hm:P.eqGuardType P.depth t=false) (hop:op=if neg then .neq else .eql) (hx:bH x=some x') (hy:bH y=some y')
  (hs:step ρ σ (.eqs neg ks x' y')=some (v,σ')) (hrep:aC w0 κ σ w) (he:b8 κ ρ a):bg w0 κ σ' v ((execOp a.eval o).run P w):=by
 have hxr:=bO he hx;have hyr:=bO he hy;simp only[step]at hs;split at hs
 ·rename_i xs ys h1 h2;split at hs
  ·rename_i p hp;injection hs with hs;injection hs with e1 e2;subst e1 e2;rw[h1]at hxr;rw[h2]at hyr;obtain⟨us,hxv,hxf⟩:=hxr.wD;obtain⟨vs,hyv,hyf⟩:=hyr.wD;have hfo:P.fieldsOf t=fields:=by unfold Program.fieldsOf;rw[hu]
   have q:(Op.equal t (.agg us.toArray) (.agg vs.toArray)).run P w= .ok p w:=by
    have:=run_equalIn_struct (P:=P) w 9999 t us.toArray vs.toArray (by rw[hfo];exact hu) hg;rw[hfo,Fy (κ:=κ) 9998 fields.toList 0 ks xs ys p hks hp (fun j hj=>by simpa using hxf.at_ (aO hj)) (fun j hj=>by simpa using hyf.at_ (aO hj))]at this;exact this
   exact bg.still (v':=.bool (if neg then !p else p)) (o9 ho hop hxv hyv (run_eqGuard_agg w op t x y _ _ hm) q (fun op=>⟨fun h=>by subst h;rfl,fun h=>by subst h;rfl⟩)) hrep (.c (.bool _))
  ·cases hs
 ·cases hs
end
section
variable {P:Program} {w0 w w':World} {κ:K} {σ σ':H} {a:Act} {ρ:Env}
theorem FA(off:Nat):∀(us:List Value) (k:Nat) (arr:Array Value),off+k+us.length<=arr.size->
  (us.zipIdx k).foldl (fun cs (x:Value×Nat)=>cs.setIfInBounds (off+x.2) x.1) arr=(arr.toList.take (off+k)++us++arr.toList.drop (off+k+us.length)).toArray
 |[],k,arr,_=>by simp
 |u::us,k,arr,h=>by
  simp only[List.zipIdx_cons,List.foldl_cons];have h':off+(k+1)+us.length<=(arr.setIfInBounds (off+k) u).size:=by simp at h⊢;omega
  rw[FA off us (k+1) _ h'];congr 1;have e:=list_seg_step arr.toList (off+k) u us (by simp at h⊢;omega);simpa[Array.toList_setIfInBounds,ji]using e
theorem FB{place:Nat->Option (Nat×Nat)}{i off size:Nat}{v:Value}{arr:Array Value}{rest:List (Nat×Value)}(hp:place i=some (off,size))(hv:v.cells.size=size)(hle:off+size<=arr.size):
  qp place arr ((i,v)::rest)=qp place (arr.toList.take off++v.cells.toList++arr.toList.drop (off+v.cells.toList.length)).toArray rest:=by
 have:=FA off v.cells.toList 0 arr (by simp;omega);simp only[mG]at this;rw[qp,hp];simp only
 rw[if_neg (by simp;omega),<-this];congr 1;rw[<-Array.foldl_toList,Array.toList_zipIdx]
theorem FC{pl:List (Nat×Nat)}(he:b8 κ ρ a):∀{parts:List (Nat×Operand)} {ps:List (Nat×Nat×aj)},qE pl parts=some ps->∀{cs cs':List V} {xs:List Value},Fits κ cs xs->kL ρ cs ps=some cs'->
  ∃xs',qp (pl.toArray[·]?) xs.toArray (parts.map fun(i,x)=>(i,a.eval x))=some xs'.toArray/\Fits κ cs' xs'
 |[],ps,h,cs,cs',xs,hf,hfill=>by
  simp only[qE]at h;injection h with h;subst h;simp only[kL]at hfill;injection hfill with hfill;subst hfill;exact⟨xs,rfl,hf⟩
 |(i,x)::parts,ps,h,cs,cs',xs,hf,hfill=>by
  simp only[qE]at h;split at h
  ·rename_i off size y r hpl hy hr;injection h with h;subst h;simp only[kL]at hfill;split at hfill
   ·rename_i hc;obtain⟨c0,c1,c2⟩:=hc;have hyc:=o5 (bO he hy) c0;have hsp:=hf.Fs (ys:=(y.ev ρ).ai) (us:=(a.eval x).cells.toList) hyc (o:=off) (by omega);rw[c1]at hsp;obtain⟨xs',h1,h2⟩:=FC he hr hsp hfill;refine⟨xs',?_,h2⟩;simp only[cx];have hs:(a.eval x).cells.size=size:=by have:=hyc.1;simp at this;omega
    rw[FB (off:=off) (size:=size) (by simpa using hpl) hs (by simp[hf.1];omega)];exact h1
   ·cases hfill
  ·cases h
theorem FD{P:Program}:∀{l:List Field} {pl:List (Nat×Nat)},qD P l=some pl->l.mapM (fun f=>(P.info? f.type).map fun i=>(f.offset,i.size))=some pl
 |[],pl,h=>by simp only[qD]at h;injection h with h;subst h;rfl
 |f::l,pl,h=>by
  simp only[qD]at h;split at h
  ·rename_i s r hs hr;injection h with h;subst h;have ih:=FD hr;unfold bw at hs;cases hi:P.info? f.type with
   |none=>rw[hi]at hs;cases hs
   |some i=>
    rw[hi]at hs;have hs:i.size=s:=by simpa using hs
    simp[List.mapM_cons,hi,ih,hs]
  ·cases h
theorem OS{z:V}{zv:Value}(h:qC zv=some z)(hl:leaves z.ai=true):Fits κ z.ai zv.cells.toList:=o5 (wB h) hl
theorem OT{o:Oper}{t:Nat}{parts:Array (Nat×Operand)}{fields:Array Field}{z:V}{pl:List (Nat×Nat)}{ps:List (Nat×Nat×aj)}{cs:List V}(ho:o.op= .build t parts)(hu:P.underlying t=some (.struct fields))(hz:lM P t=some z)
  (hl:leaves z.ai=true) (hpl:qD P fields.toList=some pl) (hps:qE pl parts.toList=some ps) (hf:kL ρ z.ai ps=some cs) (hrep:aC w0 κ σ w) (he:b8 κ ρ a):bg w0 κ σ (.agg cs) ((execOp a.eval o).run P w):=by
 unfold lM at hz;cases hi:P.info? t with
 |none=>rw[hi]at hz;cases hz
 |some i=>
  rw[hi]at hz;simp only at hz;cases hzz:i.zero with
  |none=>rw[hzz]at hz;cases hz
  |some zv=>
   rw[hzz]at hz;simp only at hz;obtain⟨xs,h1,h2⟩:=FC he hps (OS (κ:=κ) hz hl) hf;have hb:P.built t (parts.map fun(i,x)=>(i,a.eval x)).toList=some xs.toArray:=by
    unfold Program.built;simp only[hi,hu,hzz,FD hpl];simpa using h1
   exact bg.still (v':=.agg xs.toArray) (by simp only[execOp,ho,jh,run_build w t _ _ hb,jP,jO]) hrep (.agg h2.1 h2.2)
theorem Ah{α:Type}{s:Nat}:∀(l:List (List α)) (i j:Nat),(∀r∈l,r.length=s)->j<s->l.flatten[i*s+j]?=(l[i]?).bind (·[j]?)
 |[],i,j,_,_=>by simp
 |x::l,0,j,h,hj=>by
  have hx:=h x (by simp);simp only[dW,Nat.zero_mul,er,List.getElem?_cons_zero,Option.bind_some];rw[cI (by omega)]
 |x::l,i+1,j,h,hj=>by
  have hx:=h x (by simp);simp only[dW,List.getElem?_cons_succ];rw[cZ (by rw[hx,fo];omega),hx,show(i+1)*s+j-s=i*s+j from by rw[fo];omega];exact Ah l i j (fun r hr=>h r (by simp[hr])) hj
theorem sO{α:Type}{s:Nat}:∀(l:List (List α)),(∀r∈l,r.length=s)->l.flatten.length=l.length*s
 |[],_=>by simp
 |x::l,h=>by
  simp only[dW,bD,bk,h x (by simp),sO l (fun r hr=>h r (by simp[hr])),fo];omega
theorem sQ:∀{l:List V} {r:List C},fv l=some r->r.length=l.length/\leaves l=true/\∀j (hj:j<l.length) (hj':j<r.length),l[j].fX=some r[j]
 |[],r,h=>by simp only[fv]at h;injection h with h;subst h;exact⟨rfl,rfl,fun j hj=>by simp at hj⟩
 |x::l,r,h=>by
  simp only[fv]at h;split at h
  ·rename_i y r' hy hr;injection h with h;subst h;obtain⟨h1,h2,h3⟩:=sQ hr;refine⟨by simp[h1],?_,fun j hj hj'=>?_⟩
   ·unfold leaves at*
    simp only[jQ,h2,Bool.and_true];cases x<;>simp only[V.fX]at hy<;>first|(cases hy;done)|rfl
   ·cases j with
    |zero=>exact hy
    |succ j=>exact h3 j (by simpa using hj) (by simpa using hj')
  ·cases h
def wG(m:Mem)(l:List C)(xs:List Value):Prop:=xs.length=l.length/\∀j (hj:j<l.length),RC m l[j] (xs.getD j undef)
theorem Fits.fX{l:List V}{r:List C}{xs:List Value}(h:Fits κ l xs)(hr:fv l=some r):wG κ.m r xs:=by
 obtain⟨h1,_,h3⟩:=sQ hr;exact⟨by rw[h.1,h1],fun j hj=>(h.2 j (by omega)).fX (h3 j (by omega) hj)⟩
theorem FE{size:Nat}(he:b8 κ ρ a):∀{k:Nat} {parts:List (Nat×Operand)} {ps:List aj} {rows:List (List C)},mT k parts=some ps->iR ρ size ps=some rows->
  ∃uss:List (List Value),uss.length=rows.length/\(∀i (hi:i<rows.length) (hi':i<uss.length),wG κ.m rows[i] uss[i])/\(∀r∈rows,r.length=size)/\(∀r∈uss,r.length=size)/\(∀u∈uss.flatten,u.oneCell'=true)/\
   ∀arr:Array Value,(k+rows.length)*size<=arr.size->qp (fun i=>some (i*size,size)) arr (parts.map fun(i,x)=>(i,a.eval x))=some (arr.toList.take (k*size)++uss.flatten++arr.toList.drop ((k+rows.length)*size)).toArray
 |k,[],ps,rows,h,hr=>by
  simp only[mT]at h;injection h with h;subst h;simp only[iR]at hr;injection hr with hr;subst hr;exact⟨[],rfl,fun i hi=>by simp at hi,by simp,by simp,by simp,fun arr _=>by simp[qp]⟩
 |k,(i,x)::parts,ps,rows,h,hr=>by
  simp only[mT]at h;split at h
  ·rename_i hik;subst hik;split at h
   ·rename_i y r hy hrest;injection h with h;subst h;simp only[iR]at hr;split at hr
    ·rename_i row rows' hrow hrows;split at hr
     ·rename_i hlen;injection hr with hr;subst hr;obtain⟨uss,q1,q2,q3,q4,q6,q5⟩:=FE he hrest hrows;obtain⟨t1,t2,t3⟩:=sQ hrow;have hyc:=o5 (bO he hy) t2;have hfc:wG κ.m row (a.eval x).cells.toList:=Fits.fX (l:=(y.ev ρ).ai) hyc hrow;have hcl:(a.eval x).cells.toList.length=size:=by rw[hfc.1,hlen]
      refine⟨(a.eval x).cells.toList::uss,by simp[q1],fun j hj hj'=>?_,fun r hr=>?_,fun r hr=>?_,fun u hu=>?_,fun arr harr=>?_⟩
      ·cases j with
       |zero=>exact hfc
       |succ j=>exact q2 j (by simpa using hj) (by simpa using hj')
      ·rcases cA.1 hr with rfl|hr
       ·exact hlen
       ·exact q3 r hr
      ·rcases cA.1 hr with rfl|hr
       ·exact hcl
       ·exact q4 r hr
      ·simp only[dW,cM]at hu;rcases hu with hu|hu
       ·exact Aa t2 hyc.2 hyc.1 u hu
       ·exact q6 u hu
      ·simp only[cx,bk]at harr⊢;have e1:(i+(rows'.length+1))*size=i*size+size+rows'.length*size:=by rw[show i+(rows'.length+1)=i+1+rows'.length from by omega,fo,fo];omega
       have e2:(i+1)*size=i*size+size:=by rw[fo];omega
       have e3:(i+1+rows'.length)*size=i*size+size+rows'.length*size:=by rw[fo,e2]
       rw[e1]at harr⊢;rw[FB (off:=i*size) (size:=size) rfl (by simpa using hcl) (by omega)];have hsz:(arr.toList.take (i*size)++(a.eval x).cells.toList++arr.toList.drop (i*size+(a.eval x).cells.toList.length)).length=arr.size:=by
        rw[o7 _ _ _ (by simp[hcl]at*;omega)];simp
       rw[q5 _ (by rw[oR,hsz,e3];exact harr)];congr 2;rw[e2,e3,dW];have ht:(arr.toList.take (i*size)).length=i*size:=by simp;omega
       rw[show i*size+size=(arr.toList.take (i*size)++(a.eval x).cells.toList).length from by rw[bD,ht,hcl]];rw[nL];rw[List.drop_append,List.drop_eq_nil_of_le (by omega),eH,List.drop_drop,dt (arr.toList.take (i*size))];congr 2;rw[bD,ht,hcl];omega
     ·cases hr
    ·cases hr
   ·cases h
  ·cases h
end
section
variable {P:Program} {w0 w w':World} {κ:K} {σ σ':H} {a:Act} {ρ:Env}
theorem wH{m:Mem}{rows:List (List C)}{size:Nat}{xs:List Value}(hl:xs.length=rows.length*size)(hr:∀r∈rows,r.length=size)
  (h:∀i (hi:i<rows.length) j (hj:j<rows[i].length),RC m rows[i][j] (xs.getD (i*size+j) undef)) {b o cap:Nat} (hm:∀k,k<xs.length->m b (o+k)=xs[k]?) (hc:rows.length<=cap) (hcm:cap<=maxLen):
  RC m (.sl rows) (.slice (some ⟨b,o,none⟩) rows.length cap):=
 .sl rows size _ cap xs hr hc hcm hl (fun _=>⟨b,o,rfl,hm⟩) h
theorem OU{g:Nat}{xs:List Value}(k:Nat):(κ.froze g xs).m g k=xs[k]?:=by simp[K.froze]
theorem FF{m:Mem}{rows:List (List C)}{uss:List (List Value)}{size:Nat}(q1:uss.length=rows.length)(q2:∀i (hi:i<rows.length) (hi':i<uss.length),wG m rows[i] uss[i])(q3:∀r∈rows,r.length=size)(q4:∀r∈uss,r.length=size):
  ∀i (hi:i<rows.length) j (hj:j<rows[i].length),RC m rows[i][j] (uss.flatten.getD (i*size+j) undef):=by
 intro i hi j hj;have hi':i<uss.length:=by omega
 have hjs:j<size:=by rw[<-q3 _ (bt hi)];exact hj
 have:=(q2 i hi hi').2 j hj;rw[cf,Ah uss i j q4 hjs,aO hi'];simpa using this
theorem OV{o:Oper}{t n e:Nat}{parts:Array (Nat×Operand)}{i:TypeInfo}{z:Value}{ps:List aj}{rows:List (List C)}(ho:o.op= .buildSlice t n parts)(hu:P.underlying t=some (.slice e))(hi:P.info? e=some i)(hz:i.zero=some z)
  (hps:mT 0 parts.toList=some ps) (hlen:ps.length=n) (hs0:0<i.size) (hle:n*i.size<=16777216) (hr:iR ρ i.size ps=some rows) (hrep:aC w0 κ σ w) (he:b8 κ ρ a):
  bg w0 κ σ (.ab rows) ((execOp a.eval o).run P w):=by
 obtain⟨uss,q1,q2,q3,q4,_,q5⟩:=FE he hps hr;have hrl:rows.length=n:=by
  have:∀{l:List aj} {r:List (List C)},iR ρ i.size l=some r->r.length=l.length:=by
   intro l;induction l with
   |nil=>intro r h;simp only[iR]at h;injection h with h;subst h;rfl
   |cons x l ih=>
    intro r h;simp only[iR]at h;split at h
    ·rename_i a0 r0 _ h2;split at h
     ·injection h with h;subst h;simp[ih h2]
     ·cases h
    ·cases h
  rw[this hr,hlen]
 have hfl:uss.flatten.length=n*i.size:=by rw[sO uss q4,q1,hrl]
 have hfill:=q5 ((Array.range (n*i.size)).map (z.cells[·%z.cells.size]!)) (by simp[hrl]);have hcells:qp (fun k=>some (k*i.size,i.size)) ((Array.range (n*i.size)).map (z.cells[·%z.cells.size]!)) (parts.toList.map fun(i,x)=>(i,a.eval x))=some uss.flatten.toArray:=by
  rw[hfill];simp[hrl]
 have hA:=hrep.alloc (.cells uss.flatten.toArray e);have hfree:∀o,κ.m w.heap.size o=none:=fun o=>hrep.fresh (aA _) o;have hF:=hA.froze (g:=w.heap.size) (xs:=uss.flatten) hfree (fun o v hv=>by
  rw[cell_of_row _ w.heap.size o uss.flatten.toArray e (0,0) (kE w _)];simpa using hv) (fun b hb hl=>by have:=(hrep.gQ hb hl).2;omega)
 have hle':κ.le (κ.froze w.heap.size uss.flatten):=K.z7 hfree;have hrc:=wH (m:=(κ.froze w.heap.size uss.flatten).m) (rows:=rows) (size:=i.size) (xs:=uss.flatten) (by rw[hfl,hrl]) q3
  (fun i' hi' j hj=>RC.mono hle'.m (FF q1 q2 q3 q4 i' hi' j hj)) (b:=w.heap.size) (o:=0) (cap:=rows.length) (fun k hk=>by rw[er];exact OU k) (aA _) (by
    have:n*1<=n*i.size:=Nat.mul_le_mul_left _ hs0;unfold maxLen;omega)
 have hcsl:=RV.ab (κ:=κ.froze w.heap.size uss.flatten) hrc;rw[hrl]at hcsl;refine⟨_,_,_,.inl ?_,hle',hF,hcsl⟩;by_cases hn0:n=0
 ·subst hn0;have hu0:uss.flatten=[]:=fF (by rw[hfl];simp);have hp0:parts=#[]:=by
   have:∀{k:Nat} {l:List (Nat×Operand)} {r:List aj},mT k l=some r->r.length=l.length:=by
    intro k l;induction l generalizing k with
    |nil=>intro r h;simp only[mT]at h;injection h with h;subst h;rfl
    |cons x l ih=>
     intro r h;obtain⟨q,x⟩:=x;simp only[mT]at h;split at h
     ·split at h
      ·rename_i h2;injection h with h;subst h;simp[ih h2]
      ·cases h
     ·cases h
   have:=this hps;apply nK;exact fF (by rw[<-this,hlen])
  rw[hu0];simp[execOp,ho,Instr.buildSlice,cp hu,run_sizeOf hi,hp0,qp,newRow];congr 2;apply nK;simp
 have h0:¬(n*i.size=0):=by
  have:n*1<=n*i.size:=Nat.mul_le_mul_left _ hs0;intro e;omega
 have hle16:¬(16777216<n*i.size):=by omega
 simp[execOp,ho,Instr.buildSlice,cp hu,run_sizeOf hi,hle16,zeroValue,typeInfo,hi,hz,hcells,newRow];exact fun h=>absurd h h0
theorem nQ{size n:Nat}{A:Option Addr}{c:Nat}{news:List Value}(hl:news.length=n*size)(h:n≠0->∃b o,A=some ⟨b,o,none⟩/\∀k,k<news.length->w.cell? ⟨b,o+k,none⟩=news[k]?):
  (v8 size n (.slice A n c)).run P w= .ok news.toArray w:=by
 by_cases hn:n=0
 ·subst hn;have:news=[]:=fF (by simpa using hl);subst this;cases A with
  |none=>simp[v8]
  |some a=>
   have:=run_loadCells_list (P:=P) w a [] (by simp);simpa[v8]using this
 ·obtain⟨b,o,rfl,hc⟩:=h hn;have:=run_loadCells_list (P:=P) w ⟨b,o,none⟩ news (fun j v hv=>by
   rw[add_lit];have hj:=(aL.1 hv).1;rw[hc j hj,hv])
  rw[hl]at this;simpa[v8]using this
structure Src (P:Program) (w:World) (t2:TypeId) (u:Value) (size m:Nat) (news:List Value):Prop where
 kind:(∃e,P.underlying t2=some (.slice e))\/P.underlying t2=some .string
 len:∀w',(NV u).run P w'= .ok m w'
 first:∀w',(∀b o,w'.cell? ⟨b,o,none⟩=w.cell? ⟨b,o,none⟩)->(v8 size m u).run P w'= .ok news.toArray w'
theorem Src.slice{t2 e size m c:Nat}{A:Option Addr}{news:List Value}(ht:P.underlying t2=some (.slice e))(hl:news.length=m*size)(h:m≠0->∃b o,A=some ⟨b,o,none⟩/\∀k,k<news.length->w.cell? ⟨b,o+k,none⟩=news[k]?):Src P w t2 (.slice A m c) size m news:=
 ⟨.inl ⟨e,ht⟩,fun w'=>by simp[NV],fun w' hw=>nQ hl (fun hm=>by obtain⟨b,o,h1,h2⟩:=h hm;exact⟨b,o,h1,fun k hk=>by rw[hw];exact h2 k hk⟩)⟩
theorem Src.str{t2:TypeId}{l:List UInt8}(ht:P.underlying t2=some .string):Src P w t2 (.string (bs l)) 1 l.length (l.map fun b=>Value.int .u8 b.toNat):=
 ⟨.inr ht,fun w'=>by simp[NV];rfl,fun w' _=>by
   simp[v8];apply nK;simp[bs];exact List.take_of_length_le (by simp)⟩
theorem OW{t t2 ty e n cap m g:Nat}{i:TypeInfo}{u:Value}{news:List Value}{cur:Array Value}(ht:P.underlying t=some (.slice e))(hi:P.info? e=some i)(hg:w.heap[g]?=some (.cells cur e (0,0)))
  (hl:news.length=m*i.size) (hs:Src P w t2 u i.size m news) (h1:∀u∈news,u.oneCell'=true) (hroom:n+m<=cap) (hfit:n*i.size+news.length<=cur.size):
  (nM #[t,t2] ty #[.slice (some ⟨g,0,none⟩) n cap,u]).run P w=
    .ok (.slice (some ⟨g,0,none⟩) (n+m) cap) (w.setRow g (cur.toList.take (n*i.size)++news++cur.toList.drop (n*i.size+news.length)).toArray):=by
 have hf:=hs.first w (fun _ _=>rfl);have hln:=hs.len w;have hst:=run_storeCells_at P g (n*i.size) e news 0 cur w hg (by simpa using hfit) h1;simp only[mG]at hst;rcases hs.kind with⟨e2,hk⟩|hk
 all_goals simp[nM,cp ht,cp hk,sizeOf,typeInfo,hi,hln,hroom,hf,add_lit,hst]
theorem FG{t t2 ty e n cap m:Nat}{i:TypeInfo}{z u:Value}{A0:Option Addr}{olds news:List Value}(ht:P.underlying t=some (.slice e))(hi:P.info? e=some i)(hz:i.zero=some z)
  (hlo:olds.length=n*i.size) (ho:n≠0->∃b o,A0=some ⟨b,o,none⟩/\∀k,k<olds.length->w.cell? ⟨b,o+k,none⟩=olds[k]?)
  (hl:news.length=m*i.size) (hs:Src P w t2 u i.size m news) (hg:cap<n+m) (h63:((n+m:Nat):Int)<=9223372036854775807) (hfit:ZS (n+m) cap*i.bytes<=281474976710656):
  (nM #[t,t2] ty #[.slice A0 n cap,u]).run P w=
    .ok (.slice (some ⟨w.heap.size,0,none⟩) (n+m) (grownCap w (n+m) cap e)) (w.drew.alloc (.cells (olds.toArray++news.toArray++qo z.cells (grownCap w (n+m) cap e-(n+m))) e)):=by
 have hn:¬(n+m<=cap):=by omega
 have h63':¬(9223372036854775807<((n:Int)+(m:Int))):=by omega
 have h48':¬(281474976710656<ZS (n+m) cap*i.bytes):=by omega
 have hf:=hs.first w.drew (fun b o=>by simp);have hln:=hs.len w;have hfo:=nQ (P:=P) (w:=w.drew) (c:=cap) (A:=A0) hlo (fun hm=>by obtain⟨b,o,h1,h2⟩:=ho hm;exact⟨b,o,h1,fun k hk=>by simpa using h2 k hk⟩);rcases hs.kind with⟨e2,hk⟩|hk
 all_goals
  simp[nM,cp ht,cp hk,sizeOf,typeInfo,zeroValue,hi,hz,hln,hn,h63',h48',Question.forced,hf,hfo,newRow,grownCap];congr 2;apply nK;simp[dt]
def K.gR(κ:K)(b k g:Nat)(v:Value)(xs:List Value):K:=
 {κ with m:=fun x o=>if x=g/\o<xs.length then xs[o]? else κ.m x o,fr:=fun x=>if x=b then some k else κ.fr x,sv:=fun x=>if x=b then v else κ.sv x}
theorem K.OX{b k g n:Nat}{v:Value}{xs:List Value}(hf:κ.fr b=some n)(hn:n<k)(hm:∀o u,κ.m g o=some u->o<xs.length->xs[o]?=some u):κ.le (κ.gR b k g v xs):=by
 refine⟨fun x o u h=>?_,aA _,fun x hx hfx=>⟨?_,rfl⟩,fun x f hx hfx=>?_,fun x hx hfx=>by
  show(if x=b then _ else _)=_;rw[if_neg (fun e=>by rw[e,hf]at hfx;cases hfx)],rfl,rfl⟩
 ·show(if x=g/\o<xs.length then _ else _)=_;by_cases hc:x=g/\o<xs.length
  ·rw[if_pos hc];obtain⟨rfl,ho⟩:=hc;exact hm o u h ho
  ·rw[if_neg hc];exact h
 ·show(if x=b then _ else _)=_;rw[if_neg (fun e=>by rw[e,hf]at hfx;cases hfx)];exact hfx
 ·by_cases hxb:x=b
  ·subst hxb;rw[hf]at hfx;injection hfx with hfx;subst hfx;exact⟨k,by show(if x=x then _ else _)=_;rw[if_pos rfl],by omega,fun e=>by omega,rfl⟩
  ·exact⟨f,by show(if x=b then _ else _)=_;rw[if_neg hxb];exact hfx,aA _,fun _=>by show(if x=b then _ else _)=_;rw[if_neg hxb],rfl⟩
theorem aC.gR(h:aC w0 κ σ w){b n k g:Nat}{e:TypeId}{size:Nat}{v:Value}{xs:List Value}(hb:σ[b]?=some (.spare e size n))(hn:n<k)
  (hown:w'.ownsRow w0.heap.size e size v k xs) (hv:v.ownBlock=some g) (hg:w.grownBy w' (some g)) (hbw:Below w0.heap.size w0 w')
  (hgl:∀x (hx:x<σ.length),x≠b->(σ[x]).be κ x≠some g) (hold:∀o u,κ.m g o=some u->o<n*size/\xs[o]?=some u) (hgr:κ.rest g=none):
  aC w0 (κ.gR b k g v xs) (σ.set b (.spare e size k)) w'/\κ.le (κ.gR b k g v xs):=by
 obtain⟨hlt,hb'⟩:=aL.1 hb;have hblk:=h.cD b hlt;rw[hb']at hblk;have hle:κ.le (κ.gR b k g v xs):=K.OX hblk.fr hn fun o u hu _=>(hold o u hu).2;have hlen:xs.length=k*size:=hown.1;have hother:∀x,x<w.heap.size->x≠g->w'.heap[x]?=w.heap[x]?:=fun x hx hne=>hg.block x hx (by simpa using hne);have frb:(κ.gR b k g v xs).fr b=some k:=by show(if b=b then _ else _)=_;rw[if_pos rfl]
 have svb:(κ.gR b k g v xs).sv b=v:=by show(if b=b then _ else _)=_;rw[if_pos rfl]
 have fro:∀x,x≠b->(κ.gR b k g v xs).fr x=κ.fr x:=fun x hx=>by show(if x=b then _ else _)=_;rw[if_neg hx]
 have svo:∀x,x≠b->(κ.gR b k g v xs).sv x=κ.sv x:=fun x hx=>by show(if x=b then _ else _)=_;rw[if_neg hx]
 have mo:∀x o,x≠g->(κ.gR b k g v xs).m x o=κ.m x o:=fun x o hx=>by show(if x=g/\_ then _ else _)=_;rw[if_neg (fun e=>hx e.1)]
 have lies_b:(ad.spare e size k).be (κ.gR b k g v xs) b=some g:=by simp only[ad.be];rw[svb];exact E9 hown (by omega) hv
 have lies_o:∀x (hx:x<σ.length),x≠b->(σ[x]).be (κ.gR b k g v xs) x=(σ[x]).be κ x:=fun x hx hne=>ad.jU rfl (svo x hne);refine⟨⟨by show κ.n=_;simpa using h.n,hbw,fun x o u hm=>?_,fun x hx=>?_,fun x y hx hy z hne=>?_,fun l o hr=>?_,bE h.dw hg.size⟩,hle⟩
 rotate_right
 ·obtain⟨a1,a2,a3⟩:=h.rest l o hr;have hlg:l≠g:=fun e=>by have hr':κ.rest l=some o:=hr;rw[e,hgr]at hr';cases hr'
  exact⟨(hother l (dS.1 a1).1 hlg).trans a1,a2,sN lies_o a3 (by rw[lies_b];intro e;injection e with e;exact hlg e.symm)⟩
 ·by_cases hxg:x=g
  ·subst hxg;have hm':(if x=x/\o<xs.length then xs[o]? else κ.m x o)=some u:=hm;by_cases ho:o<xs.length
   ·rw[if_pos ⟨rfl,ho⟩]at hm';have:=hown.cells hv o u hm';rwa [add_lit,er]at this
   ·rw[if_neg (fun e=>ho e.2)]at hm';have:=(hold o u hm').1;have:n*size<=k*size:=jg _ (by omega);omega
  ·rw[mo x o hxg]at hm;rw[vX (w:=w) (a:=⟨x,o,none⟩) (hother x (h.mU hm) hxg)];exact h.mem x o u hm
 ·by_cases hxb:x=b
  ·subst hxb;rw[gv];refine⟨frb,hblk.sz,.inr ⟨xs,by rw[svb];exact hown⟩,fun g' hg' o ho=>?_⟩;rw[svb,E9 hown (by omega) hv]at hg';injection hg' with hg';subst hg';show(if g=g/\o<xs.length then _ else _)=_;rw[if_neg (by omega)];cases hm:κ.m g o with
   |none=>rfl
   |some u=>
    have:=(hold o u hm).1;have:n*size<=k*size:=jg _ (by omega);omega
  ·have hx':x<σ.length:=by simpa using hx
   rw[fE (dn hxb)];have h1:=h.cD x hx';have hne:=hgl x hx' hxb;have h2:=ad.qG (w':=w') h1 fun z hz=>hother z (h.gQ hx' hz).2 (fun e=>hne (by rw[hz,e]));cases hσ:σ[x]with
   |cells cs=>
    rw[hσ]at h2 hne;obtain⟨vs,t,k1,k2,k3⟩:=h2.row;refine⟨(fro x hxb).trans h2.fr,⟨vs,t,k1,k2,fun j hj=>⟨(k3 j hj).1,(k3 j hj).2.mono hle⟩⟩,h2.own,fun o=>?_,h2.ty⟩;rw[mo _ o (fun e=>hne (by simp[ad.be];exact e))];exact h2.free o
   |spare e1 s1 n1=>
    rw[hσ]at h2 hne;refine⟨(fro x hxb).trans h2.fr,h2.sz,by rw[svo x hxb];exact h2.row,fun g' hg' o ho=>?_⟩;rw[svo x hxb]at hg';rw[mo _ o (fun e=>hne (by simp only[ad.be];rw[hg',e]))];exact h2.free g' hg' o ho
   |mp kvs=>
    rw[hσ]at h2 hne;refine ad.mapped.le h2 hle.m ((fro x hxb).trans h2.fr) rfl (fun o=>?_);rw[mo _ o (fun e=>hne (by simp[ad.be];exact e))];exact h2.free o
   |vec e1 s1 cs1=>
    rw[hσ]at h2 hne;refine ad.lJ.le h2 hle.m ((fro x hxb).trans h2.fr) rfl (svo x hxb) (fun o=>?_);rw[mo _ o (fun e=>hne (by simp[ad.be];exact e))];exact h2.free o
   |gone=>trivial
 ·have hx':x<σ.length:=by simpa using hx
  have hy':y<σ.length:=by simpa using hy
  by_cases hxb:x=b
  ·subst hxb;rw[gv,lies_b,fE hne,lies_o y hy' (dn hne)];intro e1;injection e1 with e1;subst e1;exact hgl y hy' (dn hne)
  ·by_cases hyb:y=b
   ·subst hyb;rw[gv,lies_b,fE (dn hne),lies_o x hx' hne];intro e1 e2;injection e2 with e2;subst e2;exact hgl x hx' hne e1
   ·rw[fE (dn hxb),fE (dn hyb),lies_o x hx' hxb,lies_o y hy' hyb];exact h.apart x y hx' hy' z hne
end
section
variable {P:Program} {w0 w w':World} {κ:K} {σ σ':H} {a:Act} {ρ:Env}
theorem RC.source(hrep:aC w0 κ σ w){rows:List (List C)}{size:Nat}{v:Value}(h:RC κ.m (.sl rows) v)(hs:∀r∈rows,r.length=size):
  ∃(A:Option Addr) (c:Nat) (news:List Value),v= .slice A rows.length c/\news.length=rows.length*size/\(rows.length≠0->∃b o,A=some ⟨b,o,none⟩/\∀k,k<news.length->w.cell? ⟨b,o+k,none⟩=news[k]?)/\(∀u∈news,u.oneCell'=true)/\
   (∀i (hi:i<rows.length) j (hj:j<rows[i].length),RC κ.m rows[i][j] (news.getD (i*size+j) undef)):=by
 obtain⟨s,A,cap,xs,rfl,h0,h1,h2,h3,h4,h5⟩:=h.jW;by_cases hn:rows=[]
 ·subst hn;exact⟨A,cap,[],rfl,by simp,by simp,by simp,fun i hi=>by simp at hi⟩
 ·have hpos:0<rows.length:=jR.2 hn;have ix:s=size:=by rw[<-h0 _ (bt hpos),hs _ (bt hpos)]
  subst ix;obtain⟨b,o,rfl,hm⟩:=h4 hn;have hc:∀k,k<xs.length->w.cell? ⟨b,o+k,none⟩=xs[k]?:=fun k hk=>by
   have:=hm k hk;rw[aO hk]at this⊢;exact hrep.mem _ _ _ this
  refine⟨some ⟨b,o,none⟩,cap,xs,rfl,h3,fun _=>⟨b,o,rfl,hc⟩,fun u hu=>?_,h5⟩;obtain⟨k,hk,rfl⟩:=List.getElem_of_mem hu;by_cases hs0:s=0
  ·subst hs0;simp at h3;subst h3;simp at hk
  ·have hs0:0<s:=by omega
   have hi:k/s<rows.length:=by rw[ZT hs0];omega
   have hj:k%s<rows[k/s].length:=by rw[h0 _ (bt hi)];exact Nat.mod_lt _ hs0
   have:=h5 (k/s) hi (k%s) hj;rw[show k/s*s+k%s=k from by rw[Nat.mul_comm];exact Nat.div_add_mod k s,gP hk]at this;exact this.one
theorem Ai{m:Mem}{l r:List (List C)}{size:Nat}{xs ys:List Value}(hl:xs.length=l.length*size)(hsl:∀q∈l,q.length=size)
  (h1:∀i (hi:i<l.length) j (hj:j<l[i].length),RC m l[i][j] (xs.getD (i*size+j) undef)) (h2:∀i (hi:i<r.length) j (hj:j<r[i].length),RC m r[i][j] (ys.getD (i*size+j) undef)):
  ∀i (hi:i<(l++r).length) j (hj:j<(l++r)[i].length),RC m (l++r)[i][j] ((xs++ys).getD (i*size+j) undef):=by
 intro i hi j hj;rw[cf];by_cases hil:i<l.length
 ·have e:(l++r)[i]=l[i]:=cL hil;have hj':j<l[i].length:=by rw[<-e];exact hj
  have hjs:j<size:=by rw[<-hsl _ (bt hil)];exact hj'
  have:=h1 i hil j hj';rw[cf]at this;rw[cI (by rw[hl];exact mul_lt hil hjs)];simpa[e]using this
 ·have hir:i-l.length<r.length:=by simp at hi;omega
  have e:(l++r)[i]=r[i-l.length]:=dU (by omega);have hj':j<r[i-l.length].length:=by rw[<-e];exact hj
  have:=h2 (i-l.length) hir j hj';rw[cf]at this;have e2:l.length*size<=i*size:=jg _ (by omega);have e3:(i-l.length)*size=i*size-l.length*size:=Nat.sub_mul _ _ _;rw[cZ (by omega),hl,show i*size+j-l.length*size=(i-l.length)*size+j from by omega];simpa[e]using this
theorem FH{e:Nat}{i:TypeInfo}{z:Value}{n m:Nat}{news:List Value}(hzs:z.cells.size=i.size)(hl:news.length=m*i.size)(hnm:n+m<=140737488355328)(hbase:w0.heap.size<=w.heap.size)(old:Nat)(xs:List Value)(hxs:xs.length=n*i.size):
  (w.drew.alloc (.cells (xs.toArray++news.toArray++qo z.cells (grownCap w (n+m) old e-(n+m))) e)).ownsRow w0.heap.size e i.size (.slice (some ⟨w.heap.size,0,none⟩) (n+m) (grownCap w (n+m) old e)) (n+m) (xs++news):=by
 have hge:=grownCap_ge w (n+m) old e;have hlen:(xs++news).length=(n+m)*i.size:=by rw[bD,hxs,hl,fo]
 refine⟨hlen,.inr ⟨w.heap.size,_,_,rfl,hbase,kE w.drew _,hge,grownCap_le_maxLen w (n+m) old e (by unfold maxLen;omega),?_,?_⟩⟩
 ·simp only[Array.size_append,oR,size_zeroCells,hzs,hxs,hl,<-fo];congr 1;omega
 ·simp only[Array.toList_append,dt];rw[<-dt,<-hlen];exact nL
theorem Aj{t t2 ty e:Nat}{i:TypeInfo}{z u2:Value}{n m:Nat}{A0:Option Addr}{xs news:List Value}(hu:P.underlying t=some (.slice e))(hi:P.info? e=some i)(hz:i.zero=some z)(hzs:z.cells.size=i.size)
  (hxl:xs.length=n*i.size) (hxc:n≠0->∃b o,A0=some ⟨b,o,none⟩/\∀k,k<xs.length->w.cell? ⟨b,o+k,none⟩=xs[k]?) (hl:news.length=m*i.size) (h:Src P w t2 u2 i.size m news)
  (hm:0<m) (hb:(n+m)*i.bytes<=140737488355328) (hnm:n+m<=140737488355328) (hbase:w0.heap.size<=w.heap.size):
  ∃v' w',(nM #[t,t2] ty #[.slice A0 n n,u2]).run P w= .ok v' w'/\w'.ownsRow w0.heap.size e i.size v' (n+m) (xs++news)/\v'.ownBlock=some w.heap.size/\Below w.heap.size w w':=by
 have hr:=FG (P:=P) (w:=w) (t:=t) (t2:=t2) (ty:=ty) (n:=n) (cap:=n) (A0:=A0) (olds:=xs) hu hi hz hxl hxc hl h (by omega) (by omega) (growslice_fits (by omega) hb);exact⟨_,_,hr,FH hzs hl hnm hbase n xs hxl,rfl,Below.alloc (Below.drew (ep _ _)) (aA _) _⟩
theorem FI{t t2 ty e:Nat}{i:TypeInfo}{z u2:Value}{n m:Nat}{v:Value}{xs news:List Value}(hu:P.underlying t=some (.slice e))(hi:P.info? e=some i)(hz:i.zero=some z)(hzs:z.cells.size=i.size)
  (hv:(n=0/\xs=[]/\∃A0,v= .slice A0 0 0)\/w.ownsRow w0.heap.size e i.size v n xs) (hl:news.length=m*i.size) (h:Src P w t2 u2 i.size m news)
  (h1:∀u∈news,u.oneCell'=true) (hm:0<m) (hb:(n+m)*i.bytes<=140737488355328) (hnm:n+m<=140737488355328) (hbase:w0.heap.size<=w.heap.size):
  ∃v' w' g,(nM #[t,t2] ty #[v,u2]).run P w= .ok v' w'/\w'.ownsRow w0.heap.size e i.size v' (n+m) (xs++news)/\v'.ownBlock=some g/\
   ((heldBy v=some g/\w.grownBy w' (some g)/\w0.heap.size<=g)\/(g=w.heap.size/\Below w.heap.size w w')):=by
 have hv:(n=0/\xs=[]/\∃A0,v= .slice A0 0 0)\/∃g cap cur,v= .slice (some ⟨g,0,none⟩) n cap/\w0.heap.size<=g/\w.heap[g]?=some (.cells cur e (0,0))/\n<=cap/\cap<=maxLen/\cur.size=cap*i.size/\cur.toList.take (n*i.size)=xs/\w.ownsRow w0.heap.size e i.size v n xs:=by
  rcases hv with h0|hown
  ·exact .inl h0
  ·rcases hown.2 with⟨rfl,rfl⟩|⟨g,cap,cur,q1,q2,q3,q4,q5,q6,q7⟩
   ·exact .inl ⟨rfl,fF (by have:=hown.1;simpa using this),none,rfl⟩
   ·exact .inr ⟨g,cap,cur,q1,q2,q3,q4,q5,q6,q7,hown⟩
 rcases hv with⟨rfl,rfl,A0,rfl⟩|⟨g,cap,cur,rfl,hbg,hg,hnc,hcm,hcs,htake,hown⟩
 ·obtain⟨v',w',h1,h2,h3,h4⟩:=Aj (P:=P) (w0:=w0) (w:=w) (t:=t) (t2:=t2) (ty:=ty) (n:=0) (m:=m) (A0:=A0) (xs:=[]) (news:=news) hu hi hz hzs (by simp) (fun h=>absurd rfl h) hl h hm hb hnm hbase;exact⟨v',w',_,h1,h2,h3,.inr ⟨rfl,h4⟩⟩
 ·by_cases hroom:n+m<=cap
  ·have hfit:n*i.size+news.length<=cur.size:=by rw[hl,hcs,<-fo];exact jg _ hroom
   have hr:=OW (P:=P) (w:=w) (t2:=t2) (ty:=ty) hu hi hg hl h h1 hroom hfit;have hlen:(xs++news).length=(n+m)*i.size:=by rw[bD,hown.1,hl,fo]
   refine⟨_,_,g,hr,⟨hlen,.inr ⟨g,cap,_,rfl,hbg,setRow_heap w g cur _ e _ hg,hroom,hcm,?_,?_⟩⟩,rfl,.inl ⟨?_,⟨rfl,rfl,rfl,by simp[World.setRow],fun k _ hk=>setRow_other w g k _ (fun e=>hk (by rw[e]))⟩,hbg⟩⟩
   ·simp only[oR,bD,dV,List.length_drop,NW];omega
   ·rw[htake,<-hlen];exact nL
   ·cases cap with
    |zero=>omega
    |succ c=>rfl
  ·have holds:∀k,k<xs.length->w.cell? ⟨g,0+k,none⟩=xs[k]?:=fun k hk=>by
    have:=hown.cells (g:=g) rfl k xs[k] (aO hk);rw[add_lit]at this;rw[this,aO hk]
   have hr:=FG (P:=P) (w:=w) (t:=t) (t2:=t2) (ty:=ty) (n:=n) (cap:=cap) (A0:=some ⟨g,0,none⟩) (olds:=xs) hu hi hz hown.1 (fun _=>⟨g,0,rfl,holds⟩) hl h (by omega) (by omega) (growslice_fits (by omega) hb);exact⟨_,_,w.heap.size,hr,FH hzs hl hnm hbase cap xs hown.1,rfl,.inr ⟨rfl,Below.alloc (Below.drew (ep _ _)) (aA _) _⟩⟩
theorem Ak{t t2 ty e:Nat}{i:TypeInfo}{n cap:Nat}{A0:Option Addr}{u2:Value}(hu:P.underlying t=some (.slice e))(hi:P.info? e=some i)(hc:n<=cap)(h:Src P w t2 u2 i.size 0 []):
  (nM #[t,t2] ty #[.slice A0 n cap,u2]).run P w= .ok (.slice A0 n cap) w:=by
 have hf:=h.first w (fun _ _=>rfl);have hln:=h.len w;rcases h.kind with⟨e2,hk⟩|hk
 all_goals
  cases A0 with
  |none=>simp[nM,cp hu,cp hk,sizeOf,typeInfo,hi,hln,hc,hf]
  |some a=>simp[nM,cp hu,cp hk,sizeOf,typeInfo,hi,hln,hc,hf,storeCells]
def K.own(κ:K)(v:Value)(size:Nat):K:={κ with n:=κ.n+1,fr:=fun b=>if b=κ.n then some 0 else κ.fr b,sv:=fun b=>if b=κ.n then v else κ.sv b,sz:=fun b=>if b=κ.n then size else κ.sz b}
theorem K.qI{v:Value}{size:Nat}:κ.le (κ.own v size):=
 RV.same (Mem.le_refl _) (Nat.le_succ _) (fun _ _=>rfl) (fun b hb=>by show(if b=κ.n then _ else _)=_;rw[if_neg (by omega)]) (fun b hb=>by show(if b=κ.n then _ else _)=_;rw[if_neg (by omega)])
  (fun b hb=>by show(if b=κ.n then _ else _)=_;rw[if_neg (by omega)])
theorem aC.own(h:aC w0 κ σ w)(e:TypeId)(size:Nat)(A:Option Addr):aC w0 (κ.own (.slice A 0 0) size) (σ++[.spare e size 0]) w:=by
 have hle:κ.le (κ.own (.slice A 0 0) size):=K.qI;have fro:∀b,b<σ.length->(κ.own (.slice A 0 0) size).fr b=κ.fr b:=fun b hb=>by show(if b=κ.n then _ else _)=_;rw[if_neg (by rw[h.n];omega)]
 have svo:∀b,b<σ.length->(κ.own (.slice A 0 0) size).sv b=κ.sv b:=fun b hb=>by show(if b=κ.n then _ else _)=_;rw[if_neg (by rw[h.n];omega)]
 have szo:∀b,b<σ.length->(κ.own (.slice A 0 0) size).sz b=κ.sz b:=fun b hb=>by show(if b=κ.n then _ else _)=_;rw[if_neg (by rw[h.n];omega)]
 have frn:(κ.own (.slice A 0 0) size).fr σ.length=some 0:=by show(if σ.length=κ.n then _ else _)=_;rw[if_pos h.n.symm]
 have svn:(κ.own (.slice A 0 0) size).sv σ.length= .slice A 0 0:=by show(if σ.length=κ.n then _ else _)=_;rw[if_pos h.n.symm]
 have szn:(κ.own (.slice A 0 0) size).sz σ.length=size:=by show(if σ.length=κ.n then _ else _)=_;rw[if_pos h.n.symm]
 refine⟨by show κ.n+1=_;rw[h.n];simp,h.ext,h.mem,fun b hb=>?_,fun x y hx hy g hne=>?_,fun l o hr=>⟨(h.rest l o hr).1,(h.rest l o hr).2.1,sM (κ:=κ) (fun b hb=>ad.jU (κ:=κ) rfl (svo b hb)) (h.rest l o hr).2.2 (by simp only[ad.be];rw[svn];cases A<;>(intro e;cases e))⟩,h.dw⟩
 ·rcases dT b σ.length with hb'|hb'
  ·rw[cL hb'];exact ad.is_le (κ:=κ) rfl hle rfl (fro b hb') (svo b hb') (szo b hb') (h.cD b hb')
  ·have hbe:b=σ.length:=by simp at hb;omega
   subst hbe;rw[dU (aA _)];simp only[cq,dC];exact⟨frn,szn,.inl ⟨rfl,A,svn⟩,fun g hg=>by rw[svn]at hg;cases A<;>cases hg⟩
 ·have last:∀z (hz:z<(σ++[ad.spare e size 0]).length),σ.length<=z->((σ++[ad.spare e size 0])[z]).be (κ.own (.slice A 0 0) size) z=none:=fun z hz hge=>by
   have hze:z=σ.length:=by simp at hz;omega
   subst hze;rw[dU (aA _)];simp only[cq,dC,ad.be];rw[svn];cases A<;>rfl
  rcases dT x σ.length with hx'|hx'
  ·rcases dT y σ.length with hy'|hy'
   ·rw[cL hx',cL hy',ad.jU (κ:=κ) (κ':=κ.own (.slice A 0 0) size) rfl (svo x hx'),ad.jU (κ:=κ) (κ':=κ.own (.slice A 0 0) size) rfl (svo y hy')];exact h.apart x y hx' hy' g hne
   ·rw[last y hy hy'];intro _ e;cases e
  ·rw[last x hx hx'];intro e;cases e
theorem FJ{m:Mem}{cs:List C}{news:List (List C)}{size:Nat}{xs ys:List Value}(hl:xs.length=cs.length)(hn:∀q∈news,q.length=size)(h1:∀j (hj:j<cs.length),RC m cs[j] (xs.getD j undef))
  (h2:∀i (hi:i<news.length) j (hj:j<news[i].length),RC m news[i][j] (ys.getD (i*size+j) undef)):∀j (hj:j<(cs++news.flatten).length),RC m (cs++news.flatten)[j] ((xs++ys).getD j undef):=by
 intro j hj;by_cases hjc:j<cs.length
 ·rw[cL hjc,cf,cI (by omega),<-cf];exact h1 j hjc
 ·have hfl:=sO news hn;have hj2:j-cs.length<news.length*size:=by rw[bD,hfl]at hj;omega
  have hs0:0<size:=by
   rcases Nat.eq_zero_or_pos size with h|h
   ·rw[h]at hj2;simp at hj2
   ·exact h
  have hi:(j-cs.length)/size<news.length:=by rw[ZT hs0];exact hj2
  have hr:(j-cs.length)%size<size:=Nat.mod_lt _ hs0;have he:(j-cs.length)/size*size+(j-cs.length)%size=j-cs.length:=by rw[Nat.mul_comm];exact Nat.div_add_mod _ _
  have hr':(j-cs.length)%size<news[(j-cs.length)/size].length:=by rw[hn _ (bt hi)];exact hr
  have hg:=Ah news ((j-cs.length)/size) ((j-cs.length)%size) hn hr;rw[he,aO hi,Option.bind_some,aO hr']at hg;have h3:=h2 _ hi _ hr';rw[he]at h3;rw[dU (by omega),cf,cZ (by omega),hl,<-cf];obtain⟨_,hg⟩:=aL.1 hg;rw[hg];exact h3
theorem aC.FK(h:aC w0 κ σ w){g e size n:Nat}{v:Value}{xs:List Value}{cs:List C}(hn:n≠0)(hown:w.ownsRow w0.heap.size e size v n xs)(hv:v.ownBlock=some g)(hm:∀o,κ.m g o=none)(hl:∀x (hx:x<σ.length),(σ[x]).be κ x≠some g)
  (hc:∀j (hj:j<cs.length),RC κ.m cs[j] (xs.getD j undef)) (hcl:cs.length=n*size):∃κ',κ.le κ'/\aC w0 κ' (σ++[.vec e size cs]) w/\RV κ' (.vec σ.length n) v:=by
 rcases hown.2 with⟨_,h0⟩|⟨g',cap,cur,rfl,q2,q3,q4,q5,q6,q7⟩
 ·exact absurd h0 hn
 ·injection hv with hv;subst hv;obtain⟨r1,r2⟩:=h.Fk (cs:=cs) (n:=n) (cap:=cap) q2 hm hl q3 hcl q4 q5 q6 (fun j hj=>by
   have:=hc j hj;have hjx:j<xs.length:=by rw[hown.1,<-hcl];exact hj
   have e1:cur.getD j undef=xs.getD j undef:=by
    rw[<-q7]at hjx;have hjt:j<n*size:=by simp at hjx;omega
    rw[<-q7,ij,cf,mH,if_pos hjt];simp
   rw[e1];exact this)
  exact⟨_,K.z8,r1,r2 n (aA _)⟩
theorem pa{o:Oper}{t t2:Nat}{x y:Operand}{v u v':Value}(ho:o.op= .call {callee:=.builtin .append,args:=#[x,y],argTypes:=#[t,t2]})(hx:a.eval x=v)(hy:a.eval y=u)
  (hr:(nM #[t,t2] o.type #[v,u]).run P w= .ok v' w'):(execOp a.eval o).run P w= .ok (.value v') w':=by
 simp[execOp,ho,resolve,invoke,builtin,hx,hy,hr]
theorem FL{o:Oper}{t t2 e:Nat}{x y:Operand}{x':aj}{i:TypeInfo}{z:Value}{v:V}{news:List (List C)}{ns:List Value}(ho:o.op= .call {callee:=.builtin .append,args:=#[x,y],argTypes:=#[t,t2]})(hu:P.underlying t=some (.slice e))(hi:P.info? e=some i)(hz:i.zero=some z)
  (hzs:z.cells.size=i.size) (hx:bH x=some x') (hna:Src P w t2 (a.eval y) i.size news.length ns) (hnlen:(∀r∈news,r.length=i.size)->ns.length=news.length*i.size) (hn1:∀u∈ns,u.oneCell'=true) (hnr:(∀r∈news,r.length=i.size)->∀k (hk:k<news.length) j (hj:j<news[k].length),RC κ.m news[k][j] (ns.getD (k*i.size+j) undef))
  (hs:mS e i.size i.bytes (x'.ev ρ) news σ=some (v,σ')) (hrep:aC w0 κ σ w) (he:b8 κ ρ a):bg w0 κ σ' v ((execOp a.eval o).run P w):=by
 have hxr:=bO he hx;have hyv:a.eval y=a.eval y:=rfl;unfold mS at hs;split at hs
 ·rename_i b k hxe;rw[hxe]at hxr;by_cases hnn:news=[]
  ·subst hnn;simp only at hs;injection hs with hs;injection hs with e1 e2;subst e1 e2;generalize hxv:a.eval x=u at hxr;cases hxr with
   |vec r1 r2 r3 r4 r5 r6=>
    rename_i n cap;have hns:ns=[]:=fF (by simpa using hnlen (by simp));subst hns;have hr:=Ak (P:=P) (w:=w) (t:=t) (t2:=t2) (ty:=o.type) (A0:=some ⟨κ.pos b,0,none⟩) (n:=k) (cap:=cap) hu hi (bE r4 r5) hna;exact⟨κ,_,w,.inl (pa ho hxv hyv hr),K.le_refl κ,hrep,.vec r1 r2 r3 r4 r5 r6⟩
  have hs:(match σ[b]? with
   |some (.vec e' size' cs)=>if e'=e/\size'=i.size/\k*i.size<=cs.length/\news≠[]/\(∀r∈news,r.length=i.size)/\(k+news.length)*i.bytes<=140737488355328/\k+news.length<=140737488355328 then
     some (V.vec σ.length (k+news.length),σ.set b .gone++[.vec e i.size (cs.take (k*i.size)++news.flatten)])else none
   |_=>none)=some (v,σ'):=by
   cases news with
   |nil=>exact absurd rfl hnn
   |cons q r=>exact hs
  split at hs
  ·rename_i e' size' cs hb;split at hs
   ·rename_i hc;obtain⟨he1,rfl,hkc,hne,hnl,hby,hmx⟩:=hc;have he1:=he1.symm;subst he1;injection hs with hs;injection hs with e1 e2;subst e1 e2;have hnlen:=hnlen hnl;have hnr:=hnr hnl;have hmp:0<news.length:=jR.2 hne;obtain⟨hlt,hb'⟩:=aL.1 hb;have hblk:=hrep.cD b hlt;rw[hb']at hblk;obtain⟨vs,n1,cap1,k0,k1,k2,k3,k4,k5,k6⟩:=hblk.row;generalize hxv:a.eval x=u at hxr;cases hxr with
    |vec r1 r2 r3 r4 r5 r6=>
     rename_i n cap;rw[k0]at r3;injection r3 with _ e1 e2;subst e1 e2;have hvl:(vs.toList.take (k*i.size)).length=k*i.size:=by
      have:=jg i.size (bE r4 r5);rw[dV,NW,k5];omega
     have hown0:w.ownsRow w0.heap.size e i.size (.slice (some ⟨κ.pos b,0,none⟩) k cap1) k (vs.toList.take (k*i.size)):=
      ⟨hvl,.inr ⟨κ.pos b,cap1,vs,rfl,hblk.own,k1,bE r4 r5,k4,k5,rfl⟩⟩
     obtain⟨v',w',g,hr,hown',hvb,hcase⟩:=FI (P:=P) (w0:=w0) (w:=w) (t:=t) (t2:=t2) (ty:=o.type) (n:=k) (m:=news.length) (xs:=vs.toList.take (k*i.size)) (news:=ns) hu hi hz hzs (.inr hown0) hnlen hna hn1 hmp hby hmx hrep.ext.size;have hR0:=hrep.Fj b;have hfree:∀x (hx:x<(σ.set b .gone).length),((σ.set b .gone)[x]).be κ x≠some (κ.pos b):=fun x hx=>by
      have hx':x<σ.length:=by simpa using hx
      by_cases hxb:x=b
      ·subst hxb;rw[gv];intro e;cases e
      ·rw[fE (dn hxb)];intro e;exact hrep.apart x b hx' hlt _ hxb e (by rw[hb'];rfl)
     have hR1:aC w0 κ (σ.set b .gone) w'/\(∀o,κ.m g o=none)/\∀x (hx:x<(σ.set b .gone).length),((σ.set b .gone)[x]).be κ x≠some g:=by
      rcases hcase with⟨c1,c3,c4⟩|⟨rfl,c2⟩
      ·have hg:g=κ.pos b:=by
        have:=wu c1;injection this with this;exact this.symm
       subst hg;exact⟨hR0.Ol c3 (Below.grown hrep.ext c3 hrep.ext.size (fun k hk=>by injection hk with hk;omega)) hblk.free hfree (hrep.Fe hlt (by rw[hb'];rfl)),hblk.free,hfree⟩
      ·exact⟨hR0.grow c2,fun o=>hrep.fresh (aA _) o,fun x hx hl=>by have:=(hR0.gQ hx hl).2;omega⟩
     obtain⟨κ',q1,q2,q3⟩:=hR1.1.FK (cs:=cs.take (k*i.size)++news.flatten) (by omega) hown' hvb hR1.2.1 hR1.2.2 (FJ (by rw[hvl,dV];omega) hnl (fun j hj=>by
      have hj':j<k*i.size:=by rw[dV]at hj;omega
      have hjc:j<cs.length:=by omega
      have:=k6 j hjc;rw[List.getElem_take,cf,mH,if_pos hj'];simpa[ij]using this) hnr) (by rw[bD,dV,sO news hnl,fo];omega)
     rw[List.length_set]at q3;exact⟨κ',v',w',.inl (pa ho hxv hyv hr),q1,q2,q3⟩
   ·cases hs
  ·cases hs
 ·rename_i b rows hxe;rw[hxe]at hxr;split at hs
  ·rename_i e' size' n hb;split at hs
   ·rename_i hc;obtain⟨he1,rfl,hrn,hnl,hby,hmx⟩:=hc;have he1:=he1.symm;subst he1;injection hs with hs;injection hs with e1 e2;subst e1 e2;have hnlen:=hnlen hnl;have hnr:=hnr hnl;obtain⟨hlt,hb'⟩:=aL.1 hb;have hblk:=hrep.cD b hlt;rw[hb']at hblk;generalize hxv:a.eval x=u at hxr;cases hxr with
    |aG r1 r2 r3 r4 r5 r6=>
     rename_i f;have hff:f=n:=by have:=hblk.fr;rw[r3]at this;injection this
     subst hff;have hu':=r5 hrn;have hrs:∀q∈rows,q.length=i.size:=fun q hq=>(r6 q hq).trans hblk.sz;by_cases hm:news.length=0
     ·have:news=[]:=fF hm;subst this;obtain⟨s1,A1,cap1,xs1,hv1,_,hcap1,_⟩:=r1.jW;have hns:ns=[]:=fF (by simpa using hnlen);subst hns;have hr:=Ak (P:=P) (w:=w) (t:=t) (t2:=t2) (ty:=o.type) (A0:=A1) (n:=rows.length) (cap:=cap1) hu hi hcap1 hna;refine⟨κ,u,w,.inl (pa ho hxv hyv (by rw[hv1];exact hr)),K.le_refl κ,?_,?_⟩
      ·simp only[List.length_nil,mG];rw[<-hb',List.set_getElem_self];exact hrep
      ·rw[List.append_nil];exact .aG r1 r2 r3 r4 r5 r6
     ·have hmp:0<news.length:=by omega
      have hv:∃xs:List Value,xs.length=rows.length*i.size/\(∀k (hk:k<rows.length) j (hj:j<rows[k].length),RC κ.m rows[k][j] (xs.getD (k*i.size+j) undef))/\
        ((rows.length=0/\xs=[]/\∃A0,u= .slice A0 0 0)\/w.ownsRow w0.heap.size e i.size u rows.length xs):=by
       rcases hblk.row with⟨h0,A0,hA0⟩|⟨xs,ho'⟩
       ·have hr0:rows=[]:=fF (by omega);subst hr0;exact⟨[],by simp,fun k hk=>by simp at hk,.inl ⟨rfl,rfl,A0,by rw[hu',hA0]⟩⟩
       ·rw[<-hu',<-hrn]at ho';obtain⟨s1,A1,cap1,xs1,hv1,k0,_,_,k3,k4,k5⟩:=r1.jW;by_cases hne:rows=[]
        ·subst hne;exact⟨xs,ho'.1,fun k hk=>by simp at hk,.inr ho'⟩
        have hpos:0<rows.length:=jR.2 hne;have hs1:s1=i.size:=by rw[<-k0 _ (bt hpos),hrs _ (bt hpos)]
        subst hs1;obtain⟨bb,oo,hA1,k4⟩:=k4 hne;rcases ho'.2 with⟨_,h0⟩|⟨g,cap,cur,hvg,hbg,hg,hnc,hcm,hcs,htake⟩
        ·omega
        ·rw[hvg]at hv1;injection hv1 with hv1 _ _;rw[hA1]at hv1;injection hv1 with hv1;injection hv1 with hg1 ho1 _;subst hg1 ho1;have hxx:xs1=xs:=by
          apply List.ext_getElem (by rw[k3,ho'.1]);intro k hk1 hk2;have q1:=k4 k hk1;rw[aO hk1]at q1;have q2:=hrep.mem _ _ _ q1;have q3:=ho'.cells (g:=g) (by rw[hvg];rfl) k xs[k] (aO hk2);rw[add_lit]at q3;rw[q2]at q3;injection q3
         subst hxx;exact⟨xs1,k3,k5,.inr ho'⟩
      obtain⟨xs,hxl,hxr',hv⟩:=hv;obtain⟨v',w',g,hr,hown',hvb,hcase⟩:=FI (P:=P) (w0:=w0) (w:=w) (t:=t) (t2:=t2) (ty:=o.type) (n:=rows.length) (m:=news.length) (v:=u) (xs:=xs) (news:=ns) hu hi hz hzs hv hnlen hna hn1 hmp (by rw[hrn];exact hby) (by rw[hrn];exact hmx) hrep.ext.size;have hgb:w.grownBy w' (some g)/\Below w0.heap.size w0 w'/\(∀x (hx:x<σ.length),x≠b->(σ[x]).be κ x≠some g)/\(∀p q,κ.m g p=some q->p<f*i.size/\(xs++ns)[p]?=some q)/\κ.rest g=none:=by
       rcases hcase with⟨c1,c3,c4⟩|⟨rfl,c2⟩
       ·refine⟨c3,Below.grown hrep.ext c3 hrep.ext.size (fun k hk=>by injection hk with hk;omega),fun x hx hne hl=>?_,fun p q hq=>?_,hrep.Fe hlt (by rw[hb'];simp only[ad.be];rw[<-hu',c1])⟩
        ·refine hrep.apart x b hx hlt g hne hl ?_;rw[hb'];simp only[ad.be];rw[<-hu',c1]
        ·have hlt':p<f*i.size:=by
          rcases dT p (f*i.size)with h'|h'
          ·exact h'
          ·rw[hblk.free g (by rw[<-hu',c1]) p h']at hq;cases hq
         refine⟨hlt',?_⟩;rcases hv with⟨h0,_⟩|ho'
         ·rw[<-hrn,h0]at hlt';simp at hlt'
         ·have hpx:p<xs.length:=by rw[hxl,hrn];exact hlt'
          have q3:=ho'.cells (wu c1) p xs[p] (aO hpx);rw[add_lit,er,hrep.mem _ _ _ hq]at q3;injection q3 with q3;rw[cI hpx,aO hpx,q3]
       ·refine⟨⟨c2.os,c2.tape,c2.output,c2.size,fun k hk _=>c2.block k hk⟩,hrep.ext.trans (c2.mono hrep.ext.size),fun x hx _ hl=>?_,fun p q hq=>?_,hrep.Ff (aA _)⟩
        ·have:=(hrep.gQ hx hl).2;omega
        ·rw[hrep.fresh (aA _)]at hq;cases hq
      obtain⟨g1,g2,g3,g4,g5⟩:=hgb;obtain⟨hrep',hle⟩:=hrep.gR (k:=f+news.length) hb (by omega) (by rw[<-hrn];exact hown') hvb g1 g2 g3 g4 g5;refine⟨_,v',w',.inl (pa ho hxv hyv hr),hle,hrep',?_⟩;have hv'':∃cap,v'= .slice (some ⟨g,0,none⟩) (rows++news).length cap/\(rows++news).length<=cap/\cap<=maxLen:=by
       rcases hown'.2 with⟨_,h0⟩|⟨g',cap,cur,hvg,_,_,hnc,hcm,_,_⟩
       ·omega
       ·rw[hvg]at hvb;injection hvb with hvb;subst hvb;exact⟨cap,by rw[hvg,bD],by rw[bD];exact hnc,hcm⟩
      obtain⟨cap',hv1,hv2,hv3⟩:=hv'';have hrc:=wH (m:=(κ.gR b (f+news.length) g v' (xs++ns)).m) (rows:=rows++news) (size:=i.size) (xs:=xs++ns) (by rw[hown'.1,bD]) (fun q hq=>by
       rcases cM.1 hq with hq|hq
       ·exact hrs q hq
       ·exact hnl q hq) (fun k hk j hj=>RC.mono hle.m (Ai hxl hrs hxr' hnr k hk j hj)) (b:=g) (o:=0) (cap:=cap') (fun k hk=>by
       rw[er];show(if g=g/\k<(xs++ns).length then _ else _)=_;rw[if_pos ⟨rfl,hk⟩]) hv2 hv3
      rw[<-hv1]at hrc;refine .aG (f:=f+news.length) hrc r2 (by show(if b=b then _ else _)=_;rw[if_pos rfl]) (by rw[bD];omega) (fun _=>by show _=(if b=b then _ else _);rw[if_pos rfl]) (fun q hq=>?_);rcases cM.1 hq with hq|hq
      ·exact r6 q hq
      ·exact(hnl q hq).trans hblk.sz.symm
   ·cases hs
  ·cases hs
 ·rename_i olds hxe;rw[hxe]at hxr;split at hs
  ·rename_i hc;obtain⟨hne,hol,hnl,hby,hmx⟩:=hc;injection hs with hs;injection hs with e1 e2;subst e1 e2;have hnlen:=hnlen hnl;have hnr:=hnr hnl;generalize hxv:a.eval x=u at hxr;cases hxr with
   |ab r1=>
    rename_i A0;have hold:∃xs:List Value,xs.length=olds.length*i.size/\(∀k (hk:k<olds.length) j (hj:j<olds[k].length),RC κ.m olds[k][j] (xs.getD (k*i.size+j) undef))/\
      (olds.length≠0->∃b o,A0=some ⟨b,o,none⟩/\∀k,k<xs.length->w.cell? ⟨b,o+k,none⟩=xs[k]?):=by
     obtain⟨s1,A1,cap1,xs1,hv1,k0,_,_,k3,k4,k5⟩:=r1.jW;by_cases h0:olds=[]
     ·subst h0;exact⟨[],by simp,fun k hk=>by simp at hk,fun h=>absurd rfl h⟩
     ·have hpos:0<olds.length:=jR.2 h0;have hs1:s1=i.size:=by rw[<-k0 _ (bt hpos),hol _ (bt hpos)]
      subst hs1;obtain⟨bb,oo,hA1,k4⟩:=k4 h0;injection hv1 with hv1 _ _;refine⟨xs1,k3,k5,fun _=>⟨bb,oo,by rw[hv1,hA1],fun k hk=>?_⟩⟩;have q:=k4 k hk;rw[aO hk]at q⊢;exact hrep.mem _ _ _ q
    obtain⟨xo,hxo,hxor,hxoc⟩:=hold;have hO:=hrep.own e i.size A0;have hleO:κ.le (κ.own (.slice A0 0 0) i.size):=K.qI;have frn:(κ.own (.slice A0 0 0) i.size).fr σ.length=some 0:=by show(if σ.length=κ.n then _ else _)=_;rw[if_pos hrep.n.symm]
    have svn:(κ.own (.slice A0 0 0) i.size).sv σ.length= .slice A0 0 0:=by show(if σ.length=κ.n then _ else _)=_;rw[if_pos hrep.n.symm]
    have szn:(κ.own (.slice A0 0 0) i.size).sz σ.length=i.size:=by show(if σ.length=κ.n then _ else _)=_;rw[if_pos hrep.n.symm]
    have hnn:σ.length<(κ.own (.slice A0 0 0) i.size).n:=by show _<κ.n+1;rw[hrep.n];omega
    have hal:∀q∈olds++news,q.length=i.size:=fun q hq=>by
     rcases cM.1 hq with hq|hq
     ·exact hol q hq
     ·exact hnl q hq
    by_cases hm:news.length=0
    ·have:news=[]:=fF hm;subst this;have:olds=[]:=by rcases hne with h|h;exact h;exact absurd rfl h
     subst this;have hns:ns=[]:=fF (by simpa using hnlen);subst hns;have hr:=Ak (P:=P) (w:=w) (t:=t) (t2:=t2) (ty:=o.type) (A0:=A0) (n:=0) (cap:=0) hu hi (aA _) hna;refine⟨_,_,w,.inl (pa ho hxv hyv hr),hleO,hO,?_⟩;exact .aG (hleO.m|>fun q=>r1.mono q) hnn frn (aA _) (fun _=>svn.symm) (by simp)
    ·have hmp:0<news.length:=by omega
     obtain⟨v',w',hr,hown',hvb,c2⟩:=Aj (P:=P) (w0:=w0) (w:=w) (t:=t) (t2:=t2) (ty:=o.type) (n:=olds.length) (m:=news.length) (A0:=A0) (xs:=xo) (news:=ns) hu hi hz hzs hxo hxoc hnlen hna hmp hby hmx hrep.ext.size;obtain⟨hrep',hle⟩:=hO.gR (k:=olds.length+news.length) (n:=0) (b:=σ.length) (e:=e) (size:=i.size) (by simp) (by omega) hown' hvb ⟨c2.os,c2.tape,c2.output,c2.size,fun k hk _=>c2.block k hk⟩ (hrep.ext.trans (c2.mono hrep.ext.size))
      (fun x hx _ hl=>by have:=(hO.gQ hx hl).2;omega) (fun p q hq=>by rw[hO.fresh (aA _)]at hq;cases hq) (hO.Ff (aA _))
     rw[show(σ++[ad.spare e i.size 0]).set σ.length (.spare e i.size (olds.length+news.length))=σ++[.spare e i.size (olds.length+news.length)]from by simp]at hrep';refine⟨_,v',w',.inl (pa ho hxv hyv hr),K.le_trans hleO hle,hrep',?_⟩;have hv'':∃cap,v'= .slice (some ⟨w.heap.size,0,none⟩) (olds++news).length cap/\(olds++news).length<=cap/\cap<=maxLen:=by
      rcases hown'.2 with⟨_,h0⟩|⟨g',cap,cur,hvg,_,_,hnc,hcm,_,_⟩
      ·omega
      ·rw[hvg]at hvb;injection hvb with hvb;subst hvb;exact⟨cap,by rw[hvg,bD],by rw[bD];exact hnc,hcm⟩
     obtain⟨cap',hv1,hv2,hv3⟩:=hv'';have hrc:=wH (m:=((κ.own (.slice A0 0 0) i.size).gR σ.length (olds.length+news.length) w.heap.size v' (xo++ns)).m) (rows:=olds++news) (size:=i.size) (xs:=xo++ns) (by rw[hown'.1,bD]) hal (fun k hk j hj=>RC.mono (K.le_trans hleO hle).m (Ai hxo hol hxor hnr k hk j hj)) (b:=w.heap.size) (o:=0) (cap:=cap') (fun k hk=>by
      rw[er];show(if w.heap.size=w.heap.size/\k<(xo++ns).length then _ else _)=_;rw[if_pos ⟨rfl,hk⟩]) hv2 hv3
     rw[<-hv1]at hrc;exact .aG (f:=olds.length+news.length) hrc hnn (by show(if σ.length=σ.length then _ else _)=_;rw[if_pos rfl]) (by rw[bD];omega) (fun _=>by show _=(if σ.length=σ.length then _ else _);rw[if_pos rfl]) (fun q hq=>(hal q hq).trans szn.symm)
  ·cases hs
 ·cases hs
theorem OY{o:Oper}{t e:Nat}{x y:Operand}{x' y':aj}{i:TypeInfo}{z:Value}{v:V}(ho:o.op= .call {callee:=.builtin .append,args:=#[x,y],argTypes:=#[t,t]})(hu:P.underlying t=some (.slice e))(hi:P.info? e=some i)(hz:i.zero=some z)
  (hzs:z.cells.size=i.size) (hx:bH x=some x') (hy:bH y=some y') (hs:step ρ σ (.app e i.size i.bytes x' y')=some (v,σ')) (hrep:aC w0 κ σ w) (he:b8 κ ρ a):bg w0 κ σ' v ((execOp a.eval o).run P w):=by
 have hyr:=bO he hy;simp only[step]at hs;split at hs
 ·rename_i news hnews;have hyc:=hyr.kN hnews;by_cases hnl:∀r∈news,r.length=i.size
  ·obtain⟨A,c,ns,hyv,hnlen,hna,hn1,hnr⟩:=RC.source hrep hyc hnl;exact FL ho hu hi hz hzs hx (by rw[hyv];exact Src.slice hu hnlen hna) (fun _=>hnlen) hn1 (fun _=>hnr) hs hrep he
  ·unfold mS at hs;split at hs
   ·split at hs
    ·exact absurd (by simp) hnl
    ·split at hs
     ·rw[if_neg (fun h=>hnl h.2.2.2.2.1)]at hs;cases hs
     ·cases hs
   ·split at hs
    ·rw[if_neg (fun h=>hnl h.2.2.2.1)]at hs;cases hs
    ·cases hs
   ·rw[if_neg (fun h=>hnl h.2.2.1)]at hs;cases hs
   ·cases hs
 ·cases hs
theorem wI{o:Oper}{t e:Nat}{x y:Operand}{x' y':aj}{i:TypeInfo}{z:Value}{olds news:List (List C)}(ho:o.op= .call {callee:=.builtin .append,args:=#[x,y],argTypes:=#[t,t]})(hu:P.underlying t=some (.slice e))(hi:P.info? e=some i)(hz:i.zero=some z)
  (hzs:z.cells.size=i.size) (hx:bH x=some x') (hy:bH y=some y') (hxe:x'.ev ρ= .ab olds) (hye:(y'.ev ρ).rows=some news) (hne:news≠[]) (hol:∀r∈olds,r.length=i.size) (hnl:∀r∈news,r.length=i.size)
  (hby:(olds.length+news.length)*i.bytes<=140737488355328) (hmx:olds.length+news.length<=140737488355328) (hrep:aC w0 κ σ w) (he:b8 κ ρ a):bg w0 κ (σ++[.vec e i.size (olds++news).flatten]) (.vec σ.length (olds.length+news.length)) ((execOp a.eval o).run P w):=by
 have hxr:=bO he hx;have hyr:=bO he hy;have hyc:=hyr.kN hye;obtain⟨A,c,ns,hyv,hnlen,hna,hn1,hnr⟩:=RC.source hrep hyc hnl;have hmp:0<news.length:=jR.2 hne;rw[hxe]at hxr;generalize hxv:a.eval x=u at hxr;cases hxr with
 |ab r1=>
  rename_i A0;have hold:∃xs:List Value,xs.length=olds.length*i.size/\(∀k (hk:k<olds.length) j (hj:j<olds[k].length),RC κ.m olds[k][j] (xs.getD (k*i.size+j) undef))/\
    (olds.length≠0->∃b o,A0=some ⟨b,o,none⟩/\∀k,k<xs.length->w.cell? ⟨b,o+k,none⟩=xs[k]?):=by
   obtain⟨s1,A1,cap1,xs1,hv1,k0,_,_,k3,k4,k5⟩:=r1.jW;by_cases h0:olds=[]
   ·subst h0;exact⟨[],by simp,fun k hk=>by simp at hk,fun h=>absurd rfl h⟩
   ·have hpos:0<olds.length:=jR.2 h0;have hs1:s1=i.size:=by rw[<-k0 _ (bt hpos),hol _ (bt hpos)]
    subst hs1;obtain⟨bb,oo,hA1,k4⟩:=k4 h0;injection hv1 with hv1 _ _;refine⟨xs1,k3,k5,fun _=>⟨bb,oo,by rw[hv1,hA1],fun k hk=>?_⟩⟩;have q:=k4 k hk;rw[aO hk]at q⊢;exact hrep.mem _ _ _ q
  obtain⟨xo,hxo,hxor,hxoc⟩:=hold;obtain⟨v',w',hr,hown',hvb,c2⟩:=Aj (P:=P) (w0:=w0) (w:=w) (t:=t) (t2:=t) (ty:=o.type) (n:=olds.length) (m:=news.length) (A0:=A0) (xs:=xo) (news:=ns) hu hi hz hzs hxo hxoc hnlen (Src.slice (P:=P) (w:=w) hu hnlen hna) hmp hby hmx hrep.ext.size;have hal:∀q∈olds++news,q.length=i.size:=fun q hq=>by
   rcases cM.1 hq with hq|hq
   ·exact hol q hq
   ·exact hnl q hq
  obtain⟨κ',q1,q2,q3⟩:=(hrep.grow c2).FK (cs:=[]++(olds++news).flatten) (by omega) hown' hvb (fun o=>hrep.fresh (aA _) o) (fun x hx hl=>by have:=(hrep.gQ hx hl).2;omega)
   (FJ (xs:=[]) rfl hal (fun j hj=>by simp at hj) (Ai hxo hol hxor hnr)) (by rw[eH,sO _ hal,bD])
  exact⟨κ',v',w',.inl (pa ho hxv hyv hr),q1,q2,q3⟩
theorem OZ{o:Oper}{t t2 e:Nat}{x y:Operand}{x' y':aj}{i:TypeInfo}{z:Value}{v:V}(ho:o.op= .call {callee:=.builtin .append,args:=#[x,y],argTypes:=#[t,t2]})(hu:P.underlying t=some (.slice e))(hu2:P.underlying t2=some .string)(hi:P.info? e=some i)(hz:i.zero=some z)
  (hzs:z.cells.size=i.size) (h1:i.size=1) (hx:bH x=some x') (hy:bH y=some y') (hs:step ρ σ (.lL e i.bytes x' y')=some (v,σ')) (hrep:aC w0 κ σ w) (he:b8 κ ρ a):bg w0 κ σ' v ((execOp a.eval o).run P w):=by
 have hyr:=bO he hy;simp only[step]at hs;split at hs
 ·rename_i l hl;rw[hl]at hyr;have hyv:=hyr.o6;have hbl:(mR l).length=l.length:=by simp[mR]
  refine FL (news:=mR l) (ns:=l.map fun b=>Value.int .u8 b.toNat) ho hu hi hz hzs hx (by rw[hyv,hbl,h1];exact Src.str hu2) (fun _=>by rw[hbl,h1];simp) (fun u hu=>?_) (fun _ k hk j hj=>?_) (by rw[h1];exact hs) hrep he
  ·obtain⟨b,_,rfl⟩:=List.mem_map.1 hu;rfl
  ·have hk':k<l.length:=by rw[hbl]at hk;exact hk
   have hj':j=0:=by simp[mR]at hj;exact hj
   subst hj';have e1:(mR l)[k]=[.int .u8 l[k].toNat]:=by simp[mR]
   simp only[e1,dC,h1,Nat.mul_one,mG];rw[gP (by simpa using hk'),List.getElem_map];exact .int _ _
 ·cases hs
end
section
variable {P:Program} {w0 w w':World} {κ:K} {σ σ':H} {a:Act} {ρ:Env}
theorem aC.O0(h:aC w0 κ σ w):aC w0 (κ.more w.heap.size) (σ++[.mp []]) (w.alloc (.map #[] 0))/\RV (κ.more w.heap.size) (.mp σ.length) (.map (some w.heap.size)):=by
 have hle:κ.le (κ.more w.heap.size):=K.sL;have hA:=h.alloc (.map #[] 0);have hpos:∀b,b<σ.length->(κ.more w.heap.size).pos b=κ.pos b:=fun b hb=>by show(if b=κ.n then _ else _)=_;rw[if_neg (by rw[h.n];omega)]
 have hfr:∀b,b<σ.length->(κ.more w.heap.size).fr b=κ.fr b:=fun b hb=>by show(if b=κ.n then _ else _)=_;rw[if_neg (by rw[h.n];omega)]
 have hposn:(κ.more w.heap.size).pos σ.length=w.heap.size:=by show(if σ.length=κ.n then _ else _)=_;rw[if_pos h.n.symm]
 have hfrn:(κ.more w.heap.size).fr σ.length=none:=by show(if σ.length=κ.n then _ else _)=_;rw[if_pos h.n.symm]
 have hlies:∀b (hb:b<σ.length),(σ[b]).be (κ.more w.heap.size) b=(σ[b]).be κ b:=fun b hb=>ad.jU (hpos b hb) rfl;refine⟨⟨by show κ.n+1=_;rw[h.n];simp,hA.ext,hA.mem,fun b hb=>?_,fun x y hx hy g hne=>?_,fun l o hr=>⟨(hA.rest l o hr).1,(hA.rest l o hr).2.1,sM hlies (h.rest l o hr).2.2 (by simp only[ad.be,hposn];intro e;injection e with e;have:=(dS.1 (h.rest l o hr).1).1;omega)⟩,hA.dw⟩,?_⟩
 ·rcases dT b σ.length with hb'|hb'
  ·rw[cL hb'];exact ad.is_le (κ:=κ) rfl hle (hpos b hb') (hfr b hb') rfl rfl (hA.cD b hb')
  ·have hbe:b=σ.length:=by simp at hb;omega
   subst hbe;rw[dU (aA _)];simp only[cq,dC];exact⟨hfrn,⟨#[],0,by rw[hposn];exact kE w _,rfl,fun j hj=>by simp at hj⟩,by rw[hposn];exact h.ext.size,fun o=>by rw[hposn];exact h.fresh (aA _) o⟩
 ·rcases dT x σ.length with hx'|hx'<;>rcases dT y σ.length with hy'|hy'
  ·rw[cL hx',cL hy',hlies x hx',hlies y hy'];exact h.apart x y hx' hy' g hne
  ·have hye:y=σ.length:=by simp at hy;omega
   subst hye;rw[cL hx',hlies x hx',dU (aA _)];simp only[cq,dC,ad.be,hposn];intro h1 h2;have:=(h.gQ hx' h1).2;injection h2;omega
  ·have hxe:x=σ.length:=by simp at hx;omega
   subst hxe;rw[cL hy',hlies y hy',dU (aA _)];simp only[cq,dC,ad.be,hposn];intro h1 h2;have:=(h.gQ hy' h2).2;injection h1;omega
  ·simp at hx hy;omega
 ·have:=RV.mp (κ:=κ.more w.heap.size) (b:=σ.length) (by show _<κ.n+1;rw[h.n];omega) hfrn;rwa [hposn]at this
theorem O1{o:Oper}{t:TypeId}(ho:o.op= .makeMap t none)(hrep:aC w0 κ σ w):bg w0 κ (σ++[.mp []]) (.mp σ.length) ((execOp a.eval o).run P w):=by
 obtain⟨h1,h2⟩:=hrep.O0;refine⟨_,_,_,.inl ?_,K.sL,h1,h2⟩;simp[execOp,ho,Instr.makeMap,lB]
theorem O2{z:Value}{c:C}(h:fJ z=some (.c c)):z.cells=#[z]:=by
 unfold fJ at h;split at h<;>first|(cases h;done)|rfl|(split at h<;>first|rfl|cases h)
theorem O3{o:Oper}{t e:TypeId}{l:Nat}{i:TypeInfo}{z:Value}{zc:C}(ho:o.op= .makeSlice t (.tmp l) (.tmp l))(hu:P.underlying t=some (.slice e))(hi:P.info? e=some i)(hz:i.zero=some z)(hzc:fJ z=some (.c zc))(hs1:i.size=1)
  {v:V} (hs:step ρ σ (.kK e i.bytes zc (.t l))=some (v,σ')) (hrep:aC w0 κ σ w) (he:b8 κ ρ a):bg w0 κ σ' v ((execOp a.eval o).run P w):=by
 simp only[step]at hs;split at hs
 ·rename_i k n hx;split at hs
  ·rename_i hn;obtain⟨h0,hb,hm⟩:=hn;injection hs with hs;injection hs with q1 q2;subst q1 q2;have hv:=he l;have hx:ρ l= .c (.int k n):=hx;rw[hx]at hv;have hev:a.eval (.tmp l)= .int k n:=by
    have e1:a.eval (.tmp l)=a.tmps.getD l undef:=rfl;rw[e1];generalize a.tmps.getD l undef=u at hv;cases hv with
    |c hc=>cases hc;rfl
   have hrun:=run_make (P:=P) w t e i z hu hi hz k k n n h0 (Int.le_refl _) (by omega) (by omega);have hA:=hrep.alloc (.cells (madeCells z.cells (n.toNat*i.size)) e);have hcs:=O2 hzc;have hrc:RC κ.m zc z:=by
    have:=zZ (κ:=κ) hzc;cases this with
    |c h=>exact h
   obtain⟨r1,r2⟩:=hA.Fk (g:=w.heap.size) (e:=e) (size:=1) (n:=n.toNat) (cap:=n.toNat) (cs:=List.replicate n.toNat zc) (cur:=madeCells z.cells (n.toNat*i.size)) hrep.ext.size (fun o=>hrep.fresh (aA _) o) (fun x hx hl=>by have:=(hrep.gQ hx hl).2;omega) (kE w _) (by simp) (aA _) (by unfold maxLen;omega) (by rw[size_madeCells,hs1]) (fun j hj=>by
    have hj':j<n.toNat:=by simpa using hj
    rw[hs1,hcs];simp only[List.getElem_replicate];have:(madeCells #[z] (n.toNat*1)).getD j undef=z:=by
     simp[madeCells,ij,hj',Nat.mod_one]
    rw[this];exact hrc)
   refine⟨_,_,_,.inl ?_,K.z8,r1,r2 _ (aA _)⟩;simp[execOp,ho,hev,hrun,lB]
  ·cases hs
 ·cases hs
theorem wJ{d:TypeDesc}{q:KD}(h:mQ d=some q){x:C}{v:Value}{m:Mem}(hx:RC m x v)(hq:q.ok x=true):MapKept.IsKey d v:=by
 cases d<;>simp only[mQ]at h<;>first|(cases h;done)|skip
 all_goals injection h with h;subst h
 all_goals cases hx<;>simp_all [KD.ok,MapKept.IsKey]
theorem O4{d:TypeDesc}{q:KD}(h:mQ d=some q){x y:C}{u v:Value}{m:Mem}(hx:RC m x u)(hy:RC m y v)(hqx:q.ok x=true)(hqy:q.ok y=true):Instr.sameNow d u v=some (iP x y):=by
 cases d<;>simp only[mQ]at h<;>first|(cases h;done)|skip
 all_goals injection h with h;subst h
 all_goals cases hx<;>first|(simp[KD.ok]at hqx;done)|skip
 all_goals cases hy<;>first|(simp[KD.ok]at hqy;done)|skip
 all_goals simp_all [KD.ok,Instr.sameNow,iP,Fx]
theorem O5{q:KD}{x y:C}(hqx:q.ok x=true)(hqy:q.ok y=true)(h:iP x y=true):x=y:=by
 cases q<;>cases x<;>simp[KD.ok]at hqx<;>cases y<;>simp[KD.ok]at hqy<;>simp_all [iP]
def ju(m:Mem)(kvs:List (C×C))(es:List MapEntry):Prop:=es.length=kvs.length/\∀j (hj:j<kvs.length) (hj':j<es.length),RC m kvs[j].1 (es[j]).key/\RC m kvs[j].2 (es[j]).val
theorem ju.cons_inv{m:Mem}{p:C×C}{kvs:List (C×C)}{es:List MapEntry}(h:ju m (p::kvs) es):∃e r,es=e::r/\RC m p.1 e.key/\RC m p.2 e.val/\ju m kvs r:=by
 cases es with
 |nil=>have:=h.1;simp at this
 |cons e r=>
  have h0:=h.2 0 (by simp) (by simp);exact⟨e,r,rfl,h0.1,h0.2,by have:=h.1;simpa using this,fun j hj hj'=>h.2 (j+1) (by simpa using hj) (by simpa using hj')⟩
theorem Al{m:Mem}{d:TypeDesc}{q:KD}(hd:mQ d=some q){k:C}{kv:Value}(hk:RC m k kv)(hq:q.ok k=true):∀{kvs:List (C×C)} {es:List MapEntry} (i:Nat),ju m kvs es->(kvs.all fun p=>q.ok p.1)=true->
  (iq k kvs=none/\wa d kv es i=some none/\∀v,ir k v kvs=kvs++[(k,v)])\/
  ∃j x e,iq k kvs=some x/\wa d kv es i=some (some (i+j,e.val))/\es[j]?=some e/\RC m x e.val/\e.key=kv/\∀v,ir k v kvs=kvs.set j (k,v)
 |[],es,i,h,_=>by
  have:es=[]:=fF h.1;subst this;exact .inl ⟨rfl,rfl,fun v=>rfl⟩
 |p::kvs,es,i,h,ha=>by
  obtain⟨e,r,rfl,h1,h2,h3⟩:=h.cons_inv;rw[jQ,Bool.and_eq_true]at ha;obtain⟨pk,pv⟩:=p;simp only at h1 h2 ha;have hs:=O4 hd hk h1 hq ha.1;cases he:iP k pk with
  |true=>
   right;have hkk:=O5 hq ha.1 he;refine⟨0,pv,e,by rw[iq,he];rfl,by rw[wa,hs,he];rfl,rfl,h2,?_,fun v=>by rw[ir,he];rfl⟩;obtain⟨rr,q1,q2⟩:=MapKept.sameNow_of_keys (wJ hd hk hq) (wJ hd h1 ha.1);rw[hs,he]at q1;injection q1 with q1;exact(q2.1 q1.symm).symm
  |false=>
   rcases Al hd hk hq (i+1) h3 ha.2 with⟨q1,q2,q3⟩|⟨j,x,e',q1,q2,q3,q4,q5,q6⟩
   ·left;refine⟨by rw[iq,he];exact q1,by rw[wa,hs,he];exact q2,fun v=>by rw[ir,he];show _::ir k v kvs=_;rw[q3];rfl⟩
   ·right;refine⟨j+1,x,e',by rw[iq,he];exact q1,?_,q3,q4,q5,fun v=>by rw[ir,he];show _::ir k v kvs=_;rw[q6];rfl⟩;rw[wa,hs,he];show wa d kv r (i+1)=_;rw[q2,ji,Nat.add_comm 1 j]
theorem O6{t:TypeId}{q:KD}{z:C}(h:wz P t=some (q,z)):∃kt et d,P.underlying t=some (.map kt et)/\P.underlying kt=some d/\mQ d=some q/\lM P et=some (.c z):=by
 unfold wz at h;split at h
 ·rename_i kt et hu;split at h
  ·rename_i d z' hk hz;split at h
   ·rename_i q' hq;injection h with h;injection h with h1 h2;subst h1 h2;exact⟨kt,et,d,hu,hk,hq,hz⟩
   ·cases h
  ·cases h
 ·cases h
theorem O7{t:TypeId}{q:KD}(h:wA P t=some q):∃kt et d,P.underlying t=some (.map kt et)/\P.underlying kt=some d/\mQ d=some q:=by
 unfold wA at h;split at h
 ·rename_i kt et hu;split at h
  ·rename_i d hk;exact⟨kt,et,d,hu,hk,h⟩
  ·cases h
 ·cases h
theorem O8{t:TypeId}{x:V}(h:lM P t=some x):∃z,(zeroValue t).run P w= .ok z w/\RV κ x z:=by
 unfold lM at h;split at h
 ·rename_i i hi;split at h
  ·rename_i z hz;refine⟨z,?_,wB h⟩;simp[zeroValue,typeInfo,hi,hz,lB]
  ·cases h
 ·cases h
theorem RV.FM{b:Nat}{v:Value}(r:RV κ (.mp b) v):v= .map (some (κ.pos b)):=by cases r;rfl
theorem RV.FN{x:C}{v:Value}(r:RV κ (.c x) v):RC κ.m x v:=by cases r;assumption
theorem O9{o:Oper}{t:TypeId}{x k:Operand}{ok:Bool}{q:KD}{z:C}{x' k':aj}{v:V}(ho:o.op= .lookup t x k ok)(hm:wz P t=some (q,z))(hx:bH x=some x')(hk:bH k=some k')(hs:step ρ σ (.look ok q z x' k')=some (v,σ'))(hrep:aC w0 κ σ w)(he:b8 κ ρ a):bg w0 κ σ' v ((execOp a.eval o).run P w):=by
 obtain⟨kt,et,d,hu,hkt,hq,hz⟩:=O6 hm;simp only[step]at hs;split at hs
 ·rename_i b kc e1 e2;split at hs
  ·rename_i kvs hb;split at hs
   ·rename_i hc;injection hs with hs;injection hs with q1 q2;subst q1 q2;have rx:=bO he hx;have rk:=bO he hk;rw[e1]at rx;rw[e2]at rk;have hxv:=rx.FM;have hkc:=rk.FN;obtain⟨hlt,hb'⟩:=aL.1 hb;have hblk:=hrep.cD b hlt;rw[hb']at hblk;obtain⟨es,clock,k1,k2,k3⟩:=hblk.row;have hkey:=wJ hq hkc hc.1;rcases Al hq hkc hc.1 0 ⟨k2,k3⟩ hc.2 with⟨f1,f2,_⟩|⟨j,y,e,f1,f2,_,f4,_⟩
    ·obtain⟨zv,z1,z2⟩:=O8 (w:=w) (κ:=κ) hz;have hrun:(EL t (a.eval x) (a.eval k) ok).run P w= .ok (if ok then .tuple #[zv,.bool false]else zv) w:=by
      rw[hxv];cases ok<;>simp[EL,cp hu,zB k1,EM hkt hkey,EN hkt f2,z1,lB]
     refine bg.still (v':=if ok then .tuple #[zv,.bool false]else zv) (by simp[execOp,ho,hrun,lB]) hrep ?_;rw[f1];unfold nR;cases ok
     ·exact z2
     ·refine .ay (xs:=[zv,.bool false]) rfl fun j hj=>?_
      match j,hj with
      |0,_=>exact z2
      |1,_=>exact .c (.bool _)
    ·have hrun:(EL t (a.eval x) (a.eval k) ok).run P w= .ok (if ok then .tuple #[e.val,.bool true]else e.val) w:=by
      rw[hxv];cases ok<;>simp[EL,cp hu,zB k1,EM hkt hkey,EN hkt f2,lB]
     refine bg.still (v':=if ok then .tuple #[e.val,.bool true]else e.val) (by simp[execOp,ho,hrun,lB]) hrep ?_;rw[f1];unfold nR;cases ok
     ·exact .c f4
     ·refine .ay (xs:=[e.val,.bool true]) rfl fun j hj=>?_
      match j,hj with
      |0,_=>exact .c f4
      |1,_=>exact .c (.bool _)
   ·cases hs
  ·cases hs
 ·cases hs
theorem aC.FO(h:aC w0 κ σ w){b:Nat}{kvs kvs':List (C×C)}{es es':Array MapEntry}{clock clock':Nat}(hb:σ[b]?=some (.mp kvs))(hold:w.heap[κ.pos b]?=some (.map es clock))(hnew:ju κ.m kvs' es'.toList):
  aC w0 κ (σ.set b (.mp kvs')) {w with heap:=w.heap.setIfInBounds (κ.pos b) (.map es' clock')}:=by
 obtain⟨hlt,hb'⟩:=aL.1 hb;have hblk:=h.cD b hlt;rw[hb']at hblk;obtain⟨hself,hother⟩:=MapKept.heap_set (w:=w) (o':=.map es' clock') hold;refine⟨by simpa using h.n,?_,fun x o v hm=>?_,fun x hx=>?_,fun x y hx hy g hne=>?_,fun l o hr=>?_,by simpa using h.dw⟩
 rotate_right
 ·obtain⟨a1,a2,a3⟩:=h.rest l o hr;have hb1:=a3 b hlt;rw[hb']at hb1;exact⟨(hother l (fun e=>hb1 (by rw[e];rfl))).trans a1,a2,sN (fun _ _ _=>rfl) a3 hb1⟩
 ·exact h.ext.trans ⟨rfl,rfl,rfl,by simp,fun k hk=>hother k (by have:=hblk.own;omega)⟩
 ·have hne:x≠κ.pos b:=fun e=>by rw[e,hblk.free]at hm;cases hm
  rw[vX (w:=w) (a:=⟨x,o,none⟩) (hother x hne)];exact h.mem x o v hm
 ·by_cases hxb:x=b
  ·subst hxb;rw[gv];exact⟨hblk.fr,⟨es',clock',hself,hnew.1,hnew.2⟩,hblk.own,hblk.free⟩
  ·have hx':x<σ.length:=by simpa using hx
   rw[fE (dn hxb)];refine ad.qG (h.cD x hx') fun g hg=>hother g fun e=>?_;subst e;exact h.apart x b hx' hlt _ hxb hg (by rw[hb'];rfl)
 ·have hx':x<σ.length:=by simpa using hx
  have hy':y<σ.length:=by simpa using hy
  have lies_set:∀z (hz:z<σ.length) (hz':z<(σ.set b (.mp kvs')).length),((σ.set b (.mp kvs'))[z]).be κ z=(σ[z]).be κ z:=fun z hz hz'=>by
   by_cases hzb:z=b
   ·subst hzb;rw[gv,hb'];rfl
   ·rw[fE (dn hzb)]
  rw[lies_set x hx',lies_set y hy'];exact h.apart x y hx' hy' g hne
theorem ju.snoc{m:Mem}{kvs:List (C×C)}{es:List MapEntry}{k v:C}{e:MapEntry}(h:ju m kvs es)(h1:RC m k e.key)(h2:RC m v e.val):ju m (kvs++[(k,v)]) (es++[e]):=by
 refine⟨by simp[h.1],fun j hj hj'=>?_⟩;rcases dT j kvs.length with hl|hl
 ·have hl':j<es.length:=by rw[h.1];exact hl
  rw[cL hl,cL hl'];exact h.2 j hl hl'
 ·have hje:j=kvs.length:=by simp at hj;omega
  subst hje;have e1:(kvs++[(k,v)])[kvs.length]=(k,v):=by simp
  have e2:(es++[e])[kvs.length]=e:=by
   rw[dU (by rw[h.1];exact aA _)];simp[h.1]
  rw[e1,e2];exact⟨h1,h2⟩
theorem ju.put{m:Mem}{kvs:List (C×C)}{es:List MapEntry}{k v:C}{f:MapEntry->MapEntry}{i:Nat}(h:ju m kvs es)(hf:∀e,RC m k (f e).key/\RC m v (f e).val):ju m (kvs.set i (k,v)) (es.modify i f):=by
 refine⟨by simp[h.1],fun j hj hj'=>?_⟩;have hj1:j<kvs.length:=by simpa using hj
 have hj2:j<es.length:=by rw[h.1];exact hj1
 by_cases hij:i=j
 ·subst hij;have e1:(es.modify i f)[i]=f es[i]:=by rw[List.getElem_modify];simp
  rw[gv,e1];exact hf _
 ·have e1:(es.modify i f)[j]=es[j]:=by rw[List.getElem_modify,if_neg hij]
  rw[fE hij,e1];exact h.2 j hj1 hj2
theorem Pa{o:Oper}{t:TypeId}{x k y:Operand}{q:KD}{x' k' y':aj}{v:V}(ho:o.op= .mapUpdate t x k y)(hm:wA P t=some q)(hx:bH x=some x')(hk:bH k=some k')(hy:bH y=some y')(hs:step ρ σ (.jT q x' k' y')=some (v,σ'))(hrep:aC w0 κ σ w)(he:b8 κ ρ a):bg w0 κ σ' v ((execOp a.eval o).run P w):=by
 obtain⟨kt,et,d,hu,hkt,hq⟩:=O7 hm;simp only[step]at hs;split at hs
 ·rename_i b kc vc e1 e2 e3;split at hs
  ·rename_i kvs hb;split at hs
   ·rename_i hc;injection hs with hs;injection hs with q1 q2;subst q1 q2;have rx:=bO he hx;have rk:=bO he hk;have ry:=(bO he hy).fX e3;rw[e1]at rx;rw[e2]at rk;have hxv:=rx.FM;have hkc:=rk.FN;obtain⟨hlt,hb'⟩:=aL.1 hb;have hblk:=hrep.cD b hlt;rw[hb']at hblk;obtain⟨es,clock,k1,k2,k3⟩:=hblk.row;have hkey:=wJ hq hkc hc.1;rcases Al hq hkc hc.1 0 ⟨k2,k3⟩ hc.2 with⟨f1,f2,f3⟩|⟨j,z,e,f1,f2,f3',f4,f5,f6⟩
    ·have hrun:(EO t (a.eval x) (a.eval k) (a.eval y)).run P w= .ok () {w with heap:=w.heap.setIfInBounds (κ.pos b) (.map (es.push {key:=a.eval k,val:=a.eval y,born:=clock}) (clock+1))}:=by
      rw[hxv];simp[EO,cp hu,zB k1,EM hkt hkey,EN hkt f2,ZU _ k1,lB]
     rw[f3];exact⟨κ,undef,{w with heap:=w.heap.setIfInBounds (κ.pos b) (.map (es.push {key:=a.eval k,val:=a.eval y,born:=clock}) (clock+1))},.inr ⟨by simp[execOp,ho,hrun,lB],rfl⟩,K.le_refl κ,hrep.FO hb k1 (by rw[Array.toList_push];exact ju.snoc (e:={key:=a.eval k,val:=a.eval y,born:=clock}) ⟨k2,k3⟩ hkc ry),.void⟩
    ·have hst:(Instr.keyThatStays (((es[j]?).map (·.key)).getD (a.eval k)) (a.eval k)).run P w= .ok (a.eval k) w:=by
      have:es[j]?=some e:=by rw[<-Array.getElem?_toList];exact f3'
      rw[this];simp only[Option.map_some,Option.getD_some,f5];exact MapKept.run_keyThatStays hkey
     have hrun:(EO t (a.eval x) (a.eval k) (a.eval y)).run P w= .ok () {w with heap:=w.heap.setIfInBounds (κ.pos b) (.map (es.modify j fun e=>{e with key:=a.eval k,val:=a.eval y}) clock)}:=by
      rw[hxv];rw[er]at f2;simp[EO,cp hu,zB k1,EM hkt hkey,EN hkt f2,hst,ZU _ k1,lB]
     rw[f6];exact⟨κ,undef,{w with heap:=w.heap.setIfInBounds (κ.pos b) (.map (es.modify j fun e=>{e with key:=a.eval k,val:=a.eval y}) clock)},.inr ⟨by simp[execOp,ho,hrun,lB],rfl⟩,K.le_refl κ,hrep.FO hb k1 (by rw[Array.toList_modify];exact ju.put (f:=fun e=>{e with key:=a.eval k,val:=a.eval y}) ⟨k2,k3⟩ fun e=>⟨hkc,ry⟩),.void⟩
   ·cases hs
  ·cases hs
 ·cases hs
end
section
variable {P:Program} {w0 w w':World} {κ:K} {σ σ':H} {a:Act} {ρ:Env}
theorem FP{α:Type}{l:Array α}{x:α}(h:l.toList=[x]):l=#[x]:=by apply nK;simpa using h
theorem qJ{α:Type}{l:Array α}{x y:α}(h:l.toList=[x,y]):l=#[x,y]:=by apply nK;simpa using h
theorem Pb{o:Oper}{b:Builtin}{args:Array Operand}{ats:Array TypeId}{ins:bq}{v:V}(ho:o.op= .call {callee:=.builtin b,args,argTypes:=ats})(ag:lN P b args.toList ats.toList=some ins)
  (hs:step ρ σ ins=some (v,σ')) (hrep:aC w0 κ σ w) (he:b8 κ ρ a):bg w0 κ σ' v ((execOp a.eval o).run P w):=by
 unfold lN at ag;split at ag
 ·rename_i x t h1 h2;rw[FP h1,FP h2]at ho;exact OK ho (by unfold lN;exact ag) hs hrep he
 ·rename_i x y t t' h1 h2;split at ag
  ·rename_i ht;subst ht;rw[qJ h1,qJ h2]at ho;split at ag
   ·rename_i e hu;split at ag
    ·rename_i i hi;split at ag
     ·rename_i z hz;split at ag
      ·rename_i hc;obtain⟨x',y',hx,hy,rfl⟩:=iv ag;exact OY ho hu hi hz hc.1 hx hy hs hrep he
      ·cases ag
     ·cases ag
    ·cases ag
   ·cases ag
  ·rw[qJ h1,qJ h2]at ho;split at ag
   ·rename_i e hu hu2;split at ag
    ·rename_i i hi;split at ag
     ·rename_i z hz;split at ag
      ·rename_i hc;obtain⟨x',y',hx,hy,rfl⟩:=iv ag;exact OZ ho hu hu2 hi hz hc.1 hc.2 hx hy hs hrep he
      ·cases ag
     ·cases ag
    ·cases ag
   ·cases ag
 ·rename_i x y h1;rw[qJ h1]at ho;obtain⟨x',y',hx,hy,rfl⟩:=iv ag;simp only[step]at hs;split at hs
  ·rename_i k p k' q e1 e2;injection hs with hs;injection hs with q1 q2;subst q1 q2;exact OI ho hx hy e1 e2 hrep he
  ·cases hs
 ·rename_i x y h1;rw[qJ h1]at ho;obtain⟨x',y',hx,hy,rfl⟩:=iv ag;simp only[step]at hs;split at hs
  ·rename_i k p k' q e1 e2;injection hs with hs;injection hs with q1 q2;subst q1 q2;exact OJ ho hx hy e1 e2 hrep he
  ·cases hs
 ·cases ag
theorem sR{o:Oper}{ins:bq}{v:V}(ag:bf P o.op=some ins)(hs:step ρ σ ins=some (v,σ'))(hrep:aC w0 κ σ w)(he:b8 κ ρ a):bg w0 κ σ' v ((execOp a.eval o).run P w):=by
 cases ho:o.op with
 |move x=>
  rw[ho]at ag;obtain⟨y,hy,rfl⟩:=ez ag;simp only[step]at hs;injection hs with hs;injection hs with q1 q2;subst q1 q2;exact Fl (.inl ho) hy hrep he
 |assign x=>
  rw[ho]at ag;obtain⟨y,hy,rfl⟩:=ez ag;simp only[step]at hs;injection hs with hs;injection hs with q1 q2;subst q1 q2;exact Fl (.inr ho) hy hrep he
 |pick c x y=>
  rw[ho]at ag;simp only[bf]at ag;split at ag
  ·rename_i c' x' y' hc hx hy;injection ag with ag;subst ag;simp only[step]at hs;split at hs
   ·rename_i t ht;injection hs with hs;injection hs with q1 q2;subst q1 q2;exact On ho hc hx hy ht hrep he
   ·cases hs
  ·cases ag
 |alloc t=>
  rw[ho]at ag;simp only[bf]at ag;split at ag
  ·rename_i z hz;injection ag with ag;subst ag;have hs':(if leaves z.ai=true then some (V.ptr σ.length 0,σ++[ad.cells z.ai (o4 P t)])else none)=some (v,σ'):=hs;by_cases hl:leaves z.ai=true
   ·rw[if_pos hl]at hs';injection hs' with hs';injection hs' with q1 q2;subst q1 q2;exact Oo ho hz hl hrep
   ·rw[if_neg hl]at hs';cases hs'
  ·cases ag
 |box t x=>
  rw[ho]at ag;obtain⟨y,hy,rfl⟩:=ez ag;simp only[step]at hs;split at hs
  ·rename_i hl;injection hs with hs;injection hs with q1 q2;subst q1 q2;exact Oq ho hy hl hrep he
  ·cases hs
 |build t parts=>
  rw[ho]at ag;simp only[bf]at ag;split at ag
  ·rename_i fields z hu hz;split at ag
   ·rename_i pl hpl;split at ag
    ·rename_i ps hps;split at ag
     ·rename_i hl;injection ag with ag;subst ag;simp only[step]at hs;split at hs
      ·rename_i cs hf;injection hs with hs;injection hs with q1 q2;subst q1 q2;exact OT ho hu hz hl hpl hps hf hrep he
      ·cases hs
     ·cases ag
    ·cases ag
   ·cases ag
  ·cases ag
 |buildSlice t n parts=>
  rw[ho]at ag;simp only[bf]at ag;split at ag
  ·rename_i e hu;split at ag
   ·rename_i i hi;split at ag
    ·rename_i z ps hz hps;split at ag
     ·rename_i hc;injection ag with ag;subst ag;simp only[step]at hs;split at hs
      ·rename_i rows hr;injection hs with hs;injection hs with q1 q2;subst q1 q2;exact OV ho hu hi hz hps hc.2.1 hc.2.2.1 hc.2.2.2 hr hrep he
      ·cases hs
     ·cases ag
    ·cases ag
   ·cases ag
  ·cases ag
 |load t x=>rw[ho]at ag;exact Ot ho ag hs hrep he
 |store t x y=>rw[ho]at ag;exact Ou ho ag hs hrep he
 |nilCheck x=>rw[ho]at ag;exact Ov ho ag hs hrep he
 |binOp op t x y t'=>
  rw[ho]at ag;simp only[bf]at ag;split at ag
  ·split at ag
   ·obtain⟨x',y',hx,hy,rfl⟩:=iv ag;exact Fv ho hx hy hs hrep he
   ·cases ag
  ·split at ag
   ·obtain⟨x',y',hx,hy,rfl⟩:=iv ag;exact Fv ho hx hy hs hrep he
   ·cases ag
  ·rename_i hu;split at ag
   ·obtain⟨x',y',hx,hy,rfl⟩:=iv ag;exact Fw ho hu rfl hx hy hs hrep he
   ·obtain⟨x',y',hx,hy,rfl⟩:=iv ag;exact Fw ho hu rfl hx hy hs hrep he
   ·cases ag
  ·rename_i e hu;split at ag
   ·obtain⟨neg,x',hop,hx,rfl⟩:=Af ag;exact Ag ho hs hrep he hop hx rfl (.inl ⟨rfl,rfl,e,hu⟩)
   ·cases ag
  ·rename_i ms hu;split at ag
   ·obtain⟨neg,x',hop,hx,rfl⟩:=Af ag;exact Ag ho hs hrep he hop hx rfl (.inr (.inl ⟨rfl,rfl,ms,hu⟩))
   ·cases ag
  ·rename_i p q r hu;split at ag
   ·obtain⟨neg,x',hop,hx,rfl⟩:=Af ag;exact Ag ho hs hrep he hop hx rfl (.inr (.inr ⟨rfl,rfl,p,q,r,hu⟩))
   ·cases ag
  ·split at ag
   ·unfold sK at ag;split at ag
    ·obtain⟨y',hy',rfl⟩:=ez ag;cases hs
    ·obtain⟨y',hy',rfl⟩:=ez ag;cases hs
    ·cases ag
   ·cases ag
  ·rename_i fields hu;split at ag
   ·rename_i ks hks;split at ag
    ·cases ag
    ·rename_i hg;simp only[Bool.or_eq_true,not_or,Bool.not_eq_true]at hg;split at ag
     ·obtain⟨x',y',hx,hy,rfl⟩:=iv ag;exact Fz ho hu hks hg.1 hg.2 rfl hx hy hs hrep he
     ·obtain⟨x',y',hx,hy,rfl⟩:=iv ag;exact Fz ho hu hks hg.1 hg.2 rfl hx hy hs hrep he
     ·cases ag
   ·cases ag
  ·cases ag
 |unOp op t x=>rw[ho]at ag;exact OE ho ag hs hrep he
 |convert s t x=>rw[ho]at ag;exact OG ho ag hs hrep he
 |makeFunc fn first caps=>
  rw[ho]at ag;unfold bf at ag;split at ag
  all_goals first|(rename_i h;cases h;done)|skip
  all_goals first|(cases ag;done)|skip
  rename_i f caps' hh;injection hh with h1 h2 h3;subst h1 h2 h3;exact OH ho (by unfold bf;exact ag) hs hrep he
 |slice t x lo hi mx=>
  rw[ho]at ag;simp only[bf]at ag;split at ag
  ·rename_i hu;split at ag
   ·rename_i x' lo' hi' hx h1 h2;injection ag with ag;subst ag;exact ON ho hu hx h1 h2 hs hrep he
   ·cases ag
  ·rename_i e hu;split at ag
   ·rename_i i x' lo' hi' mx' hi0 hx h1 h2 h3;split at ag
    ·cases ag
    ·rename_i hmh;injection ag with ag;subst ag;exact OP ho hu hi0 hx h1 h2 h3 hmh hs hrep he
   ·cases ag
  ·cases ag
 |fieldAddr s x f=>rw[ho]at ag;exact Ow ho ag hs hrep he
 |field s x f=>rw[ho]at ag;exact Oy ho ag hs hrep he
 |indexAddr t x k=>rw[ho]at ag;exact OB ho ag hs hrep he
 |index t x k=>rw[ho]at ag;exact OC ho ag hs hrep he
 |extract x k=>rw[ho]at ag;exact Oz ho ag hs hrep he
 |makeMap t r=>
  rw[ho]at ag;cases r with
  |none=>
   have ag:some bq.kJ=some ins:=ag;injection ag with ag;subst ag;simp only[step]at hs;injection hs with hs;injection hs with q1 q2;subst q1 q2;exact O1 ho hrep
  |some r=>have ag:none=some ins:=ag;cases ag
 |makeSlice t l c=>
  rw[ho]at ag;cases l with
  |tmp l=>
   cases c with
   |tmp c=>
    simp only[bf,jt]at ag;split at ag
    ·rename_i hlc;subst hlc;split at ag
     ·rename_i e hu;split at ag
      ·rename_i i hi;split at ag
       ·rename_i z hz;split at ag
        ·rename_i zc hzc;split at ag
         ·rename_i hsz;injection ag with ag;subst ag;exact O3 ho hu hi hz hzc hsz.1 hs hrep he
         ·cases ag
        ·cases ag
       ·cases ag
      ·cases ag
     ·cases ag
    ·cases ag
   |const _=>simp[bf,jt]at ag
   |func _=>simp[bf,jt]at ag
   |global _=>simp[bf,jt]at ag
  |const _=>simp[bf,jt]at ag
  |func _=>simp[bf,jt]at ag
  |global _=>simp[bf,jt]at ag
 |lookup t x k ok=>
  rw[ho]at ag;simp only[bf]at ag;split at ag
  ·rename_i q z hm;obtain⟨x',k',hx,hk,rfl⟩:=iv ag;exact O9 ho hm hx hk hs hrep he
  ·cases ag
 |mapUpdate t x k y=>
  rw[ho]at ag;simp only[bf]at ag;split at ag
  ·rename_i q x' k' y' hm hx hk hy;injection ag with ag;subst ag;exact Pa ho hm hx hk hy hs hrep he
  ·cases ag
 |call c=>
  rw[ho]at ag;simp only[bf]at ag;obtain⟨callee,args,ats⟩:=c;cases callee with
  |builtin b=>exact Pb ho ag hs hrep he
  |value f=>
   simp only at ag;split at ag
   ·injection ag with ag;subst ag;simp only[step]at hs;cases hs
   ·cases ag
  |invoke r m=>cases ag
 |_=>rw[ho]at ag;cases ag
end
structure ak where
 dst:Option Nat
 ins:bq
 guard:Option (Nat×Bool):=none
 deriving Inhabited
structure cE where
 op:ak
 bL:Bool
 lo:Nat
 deriving Inhabited
inductive AC where
 |skip
 |aH (ops:List ak)
 |fw (ops:List ak) (e:List cE)
 |seq (a b:AC)
 |cond (c:aj) (x y:AC)
 |block (id:Nat) (c:AC)
 |loop (c:AC)
 |exit (id:Nat)
 |ret
 |bad
 deriving Inhabited
def Env.put(ρ:Env)(d:Option Nat)(v:V):Env:=match d with
 |none=>ρ
 |some d=>fun k=>if k=d then v else ρ k
def bU(ρ:Env):Option (Nat×Bool)->Option Bool
 |none=>some true
 |some (d,want)=>match ρ d with
  | .c (.bool b)=>some (b==want)
  | .void=>some false
  |_=>none
def aj.tmps:aj->List Nat
 | .t n=>[n]
 | .k _=>[]
def qK:Option aj->List Nat
 |none=>[]
 |some x=>x.tmps
def bq.looks:bq->List Nat
 | .bad| .kJ=>[]
 | .iu _ x| .oZ x| .kK _ _ _ x| .af x| .box x _| .aU x| .eK _ x| .gN x| .lK _ _ x| .un _ x| .conv _ x| .qz x| .qA x| .aV _ x| .jo _ x| .sJ _ _ x| .ext x _| .lens x| .aR x=>x.tmps
 | .pick c a b=>c.tmps++a.tmps++b.tmps
 | .jT _ a b c=>a.tmps++b.tmps++c.tmps
 | .build _ ps=>ps.flatMap fun p=>p.2.2.tmps
 | .bo _ ps=>ps.flatMap aj.tmps
 | .look _ _ _ x y| .store _ x y| .bin _ x y| .oY _ x y| .eqs _ _ x y| .aI _ x y| .index x y| .app _ _ _ x y| .lL _ _ x y| .mx x y| .mn x y=>x.tmps++y.tmps
 | .gA _ cs=>cs.flatMap aj.tmps
 | .nS x lo hi=>x.tmps++qK lo++qK hi
 | .jn _ x lo hi q=>x.tmps++qK lo++qK hi++qK q
 | .call f as=>f.tmps++as.flatMap aj.tmps
def ak.looks(o:ak):List Nat:=o.ins.looks++(match o.guard with|some (d,_)=>[d]|none=>[])
def iT(x y:ak):Bool:=
 (match x.dst with
  |some d=>!y.looks.contains d&&y.dst !=some d
  |none=>true)&&
 (match y.dst with
  |some d=>!x.looks.contains d
  |none=>true)
def wK(ops:Array Oper)(aops:Array ak)(listed:Array Bool)(i:Nat):Bool:=
 (fc ops.size).all fun j=>(j==i)||listed.getD j true||(match ops[j]? with
   |some o=>o.after.any fun e=>fG .any e&&e.on==i
   |none=>true)||(match aops[i]?,aops[j]? with
   |some x,some y=>iT x y
   |_,_=>false)
def kO(ops:Array Oper)(aops:Array ak):Nat->Nat->Array Bool->Bool
 |0,_,listed=>(eI .any ops listed).isEmpty
 |fuel+1,k,listed=>(eI .any ops listed).contains k&&wK ops aops listed k&&kO ops aops fuel (k+1) (listed.setIfInBounds k true)
def ak.bL(o:ak)(q:Bool):Bool:=match o.ins with
 | .store ..| .app ..| .lL ..| .box ..| .kJ| .kK ..| .jT ..=>true
 | .call ..=>q
 |_=>false
def pb(ops:Array Oper):Array Nat:=Region.before ops
def gC(an:Array Nat)(k j:Nat):Bool:=(an.getD k 0).testBit j
def sS(q:Bool)(an:Array Nat)(aops:Array ak):List Nat:=
 let n:=aops.size
 let bL:=(fc n).filter fun k=>((aops.getD k default).bL q)
 let step:=fun(acc:List Nat) k=>acc++((fc n).filter fun j=>(j==k||gC an k j)&&!acc.contains j)
 let acc:=bL.foldl step []
 acc++(fc n).filter fun j=>!acc.contains j
def gD(q:Bool)(an:Array Nat)(aops:Array ak)(k:Nat):Nat:=((fc aops.size).filter fun j=>((aops.getD j default).bL q)&&gC an k j).length
def Am(q:Bool)(ops:Array Oper)(an:Array Nat)(aops:Array ak)(listed:Array Bool)(k:Nat):Bool:=
 (fc ops.size).all fun j=>(j==k)||listed.getD j true||!((aops.getD j default).bL q)||gC an j k
def gS(q:Bool)(aops:Array ak)(listed:Array Bool):Nat:=((fc aops.size).filter fun j=>((aops.getD j default).bL q)&&listed.getD j false).length
def nW(q:Bool)(ops:Array Oper)(an:Array Nat)(aops:Array ak):List Nat->Array Bool->Bool
 |[],listed=>(eI .any ops listed).isEmpty
 |k::l,listed=>(eI .any ops listed).contains k&&wK ops aops listed k&&Am q ops an aops listed k&&nW q ops an aops l (listed.setIfInBounds k true)
def lO(ops:Array Oper)(an:Array Nat):Bool:=
 (fc ops.size).all fun k=>match ops[k]? with
   |none=>true
   |some o=>(fc ops.size).all fun j=>!gC an k j||o.after.any fun e=>fG .any e&&(e.on==j||gC an e.on j)&&decide (e.on<k)
def nX(q:Bool)(ops:Array Oper)(aops:Array ak):List cE:=
 let an:=pb ops
 let order:=sS q an aops
 if lO ops an&&nW q ops an aops order (ff ops.size false)&&order.length==ops.size then order.map fun k=>⟨aops.getD k default,((aops.getD k default).bL q),gD q an aops k⟩else[]
def An(ops:Array Oper)(aops:Array ak):List cE:=match nX true ops aops with
 |[]=>nX false ops aops
 |p=>p
def sT(n:Nat):Option Nat->Bool
 |none=>true
 |some d=>decide (d<n)
def wL(ops:Array Oper)(n:Nat):Option (Nat×Bool)->Option (Option (Nat×Bool))
 |none=>some none
 |some (j,want)=>match(ops[j]?).bind (·.dst)with
  |some d=>if d<n then some (some (d,want))else none
  |none=>none
def sU(P:Program)(n:Nat)(ops:Array Oper)(o:Oper):Option ak:=
 match wL ops n o.guard with
 |some g=>if sT n o.dst then some ⟨o.dst,(bf P o.op).getD .bad,g⟩else none
 |none=>none
def iU(P:Program)(n:Nat)(ops:Array Oper):List Oper->Option (List ak)
 |[]=>some []
 |o::l=>match sU P n ops o,iU P n ops l with
  |some x,some r=>some (x::r)
  |_,_=>none
def tr(P:Program)(n:Nat):Code->Option AC
 | .skip=>some .skip
 | .region _ ops draw=>match iU P n ops ops.toList with
   |some l=>if draw then(if kO ops l.toArray ops.size 0 (ff ops.size false)then some (.fw l (An ops l.toArray))else some .bad)else some (.aH l)
   |none=>none
 | .seq a b=>match tr P n a,tr P n b with
   |some x,some y=>some (.seq x y)
   |_,_=>none
 | .cond c a b=>match bH c,tr P n a,tr P n b with
   |some z,some x,some y=>some (.cond z x y)
   |_,_,_=>none
 | .block id c=>match tr P n c with
   |some x=>some (.block id x)
   |none=>none
 | .loop c=>match tr P n c with
   |some x=>some (.loop x)
   |none=>none
 | .exit id=>some (.exit id)
 | .ret=>some .ret
 | .scope c=>tr P n c
 | .label _=>some .skip
 |_=>some .bad
structure St where
 ρ:Env
 σ:H
inductive It where
 |code (c:AC)
 |ops (l:List ak)
 |fK (id:Nat)
 |inv (I:St->Prop)
def iy(id:Nat):List It->Option (List It)
 |[]=>none
 | .fK j::k=>if j=id then some k else iy id k
 |_::k=>iy id k
def Enters(P:Program)(f:FuncId):Prop:=∀(args:Array Value) (w:World),(callFunc f args).run P w= .ok (.enter f args) w
structure DC (P:Program) (w0:World) (f:FuncId) (args:List V) (σ:H) (R:V->H->Prop):Prop where
 enters:Enters P f
 run:∀κ w (vs:List Value),aC w0 κ σ w->Fits κ args vs->Calls P f vs.toArray w (fun e w'=>∃v d σ' κ',e= .returned v/\R d σ'/\κ.le κ'/\aC w0 κ' σ' w'/\RV κ' d v)
theorem DC.mono{P:Program}{w0:World}{f:FuncId}{args:List V}{σ:H}{R R':V->H->Prop}(h:DC P w0 f args σ R)(hr:∀d σ',R d σ'->R' d σ'):DC P w0 f args σ R':=
 ⟨h.enters,fun κ w vs hrep hf=>(h.run κ w vs hrep hf).mono fun _ _ ⟨v,d,σ',κ',h1,h2,h3⟩=>⟨v,d,σ',κ',h1,hr _ _ h2,h3⟩⟩
structure Rel (w0:World) (κ0:K) (n:Nat) (κ:K) (s:St) (a:Act) (w:World):Prop where
 df:aC w0 κ s.σ w
 env:b8 κ s.ρ a
 size:a.tmps.size=n
 defers:a.defers=[]
 le:κ0.le κ
def ao(n0:Nat)(t s:St):Prop:=∀w0 κ0 n κ a w,κ0.n=n0->Rel w0 κ0 n κ s a w->∃κ',Rel w0 κ0 n κ' t a w
theorem ao.refl(n0:Nat)(s:St):ao n0 s s:=fun _ _ _ κ _ _ _ h=>⟨κ,h⟩
theorem ao.trans{n0:Nat}{r t s:St}(h:ao n0 r t)(k:ao n0 t s):ao n0 r s:=fun w0 κ0 n κ a w e hr=>
 let ⟨κ1,h1⟩:=k w0 κ0 n κ a w e hr
 h w0 κ0 n κ1 a w e h1
inductive dJ (P:Program) (w0:World) (σ:H) (o:ak) (ρ:Env):V->Prop where
 |skip (hg:bU ρ o.guard=some false):dJ P w0 σ o ρ .void
 |step {v:V} (hg:bU ρ o.guard=some true) (hs:step ρ σ o.ins=some (v,σ)):dJ P w0 σ o ρ v
 |call {f:aj} {as:List aj} {fid:FuncId} {caps:List V} {v:V} (hg:bU ρ o.guard=some true) (hi:o.ins= .call f as) (hf:f.ev ρ= .fn fid caps)
   (hc:DC P w0 fid (as.map (·.ev ρ)++caps) σ (fun d σ'=>d=v/\σ'=σ)):dJ P w0 σ o ρ v
inductive Canon (P:Program) (w0:World) (σ:H):List ak->Env->Env->Prop where
 |nil {ρ:Env}:Canon P w0 σ [] ρ ρ
 |cons {o:ak} {l:List ak} {ρ ρ':Env} {v:V} (h:dJ P w0 σ o ρ v) (k:Canon P w0 σ l (ρ.put o.dst v) ρ'):Canon P w0 σ (o::l) ρ ρ'
inductive fh (P:Program) (w0:World) (σ:H) (o:ak) (ρ:Env):V->H->Prop where
 |skip (hg:bU ρ o.guard=some false):fh P w0 σ o ρ .void σ
 |step {v:V} {σ':H} (hg:bU ρ o.guard=some true) (hs:step ρ σ o.ins=some (v,σ')):fh P w0 σ o ρ v σ'
 |call {f:aj} {as:List aj} {fid:FuncId} {caps:List V} {v:V} {σ':H} (hg:bU ρ o.guard=some true) (hi:o.ins= .call f as) (hf:f.ev ρ= .fn fid caps)
   (hc:DC P w0 fid (as.map (·.ev ρ)++caps) σ (fun d τ=>d=v/\τ=σ')):fh P w0 σ o ρ v σ'
 |vec {e size bytes:Nat} {x y:aj} {olds news:List (List C)} (hg:bU ρ o.guard=some true) (hi:o.ins= .app e size bytes x y) (hx:x.ev ρ= .ab olds) (hy:(y.ev ρ).rows=some news) (hc:news≠[]/\(∀r∈olds,r.length=size)/\(∀r∈news,r.length=size)/\(olds.length+news.length)*bytes<=140737488355328/\olds.length+news.length<=140737488355328):
   fh P w0 σ o ρ (.vec σ.length (olds.length+news.length)) (σ++[.vec e size (olds++news).flatten])
inductive ae (P:Program) (w0:World):List cE->Env->H->List H->Env->H->List H->Prop where
 |nil {ρ:Env} {σ:H} {past:List H}:ae P w0 [] ρ σ past ρ σ past
 |bL {o:ak} {lo:Nat} {l:List cE} {ρ ρ':Env} {σ σ1 σ':H} {past past':List H} {v:V} (h:fh P w0 σ o ρ v σ1) (k:ae P w0 l (ρ.put o.dst v) σ1 (σ::past) ρ' σ' past'):ae P w0 (⟨o,true,lo⟩::l) ρ σ past ρ' σ' past'
 |quiet {o:ak} {lo:Nat} {l:List cE} {ρ ρ':Env} {σ σ':H} {past past':List H} {v:V} (h:dJ P w0 σ o ρ v) (hp:∀τ∈past.take (past.length-lo),dJ P w0 τ o ρ v) (k:ae P w0 l (ρ.put o.dst v) σ past ρ' σ' past'):ae P w0 (⟨o,false,lo⟩::l) ρ σ past ρ' σ' past'
inductive dK (P:Program) (w0:World) (S S':H->Prop) (o:ak) (ρ:Env):V->Prop where
 |skip (hg:bU ρ o.guard=some false) (hS:∀σ,S σ->S' σ):dK P w0 S S' o ρ .void
 |step {v:V} (hg:bU ρ o.guard=some true) (hs:∀σ,S σ->∃σ',step ρ σ o.ins=some (v,σ')/\S' σ'):dK P w0 S S' o ρ v
 |call {f:aj} {as:List aj} {fid:FuncId} {caps:List V} {v:V} (hg:bU ρ o.guard=some true) (hi:o.ins= .call f as) (hf:f.ev ρ= .fn fid caps)
   (hc:∀σ,S σ->DC P w0 fid (as.map (·.ev ρ)++caps) σ (fun d σ'=>d=v/\S' σ')):dK P w0 S S' o ρ v
 |vec {e size bytes N:Nat} {x y:aj} {olds news:List (List C)} (hg:bU ρ o.guard=some true) (hi:o.ins= .app e size bytes x y) (hx:x.ev ρ= .ab olds) (hy:(y.ev ρ).rows=some news) (hc:news≠[]/\(∀r∈olds,r.length=size)/\(∀r∈news,r.length=size)/\(olds.length+news.length)*bytes<=140737488355328/\olds.length+news.length<=140737488355328)
   (hs:∀σ,S σ->σ.length=N/\S' (σ++[.vec e size (olds++news).flatten])):dK P w0 S S' o ρ (.vec N (olds.length+news.length))
inductive mV (P:Program) (w0:World):List cE->Env->(H->Prop)->List (H->Prop)->Env->(H->Prop)->List (H->Prop)->Prop where
 |nil {ρ:Env} {S:H->Prop} {past:List (H->Prop)}:mV P w0 [] ρ S past ρ S past
 |bL {o:ak} {lo:Nat} {l:List cE} {ρ ρ':Env} {S S1 S':H->Prop} {past past':List (H->Prop)} {v:V} (h:dK P w0 S S1 o ρ v) (k:mV P w0 l (ρ.put o.dst v) S1 (S::past) ρ' S' past'):mV P w0 (⟨o,true,lo⟩::l) ρ S past ρ' S' past'
 |quiet {o:ak} {lo:Nat} {l:List cE} {ρ ρ':Env} {S S':H->Prop} {past past':List (H->Prop)} {v:V} (h:dK P w0 S S o ρ v) (hp:∀T∈past.take (past.length-lo),dK P w0 T T o ρ v) (k:mV P w0 l (ρ.put o.dst v) S past ρ' S' past'):mV P w0 (⟨o,false,lo⟩::l) ρ S past ρ' S' past'
def pc(l:List ak)(k:Nat):List Nat:=(fc k).filter fun j=>!(iT (l.getD j default) (l.getD k default))
def Ao(l:List ak)(L:Nat->Bool):Prop:=∀k,k<l.length->L k=true->∀j∈pc l k,L j=true
def jv(L:Nat->Bool)(k:Nat):Nat->Bool:=fun j=>j==k||L j
def YG(P:Program)(w0:World)(l0:List ak)(S:(Nat->Bool)->H->Prop)(k:Nat)(o:ak)(ρ:Env)(v:V):Prop:=
 ∀L,Ao l0 L->L k=false->(∀j∈pc l0 k,L j=true)->dK P w0 (S L) (S (jv L k)) o ρ v
inductive nY (P:Program) (w0:World) (l0:List ak) (S:(Nat->Bool)->H->Prop):Nat->List ak->Env->Env->Prop where
 |nil {k:Nat} {ρ:Env}:nY P w0 l0 S k [] ρ ρ
 |cons {k:Nat} {o:ak} {l:List ak} {ρ ρ':Env} {v:V} (h:YG P w0 l0 S k o ρ v) (hk:nY P w0 l0 S (k+1) l (ρ.put o.dst v) ρ'):nY P w0 l0 S k (o::l) ρ ρ'
inductive W (P:Program) (w0:World) (n0:Nat) (Q:St->Prop):List It->St->Prop where
 |done {s:St} (h:Q s):W P w0 n0 Q [] s
 |skip {k:List It} {s:St} (h:W P w0 n0 Q k s):W P w0 n0 Q (.code .skip::k) s
 |aH {l:List ak} {k:List It} {s:St} (h:W P w0 n0 Q (.ops l::k) s):W P w0 n0 Q (.code (.aH l)::k) s
 |fw {l:List ak} {e:List cE} {k:List It} {s:St} {ρ:Env} (hc:Canon P w0 s.σ l s.ρ ρ) (h:W P w0 n0 Q k ⟨ρ,s.σ⟩):W P w0 n0 Q (.code (.fw l e)::k) s
 |aS {l:List ak} {e:List cE} {k:List It} {s:St} {ρ:Env} {σ:H} {hs:List H} (he:e≠[]) (hc:ae P w0 e s.ρ s.σ [] ρ σ hs) (h:W P w0 n0 Q k ⟨ρ,σ⟩):W P w0 n0 Q (.code (.fw l e)::k) s
 |Pc {l:List ak} {e:List cE} {k:List It} {s:St} {ρ:Env} {S0 S:H->Prop} {hs:List (H->Prop)} (he:e≠[]) (h0:S0 s.σ) (hc:mV P w0 e s.ρ S0 [] ρ S hs) (h:∀σ,S σ->W P w0 n0 Q k ⟨ρ,σ⟩):W P w0 n0 Q (.code (.fw l e)::k) s
 |Ap {l:List ak} {e:List cE} {k:List It} {s:St} {ρ:Env} (S:(Nat->Bool)->H->Prop) (h0:S (fun _=>false) s.σ) (hc:nY P w0 l S 0 l s.ρ ρ) (h:∀L,(∀j,j<l.length->L j=true)->∀σ,S L σ->W P w0 n0 Q k ⟨ρ,σ⟩):W P w0 n0 Q (.code (.fw l e)::k) s
 |seq {a b:AC} {k:List It} {s:St} (h:W P w0 n0 Q (.code a:: .code b::k) s):W P w0 n0 Q (.code (.seq a b)::k) s
 |cond {c:aj} {x y:AC} {k:List It} {s:St} {t:Bool} (hc:c.ev s.ρ= .c (.bool t)) (h1:t=true->W P w0 n0 Q (.code x::k) s) (h2:t=false->W P w0 n0 Q (.code y::k) s):W P w0 n0 Q (.code (.cond c x y)::k) s
 |block {id:Nat} {c:AC} {k:List It} {s:St} (h:W P w0 n0 Q (.code c:: .fK id::k) s):W P w0 n0 Q (.code (.block id c)::k) s
 |fK {id:Nat} {k:List It} {s:St} (h:W P w0 n0 Q k s):W P w0 n0 Q (.fK id::k) s
 |exit {id:Nat} {k k':List It} {s:St} (hp:iy id k=some k') (h:W P w0 n0 Q k' s):W P w0 n0 Q (.code (.exit id)::k) s
 |ret {k:List It} {s:St} (h:Q s):W P w0 n0 Q (.code .ret::k) s
 |loop {c:AC} {k:List It} {s:St} {α:Type} (S:α->St) (μ:α->Nat) (x0:α) (h0:ao n0 (S x0) s) (h:∀x,W P w0 n0 Q (.code c:: .inv (fun s'=>∃y,μ y<μ x/\ao n0 (S y) s')::k) (S x)):W P w0 n0 Q (.code (.loop c)::k) s
 |inv {I:St->Prop} {k:List It} {s:St} (h:I s):W P w0 n0 Q (.inv I::k) s
 |wM {k:List It} {s:St} (h:W P w0 n0 Q k s):W P w0 n0 Q (.ops []::k) s
 |Aq {o:ak} {l:List ak} {k:List It} {s:St} (hg:bU s.ρ o.guard=some false) (h:W P w0 n0 Q (.ops l::k) ⟨s.ρ.put o.dst .void,s.σ⟩):W P w0 n0 Q (.ops (o::l)::k) s
 |jw {o:ak} {l:List ak} {k:List It} {s:St} {v:V} {σ':H} (hg:bU s.ρ o.guard=some true) (hs:step s.ρ s.σ o.ins=some (v,σ')) (h:W P w0 n0 Q (.ops l::k) ⟨s.ρ.put o.dst v,σ'⟩):W P w0 n0 Q (.ops (o::l)::k) s
 |wN {o:ak} {l:List ak} {k:List It} {s:St} {f:aj} {as:List aj} {fid:FuncId} {caps:List V} {R:V->H->Prop} (hg:bU s.ρ o.guard=some true) (hi:o.ins= .call f as) (hf:f.ev s.ρ= .fn fid caps)
   (hc:DC P w0 fid (as.map (·.ev s.ρ)++caps) s.σ R) (h:∀d σ',R d σ'->W P w0 n0 Q (.ops l::k) ⟨s.ρ.put o.dst d,σ'⟩):W P w0 n0 Q (.ops (o::l)::k) s
 |kP {o:ak} {l:List ak} {k:List It} {s:St} {neg:Bool} {x:aj} {r:List (List C)} (hg:bU s.ρ o.guard=some true) (hi:o.ins= .iu neg x) (hx:(x.ev s.ρ).rows=some r)
   (h:∀b:Bool,(b=true->r=[])->W P w0 n0 Q (.ops l::k) ⟨s.ρ.put o.dst (.c (.bool (if neg then !b else b))),s.σ⟩):W P w0 n0 Q (.ops (o::l)::k) s
 |pd {o:ak} {l:List ak} {k:List It} {s:St} {e size bytes:Nat} {x y:aj} {olds news:List (List C)} (hg:bU s.ρ o.guard=some true) (hi:o.ins= .app e size bytes x y) (hx:x.ev s.ρ= .ab olds) (hy:(y.ev s.ρ).rows=some news) (hc:news≠[]/\(∀r∈olds,r.length=size)/\(∀r∈news,r.length=size)/\(olds.length+news.length)*bytes<=140737488355328/\olds.length+news.length<=140737488355328)
   (h:W P w0 n0 Q (.ops l::k) ⟨s.ρ.put o.dst (.vec s.σ.length (olds.length+news.length)),s.σ++[.vec e size (olds++news).flatten]⟩):W P w0 n0 Q (.ops (o::l)::k) s
 |fM {k:List It} {t s:St} (hl:ao n0 t s) (h:W P w0 n0 Q k t):W P w0 n0 Q k s
section
variable {P:Program} {w0:World} {n0:Nat} {Q:St->Prop} {k:List It} {s:St}
theorem W.FQ(h:W P w0 n0 Q (.code .skip::k) s):∃t,ao n0 t s/\W P w0 n0 Q k t:=by
 generalize hk:It.code .skip::k=ks at h;induction h with
 |skip h=>injection hk with _ hk;subst hk;exact⟨_,ao.refl _ _,h⟩
 |fM hl _ ih=>obtain⟨t,h1,h2⟩:=ih hk;exact⟨t,h1.trans hl,h2⟩
 |_=>cases hk
theorem W.Pd{l:List ak}(h:W P w0 n0 Q (.code (.aH l)::k) s):∃t,ao n0 t s/\W P w0 n0 Q (.ops l::k) t:=by
 generalize hk:It.code (.aH l)::k=ks at h;induction h with
 |aH h=>injection hk with hk1 hk;injection hk1 with hk1;injection hk1 with hk1;subst hk hk1;exact⟨_,ao.refl _ _,h⟩
 |fM hl _ ih=>obtain⟨t,h1,h2⟩:=ih hk;exact⟨t,h1.trans hl,h2⟩
 |_=>cases hk
inductive Pe (P:Program) (w0:World) (n0:Nat) (Q:St->Prop) (l:List ak) (e:List cE) (k:List It) (t:St):Prop where
 |one {ρ:Env} {σ:H} (hc:(Canon P w0 t.σ l t.ρ ρ/\σ=t.σ)\/(e≠[]/\∃hs,ae P w0 e t.ρ t.σ [] ρ σ hs)) (h:W P w0 n0 Q k ⟨ρ,σ⟩)
 |FR {ρ:Env} {S0 S:H->Prop} {hs:List (H->Prop)} (he:e≠[]) (h0:S0 t.σ) (hc:mV P w0 e t.ρ S0 [] ρ S hs) (h:∀σ,S σ->W P w0 n0 Q k ⟨ρ,σ⟩)
 |gen {ρ:Env} {S:(Nat->Bool)->H->Prop} (h0:S (fun _=>false) t.σ) (hc:nY P w0 l S 0 l t.ρ ρ) (h:∀L,(∀j,j<l.length->L j=true)->∀σ,S L σ->W P w0 n0 Q k ⟨ρ,σ⟩)
theorem W.Pf{l:List ak}{e:List cE}(h:W P w0 n0 Q (.code (.fw l e)::k) s):∃t,ao n0 t s/\Pe P w0 n0 Q l e k t:=by
 generalize hk:It.code (.fw l e)::k=ks at h;induction h with
 |fw hc h=>injection hk with hk1 hk;injection hk1 with hk1;injection hk1 with hk1 hk2;subst hk hk1 hk2;exact⟨_,ao.refl _ _,.one (.inl ⟨hc,rfl⟩) h⟩
 |aS he hc h=>injection hk with hk1 hk;injection hk1 with hk1;injection hk1 with hk1 hk2;subst hk hk1 hk2;exact⟨_,ao.refl _ _,.one (.inr ⟨he,_,hc⟩) h⟩
 |Pc he h0 hc h=>injection hk with hk1 hk;injection hk1 with hk1;injection hk1 with hk1 hk2;subst hk hk1 hk2;exact⟨_,ao.refl _ _,.FR he h0 hc h⟩
 |Ap S h0 hc h=>injection hk with hk1 hk;injection hk1 with hk1;injection hk1 with hk1 hk2;subst hk hk1 hk2;exact⟨_,ao.refl _ _,.gen h0 hc h⟩
 |fM hl _ ih=>obtain⟨t,h1,h2⟩:=ih hk;exact⟨t,h1.trans hl,h2⟩
 |_=>cases hk
theorem W.Pg{a b:AC}(h:W P w0 n0 Q (.code (.seq a b)::k) s):∃t,ao n0 t s/\W P w0 n0 Q (.code a:: .code b::k) t:=by
 generalize hk:It.code (.seq a b)::k=ks at h;induction h with
 |seq h=>injection hk with hk1 hk;injection hk1 with hk1;injection hk1 with hk2 hk3;subst hk hk2 hk3;exact⟨_,ao.refl _ _,h⟩
 |fM hl _ ih=>obtain⟨t,h1,h2⟩:=ih hk;exact⟨t,h1.trans hl,h2⟩
 |_=>cases hk
theorem W.Ph{c:aj}{x y:AC}(h:W P w0 n0 Q (.code (.cond c x y)::k) s):∃t b,ao n0 t s/\c.ev t.ρ= .c (.bool b)/\(b=true->W P w0 n0 Q (.code x::k) t)/\(b=false->W P w0 n0 Q (.code y::k) t):=by
 generalize hk:It.code (.cond c x y)::k=ks at h;induction h with
 |cond hc h1 h2=>injection hk with hk1 hk;injection hk1 with hk1;injection hk1 with hk2 hk3 hk4;subst hk hk2 hk3 hk4;exact⟨_,_,ao.refl _ _,hc,h1,h2⟩
 |fM hl _ ih=>obtain⟨t,b,h1,h2⟩:=ih hk;exact⟨t,b,h1.trans hl,h2⟩
 |_=>cases hk
theorem W.Pj{id:Nat}{c:AC}(h:W P w0 n0 Q (.code (.block id c)::k) s):∃t,ao n0 t s/\W P w0 n0 Q (.code c:: .fK id::k) t:=by
 generalize hk:It.code (.block id c)::k=ks at h;induction h with
 |block h=>injection hk with hk1 hk;injection hk1 with hk1;injection hk1 with hk2 hk3;subst hk hk2 hk3;exact⟨_,ao.refl _ _,h⟩
 |fM hl _ ih=>obtain⟨t,h1,h2⟩:=ih hk;exact⟨t,h1.trans hl,h2⟩
 |_=>cases hk
theorem W.Pk{id:Nat}(h:W P w0 n0 Q (.fK id::k) s):∃t,ao n0 t s/\W P w0 n0 Q k t:=by
 generalize hk:It.fK id::k=ks at h;induction h with
 |fK h=>injection hk with _ hk;subst hk;exact⟨_,ao.refl _ _,h⟩
 |fM hl _ ih=>obtain⟨t,h1,h2⟩:=ih hk;exact⟨t,h1.trans hl,h2⟩
 |_=>cases hk
theorem W.Pl{id:Nat}(h:W P w0 n0 Q (.code (.exit id)::k) s):∃t k',ao n0 t s/\iy id k=some k'/\W P w0 n0 Q k' t:=by
 generalize hk:It.code (.exit id)::k=ks at h;induction h with
 |exit hp h=>injection hk with hk1 hk;injection hk1 with hk1;injection hk1 with hk2;subst hk hk2;exact⟨_,_,ao.refl _ _,hp,h⟩
 |fM hl _ ih=>obtain⟨t,k',h1,h2⟩:=ih hk;exact⟨t,k',h1.trans hl,h2⟩
 |_=>cases hk
theorem W.Pm(h:W P w0 n0 Q (.code .ret::k) s):∃t,ao n0 t s/\Q t:=by
 generalize hk:It.code .ret::k=ks at h;induction h with
 |ret h=>exact⟨_,ao.refl _ _,h⟩
 |fM hl _ ih=>obtain⟨t,h1,h2⟩:=ih hk;exact⟨t,h1.trans hl,h2⟩
 |_=>cases hk
theorem W.Ar(h:W P w0 n0 Q [] s):∃t,ao n0 t s/\Q t:=by
 generalize hk:([]:List It)=ks at h;induction h with
 |done h=>exact⟨_,ao.refl _ _,h⟩
 |fM hl _ ih=>obtain⟨t,h1,h2⟩:=ih hk;exact⟨t,h1.trans hl,h2⟩
 |_=>cases hk
theorem W.inv_inv{I:St->Prop}(h:W P w0 n0 Q (.inv I::k) s):∃t,ao n0 t s/\I t:=by
 generalize hk:It.inv I::k=ks at h;induction h with
 |inv h=>injection hk with hk1 hk;injection hk1 with hk1;subst hk hk1;exact⟨_,ao.refl _ _,h⟩
 |fM hl _ ih=>obtain⟨t,h1,h2⟩:=ih hk;exact⟨t,h1.trans hl,h2⟩
 |_=>cases hk
theorem W.Pn{c:AC}(h:W P w0 n0 Q (.code (.loop c)::k) s):∃(t:St) (α:Type) (S:α->St) (μ:α->Nat) (x0:α),ao n0 t s/\ao n0 (S x0) t/\∀x,W P w0 n0 Q (.code c:: .inv (fun s'=>∃y,μ y<μ x/\ao n0 (S y) s')::k) (S x):=by
 generalize hk:It.code (.loop c)::k=ks at h;induction h with
 |loop S μ x0 h0 h=>injection hk with hk1 hk;injection hk1 with hk1;injection hk1 with hk2;subst hk hk2;exact⟨_,_,S,μ,x0,ao.refl _ _,h0,h⟩
 |fM hl _ ih=>obtain⟨t,α,S,μ,x0,h1,h2⟩:=ih hk;exact⟨t,α,S,μ,x0,h1.trans hl,h2⟩
 |_=>cases hk
inductive Po (P:Program) (w0:World) (n0:Nat) (Q:St->Prop) (o:ak) (l:List ak) (k:List It) (t:St):Prop where
 |skip (hg:bU t.ρ o.guard=some false) (h:W P w0 n0 Q (.ops l::k) ⟨t.ρ.put o.dst .void,t.σ⟩)
 |step {v:V} {σ':H} (hg:bU t.ρ o.guard=some true) (hs:step t.ρ t.σ o.ins=some (v,σ')) (h:W P w0 n0 Q (.ops l::k) ⟨t.ρ.put o.dst v,σ'⟩)
 |call {f:aj} {as:List aj} {fid:FuncId} {caps:List V} {R:V->H->Prop} (hg:bU t.ρ o.guard=some true) (hi:o.ins= .call f as) (hf:f.ev t.ρ= .fn fid caps)
   (hc:DC P w0 fid (as.map (·.ev t.ρ)++caps) t.σ R) (h:∀d σ',R d σ'->W P w0 n0 Q (.ops l::k) ⟨t.ρ.put o.dst d,σ'⟩)
 |fork {neg:Bool} {x:aj} {r:List (List C)} (hg:bU t.ρ o.guard=some true) (hi:o.ins= .iu neg x) (hx:(x.ev t.ρ).rows=some r)
   (h:∀b:Bool,(b=true->r=[])->W P w0 n0 Q (.ops l::k) ⟨t.ρ.put o.dst (.c (.bool (if neg then !b else b))),t.σ⟩)
 |vec {e size bytes:Nat} {x y:aj} {olds news:List (List C)} (hg:bU t.ρ o.guard=some true) (hi:o.ins= .app e size bytes x y) (hx:x.ev t.ρ= .ab olds) (hy:(y.ev t.ρ).rows=some news) (hc:news≠[]/\(∀r∈olds,r.length=size)/\(∀r∈news,r.length=size)/\(olds.length+news.length)*bytes<=140737488355328/\olds.length+news.length<=140737488355328)
   (h:W P w0 n0 Q (.ops l::k) ⟨t.ρ.put o.dst (.vec t.σ.length (olds.length+news.length)),t.σ++[.vec e size (olds++news).flatten]⟩)
theorem W.Pq{o:ak}{l:List ak}(h:W P w0 n0 Q (.ops (o::l)::k) s):∃t,ao n0 t s/\Po P w0 n0 Q o l k t:=by
 generalize hk:It.ops (o::l)::k=ks at h;induction h with
 |Aq hg h=>injection hk with hk1 hk;injection hk1 with hk1;injection hk1 with hk2 hk3;subst hk hk2 hk3;exact⟨_,ao.refl _ _,.skip hg h⟩
 |jw hg hs h=>injection hk with hk1 hk;injection hk1 with hk1;injection hk1 with hk2 hk3;subst hk hk2 hk3;exact⟨_,ao.refl _ _,.step hg hs h⟩
 |wN hg hi hf hc h=>injection hk with hk1 hk;injection hk1 with hk1;injection hk1 with hk2 hk3;subst hk hk2 hk3;exact⟨_,ao.refl _ _,.call hg hi hf hc h⟩
 |kP hg hi hx h=>injection hk with hk1 hk;injection hk1 with hk1;injection hk1 with hk2 hk3;subst hk hk2 hk3;exact⟨_,ao.refl _ _,.fork hg hi hx h⟩
 |pd hg hi hx hy hc h=>injection hk with hk1 hk;injection hk1 with hk1;injection hk1 with hk2 hk3;subst hk hk2 hk3;exact⟨_,ao.refl _ _,.vec hg hi hx hy hc h⟩
 |fM hl _ ih=>obtain⟨t,h1,h2⟩:=ih hk;exact⟨t,h1.trans hl,h2⟩
 |wM=>cases hk
 |_=>cases hk
theorem W.Pr(h:W P w0 n0 Q (.ops []::k) s):∃t,ao n0 t s/\W P w0 n0 Q k t:=by
 generalize hk:It.ops []::k=ks at h;induction h with
 |wM h=>injection hk with _ hk;subst hk;exact⟨_,ao.refl _ _,h⟩
 |fM hl _ ih=>obtain⟨t,h1,h2⟩:=ih hk;exact⟨t,h1.trans hl,h2⟩
 |_=>cases hk
end
end Go.Lamb
