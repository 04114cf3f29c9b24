/- . -/
import Derived.Test.YtdlkenpilhakfaaGreatDoorQJ14
import Derived.Test.YtdlkenpilhakfaaGreatDoorQRd1
import Derived.Lib.Join
import Derived.Lib.ItoaNum
import Derived.Lib.ItoaLen
import Derived.Test.YtdlkenpilhakfaaGreatDoorQJ13
import Derived.Test.YtdlkenpilhakfaaGreatDoorQLexNl
set_option linter.unusedSimpArgs false
set_option linter.unusedVariables false
set_option maxHeartbeats 8000000
set_option maxRecDepth 20000
open Bool renaming and_eq_true->bG,rec->zI
open Go.IntKind renaming i64->aN
open List renaming cons_append->iM,drop_eq_getElem_cons->lE,drop_eq_nil_of_le->NU,getD->lA,getD_eq_getElem?_getD->cf,getElem?_append_left->cI,getElem?_append_right->cZ,getElem?_eq_getElem->aO,getElem?_eq_some_iff->aL,getElem?_set_ne->bX,getElem_append_left->cL,getElem_append_right->dU,getElem_cons_succ->oS,getElem_cons_zero->dC,getElem_mem->bt,getElem_set_ne->fE,getElem_set_self->gv,length_cons->bk,length_set->bF,mem_append->cM,mem_append_left->jS,mem_cons->cA,mem_cons_of_mem->bS,mem_cons_self->bu,mem_or_eq_of_mem_set->lF,set_append_left->qq,set_append_right->iL,sizeOf_lt_of_mem->ZV
open Nat renaming add_sub_cancel_left->ft,beq->ca,ble->dp,blt->lG,eq_of_beq_eq_true->fu,le_of_ble_eq_true->eJ,le_refl->aA,le_trans->bE,lt_or_ge->dT,lt_succ_iff_lt_or_eq->zG,lt_succ_self->zz,mod_two_eq_zero_or_one->zJ,not_lt_zero->mL,strongRecOn->nN,sub_self->cq,succ_lt_succ->zE,zero_le->bC
namespace Go.Lamb
open Go Go.RowKit
def gU{α β:Type}(f:α->β->Bool):List α->List β->Bool
 |[],[]=>true
 |x::l,y::r=>f x y&&gU f l r
 |_,_=>false
theorem Gh{α β:Type}{f:α->β->Bool}:∀{l:List α} {r:List β},l.length≠r.length->gU f l r=false
 |[],[],h=>absurd rfl h
 |x::l,y::r,h=>by
  rw[gU,Gh (l:=l) (r:=r) (fun e=>h (by simp[e])),Bool.and_false]
 |[],_::_,_=>rfl
 |_::_,[],_=>rfl
theorem Gi{α β:Type}{f:α->β->Bool}:∀{l:List α} {r:List β} {j:Nat} (hj:j<l.length) (hj':j<r.length),f l[j] r[j]=false->gU f l r=false
 |x::l,y::r,0,_,_,h=>by rw[gU];simp only[dC]at h;rw[h];rfl
 |x::l,y::r,j+1,hj,hj',h=>by
  rw[gU,Gi (j:=j) (by simpa using hj) (by simpa using hj') (by simpa using h),Bool.and_false]
 |[],_,_,hj,_,_=>by simp at hj
 |_::_,[],_,_,hj',_=>by simp at hj'
theorem AX{α β:Type}{f:α->β->Bool}:∀{l:List α} {r:List β},l.length=r.length->(∀j (hj:j<l.length) (hj':j<r.length),f l[j] r[j]=true)->gU f l r=true
 |[],[],_,_=>rfl
 |x::l,y::r,hl,h=>by
  rw[gU,AX (by simpa using hl) (fun j hj hj'=>h (j+1) (zE hj) (zE hj'))];have:=h 0 (by simp) (by simp);simp only[dC]at this;rw[this];rfl
 |[],_::_,hl,_=>by simp at hl
 |_::_,[],hl,_=>by simp at hl
theorem ah.ind{P:ah->Prop}(h:∀p,(∀q∈p.l,P q)->P p):∀p,P p
 | .mk k s n l a=>h _ fun q hq=>ah.ind h q
termination_by p=>SizeOf.sizeOf p
decreasing_by
 have:=ZV hq;simp only[ah.l]at this;simp only[ah.mk.sizeOf_spec];omega
mutual
def fZ:ah->Int->Int
 | .mk _ _ _ l _,n=>fQ l (n-1)
def fQ:List ah->Int->Int
 |[],n=>n
 |p::l,n=>if 0<=n then fQ l (fZ p n)else n
end
theorem QE(p:ah)(n:Int):fZ p n=fQ p.l (n-1):=by cases p;simp[fZ,ah.l]
theorem Gj{l:List ah}{n:Int}(h:¬0<=n):fQ l n=n:=by
 cases l with
 |nil=>rfl
 |cons p l=>rw[fQ,if_neg h]
mutual
theorem Gk:∀(p:ah) (n:Int),0<=n->-1<=fZ p n/\fZ p n<=n-1
 | .mk _ _ _ l _,n,h=>by rw[fZ];exact Gl l (n-1) (by omega)
theorem Gl:∀(l:List ah) (n:Int),-1<=n->-1<=fQ l n/\fQ l n<=n
 |[],n,h=>by rw[fQ];omega
 |p::l,n,h=>by
  rw[fQ];split
  ·rename_i h0;have h1:=Gk p n h0;have h2:=Gl l (fZ p n) h1.1;omega
  ·omega
end
theorem QF{l:List ah}{i:Nat}{n:Int}(hi:i<l.length)(hn:0<=n):fQ (l.drop i) n=fQ (l.drop (i+1)) (fZ l[i] n):=by
 rw[lE hi,fQ,if_pos hn]
theorem QG{l:List ah}{i:Nat}{n:Int}(hi:l.length<=i):fQ (l.drop i) n=n:=by
 rw[NU hi,fQ]
inductive aa where
 |mk (k:Int) (name:List UInt8) (n:Int) (l:List aa)
 deriving Inhabited
def aa.k:aa->Int| .mk k _ _ _=>k
def aa.name:aa->List UInt8| .mk _ s _ _=>s
def aa.n:aa->Int| .mk _ _ n _=>n
def aa.l:aa->List aa| .mk _ _ _ l=>l
theorem a7(k:Int)(s:List UInt8)(n:Int)(l:List aa):(aa.mk k s n l).k=k:=rfl
theorem bh(k:Int)(s:List UInt8)(n:Int)(l:List aa):(aa.mk k s n l).name=s:=rfl
theorem aW(k:Int)(s:List UInt8)(n:Int)(l:List aa):(aa.mk k s n l).n=n:=rfl
theorem aQ(k:Int)(s:List UInt8)(n:Int)(l:List aa):(aa.mk k s n l).l=l:=rfl
mutual
def aa.cs:aa->List C
 | .mk k s n l=>[.int .i64 k,.str s,.int .i64 n,.sl (aa.rows l)]
def aa.rows:List aa->List (List C)
 |[]=>[]
 |p::l=>p.cs::aa.rows l
end
theorem aa.AT(l:List aa):aa.rows l=l.map aa.cs:=by
 induction l with
 |nil=>rfl
 |cons p l ih=>simp[aa.rows,ih]
def aa.v(p:aa):V:=.agg [.c (.int .i64 p.k),.c (.str p.name),.c (.int .i64 p.n),.c (.sl (p.l.map aa.cs))]
theorem aa.aM(p:aa):p.cs=[.int .i64 p.k,.str p.name,.int .i64 p.n,.sl (p.l.map aa.cs)]:=by
 cases p;simp[aa.cs,aa.k,aa.name,aa.n,aa.l,aa.AT]
def aX(l:List aa):C:=.sl (l.map aa.cs)
def aa.none:aa:=.mk 0 [] 0 []
def aa.var(n:Int):aa:=.mk 1 [] n []
def aa.arr(a b:aa):aa:=.mk 2 [] 0 [a,b]
theorem aa.ind{P:aa->Prop}(h:∀p,(∀q∈p.l,P q)->P p):∀p,P p
 | .mk k s n l=>h _ fun q hq=>aa.ind h q
termination_by p=>SizeOf.sizeOf p
decreasing_by
 have:=ZV hq;simp only[aa.l]at this;simp only[aa.mk.sizeOf_spec];omega
mutual
def j0:aa->aa->Bool
 | .mk k s n l,.mk k' s' n' l'=>k==k'&&s==s'&&n==n'&&pj l l'
def pj:List aa->List aa->Bool
 |[],[]=>true
 |x::l,y::r=>j0 x y&&pj l r
 |_,_=>false
end
theorem Gm:∀(l r:List aa),pj l r=gU j0 l r
 |[],[]=>by simp[pj,gU]
 |x::l,y::r=>by rw[pj,gU,Gm l r]
 |[],_::_=>by simp[pj,gU]
 |_::_,[]=>by simp[pj,gU]
theorem AY(p q:aa):j0 p q=(p.k==q.k&&p.name==q.name&&p.n==q.n&&gU j0 p.l q.l):=by
 cases p;cases q;simp only[j0,Gm,aa.k,aa.name,aa.n,aa.l]
theorem QH:∀(p:aa),j0 p p=true:=aa.ind fun p ih=>by
 rw[AY];simp only[beq_self_eq_true,Bool.true_and];exact AX rfl fun j hj _=>ih _ (bt hj)
mutual
def dA:aa->Int->Int
 | .mk _ _ _ l,n=>fU l (n-1)
def fU:List aa->Int->Int
 |[],n=>n
 |p::l,n=>if 0<=n then fU l (dA p n)else n
end
theorem QI(p:aa)(n:Int):dA p n=fU p.l (n-1):=by cases p;simp[dA,aa.l]
theorem Gn{l:List aa}{n:Int}(h:¬0<=n):fU l n=n:=by
 cases l with
 |nil=>rfl
 |cons p l=>rw[fU,if_neg h]
mutual
theorem Gp:∀(p:aa) (n:Int),0<=n->-1<=dA p n/\dA p n<=n-1
 | .mk _ _ _ l,n,h=>by rw[dA];exact Gq l (n-1) (by omega)
theorem Gq:∀(l:List aa) (n:Int),-1<=n->-1<=fU l n/\fU l n<=n
 |[],n,h=>by rw[fU];omega
 |p::l,n,h=>by
  rw[fU];split
  ·rename_i h0;have h1:=Gp p n h0;have h2:=Gq l (dA p n) h1.1;omega
  ·omega
end
theorem QJ{l:List aa}{i:Nat}{n:Int}(hi:i<l.length)(hn:0<=n):fU (l.drop i) n=fU (l.drop (i+1)) (dA l[i] n):=by
 rw[lE hi,fU,if_pos hn]
theorem QK{l:List aa}{i:Nat}{n:Int}(hi:l.length<=i):fU (l.drop i) n=n:=by
 rw[NU hi,fU]
abbrev aY:=List UInt8
def dD(p:aa):Bool:=p.k==2&&p.l.length==2
mutual
def cW:aa->Bool
 | .mk k s n l=>(if k=0 then l8 s&&n==0 else if k=1 then s==[]&&decide (0<=n)&&decide (n<=4611686018427387904)&&l.length==0 else if k=2 then s==[]&&n==0&&l.length==2 else false)&&tq l
def tq:List aa->Bool
 |[]=>true
 |x::l=>cW x&&tq l
end
def kU(p:aa):Bool:=if p.k=0 then l8 p.name&&p.n==0 else if p.k=1 then p.name==[]&&decide (0<=p.n)&&decide (p.n<=4611686018427387904)&&p.l.length==0 else if p.k=2 then p.name==[]&&p.n==0&&p.l.length==2 else false
theorem Gr:∀(l:List aa),tq l=l.all cW
 |[]=>by simp[tq]
 |x::l=>by rw[tq,List.all_cons,Gr l]
theorem jC(p:aa):cW p=(kU p&&p.l.all cW):=by
 cases p;rw[cW,Gr];rfl
def fi(l:List aa)(u:aa):aa:=l.foldr aa.arr u
theorem Gs{p:aa}(h:dD p=true):∃a b,p.l=[a,b]:=by
 simp only[dD,bG,beq_iff_eq]at h
 match hp:p.l with
 |[a,b]=>exact⟨a,b,rfl⟩
 |[]=>rw[hp]at h;simp at h
 |[_]=>rw[hp]at h;simp at h
 |_::_::_::_=>rw[hp]at h;simp at h
def og:Nat->aa->List aa×aa
 |0,p=>([],p)
 |f+1,p=>if dD p=true then match p.l with
  |[a,b]=>(a::(og f b).1,(og f b).2)
  |_=>([],p)
  else([],p)
mutual
def dE:aa->Nat
 | .mk _ _ _ l=>ma l+1
def ma:List aa->Nat
 |[]=>0
 |x::l=>max (dE x) (ma l)
end
theorem Gt{x:aa}:∀{l:List aa},x∈l->dE x<=ma l
 |[],h=>by simp at h
 |y::l,h=>by
  rw[ma];rcases cA.1 h with rfl|h
  ·exact Nat.le_max_left _ _
  ·exact bE (Gt h) (Nat.le_max_right _ _)
theorem AZ{p x:aa}(h:x∈p.l):dE x<dE p:=by
 cases p with
 |mk k s n l=>rw[dE];have:=Gt h;simp only[aa.l]at this;omega
def ga(p:aa):List aa×aa:=og (dE p) p
theorem A2:∀(f:Nat) (p:aa),dE p<=f->og f p=ga p
 |f,p,h=>by
  unfold ga;generalize hg:dE p=g at h;induction g using nN generalizing f p with
  |ind g ih=>
   cases g with
   |zero=>cases p;rw[dE]at hg;omega
   |succ g=>
    cases f with
    |zero=>omega
    |succ f=>
     rw[og,og];by_cases c:dD p=true
     ·rw[if_pos c,if_pos c];obtain⟨a,b,hl⟩:=Gs c;have hb:dE b<dE p:=AZ (by rw[hl];simp);simp only[hl];rw[ih (dE b) (by omega) f b rfl (by omega),ih (dE b) (by omega) g b rfl (by omega)]
     ·rw[if_neg c,if_neg c]
theorem Gu{p a b:aa}(h:dD p=true)(hl:p.l=[a,b]):ga p=(a::(ga b).1,(ga b).2):=by
 have hb:dE b<dE p:=AZ (by rw[hl];simp);rw[<-A2 (dE p+1) p (by omega),og,if_pos h];simp only[hl];rw[A2 _ b (by omega)]
theorem A3{p:aa}(h:dD p=false):ga p=([],p):=by
 rw[<-A2 (dE p+1) p (by omega),og,if_neg (by rw[h];decide)]
theorem QL(a b:aa):dD (.arr a b)=true:=rfl
def Gv(s:aY)(b:Bool):aY:=if b then 40::(s++[41])else s
def QM(n:Int):aY:=(UInt8.ofNat (65+n%26).toNat)::(if 0<n/26 then Lib.itoa (n/26)else[])
def QN(p:aa):Bool:=p.k !=1&&decide (0<p.l.length)
mutual
def A4:aa->aY
 | .mk k s n l=>if k=1 then(if n<0 then[63]else QM n)else if k=2/\l.length=2 then QO l else Lib.join (s::Gw l) [32]
def Gw:List aa->List aY
 |[]=>[]
 |x::l=>Gv (A4 x) (QN x)::Gw l
def QO:List aa->aY
 |[]=>[]
 |x::l=>Gv (A4 x) (dD x)++QP l
def QP:List aa->aY
 |[]=>[]
 |x::_=>[32,45,62,32]++A4 x
end
mutual
def gV:aa->Nat
 | .mk k _ _ l=>if k=1 then 1 else 1+iV l
def iV:List aa->Nat
 |[]=>0
 |x::l=>gV x+iV l
end
theorem A5(p:aa):gV p=if p.k=1 then 1 else 1+iV p.l:=by cases p;rw[gV];rfl
def mZ(n v:Int):Int:=if aN.wrap ((if-1>v then-1 else v)+1)>n then aN.wrap ((if-1>v then-1 else v)+1)else n
mutual
def cB:Int->aa->Int
 |m,.mk k _ n l=>if k=1 then mZ m n else cO m l
def cO:Int->List aa->Int
 |m,[]=>m
 |m,x::l=>cO (cB m x) l
end
theorem A6(m:Int)(p:aa):cB m p=if p.k=1 then mZ m p.n else cO m p.l:=by cases p;rw[cB];rfl
theorem A7:∀(l r:List aa) (m:Int),cO m (l++r)=cO (cO m l) r
 |[],r,m=>by rw[cO];rfl
 |x::l,r,m=>by rw[iM,cO,cO,A7 l r]
mutual
def kV:aa->aa
 | .mk k s n l=>if k=1 then .none else .mk (if k=2/\l.length=2 then 2 else 0) (if k=2/\l.length=2 then[]else s) 0 (tu l)
def tu:List aa->List aa
 |[]=>[]
 |x::l=>kV x::tu l
end
theorem Gx:∀l:List aa,tu l=l.map kV
 |[]=>by simp[tu]
 |x::l=>by rw[tu,Gx l,List.map_cons]
theorem QQ(p:aa):kV p=if p.k=1 then .none else .mk (if dD p=true then 2 else 0) (if dD p=true then[]else p.name) 0 (p.l.map kV):=by
 cases p;rw[kV,Gx];simp only[aa.k,aa.l,aa.name,dD,bG,beq_iff_eq]
def gE(n:Int):Prop:=-9223372036854775808<=n/\n<=9223372036854775807
inductive mb:aa->Prop where
 |mk {k:Int} {s:aY} {n:Int} {l:List aa} (hk:gE k) (hn:gE n) (h:∀x∈l,mb x):mb (.mk k s n l)
instance(n:Int):Decidable (gE n):=inferInstanceAs (Decidable (_/\_))
mutual
def aD:aa->Nat
 | .mk _ _ _ l=>1+bR l
def bR:List aa->Nat
 |[]=>0
 |x::l=>aD x+bR l
end
theorem da(p:aa):aD p=1+bR p.l:=by cases p;rw[aD];rfl
theorem Gy(p:aa):1<=aD p:=by rw[da];omega
theorem ka{x:aa}:∀{l:List aa},x∈l->aD x<=bR l
 |[],h=>by simp at h
 |y::l,h=>by
  rw[bR];rcases cA.1 h with rfl|h
  ·omega
  ·have:=ka h;omega
theorem Gz{p x:aa}(h:x∈p.l):aD x<aD p:=by rw[da p];have:=ka h;omega
theorem GA:∀l:List aa,l.length<=bR l
 |[]=>by simp
 |x::l=>by rw[bR,bk];have:=GA l;have:=Gy x;omega
mutual
theorem A8:∀p:aa,dE p<=aD p
 | .mk _ _ _ l=>by rw[dE,aD];have:=GB l;omega
theorem GB:∀l:List aa,ma l<=bR l
 |[]=>by simp[ma]
 |x::l=>by rw[ma,bR];have:=A8 x;have:=GB l;omega
end
mutual
theorem A9:∀p:aa,gV p<=aD p
 | .mk k _ _ l=>by rw[gV,aD];have:=GC l;split<;>omega
theorem GC:∀l:List aa,iV l<=bR l
 |[]=>by simp[iV]
 |x::l=>by rw[iV,bR];have:=A9 x;have:=GC l;omega
end
def cc(s:List aa)(n:Int):aa:=s.getD n.toNat .none
def aJ(n:Int):aa:=.mk 1 [] n []
def bI(s:List aa)(t:aa):Bool:=t.k==1&&!((cc s t.n).k==1&&(cc s t.n).n==t.n)
mutual
def db(v:Int):aa->Bool
 | .mk k _ n l=>if k=1 then n==v else qU v l
def qU(v:Int):List aa->Bool
 |[]=>false
 |x::l=>db v x||qU v l
end
theorem GD(v:Int)(t:aa):db v t=if t.k=1 then t.n==v else qU v t.l:=by cases t;rw[db];rfl
theorem GF(v:Int):∀(l:List aa),qU v l=true↔∃u∈l,db v u=true
 |[]=>by rw[qU];simp
 |x::l=>by
  rw[qU,Bool.or_eq_true,GF v l];simp
theorem mc{v:Int}{t:aa}(h:t.k=1):db v t=true↔t.n=v:=by rw[GD,if_pos h,beq_iff_eq]
theorem kW{v:Int}{t:aa}(h:t.k≠1):db v t=true↔∃u∈t.l,db v u=true:=by rw[GD,if_neg h,GF]
structure aE (n:Nat) (t:aa):Prop where
 valid:cW t=true
 vars:∀v,db v t=true->0<=v/\v<n
theorem aE.dO{n:Nat}{t u:aa}(h:aE n t)(hk:t.k≠1)(hu:u∈t.l):aE n u:=by
 refine⟨?_,fun v hv=>h.vars v ((kW hk).2 ⟨u,hu,hv⟩)⟩;have:=h.valid;rw[jC,bG]at this;exact List.all_eq_true.1 this.2 u hu
theorem aE.var{n:Nat}{t:aa}(h:aE n t)(hk:t.k=1):0<=t.n/\t.n<n/\t.name=[]/\t.l=[]:=by
 have h1:=h.vars t.n ((mc hk).2 rfl);have h2:=h.valid;rw[jC,bG]at h2;have h2:=h2.1;unfold kU at h2;simp[hk]at h2;exact⟨h1.1,h1.2,h2.1.1.1,h2.2⟩
theorem aE.mono{n m:Nat}{t:aa}(h:aE n t)(hn:n<=m):aE m t:=⟨h.valid,fun v hv=>by have:=h.vars v hv;omega⟩
structure qV (s:List aa):Prop where
 holds:∀t∈s,aE s.length t
 Ba:∃rk:Int->Nat,∀i:Nat,i<s.length->bI s (aJ i)=true->∀v,db v (cc s i)=true->rk v<rk i
theorem iA{s:List aa}{n:Int}(h0:0<=n)(h:n<s.length):cc s n∈s:=by
 unfold cc;rw[cf,aO (by omega),Option.getD_some];exact bt _
theorem gb{s:List aa}{t:aa}(h:bI s t=true):t.k=1:=by
 unfold bI at h;rw[bG,beq_iff_eq]at h;exact h.1
theorem kX{s:List aa}{t:aa}(h:t.k=1):bI s t=bI s (aJ t.n):=by
 unfold bI aJ;rw[h];rfl
structure tv (s:List aa) (rk:Int->Nat):Prop where
 less:∀t,aE s.length t->bI s t=true->aE s.length (cc s t.n)/\∀v,db v (cc s t.n)=true->rk v<rk t.n
theorem qV.less{s:List aa}(h:qV s):∃rk,tv s rk:=by
 obtain⟨rk,hr⟩:=h.Ba;refine⟨rk,⟨fun t ht hs=>?_⟩⟩;have hk:=gb hs;obtain⟨h0,h1,_⟩:=ht.var hk;refine⟨h.holds _ (iA h0 h1),fun v hv=>?_⟩;have e:((t.n.toNat:Nat):Int)=t.n:=by omega
 have:=hr t.n.toNat (by omega) (by rw[e,<-kX hk];exact hs) v (by rw[e];exact hv);rwa [e]at this
inductive gd (s:List aa):aa->aa->Nat->Prop where
 |stop {t:aa} (h:bI s t=false):gd s t t 0
 |go {t u:aa} {n:Nat} (h:bI s t=true) (r:gd s (cc s t.n) u n):gd s t u (n+1)
theorem xf{s:List aa}{rk:Int->Nat}(hL:tv s rk):∀(m:Nat) (t:aa),aE s.length t->(∀v,db v t=true->rk v<m)->∃u n,gd s t u n/\n<=m/\aE s.length u/\bI s u=false/\(t.k≠1->u=t)
 |m,t,ht,hm=>by
  cases h:bI s t
  ·exact⟨t,0,.stop h,bC _,ht,h,fun _=>rfl⟩
  ·obtain⟨h1,h2⟩:=hL.less t ht h;have hk:=gb h;have hv:=hm t.n ((mc hk).2 rfl);cases m with
   |zero=>omega
   |succ m=>
    obtain⟨u,n,r,hn,a,b,c⟩:=xf hL m (cc s t.n) h1 (fun v hv'=>by have:=h2 v hv';omega);exact⟨u,n+1,.go h r,by omega,a,b,fun e=>absurd hk e⟩
def dF(st:List Int)(n:Int):Int:=st.getD n.toNat 0
mutual
inductive nc (s:List aa):List Int->aa->List Int->Prop where
 |gW {st st':List Int} {t:aa} (h:t.k≠1) (r:pn s st t.l st'):nc s st t st'
 |stop {st:List Int} {t:aa} (h:t.k=1) (h1:dF st t.n≠1) (h2:dF st t.n=2\/bI s t=false):nc s st t st
 |go {st st':List Int} {t:aa} (h:bI s t=true) (h1:dF st t.n≠1) (h2:dF st t.n≠2) (r:nc s (st.set t.n.toNat 1) (cc s t.n) st'):nc s st t (st'.set t.n.toNat 2)
inductive pn (s:List aa):List Int->List aa->List Int->Prop where
 |nil {st:List Int}:pn s st [] st
 |cons {st st1 st2:List Int} {t:aa} {l:List aa} (r:nc s st t st1) (rs:pn s st1 l st2):pn s st (t::l) st2
end
theorem GG{st:List Int}{n m:Int}{x:Int}(h0:0<=n)(h:n<st.length)(m0:0<=m):dF (st.set n.toNat x) m=if m=n then x else dF st m:=by
 unfold dF;rw[cf,cf,List.getElem?_set];by_cases e:m=n
 ·subst e;rw[if_pos rfl,if_pos (by omega),if_pos rfl];rfl
 ·rw[if_neg (by omega),if_neg e]
def qW(rk:Int->Nat)(st:List Int)(P:Int->Prop):Prop:=∀u:Int,0<=u->u<st.length->dF st u=1->∀v,P v->rk v<rk u
def oh(st st':List Int):Prop:=st'.length=st.length/\∀u:Int,0<=u->u<st.length->(dF st' u=1↔dF st u=1)
theorem oh.trans{a b c:List Int}(h:oh a b)(k:oh b c):oh a c:=⟨k.1.trans h.1,fun u h0 h1=>(k.2 u h0 (by rw[h.1];exact h1)).trans (h.2 u h0 h1)⟩
theorem qW.post{rk:Int->Nat}{st st':List Int}{P Q:Int->Prop}(h:qW rk st P)(k:oh st st')(hq:∀v,Q v->P v):qW rk st' Q:=fun u h0 h1 hs v hv=>h u h0 (by rw[<-k.1];exact h1) ((k.2 u h0 (by rw[<-k.1];exact h1)).1 hs) v (hq v hv)
theorem QR{s:List aa}{rk:Int->Nat}(hL:tv s rk)(m:Nat):∀(t:aa) (st:List Int),st.length=s.length->aE s.length t->(∀v,db v t=true->rk v<m)->qW rk st (fun v=>db v t=true)->∃st',nc s st t st'/\oh st st':=by
 induction m using nN with
 |ind m ihm=>
  intro t;refine aa.ind (P:=fun t=>∀(st:List Int),st.length=s.length->aE s.length t->(∀v,db v t=true->rk v<m)->qW rk st (fun v=>db v t=true)->∃st',nc s st t st'/\oh st st') (fun t ih st hst ht hm hp=>?_) t;by_cases hk:t.k=1
  ·have hocc:=(mc (v:=t.n) hk).2 rfl;obtain⟨h0,hlt,_⟩:=ht.var hk;have h1:dF st t.n≠1:=fun e=>by have:=hp t.n h0 (by omega) e t.n hocc;omega
   by_cases h2:dF st t.n=2
   ·exact⟨st,.stop hk h1 (.inl h2),rfl,fun _ _ _=>Iff.rfl⟩
   cases hs:bI s t
   ·exact⟨st,.stop hk h1 (.inr hs),rfl,fun _ _ _=>Iff.rfl⟩
   obtain⟨g1,g2⟩:=hL.less t ht hs;have dk:∀u:Int,0<=u->dF (st.set t.n.toNat 1) u=if u=t.n then 1 else dF st u:=fun u hu=>GG h0 (by omega) hu
   obtain⟨st',r,e1,e2⟩:=ihm (rk t.n) (hm t.n hocc) (cc s t.n) (st.set t.n.toNat 1) (by rw[bF];exact hst) g1 g2 (fun u hu0 hu1 hu v hv=>by
    rw[dk u hu0]at hu;have hv':=g2 v hv;split at hu
    ·rename_i e;subst e;exact hv'
    ·have:=hp u hu0 (by rw[bF]at hu1;exact hu1) hu t.n hocc;omega)
   rw[bF]at e1;refine⟨_,.go hs h1 h2 r,by rw[bF];exact e1,fun u hu0 hu1=>?_⟩;rw[GG h0 (by omega) hu0];have h3:=e2 u hu0 (by rw[bF];exact hu1);rw[dk u hu0]at h3;by_cases e:u=t.n
   ·subst e;rw[if_pos rfl];exact⟨fun h=>absurd h (by decide),fun h=>absurd h h1⟩
   ·rw[if_neg e]at h3⊢;exact h3
  ·have key:∀(l:List aa) (st:List Int),(∀u∈l,u∈t.l)->st.length=s.length->qW rk st (fun v=>db v t=true)->∃st',pn s st l st'/\oh st st':=by
    intro l;induction l with
    |nil=>exact fun st _ _ _=>⟨st,.nil,rfl,fun _ _ _=>Iff.rfl⟩
    |cons x l ihl=>
     intro st hs hst hp;have hx:=hs x (bu ..);have hoc:∀v,db v x=true->db v t=true:=fun v hv=>(kW hk).2 ⟨x,hx,hv⟩;obtain⟨s1,r1,p1⟩:=ih x hx st hst (ht.dO hk hx) (fun v hv=>hm v (hoc v hv)) (fun u h0 h1 h v hv=>hp u h0 h1 h v (hoc v hv));obtain⟨s2,r2,p2⟩:=ihl s1 (fun u hu=>hs u (bS _ hu)) (by rw[p1.1];exact hst) (hp.post p1 (fun v hv=>hv));exact⟨s2,.cons r1 r2,p1.trans p2⟩
   obtain⟨st',r,p⟩:=key t.l st (fun _ h=>h) hst hp;exact⟨st',.gW hk r,p⟩
mutual
inductive gX (s:List aa) (v:Int):List Int->aa->Bool->List Int->Prop where
 |seen {met:List Int} {t:aa} (h:bI s t=true) (h1:met.contains t.n=true):gX s v met t false met
 |go {met met':List Int} {t:aa} {b:Bool} (h:bI s t=true) (h1:met.contains t.n=false) (r:gX s v (met++[t.n]) (cc s t.n) b met'):gX s v met t b met'
 |var {met:List Int} {t:aa} (h:bI s t=false) (hk:t.k=1):gX s v met t (t.n==v) met
 |gW {met met':List Int} {t:aa} {b:Bool} (hk:t.k≠1) (r:om s v met t.l b met'):gX s v met t b met'
inductive om (s:List aa) (v:Int):List Int->List aa->Bool->List Int->Prop where
 |nil {met:List Int}:om s v met [] false met
 |yes {met met':List Int} {t:aa} {l:List aa} (r:gX s v met t true met'):om s v met (t::l) true met'
 |no {met m1 m2:List Int} {t:aa} {l:List aa} {b:Bool} (r:gX s v met t false m1) (rs:om s v m1 l b m2):om s v met (t::l) b m2
end
theorem QS{s:List aa}{rk:Int->Nat}(hL:tv s rk)(v:Int)(m:Nat):∀(t:aa) (met:List Int),aE s.length t->(∀v,db v t=true->rk v<m)->∃b met',gX s v met t b met':=by
 induction m using nN with
 |ind m ihm=>
  intro t;refine aa.ind (P:=fun t=>∀(met:List Int),aE s.length t->(∀v,db v t=true->rk v<m)->∃b met',gX s v met t b met') (fun t ih met ht hm=>?_) t;by_cases hk:t.k=1
  ·have hocc:=(mc (v:=t.n) hk).2 rfl;cases hs:bI s t
   ·exact⟨_,_,.var hs hk⟩
   cases h1:met.contains t.n
   ·obtain⟨g1,g2⟩:=hL.less t ht hs;obtain⟨b,met',r⟩:=ihm (rk t.n) (hm t.n hocc) (cc s t.n) (met++[t.n]) g1 g2;exact⟨_,_,.go hs h1 r⟩
   ·exact⟨_,_,.seen hs h1⟩
  ·have key:∀(l:List aa) (met:List Int),(∀u∈l,u∈t.l)->∃b met',om s v met l b met':=by
    intro l;induction l with
    |nil=>exact fun met _=>⟨_,_,.nil⟩
    |cons x l ihl=>
     intro met hs;have hx:=hs x (bu ..);obtain⟨b,m1,r⟩:=ih x hx met (ht.dO hk hx) (fun v hv=>hm v ((kW hk).2 ⟨x,hx,hv⟩));cases b
     ·obtain⟨b,m2,rs⟩:=ihl m1 (fun u hu=>hs u (bS _ hu));exact⟨_,_,.no r rs⟩
     ·exact⟨_,_,.yes r⟩
   obtain⟨b,met',r⟩:=key t.l met (fun _ h=>h);exact⟨_,_,.gW hk r⟩
def oq(s:List aa)(v:Int)(M:List Int)(t:aa):Prop:=∀w,db w t=true->(bI s (aJ w)=true->w∈M)/\(bI s (aJ w)=false->w≠v)
theorem oq.mono{s:List aa}{v:Int}{M M':List Int}{t:aa}(h:oq s v M t)(hm:∀x∈M,x∈M'):oq s v M' t:=fun w hw=>⟨fun e=>hm w ((h w hw).1 e),(h w hw).2⟩
structure qX (s:List aa) (v:Int) (met met':List Int):Prop where
 sub:∀x∈met,x∈met'
 xg:∀x∈met',x∈met\/oq s v met' (cc s x)
theorem qX.trans{s:List aa}{v:Int}{a b c:List Int}(h:qX s v a b)(k:qX s v b c):qX s v a c:=⟨fun x hx=>k.sub x (h.sub x hx),fun x hx=>by
 rcases k.xg x hx with h1|h1
 ·rcases h.xg x h1 with h2|h2
  ·exact .inl h2
  ·exact .inr (h2.mono k.sub)
 ·exact .inr h1⟩
mutual
theorem Bb{s:List aa}{v:Int}:∀{met met':List Int} {t:aa} {b:Bool},gX s v met t b met'->b=false->qX s v met met'/\oq s v met' t
 |_,_,t,_,.seen h h1,_=>⟨⟨fun x hx=>hx,fun x hx=>.inl hx⟩,fun w hw=>by
   have e:=(mc (gb h)).1 hw;subst e;exact⟨fun _=>by simpa using h1,fun e=>by rw[<-kX (gb h),h]at e;cases e⟩⟩
 |met,met',t,_,.go h h1 r,hb=>by
   obtain⟨o,c⟩:=Bb r hb;refine⟨⟨fun x hx=>o.sub x (jS _ hx),fun x hx=>?_⟩,fun w hw=>?_⟩
   ·rcases o.xg x hx with h2|h2
    ·rcases cM.1 h2 with h3|h3
     ·exact .inl h3
     ·simp at h3;subst h3;exact .inr c
    ·exact .inr h2
   ·have e:=(mc (gb h)).1 hw;subst e;exact⟨fun _=>o.sub _ (by simp),fun e=>by rw[<-kX (gb h),h]at e;cases e⟩
 |_,_,t,_,.var h hk,hb=>⟨⟨fun x hx=>hx,fun x hx=>.inl hx⟩,fun w hw=>by
   have e:=(mc hk).1 hw;subst e;exact⟨fun e=>(by rw[<-kX hk,h]at e;cases e),fun _=>by simpa using hb⟩⟩
 |_,_,t,_,.gW hk r,hb=>by
   obtain⟨o,c⟩:=GH r hb;exact⟨o,fun w hw=>by
    obtain⟨u,hu,hw'⟩:=(kW hk).1 hw;exact c u hu w hw'⟩
theorem GH{s:List aa}{v:Int}:∀{met met':List Int} {l:List aa} {b:Bool},om s v met l b met'->b=false->qX s v met met'/\∀u∈l,oq s v met' u
 |_,_,_,_,.nil,_=>⟨⟨fun x hx=>hx,fun x hx=>.inl hx⟩,fun u hu=>by cases hu⟩
 |_,_,_,_,.yes r,hb=>by cases hb
 |_,_,_,_,.no r rs,hb=>by
   obtain⟨o1,c1⟩:=Bb r rfl;obtain⟨o2,c2⟩:=GH rs hb;refine⟨o1.trans o2,fun u hu=>?_⟩;rcases cA.1 hu with rfl|hu
   ·exact c1.mono o2.sub
   ·exact c2 u hu
end
inductive po (s:List aa) (v:Int):Int->Prop where
 |here:po s v v
 |go {u w:Int} (h:bI s (aJ u)=true) (ho:db w (cc s u)=true) (r:po s v w):po s v u
theorem QT{s:List aa}{v:Int}{M:List Int}(hv:bI s (aJ v)=false)(hM:∀x∈M,oq s v M (cc s x)){w:Int}(r:po s v w):(bI s (aJ w)=true->w∈M)->(bI s (aJ w)=false->w≠v)->False:=by
 induction r with
 |here=>exact fun _ h=>h hv rfl
 |go h ho r ih=>
  intro h1 _;have hc:=hM _ (h1 h) _ ho;exact ih hc.1 hc.2
theorem occ_no{s:List aa}{v:Int}{t:aa}{met:List Int}(hv:bI s (aJ v)=false)(h:gX s v [] t false met):∀w,db w t=true->¬po s v w:=fun w hw r=>by
 obtain⟨o,c⟩:=Bb h rfl;have hM:∀x∈met,oq s v met (cc s x):=fun x hx=>by
  rcases o.xg x hx with h|h
  ·cases h
  ·exact h
 exact QT hv hM r (c w hw).1 (c w hw).2
theorem GI{s:List aa}{v u:Int}{t:aa}(h0:0<=v)(h:v<s.length)(u0:0<=u):cc (s.set v.toNat t) u=if u=v then t else cc s u:=by
 unfold cc;rw[cf,cf,List.getElem?_set];by_cases e:u=v
 ·subst e;rw[if_pos rfl,if_pos (by omega),if_pos rfl];rfl
 ·rw[if_neg (by omega),if_neg e]
theorem GJ{s:List aa}(hR:qV s){v:Int}(h0:0<=v)(h:v<s.length)(hv:bI s (aJ v)=false){t:aa}(ht:aE s.length t){met:List Int}(ho:gX s v [] t false met):qV (s.set v.toNat t):=by
 have hno:=occ_no hv ho;refine⟨fun u hu=>?_,?_⟩
 ·rw[bF];rcases lF hu with hu|rfl
  ·exact hR.holds u hu
  ·exact ht
 ·obtain⟨rk,hr⟩:=hR.Ba;obtain⟨K,hK⟩:∃K:Nat,∀i:Nat,i<s.length->rk (i:Int)<K:=by
   have:∀n:Nat,∃K:Nat,∀i:Nat,i<n->rk (i:Int)<K:=fun n=>by
    induction n with
    |zero=>exact⟨0,fun i hi=>absurd hi (mL _)⟩
    |succ n ih=>
     obtain⟨K,hK⟩:=ih;refine⟨max K (rk (n:Int)+1),fun i hi=>?_⟩;rcases zG.1 hi with h|h
     ·have:=hK i h;omega
     ·subst h;omega
   exact this s.length
  have hin:∀w,db w t=true->rk w<K:=fun w hw=>by
   obtain⟨a,b⟩:=ht.vars w hw;have:=hK w.toNat (by omega);rwa [show((w.toNat:Nat):Int)=w by omega]at this
  refine⟨fun w=>open Classical in rk w+(if po s v w then K else 0),fun i hi hs w hw=>?_⟩;rw[bF]at hi;rw[GI h0 h (by omega)]at hw;simp only
  by_cases e:(i:Int)=v
  ·rw[if_pos e]at hw;rw[if_neg (hno w hw),e,if_pos .here];have:=hin w hw;omega
  ·rw[if_neg e]at hw;have hs':bI s (aJ i)=true:=by
    unfold bI at hs⊢;rw[show(aJ (i:Int)).n=(i:Int)from rfl,GI h0 h (by omega),if_neg e]at hs;exact hs
   have:=hr i hi hs' w hw;by_cases hl:po s v w
   ·rw[if_pos hl,if_pos (.go hs' hw hl)];omega
   ·rw[if_neg hl];split<;>omega
inductive nd (s:List aa) (v:Int) (t:aa):Int->List aa->Prop where
 |yes {met:List Int} (h:gX s v [] t true met):nd s v t 61 s
 |no {met:List Int} (h:gX s v [] t false met):nd s v t 0 (s.set v.toNat t)
def dm:List aa->List aa->List (aa×aa)
 |a::l,b::r=>(a,b)::dm l r
 |_,_=>[]
inductive kY (s:List aa) (a b:aa):List (aa×aa)->Int->List aa->Prop where
 |mk {x y:aa} {n m:Nat} {l:List (aa×aa)} {e:Int} {s':List aa} (hx:gd s a x n) (hy:gd s b y m)
   (h:(x.k=1/\y.k=1/\x.n=y.n/\l=[]/\e=0/\s'=s)\/(x.k=1/\y.k=1/\x.n≠y.n/\l=[]/\nd s (max x.n y.n) (aJ (min x.n y.n)) e s')\/(x.k=1/\y.k≠1/\l=[]/\nd s x.n y e s')\/(x.k≠1/\y.k=1/\l=[]/\nd s y.n x e s')
     \/(x.k≠1/\y.k≠1/\¬(x.k=y.k/\x.name=y.name/\x.l.length=y.l.length)/\l=[]/\e=60/\s'=s)\/(x.k≠1/\y.k≠1/\(x.k=y.k/\x.name=y.name/\x.l.length=y.l.length)/\l=dm x.l y.l/\e=0/\s'=s)):kY s a b l e s'
def ef(n N:Nat)(p:aa×aa):Prop:=aE n p.1/\aE n p.2/\aD p.1<=N/\aD p.2<=N
structure ck (N:Nat) (s:List aa):Prop where
 right:qV s
 size:∀t∈s,aD t<=N
theorem pq{s:List aa}{N:Nat}(hs:∀t∈s,aD t<=N){t u:aa}{n:Nat}(r:gd s t u n):(∀x,aE s.length x->bI s x=true->cc s x.n∈s/\aE s.length (cc s x.n))->aE s.length t->aD t<=N->aD u<=N:=by
 induction r with
 |stop h=>exact fun _ _ h=>h
 |go h r ih=>
  intro hm ht _;obtain⟨a,b⟩:=hm _ ht h;exact ih hm b (hs _ a)
theorem xi{n N:Nat}:∀(l r:List aa),(∀u∈l,aE n u/\aD u<=N)->(∀u∈r,aE n u/\aD u<=N)->∀p∈dm l r,ef n N p
 |[],r,_,_,p,hp=>by cases r<;>cases hp
 |a::l,[],_,_,p,hp=>by cases hp
 |a::l,b::r,h1,h2,p,hp=>by
  rcases cA.1 hp with rfl|hp
  ·exact⟨(h1 a (by simp)).1,(h2 b (by simp)).1,(h1 a (by simp)).2,(h2 b (by simp)).2⟩
  ·exact xi l r (fun u hu=>h1 u (bS _ hu)) (fun u hu=>h2 u (bS _ hu)) p hp
theorem iB{n:Nat}{v:Int}(h0:0<=v)(h:v<n)(hn:n<=1000000):aE n (aJ v):=by
 refine⟨?_,fun w hw=>?_⟩
 ·rw[jC];have:(v<=4611686018427387904):=by omega
  simp[kU,aJ,aa.k,aa.name,aa.n,aa.l,h0,this]
 ·have:=(mc (t:=aJ v) rfl).1 hw;have e:(aJ v).n=v:=rfl;omega
theorem Bc{s:List aa}{N:Nat}(hR:ck N s)(hN:1<=N){v:Int}(h0:0<=v)(h:v<s.length)(hv:bI s (aJ v)=false){t:aa}(ht:aE s.length t)(hn:aD t<=N):∃e s',nd s v t e s'/\ck N s'/\s'.length=s.length:=by
 obtain⟨rk,hL⟩:=hR.right.less;obtain⟨m,hm⟩:∃m:Nat,∀w,db w t=true->rk w<m:=by
  have:∀n:Nat,∃K:Nat,∀i:Nat,i<n->rk (i:Int)<K:=fun n=>by
   induction n with
   |zero=>exact⟨0,fun i hi=>absurd hi (mL _)⟩
   |succ n ih=>
    obtain⟨K,hK⟩:=ih;refine⟨max K (rk (n:Int)+1),fun i hi=>?_⟩;rcases zG.1 hi with h|h
    ·have:=hK i h;omega
    ·subst h;omega
  obtain⟨K,hK⟩:=this s.length;refine⟨K,fun w hw=>?_⟩;obtain⟨a,b⟩:=ht.vars w hw;have:=hK w.toNat (by omega);rwa [show((w.toNat:Nat):Int)=w by omega]at this
 obtain⟨b,met,r⟩:=QS hL v m t [] ht hm;cases b
 ·refine⟨0,_,.no r,⟨GJ hR.right h0 h hv ht r,fun u hu=>?_⟩,bF ..⟩;rcases lF hu with hu|rfl
  ·exact hR.size u hu
  ·exact hn
 ·exact⟨61,s,.yes r,hR,rfl⟩
theorem tw{s:List aa}(rk:Int->Nat){t:aa}(ht:aE s.length t):∃m:Nat,∀w,db w t=true->rk w<m:=by
 have:∀n:Nat,∃K:Nat,∀i:Nat,i<n->rk (i:Int)<K:=fun n=>by
  induction n with
  |zero=>exact⟨0,fun i hi=>absurd hi (mL _)⟩
  |succ n ih=>
   obtain⟨K,hK⟩:=ih;refine⟨max K (rk (n:Int)+1),fun i hi=>?_⟩;rcases zG.1 hi with h|h
   ·have:=hK i h;omega
   ·subst h;omega
 obtain⟨K,hK⟩:=this s.length;refine⟨K,fun w hw=>?_⟩;obtain⟨a,b⟩:=ht.vars w hw;have:=hK w.toNat (by omega);rwa [show((w.toNat:Nat):Int)=w by omega]at this
theorem QU{s:List aa}{N:Nat}(hR:ck N s)(hN:1<=N)(hs:s.length<=1000000){a b:aa}(hp:ef s.length N (a,b)):∃l e s',kY s a b l e s'/\ck N s'/\s'.length=s.length/\(∀p∈l,ef s.length N p):=by
 obtain⟨rk,hL⟩:=hR.right.less;obtain⟨ha,hb,na,nb⟩:=hp;obtain⟨m1,hm1⟩:=tw rk ha;obtain⟨m2,hm2⟩:=tw rk hb;obtain⟨x,n1,r1,_,hx,sx,_⟩:=xf hL m1 a ha hm1;obtain⟨y,n2,r2,_,hy,sy,_⟩:=xf hL m2 b hb hm2;have hmem:∀x,aE s.length x->bI s x=true->cc s x.n∈s/\aE s.length (cc s x.n):=fun x hx hs=>by
  obtain⟨h0,h1,_⟩:=hx.var (gb hs);exact⟨iA h0 h1,hR.right.holds _ (iA h0 h1)⟩
 have nx:=pq hR.size r1 hmem ha na;have ny:=pq hR.size r2 hmem hb nb;by_cases kx:x.k=1
 ·obtain⟨x0,x1,_⟩:=hx.var kx;have sx':bI s (aJ x.n)=false:=by rw[<-kX kx];exact sx
  by_cases ky:y.k=1
  ·obtain⟨y0,y1,_⟩:=hy.var ky;have sy':bI s (aJ y.n)=false:=by rw[<-kX ky];exact sy
   by_cases he:x.n=y.n
   ·exact⟨[],0,s,.mk r1 r2 (.inl ⟨kx,ky,he,rfl,rfl,rfl⟩),hR,rfl,fun p hp=>by cases hp⟩
   ·have sm:bI s (aJ (max x.n y.n))=false:=by
     rcases Int.le_total x.n y.n with h|h
     ·rw[Int.max_eq_right h];exact sy'
     ·rw[Int.max_eq_left h];exact sx'
    obtain⟨e,s',r,q1,q2⟩:=Bc hR hN (v:=max x.n y.n) (by omega) (by omega) sm (iB (v:=min x.n y.n) (by omega) (by omega) hs) (by rw[da];simp[aJ,aa.l,bR];exact hN);exact⟨[],e,s',.mk r1 r2 (.inr (.inl ⟨kx,ky,he,rfl,r⟩)),q1,q2,fun p hp=>by cases hp⟩
  ·obtain⟨e,s',r,q1,q2⟩:=Bc hR hN x0 x1 sx' hy ny;exact⟨[],e,s',.mk r1 r2 (.inr (.inr (.inl ⟨kx,ky,rfl,r⟩))),q1,q2,fun p hp=>by cases hp⟩
 ·by_cases ky:y.k=1
  ·obtain⟨y0,y1,_⟩:=hy.var ky;have sy':bI s (aJ y.n)=false:=by rw[<-kX ky];exact sy
   obtain⟨e,s',r,q1,q2⟩:=Bc hR hN y0 y1 sy' hx nx;exact⟨[],e,s',.mk r1 r2 (.inr (.inr (.inr (.inl ⟨kx,ky,rfl,r⟩)))),q1,q2,fun p hp=>by cases hp⟩
  ·by_cases hc:x.k=y.k/\x.name=y.name/\x.l.length=y.l.length
   ·refine⟨dm x.l y.l,0,s,.mk r1 r2 (.inr (.inr (.inr (.inr (.inr ⟨kx,ky,hc,rfl,rfl,rfl⟩))))),hR,rfl,xi _ _ (fun u hu=>⟨hx.dO kx hu,?_⟩) (fun u hu=>⟨hy.dO ky hu,?_⟩)⟩
    ·have:=ka hu;rw[da]at nx;omega
    ·have:=ka hu;rw[da]at ny;omega
   ·exact⟨[],60,s,.mk r1 r2 (.inr (.inr (.inr (.inr (.inl ⟨kx,ky,hc,rfl,rfl,rfl⟩))))),hR,rfl,fun p hp=>by cases hp⟩
inductive eX:Nat->List aa->List (aa×aa)->Int->List aa->Prop where
 |done {n:Nat} {s:List aa}:eX n s [] 0 s
 |out {s:List aa} {st:List (aa×aa)} (h:st≠[]):eX 0 s st 62 s
 |fail {n:Nat} {s s':List aa} {st l:List (aa×aa)} {p:aa×aa} {e:Int} (h:kY s p.1 p.2 l e s') (he:e≠0):eX (n+1) s (st++[p]) e s'
 |go {n:Nat} {s s1 s':List aa} {st l:List (aa×aa)} {p:aa×aa} {e:Int} (h:kY s p.1 p.2 l 0 s1) (r:eX n s1 (st++l.reverse) e s'):eX (n+1) s (st++[p]) e s'
theorem GK{N:Nat}(hN:1<=N):∀(n:Nat) (s:List aa) (st:List (aa×aa)),ck N s->s.length<=1000000->(∀p∈st,ef s.length N p)->∃e s',eX n s st e s'/\ck N s'/\s'.length=s.length
 |0,s,st,hR,hs,hst=>by
  by_cases h:st=[]
  ·subst h;exact⟨0,s,.done,hR,rfl⟩
  ·exact⟨62,s,.out h,hR,rfl⟩
 |n+1,s,st,hR,hs,hst=>by
  by_cases h:st=[]
  ·subst h;exact⟨0,s,.done,hR,rfl⟩
  ·obtain⟨ps,p,rfl⟩:∃ps p,st=ps++[p]:=⟨st.dropLast,st.getLast h,(List.dropLast_concat_getLast h).symm⟩;obtain⟨l,e,s1,r,q1,q2,q3⟩:=QU hR hN hs (a:=p.1) (b:=p.2) (hst p (by simp));by_cases he:e=0
   ·subst he;obtain⟨e,s',r',q4,q5⟩:=GK hN n s1 (ps++l.reverse) q1 (by omega) (fun p' hp'=>by
     rw[q2];rcases cM.1 hp' with h|h
     ·exact hst p' (jS _ h)
     ·exact q3 p' (List.mem_reverse.1 h))
    exact⟨e,s',.go r r',q4,q5.trans q2⟩
   ·exact⟨e,s1,.fail r he,q1,q2⟩
def K.new(κ:K)(w w':World):K:={κ with m:=fun b o=>if b<w.heap.size then κ.m b o else w'.cell? ⟨b,o,none⟩}
section
variable {P:Program} {w0 w w':World} {κ:K} {σ:H}
theorem K.GL(h:aC w0 κ σ w):κ.le (κ.new w w'):=
 RV.same (fun b o v hm=>by
  show(if b<w.heap.size then _ else _)=_;rw[if_pos (h.mU hm)];exact hm) (aA _) (fun _ _=>rfl) (fun _ _=>rfl) (fun _ _=>rfl) (fun _ _=>rfl)
theorem aC.new(h:aC w0 κ σ w)(hb:Below w.heap.size w w'):aC w0 (κ.new w w') σ w':=by
 have hle:κ.le (κ.new w w'):=K.GL h;have hg:=h.grow hb;have hmo:∀b o,b<w.heap.size->(κ.new w w').m b o=κ.m b o:=fun b o hlt=>by show(if b<w.heap.size then _ else _)=_;rw[if_pos hlt]
 refine⟨h.n,hg.ext,fun b o v hm=>?_,fun b hb'=>?_,fun x y hx hy g hne=>h.apart x y hx hy g hne,fun l o hr=>hg.rest l o hr,hg.dw⟩
 ·rcases dT b w.heap.size with hlt|hge
  ·rw[hmo b o hlt]at hm;exact hg.mem b o v hm
  ·have hm':(if b<w.heap.size then κ.m b o else w'.cell? ⟨b,o,none⟩)=some v:=hm;rw[if_neg (by omega)]at hm';exact hm'
 ·have h1:=hg.cD b hb';have hl:=fun g hg=>(h.gQ (g:=g) hb' hg).2;cases hσ:σ[b]with
  |cells cs=>
   rw[hσ]at h1 hl;obtain⟨vs,t,k1,k2,k3⟩:=h1.row;exact⟨h1.fr,⟨vs,t,k1,k2,fun j hj=>⟨(k3 j hj).1,(k3 j hj).2.mono hle⟩⟩,h1.own,fun o=>(hmo _ o (hl _ rfl)).trans (h1.free o),h1.ty⟩
  |spare e size n=>
   rw[hσ]at h1 hl;exact⟨h1.fr,h1.sz,h1.row,fun g hg' o ho=>(hmo g o (hl g hg')).trans (h1.free g hg' o ho)⟩
  |vec e size cs=>
   rw[hσ]at h1 hl;exact ad.lJ.le h1 hle.m h1.fr rfl rfl (fun o=>(hmo _ o (hl _ rfl)).trans (h1.free o))
  |mp kvs=>
   rw[hσ]at h1 hl;exact ad.mapped.le h1 hle.m h1.fr rfl (fun o=>(hmo _ o (hl _ rfl)).trans (h1.free o))
  |gone=>trivial
theorem K.QV{b:Nat}(hb:w.heap.size<=b)(o:Nat):(κ.new w w').m b o=w'.cell? ⟨b,o,none⟩:=by
 show(if b<w.heap.size then _ else _)=_;rw[if_neg (by omega)]
theorem DC.xj{f:FuncId}{args:List V}{d:V}(hen:Enters P f)(h:∀κ w vs,aC w0 κ σ w->Fits κ args vs->Calls P f vs.toArray w (fun e w'=>∃v,e= .returned v/\Below w.heap.size w w'/\RV (κ.new w w') d v)):
  DC P w0 f args σ (Same d σ):=by
 refine⟨hen,fun κ w vs hrep hfit=>(h κ w vs hrep hfit).mono ?_⟩;rintro e w' ⟨v,he,hb,hv⟩;exact⟨v,d,σ,κ.new w w',he,⟨rfl,rfl⟩,K.GL hrep,hrep.new hb,hv⟩
theorem aC.QW(h0:aC w0 κ σ w)(hb:Below w.heap.size w w')(e size:Nat)(v:Value)(hv:(∃A,v= .slice A 0 0)\/w'.ownsRow w.heap.size e size v 0 []):aC w0 (κ.own v size) (σ++[.spare e size 0]) w':=by
 have h:=h0.grow hb;have hle:κ.le (κ.own v size):=K.qI;have fro:∀b,b<σ.length->(κ.own v size).fr b=κ.fr b:=fun b hb=>by show(if b=κ.n then _ else _)=_;rw[if_neg (by rw[h.n];omega)]
 have svo:∀b,b<σ.length->(κ.own v size).sv b=κ.sv b:=fun b hb=>by show(if b=κ.n then _ else _)=_;rw[if_neg (by rw[h.n];omega)]
 have szo:∀b,b<σ.length->(κ.own v size).sz b=κ.sz b:=fun b hb=>by show(if b=κ.n then _ else _)=_;rw[if_neg (by rw[h.n];omega)]
 have frn:(κ.own v size).fr σ.length=some 0:=by show(if σ.length=κ.n then _ else _)=_;rw[if_pos h.n.symm]
 have svn:(κ.own v size).sv σ.length=v:=by show(if σ.length=κ.n then _ else _)=_;rw[if_pos h.n.symm]
 have szn:(κ.own v size).sz σ.length=size:=by show(if σ.length=κ.n then _ else _)=_;rw[if_pos h.n.symm]
 have hheld:∀g,heldBy v=some g->w.heap.size<=g:=fun g hg=>by
  rcases hv with⟨A,rfl⟩|ho
  ·cases A<;>cases hg
  ·exact(ho.lt g (wu hg)).1
 refine⟨by show κ.n+1=_;rw[h.n];simp,h.ext,h.mem,fun b hb=>?_,fun x y hx hy g hne=>?_,fun l o hr=>⟨(h.rest l o hr).1,(h.rest l o hr).2.1,sM (κ:=κ) (fun b hb=>ad.jU (κ:=κ) rfl (svo b hb)) (h.rest l o hr).2.2 (by simp only[ad.be];rw[svn];intro e;have:=hheld _ e;have:=(Array.getElem?_eq_some_iff.1 (h0.rest l o hr).1).1;omega)⟩,h.dw⟩
 ·rcases dT b σ.length with hb'|hb'
  ·rw[cL hb'];exact ad.is_le (κ:=κ) rfl hle rfl (fro b hb') (svo b hb') (szo b hb') (h.cD b hb')
  ·have hbe:b=σ.length:=by simp at hb;omega
   subst hbe;rw[dU (aA _)];simp only[cq,dC];refine⟨frn,szn,?_,fun g hg o _=>?_⟩
   ·rw[svn];rcases hv with⟨A,rfl⟩|ho
    ·exact .inl ⟨rfl,A,rfl⟩
    ·refine .inr ⟨[],ho.1,?_⟩;rcases ho.2 with h1|⟨g,cap,cur,q1,q2,q3⟩
     ·exact .inl h1
     ·exact .inr ⟨g,cap,cur,q1,bE h0.ext.size q2,q3⟩
   ·rw[svn]at hg;exact h0.fresh (hheld g hg) o
 ·rcases dT x σ.length with hx'|hx'
  ·rcases dT y σ.length with hy'|hy'
   ·rw[cL hx',cL hy',ad.jU (κ:=κ) (κ':=κ.own v size) rfl (svo x hx'),ad.jU (κ:=κ) (κ':=κ.own v size) rfl (svo y hy')];exact h.apart x y hx' hy' g hne
   ·have hye:y=σ.length:=by simp at hy;omega
    subst hye;rw[cL hx',dU (aA _),ad.jU (κ:=κ) (κ':=κ.own v size) rfl (svo x hx')];simp only[cq,dC,ad.be];rw[svn];intro e1 e2;have:=(h0.gQ hx' e1).2;have:=hheld g e2;omega
  ·have hxe:x=σ.length:=by simp at hx;omega
   subst hxe;have hy':y<σ.length:=by simp at hy;omega
   rw[dU (aA _),cL hy',ad.jU (κ:=κ) (κ':=κ.own v size) rfl (svo y hy')];simp only[cq,dC,ad.be];rw[svn];intro e1 e2;have:=(h0.gQ hy' e2).2;have:=hheld g e1;omega
theorem DC.zR{f:FuncId}{args:List V}{e size:Nat}(hen:Enters P f)(h:∀κ w vs,aC w0 κ σ w->Fits κ args vs->Calls P f vs.toArray w (fun r w'=>∃v,r= .returned v/\Below w.heap.size w w'/\((∃A,v= .slice A 0 0)\/w'.ownsRow w.heap.size e size v 0 []))):
  DC P w0 f args σ (Same (.aG σ.length []) (σ++[.spare e size 0])):=by
 refine⟨hen,fun κ w vs hrep hfit=>(h κ w vs hrep hfit).mono ?_⟩;rintro r w' ⟨v,he,hb,hv⟩;have hfr:(κ.own v size).fr σ.length=some 0:=by show(if σ.length=κ.n then _ else _)=_;rw[if_pos hrep.n.symm]
 have hsv:(κ.own v size).sv σ.length=v:=by show(if σ.length=κ.n then _ else _)=_;rw[if_pos hrep.n.symm]
 have hrc:RC (κ.own v size).m (.sl []) v:=by
  rcases hv with⟨A,rfl⟩|ho
  ·exact .sl [] 0 A 0 [] (by simp) (aA _) (bC _) (by simp) (fun h=>absurd rfl h) (fun i hi=>by simp at hi)
  ·rcases ho.2 with⟨rfl,_⟩|⟨g,cap,cur,rfl,_,_,hc,hcm,_⟩
   ·exact RC.nil _
   ·exact .sl [] 0 _ cap [] (by simp) hc hcm (by simp) (fun h=>absurd rfl h) (fun i hi=>by simp at hi)
 exact⟨v,.aG σ.length [],_,κ.own v size,he,⟨rfl,rfl⟩,K.qI,hrep.QW hb e size v hv,.aG hrc (by show _<κ.n+1;rw[hrep.n];omega) hfr (aA _) (fun _=>hsv.symm) (by simp)⟩
theorem ao.own{n0:Nat}{ρ:Env}(d e size:Nat)(hρ:ρ d= .ab []):ao n0 ⟨ρ.put (some d) (.aG σ.length []),σ++[.spare e size 0]⟩ ⟨ρ,σ⟩:=fun w0 κ0 n κ a w hκ hR=>by
 have hrep:=hR.df;have hv:=hR.env d;rw[show(⟨ρ,σ⟩:St).ρ d=ρ d from rfl,hρ]at hv;generalize hx:a.tmps.getD d undef=v at hv;cases hv with
 |ab h1=>
  rename_i A;have hle:κ.le (κ.own (.slice A 0 0) size):=K.qI;have frn:(κ.own (.slice A 0 0) size).fr σ.length=some 0:=by show(if σ.length=κ.n then _ else _)=_;rw[if_pos hrep.n.symm]
  have svn:(κ.own (.slice A 0 0) size).sv σ.length= .slice A 0 0:=by show(if σ.length=κ.n then _ else _)=_;rw[if_pos hrep.n.symm]
  refine⟨κ.own (.slice A 0 0) size,hrep.own e size A,fun k=>?_,hR.size,hR.defers,K.le_trans hR.le hle⟩;show RV _ (Env.put ρ (some d) _ k) _;rw[th];by_cases hk:k=d
  ·subst hk;rw[if_pos rfl,hx];exact .aG (h1.mono hle.m) (by show _<κ.n+1;rw[hrep.n];exact zz _) frn (aA _) (fun _=>svn.symm) (by simp)
  ·rw[if_neg hk];exact(hR.env k).mono hle
theorem W.own{n0:Nat}{Q:St->Prop}{k:List It}{ρ:Env}(d e size:Nat)(hρ:ρ d= .ab [])(h:W P w0 n0 Q k ⟨ρ.put (some d) (.aG σ.length []),σ++[.spare e size 0]⟩):W P w0 n0 Q k ⟨ρ,σ⟩:=.fM (ao.own d e size hρ) h
end
section
variable {P:Program} {w0 w w':World} {κ:K} {σ:H}
theorem aC.xk(h:aC w0 κ σ w){b j:Nat}{cs:List V}{tg:Option TypeId}{y:V}(hb:σ[b]?=some (.cells cs tg))(hl:y.leaf=true)
  (hxy:∀vs t,w.heap[κ.pos b]?=some (.cells vs t (0,0))->∀(hj:j<cs.length),RV κ cs[j] (vs.getD j undef)->RV κ y (vs.getD j undef)):aC w0 κ (σ.set b (.cells (cs.set j y) tg)) w:=by
 obtain⟨hlt,hbe⟩:=aL.1 hb;have key:∀z (hz:z<σ.length) (hz':z<(σ.set b (.cells (cs.set j y) tg)).length) g,((σ.set b (.cells (cs.set j y) tg))[z]).be κ z=some g->(σ[z]).be κ z=some g:=fun z hz hz' g hg=>by
  by_cases hzb:z=b
  ·subst hzb;rw[gv]at hg;rw[hbe];exact hg
  ·rw[fE (fun e=>hzb e.symm)]at hg;exact hg
 refine⟨by rw[bF];exact h.n,h.ext,h.mem,fun c hc=>?_,fun x z hx hz g hne=>?_,fun l o hr=>⟨(h.rest l o hr).1,(h.rest l o hr).2.1,fun z hz' e=>(h.rest l o hr).2.2 z (by simpa using hz') (key z (by simpa using hz') hz' l e)⟩,h.dw⟩
 ·have hc':c<σ.length:=by simpa using hc
  have h1:=h.cD c hc';by_cases hcb:c=b
  ·subst hcb;rw[gv];rw[hbe]at h1;obtain⟨vs,t,k1,k2,k3⟩:=h1.row;refine⟨h1.fr,⟨vs,t,k1,by rw[bF];exact k2,fun i hi=>?_⟩,h1.own,h1.free,h1.ty⟩;have hi':i<cs.length:=by simpa using hi
   by_cases hij:j=i
   ·subst hij;rw[gv];exact⟨hl,hxy vs t k1 hi' (k3 j hi').2⟩
   ·rw[fE hij];exact k3 i hi'
  ·rw[fE (fun e=>hcb e.symm)];exact h1
 ·have hx':x<σ.length:=by simpa using hx
  have hz':z<σ.length:=by simpa using hz
  intro e1 e2;exact h.apart x z hx' hz' g hne (key x hx' hx g e1) (key z hz' hz g e2)
theorem ao.nf{n0:Nat}{ρ:Env}(b j e size:Nat){cs:List V}{tg:Option TypeId}(hb:σ[b]?=some (.cells cs tg))(hj:cs[j]?=some (.ab [])):
  ao n0 ⟨ρ,(σ++[ad.spare e size 0]).set b (.cells (cs.set j (.aG σ.length [])) tg)⟩ ⟨ρ,σ⟩:=fun w0 κ0 n κ a w hκ hR=>by
 have hrep:=hR.df;obtain⟨hlt,hbe⟩:=aL.1 hb;obtain⟨hjl,hje⟩:=aL.1 hj;have h1:=hrep.cD b hlt;rw[show(⟨ρ,σ⟩:St).σ[b]= .cells cs tg from hbe]at h1;obtain⟨vs,t,k1,k2,k3⟩:=h1.row;have hv:=(k3 j hjl).2;rw[hje]at hv;generalize hx:vs.getD j undef=v at hv;cases hv with
 |ab hc=>
  rename_i A;have hle:κ.le (κ.own (.slice A 0 0) size):=K.qI;have frn:(κ.own (.slice A 0 0) size).fr σ.length=some 0:=by show(if σ.length=κ.n then _ else _)=_;rw[if_pos hrep.n.symm]
  have svn:(κ.own (.slice A 0 0) size).sv σ.length= .slice A 0 0:=by show(if σ.length=κ.n then _ else _)=_;rw[if_pos hrep.n.symm]
  have hr2:=hrep.own e size A;have hpos:(κ.own (.slice A 0 0) size).pos b=κ.pos b:=(hle.cells b (by rw[hrep.n];exact hlt) h1.fr).2;refine⟨κ.own (.slice A 0 0) size,hr2.xk (b:=b) (j:=j) (cs:=cs) (tg:=tg) (y:=.aG σ.length []) ((cI hlt).trans hb) rfl (fun vs' t' k1' hj' hv'=>?_),fun k=>(hR.env k).mono hle,hR.size,hR.defers,K.le_trans hR.le hle⟩;rw[hpos,k1]at k1';injection k1' with k1';injection k1' with e1 e2;subst e1;rw[hx];exact .aG (hc.mono hle.m) (by show _<κ.n+1;rw[hrep.n];exact zz _) frn (aA _) (fun _=>svn.symm) (by simp)
theorem W.nf{n0:Nat}{Q:St->Prop}{k:List It}{ρ:Env}(b j e size:Nat){cs:List V}{tg:Option TypeId}(hb:σ[b]?=some (.cells cs tg))(hj:cs[j]?=some (.ab []))
 (h:W P w0 n0 Q k ⟨ρ,(σ++[ad.spare e size 0]).set b (.cells (cs.set j (.aG σ.length [])) tg)⟩):W P w0 n0 Q k ⟨ρ,σ⟩:=.fM (ao.nf b j e size hb hj) h
end
structure Z5 (σ:H) (b v:Nat):Prop where
 ne:b≠v
 lb:b<σ.length
 lv:v<σ.length
def rs(σ:H)(b v:Nat)(X Y:ad):H:=(σ.set b X).set v Y
section
variable {σ:H} {b v:Nat}
@[simp] theorem ng (X Y:ad):(rs σ b v X Y).length=σ.length:=by simp[rs]
theorem tx(X Y Z:ad):(rs σ b v X Y).set v Z=rs σ b v X Z:=by
 unfold rs;rw[List.set_set]
theorem tz(x:ad)(L:H)(X Y:ad):(rs σ b v X Y++x::L)[σ.length]?=some x:=by
 rw[cZ (by simp),ng,cq];rfl
theorem tA(k:Nat)(L:H)(X Y:ad):(rs σ b v X Y++L)[σ.length+k]?=L[k]?:=by
 rw[cZ (by simp),ng,ft]
theorem tB(x:ad)(L:H)(X Y:ad):(rs σ b v X Y++L).set σ.length x=rs σ b v X Y++L.set 0 x:=by
 rw[iL _ _ (by simp),ng,cq]
theorem tC(k:Nat)(x:ad)(L:H)(X Y:ad):(rs σ b v X Y++L).set (σ.length+k) x=rs σ b v X Y++L.set k x:=by
 rw[iL _ _ (by simp),ng,ft]
end
def xl(l:List aY):C:=.sl (l.map fun s=>[C.str s])
structure xn where
 k:Int
 names:List aY
 n:Int
 ty:aa
 op:eA
 body:ah
 pos:Int
def xn.v(s:xn):V:=.agg [I s.k,.c (xl s.names),I s.n,I s.ty.k,S s.ty.name,I s.ty.n,.c (aX s.ty.l),S s.op.name,I s.op.prec,I s.op.fix,I s.body.k,S s.body.name,I s.body.n,.c (.sl (s.body.l.map ah.cs)),I s.body.pos,I s.pos]
def rz(σ:H)(b:Nat)(X:ad):H:=σ.set b X
section
variable {σ:H} {b:Nat}
@[simp] theorem jD (X:ad):(rz σ b X).length=σ.length:=by simp[rz]
theorem Bd(D:b<σ.length)(L:H)(X:ad):rz (σ++L) b X=rz σ b X++L:=qq _ _ D
theorem Be(D:b<σ.length)(X:ad):(rz σ b X)[b]?=some X:=List.getElem?_set_self D
theorem QX(D:b<σ.length)(L:H)(X:ad):(rz σ b X++L)[b]?=some X:=by
 rw[cI (by simpa using D),Be D]
theorem xp(X Z:ad):(rz σ b X).set b Z=rz σ b Z:=by unfold rz;rw[List.set_set]
theorem QY(D:b<σ.length)(L:H)(X Z:ad):(rz σ b X++L).set b Z=rz σ b Z++L:=by
 rw[qq _ _ (by simpa using D),xp]
theorem Bf(x:ad)(L:H)(X:ad):(rz σ b X++x::L)[σ.length]?=some x:=by
 rw[cZ (by simp),jD,cq];rfl
theorem tD(k:Nat)(L:H)(X:ad):(rz σ b X++L)[σ.length+k]?=L[k]?:=by
 rw[cZ (by simp),jD,ft]
theorem Bg(x:ad)(L:H)(X:ad):(rz σ b X++L).set σ.length x=rz σ b X++L.set 0 x:=by
 rw[iL _ _ (by simp),jD,cq]
theorem Bh(k:Nat)(x:ad)(L:H)(X:ad):(rz σ b X++L).set (σ.length+k) x=rz σ b X++L.set k x:=by
 rw[iL _ _ (by simp),jD,ft]
theorem QZ(D:b<σ.length)(L:H):b<(σ++L).length:=by simp;omega
theorem GM(D:b<σ.length){X X':ad}(h:H.ok (rz σ b X))(hx:∀cs tg,X'= .cells cs tg->∀x∈cs,V.low σ.length x):H.ok (rz σ b X'):=by
 intro B hB cs tg hc x hxm;rw[jD];obtain⟨i,hi,rfl⟩:=List.getElem_of_mem hB;have hi':i<σ.length:=by simpa using hi
 have hg:(rz σ b X')[i]?=some (.cells cs tg):=by rw[aO hi,hc]
 by_cases hb:i=b
 ·subst hb;rw[Be D]at hg;injection hg with hg;exact hx cs tg hg x hxm
 ·have e:(rz σ b X)[i]?=some (.cells cs tg):=by
   rw[<-hg];unfold rz;rw[bX (fun e=>hb e.symm),bX (fun e=>hb e.symm)]
  have:=h (.cells cs tg) (List.mem_of_getElem? e) cs tg rfl x hxm;rwa [jD]at this
theorem dX(D:b<σ.length):(∀X:ad,(rz σ b X)[b]?=some X)/\(∀(L:H) (X:ad),(rz σ b X++L)[b]?=some X)/\(∀(L:H) (X Z:ad),(rz σ b X++L).set b Z=rz σ b Z++L)/\(∀(L:H) (X:ad),rz (σ++L) b X=rz σ b X++L):=⟨Be D,QX D,QY D,Bd D⟩
theorem DC.Bi{P:Program}{w0:World}{f:FuncId}{args:List V}{L:H}{X X':ad}{d:V}(D:b<σ.length)(h:b<(σ++L).length->DC P w0 f args (rz (σ++L) b X) (Same d (rz (σ++L) b X'))):DC P w0 f args (rz σ b X++L) (Same d (rz σ b X'++L)):=by rw[<-Bd D,<-Bd D];exact h (QZ D L)
end
section
variable {P:Program} {w0:World} {σ:H}
def Bj(r:List aw)(R:V->H->Prop)(s:St):Prop:=∃vs d,bA s r=some vs/\V.wk (al vs) d/\R d s.σ
theorem DC.Q0{f:FuncId}{fn:Func}{x:AC}{r:List aw}{args:List V}{R:V->H->Prop}(hm:P.follows .mixedOrders=true)(hf:P.funcs[f]?=some fn)(hb:fn.body=some (fn.body.getD .skip))(ag:tr P fn.ntmps (fn.body.getD .skip)=some x)
  (cF:jz P fn.results.toList=some r) (hargs:args.length<=fn.ntmps) (hen:Enters P f) (hW:H.ok σ->(∀x∈args,V.Sz x)->W P w0 σ.length (Bj r R) [.code x] ⟨iz args,σ⟩):DC P w0 f args σ R:=by
 refine⟨hen,fun κ w vs hrep hfit=>?_⟩;refine calls_of_wp hf hb ?_;have hR:Rel w0 κ fn.ntmps κ ⟨iz args,σ⟩ {tmps:=vs.toArray++Array.replicate (fn.ntmps-vs.toArray.size) undef,defers:=[]} w:=
  ⟨hrep,AD hfit _,by simp[hfit.1];omega,rfl,K.le_refl κ⟩
 have hfin:∀s κ' a w,Rel w0 κ fn.ntmps κ' s a w->Bj r R s->a.defers=[]/\∃v,(results fn a.tmps).run P w= .ok v w/\∃v' d σ' κ'',Ending.returned v= .returned v'/\R d σ'/\κ.le κ''/\aC w0 κ'' σ' w/\RV κ'' d v':=by
  rintro s κ' a w hR' ⟨vs,d,h1,h2,h3⟩;obtain⟨v,k1,k2⟩:=AB hR' cF h1;exact⟨hR'.defers,v,k1,v,d,s.σ,κ',rfl,h3,hR'.le,hR'.df,k2.wk h2⟩
 refine wp_mono (lP (n0:=σ.length) hrep.n hm (fn.body.getD .skip) x ag (hW hrep.ok hfit.sz) hR) ?_;rintro e a w' ⟨s,κ',hR',hs⟩;cases e with
 |normal=>
  obtain⟨t,hl,hq⟩:=W.Ar hs;obtain⟨κ2,hR2⟩:=hl w0 κ fn.ntmps κ' a w' hrep.n hR';exact hfin t κ2 a w' hR2 hq
 |ret=>exact hfin s κ' a w' hR' hs
 |exit id=>obtain⟨k',hp,_⟩:=hs;cases hp
 |goto l=>exact hs.elim
 |panic ch=>exact hs.elim
 |outgrown=>exact hs.elim
theorem aB.dL{f:FuncId}{n:Nat}{fn:Func}{x:AC}{r:List aw}(K:aB P f n fn x r){args:List V}{R:V->H->Prop}(ha:args.length=n)(h:H.ok σ->(∀x∈args,V.Sz x)->W P w0 σ.length (Bj r R) [.code x] ⟨iz args,σ⟩):DC P w0 f args σ R:=
 DC.Q0 K.hm K.hf K.hb K.ag K.cF (by rw[ha];exact K.hn) K.en h
end
section
variable {α:Type} (g:α->Int->aa×α)
mutual
def cJ:α->aa->aa×α
 |s,.mk k nm n l=>if k=1 then g s n else(.mk (if k=2/\l.length=2 then 2 else 0) (if k=2/\l.length=2 then[]else nm) 0 (bY s l).1,(bY s l).2)
def bY:α->List aa->List aa×α
 |s,[]=>([],s)
 |s,x::l=>((cJ s x).1::(bY (cJ s x).2 l).1,(bY (cJ s x).2 l).2)
end
theorem pt(s:α)(p:aa):cJ g s p=if p.k=1 then g s p.n else(.mk (if dD p=true then 2 else 0) (if dD p=true then[]else p.name) 0 (bY g s p.l).1,(bY g s p.l).2):=by
 cases p;rw[cJ];simp only[aa.k,aa.l,aa.name,aa.n,dD,bG,beq_iff_eq]
theorem GN:∀(l r:List aa) (s:α),bY g s (l++r)=((bY g s l).1++(bY g (bY g s l).2 r).1,(bY g (bY g s l).2 r).2)
 |[],r,s=>by simp[bY]
 |x::l,r,s=>by rw[iM,bY,bY,GN l r];rfl
theorem tE:∀(l:List aa) (s:α),(bY g s l).1.length=l.length
 |[],s=>by simp[bY]
 |x::l,s=>by rw[bY,bk,bk,tE l]
theorem GO(s:α){l:List aa}{i:Nat}(h:i<l.length):bY g s (l.take (i+1))=((bY g s (l.take i)).1++[(cJ g (bY g s (l.take i)).2 l[i]).1],(cJ g (bY g s (l.take i)).2 l[i]).2):=by
 rw[List.take_succ_eq_append_getElem h,GN,bY,bY]
end
def me(Q1:Int):Unit->Int->aa×Unit:=fun _ v=>(.var (aN.wrap (v+Q1)),())
def nh(vs:List Int)(v:Int):Nat:=(vs.findIdx? (·==v)).getD vs.length
def aI(vs:List Int)(v:Int):List Int:=if(vs.findIdx? (·==v)).isSome then vs else vs++[v]
def dq:List Int->Int->aa×List Int:=fun vs v=>(.var (nh vs v),aI vs v)
def cK(p:aa):aa:=(cJ dq [] p).1
theorem GP(vs:List Int)(v:Int):(aI vs v).length<=vs.length+1/\vs.length<=(aI vs v).length:=by
 unfold aI;split<;>simp
theorem GQ(vs:List Int)(v:Int):(nh vs v=vs.length/\aI vs v=vs++[v]/\∀j (hj:j<vs.length),(vs[j]==v)=false)\/(∃hk:nh vs v<vs.length,aI vs v=vs/\vs[nh vs v]=v/\∀j (hj:j<vs.length),j<nh vs v->(vs[j]==v)=false):=by
 unfold nh aI;cases h:vs.findIdx? (·==v)with
 |none=>
  left;rw[List.findIdx?_eq_none_iff]at h;exact⟨rfl,rfl,fun j hj=>h _ (bt hj)⟩
 |some k=>
  right;obtain⟨hk,h1,h2⟩:=List.findIdx?_eq_some_iff_getElem.1 h;exact⟨hk,rfl,by simpa using h1,fun j hj hjk=>by simpa using h2 j hjk⟩
structure eC where
 name:aY
 n:Int
structure az where
 name:aY
 ty:aa
structure Sg where
 kinds:List eC
 types:List az
 ops:List eA
def eC.cs(x:eC):List C:=[.str x.name,.int .i64 x.n]
def eC.v(x:eC):V:=.agg [S x.name,I x.n]
def az.cs(x:az):List C:=[.str x.name,.int .i64 x.ty.k,.str x.ty.name,.int .i64 x.ty.n,aX x.ty.l]
def az.v(x:az):V:=.agg [S x.name,I x.ty.k,S x.ty.name,I x.ty.n,.c (aX x.ty.l)]
def az.none:az:=⟨[],.none⟩
def kZ(l:List eC):C:=.sl (l.map eC.cs)
def gg(l:List az):C:=.sl (l.map az.cs)
def Sg.v(s:Sg):V:=.agg [.c (kZ s.kinds),.c (gg s.types),.c (oe s.ops)]
def qY(l:List az)(name:aY):Option az:=l.find? (·.name==name)
noncomputable section
def eqStr:List UInt8->List UInt8->Bool
 |[],[]=>true
 |a::l,b::r=>bif ca a.toNat b.toNat then eqStr l r else false
 |_,_=>false
theorem GR:∀{a b:List UInt8},eqStr a b=true->a=b
 |[],[],_=>rfl
 |x::l,y::r,h=>by
  simp only[eqStr,cond_eq_ite]at h;split at h
  ·rename_i hx;have h1:x=y:=UInt8.toNat_inj.1 (fu hx);rw[h1,GR h]
  ·cases h
 |[],_::_,h=>by cases h
 |_::_,[],h=>by cases h
def Bk:Int->Int->Bool
 | .ofNat a,.ofNat b=>ca a b
 | .negSucc a,.negSucc b=>ca a b
 |_,_=>false
theorem Q2{a b:Int}(h:Bk a b=true):a=b:=by
 cases a<;>cases b<;>simp only[Bk]at h
 ·rw[fu h]
 ·cases h
 ·cases h
 ·rw[fu h]
mutual
def jE:C->C->Bool
 | .bool a,.bool b=>a==b
 | .int k a,.int q b=>decide (k=q)&&Bk a b
 | .str a,.str b=>eqStr a b
 | .sl a,.sl b=>la a b
 | .ey,.ey=>true
 | .ref a n,.ref b m=>pw a b&&ca n m
 | .iO,.iO=>true
 | .err,.err=>true
 |_,_=>false
def pw:List C->List C->Bool
 |[],[]=>true
 |a::l,b::r=>jE a b&&pw l r
 |_,_=>false
def la:List (List C)->List (List C)->Bool
 |[],[]=>true
 |a::l,b::r=>pw a b&&la l r
 |_,_=>false
end
mutual
theorem xq:∀{a b:C},jE a b=true->a=b
 | .bool a,b,h=>by cases b<;>simp[jE]at h;rw[h]
 | .int k a,b,h=>by
   cases b<;>simp[jE]at h;rw[h.1,Q2 h.2]
 | .str a,b,h=>by cases b<;>simp[jE]at h;rw[GR h]
 | .sl a,b,h=>by cases b<;>simp[jE]at h;rw[qZ h]
 | .ey,b,h=>by cases b<;>simp[jE]at h;rfl
 | .ref a n,b,h=>by
   cases b<;>simp[jE]at h;rw[xr h.1,h.2]
 | .iO,b,h=>by cases b<;>simp[jE]at h;rfl
 | .err,b,h=>by cases b<;>simp[jE]at h;rfl
theorem xr:∀{a b:List C},pw a b=true->a=b
 |[],b,h=>by cases b<;>simp[pw]at h;rfl
 |x::l,b,h=>by
  cases b<;>simp[pw]at h;rw[xq h.1,xr h.2]
theorem qZ:∀{a b:List (List C)},la a b=true->a=b
 |[],b,h=>by cases b<;>simp[la]at h;rfl
 |x::l,b,h=>by
  cases b<;>simp[la]at h;rw[xr h.1,qZ h.2]
end
mutual
def gh:V->V->Bool
 | .void,.void=>true
 | .any,.any=>true
 | .c a,.c b=>jE a b
 | .ptr a n,.ptr b m=>ca a b&&ca n m
 | .aG a r,.aG b q=>ca a b&&la r q
 | .ab r,.ab q=>la r q
 | .fn f a,.fn g b=>ca f g&&mf a b
 | .cg,.cg=>true
 | .mp a,.mp b=>ca a b
 | .cC,.cC=>true
 | .vec a k,.vec b m=>ca a b&&ca k m
 | .agg a,.agg b=>mf a b
 | .ay a,.ay b=>mf a b
 |_,_=>false
def mf:List V->List V->Bool
 |[],[]=>true
 |a::l,b::r=>gh a b&&mf l r
 |_,_=>false
end
mutual
theorem xt:∀{a b:V},gh a b=true->a=b
 | .void,b,h=>by cases b<;>simp[gh]at h;rfl
 | .any,b,h=>by cases b<;>simp[gh]at h;rfl
 | .c a,b,h=>by cases b<;>simp[gh]at h;rw[xq h]
 | .ptr a n,b,h=>by cases b<;>simp[gh]at h;rw[h.1,h.2]
 | .aG a r,b,h=>by cases b<;>simp[gh]at h;rw[h.1,qZ h.2]
 | .ab r,b,h=>by cases b<;>simp[gh]at h;rw[qZ h]
 | .fn f a,b,h=>by
   cases b<;>simp[gh]at h;rw[h.1,re h.2]
 | .cg,b,h=>by cases b<;>simp[gh]at h;rfl
 | .mp a,b,h=>by cases b<;>simp[gh]at h;rw[h]
 | .cC,b,h=>by cases b<;>simp[gh]at h;rfl
 | .vec a k,b,h=>by cases b<;>simp[gh]at h;rw[h.1,h.2]
 | .agg a,b,h=>by cases b<;>simp[gh]at h;rw[re h]
 | .ay a,b,h=>by cases b<;>simp[gh]at h;rw[re h]
theorem re:∀{a b:List V},mf a b=true->a=b
 |[],b,h=>by cases b<;>simp[mf]at h;rfl
 |x::l,b,h=>by
  cases b<;>simp[mf]at h;rw[xt h.1,re h.2]
end
def Bl:Option TypeId->Option TypeId->Bool
 |none,none=>true
 |some a,some b=>ca a b
 |_,_=>false
theorem Q3{a b:Option TypeId}(h:Bl a b=true):a=b:=by
 cases a<;>cases b<;>simp only[Bl]at h
 ·rfl
 ·cases h
 ·cases h
 ·rw[fu h]
def xu:List (C×C)->List (C×C)->Bool
 |[],[]=>true
 |(a,x)::l,(b,y)::r=>jE a b&&(jE x y&&xu l r)
 |_,_=>false
theorem GS:∀{a b:List (C×C)},xu a b=true->a=b
 |[],[],_=>rfl
 |(x,u)::l,(y,v)::r,h=>by
  simp only[xu,bG]at h;rw[xq h.1,xq h.2.1,GS h.2.2]
 |[],_::_,h=>by cases h
 |_::_,[],h=>by cases h
def Bm:ad->ad->Bool
 | .cells a t,.cells b u=>mf a b&&Bl t u
 | .spare a s n,.spare b t m=>ca a b&&(ca s t&&ca n m)
 | .mp a,.mp b=>xu a b
 | .vec e s a,.vec f t b=>ca e f&&(ca s t&&pw a b)
 | .gone,.gone=>true
 |_,_=>false
theorem Q4{a b:ad}(h:Bm a b=true):a=b:=by
 cases a<;>cases b<;>simp only[Bm,bG]at h<;>first|(cases h;done)|skip
 ·rw[re h.1,Q3 h.2]
 ·rw[fu h.1,fu h.2.1,fu h.2.2]
 ·rw[GS h]
 ·rw[fu h.1,fu h.2.1,xr h.2.2]
 ·rfl
def kb:H->H->Bool
 |[],[]=>true
 |a::l,b::r=>Bm a b&&kb l r
 |_,_=>false
theorem px:∀{a b:H},kb a b=true->a=b
 |[],[],_=>rfl
 |x::l,y::r,h=>by
  simp only[kb,bG]at h;rw[Q4 h.1,px h.2]
 |[],_::_,h=>by cases h
 |_::_,[],h=>by cases h
section
variable {α β:Type}
def fN(n:Nat)(k:Nat->α):α:=match n with
 |0=>k 0
 |m+1=>k (Nat.succ m)
theorem xv(n:Nat)(k:Nat->α):fN n k=k n:=by cases n<;>rfl
def fI(i:Int)(k:Int->α):α:=match i with
 | .ofNat n=>fN n fun n=>k (.ofNat n)
 | .negSucc n=>fN n fun n=>k (.negSucc n)
theorem GU(i:Int)(k:Int->α):fI i k=k i:=by cases i<;>simp only[fI,xv]
def fB(b:Bool)(k:Bool->α):α:=match b with
 |true=>k true
 |false=>k false
theorem ni(b:Bool)(k:Bool->α):fB b k=k b:=by cases b<;>rfl
def fL(f:β->(β->α)->α)(l:List β):(List β->α)->α:=List.rec (motive:=fun _=>(List β->α)->α) (fun k=>k []) (fun a _ ih k=>f a fun a=>ih fun l=>k (a::l)) l
theorem Q5(f:β->(β->α)->α)(a:β)(l:List β)(k:List β->α):fL f (a::l) k=f a fun a=>fL f l fun l=>k (a::l):=rfl
theorem ke{f:β->(β->α)->α}(hf:∀a k,f a k=k a):∀(l:List β) (k:List β->α),fL f l k=k l
 |[],k=>rfl
 |a::l,k=>by simp only[Q5,hf,ke hf l]
def fC(x:C)(k:C->α):α:=match x with
 | .bool b=>fB b fun b=>k (.bool b)
 | .int q n=>fI n fun n=>k (.int q n)
 |x=>k x
theorem tF(x:C)(k:C->α):fC x k=k x:=by cases x<;>simp only[fC,ni,GU]
def fR(l:List (List C))(k:List (List C)->α):α:=fL (fL fC) l k
theorem GV(l:List (List C))(k:List (List C)->α):fR l k=k l:=ke (fun a k=>ke tF a k) l k
def Bn(x:C)(k:C->α):α:=match x with
 | .bool b=>fB b fun b=>k (.bool b)
 | .int q n=>fI n fun n=>k (.int q n)
 | .str l=>fL (fun a k=>k a) l fun l=>k (.str l)
 | .sl r=>fR r fun r=>k (.sl r)
 | .ref cs o=>fL fC cs fun cs=>fN o fun o=>k (.ref cs o)
 |x=>k x
theorem Q6(x:C)(k:C->α):Bn x k=k x:=by
 cases x<;>simp only[Bn,ni,GU,GV,xv]
 ·exact ke (fun _ _=>rfl) _ _
 ·rw[ke tF]
def nj(x:V)(k:V->α):α:=match x with
 | .void=>k .void
 | .any=>k .any
 | .c x=>fC x fun x=>k (.c x)
 | .ptr b o=>k (.ptr b o)
 | .aG b r=>k (.aG b r)
 | .ab r=>k (.ab r)
 | .fn f l=>k (.fn f l)
 | .cg=>k .cg
 | .mp b=>k (.mp b)
 | .cC=>k .cC
 | .vec b n=>k (.vec b n)
 | .agg l=>k (.agg l)
 | .ay l=>k (.ay l)
theorem xw(x:V)(k:V->α):nj x k=k x:=by cases x<;>simp only[nj,tF]
def nk(x:V)(k:V->α):α:=match x with
 | .c x=>Bn x fun x=>k (.c x)
 | .ptr b o=>fN b fun b=>fN o fun o=>k (.ptr b o)
 | .aG b r=>fN b fun b=>fR r fun r=>k (.aG b r)
 | .ab r=>fR r fun r=>k (.ab r)
 | .fn f l=>fN f fun f=>fL nj l fun l=>k (.fn f l)
 | .mp b=>fN b fun b=>k (.mp b)
 | .vec b n=>fN b fun b=>fN n fun n=>k (.vec b n)
 | .agg l=>fL nj l fun l=>k (.agg l)
 | .ay l=>fL nj l fun l=>k (.ay l)
 |x=>k x
theorem py(x:V)(k:V->α):nk x k=k x:=by cases x<;>simp only[nk,Q6,xv,GV,ke xw]
def rf(x:V)(k:V->α):α:=match x with
 | .ay l=>fL nk l fun l=>k (.ay l)
 |x=>nk x k
theorem GW(x:V)(k:V->α):rf x k=k x:=by cases x<;>simp only[rf,py,ke py]
def xx(x:ad)(k:ad->α):α:=match x with
 | .cells cs tg=>fL nj cs fun cs=>k (.cells cs tg)
 | .spare e s n=>fN n fun n=>k (.spare e s n)
 | .mp kvs=>fL (fun p k=>fC p.1 fun a=>fC p.2 fun b=>k (a,b)) kvs fun kvs=>k (.mp kvs)
 | .vec e s cs=>fL fC cs fun cs=>k (.vec e s cs)
 | .gone=>k .gone
theorem GX(x:ad)(k:ad->α):xx x k=k x:=by
 cases x<;>simp only[xx,xv,ke xw,ke tF];exact ke (fun p k=>by simp only[tF]) _ _
def fH(σ:H)(k:H->α):α:=fL xx σ k
theorem xy(σ:H)(k:H->α):fH σ k=k σ:=ke GX σ k
def fS(σ:H)(k:H->α):α:=fL (fun x k=>k x) σ k
theorem Q7(σ:H)(k:H->α):fS σ k=k σ:=ke (fun _ _=>rfl) σ k
def GY(σ:H):Nat->(H->α)->α:=List.rec (motive:=fun _=>Nat->(H->α)->α) (fun _ k=>k []) (fun x l ih i k=>Nat.rec (motive:=fun _=>α) (xx x fun x=>k (x::l)) (fun i _=>ih i fun l=>k (x::l)) i) σ
theorem GZ:∀(σ:H) (i:Nat) (k:H->α),GY σ i k=k σ
 |[],_,_=>rfl
 |x::l,0,k=>GX x fun x=>k (x::l)
 |x::l,i+1,k=>GZ l i fun l=>k (x::l)
end
inductive TR where
 |e
 |n (v:V) (l r:TR)
def TR.get(t:TR):Nat->V:=TR.rec (motive:=fun _=>Nat->V) (fun _=>.void) (fun v _ _ gl gr i=>Nat.rec (motive:=fun _=>V) v (fun i _=>zI (motive:=fun _=>V) (gr (Nat.div i 2)) (gl (Nat.div i 2)) (ca (Nat.mod i 2) 0)) i) t
section
variable {α:Type}
def TR.ot(t:TR):Nat->V->(TR->Option α)->Option α:=TR.rec (motive:=fun _=>Nat->V->(TR->Option α)->Option α) (fun _ _ _=>none)
 (fun u l r pl pr i v k=>Nat.rec (motive:=fun _=>Option α) (k (.n v l r)) (fun i _=>zI (motive:=fun _=>Option α) (pr (Nat.div i 2) v fun r=>k (.n u l r)) (pl (Nat.div i 2) v fun l=>k (.n u l r)) (ca (Nat.mod i 2) 0)) i) t
end
theorem TR.pz(v:V)(l r:TR)(i:Nat)(h:i%2=0):(TR.n v l r).get (i+1)=l.get (i/2):=by
 show zI (motive:=fun _=>V) _ _ (ca (i%2) 0)=_;rw[h];rfl
theorem TR.pA(v:V)(l r:TR)(i:Nat)(h:i%2=1):(TR.n v l r).get (i+1)=r.get (i/2):=by
 show zI (motive:=fun _=>V) _ _ (ca (i%2) 0)=_;rw[h];rfl
theorem TR.xz{α:Type}{b:α}:∀{t:TR} {i:Nat} {v:V} {k:TR->Option α},t.ot i v k=some b->∃t',k t'=some b/\∀j,t'.get j=if j=i then v else t.get j
 | .e,_,_,_,h=>by cases h
 | .n u l r,i,v,k,h=>by
   cases i with
   |zero=>
    refine⟨.n v l r,h,fun j=>?_⟩;cases j with
    |zero=>rfl
    |succ j=>rfl
   |succ i=>
    have h':zI (motive:=fun _=>Option α) (r.ot (i/2) v (fun r=>k (.n u l r))) (l.ot (i/2) v (fun l=>k (.n u l r))) (ca (i%2) 0)=some b:=h;rcases zJ i with hi|hi
    ·rw[hi]at h';obtain⟨l',h1,h2⟩:=TR.xz (t:=l) (show l.ot (i/2) v (fun l=>k (.n u l r))=some b from h');refine⟨.n u l' r,h1,fun j=>?_⟩;cases j with
     |zero=>rfl
     |succ j=>
      rcases zJ j with hj|hj
      ·rw[TR.pz _ _ _ _ hj,TR.pz _ _ _ _ hj,h2];have:(j/2=i/2)↔(j+1=i+1):=by omega
       simp only[this]
      ·rw[TR.pA _ _ _ _ hj,TR.pA _ _ _ _ hj,if_neg (by omega)]
    ·rw[hi]at h';obtain⟨r',h1,h2⟩:=TR.xz (t:=r) (show r.ot (i/2) v (fun r=>k (.n u l r))=some b from h');refine⟨.n u l r',h1,fun j=>?_⟩;cases j with
     |zero=>rfl
     |succ j=>
      rcases zJ j with hj|hj
      ·rw[TR.pz _ _ _ _ hj,TR.pz _ _ _ _ hj,if_neg (by omega)]
      ·rw[TR.pA _ _ _ _ hj,TR.pA _ _ _ _ hj,h2];have:(j/2=i/2)↔(j+1=i+1):=by omega
       simp only[this]
def TR.full:Nat->TR
 |0=>.e
 |d+1=>.n .void (TR.full d) (TR.full d)
theorem TR.Bo:∀(d i:Nat),(TR.full d).get i= .void
 |0,_=>rfl
 |d+1,0=>rfl
 |d+1,i+1=>by
  rcases zJ i with hi|hi
  ·rw[TR.full,TR.pz _ _ _ _ hi,TR.Bo d]
  ·rw[TR.full,TR.pA _ _ _ _ hi,TR.Bo d]
end
end Go.Lamb
namespace Go.Lamb
open Go Go.RowKit
inductive V.cl (ι:Nat->Nat) (m:Nat):V->V->Prop where
 |void:V.cl ι m .void .void
 |any:V.cl ι m .any .any
 |c (x:C):V.cl ι m (.c x) (.c x)
 |ptr {j o:Nat} (h:j<m):V.cl ι m (.ptr (ι j) o) (.ptr j o)
 |aG {j:Nat} {r:List (List C)} (h:j<m):V.cl ι m (.aG (ι j) r) (.aG j r)
 |ab (r:List (List C)):V.cl ι m (.ab r) (.ab r)
 |fn {f:FuncId} {a b:List V} (hl:b.length=a.length) (h:∀k (hk:k<a.length) (hk':k<b.length),V.cl ι m a[k] b[k]):V.cl ι m (.fn f a) (.fn f b)
 |cg:V.cl ι m .cg .cg
 |mp {j:Nat} (h:j<m):V.cl ι m (.mp (ι j)) (.mp j)
 |cC:V.cl ι m .cC .cC
 |vec {j k:Nat} (h:j<m):V.cl ι m (.vec (ι j) k) (.vec j k)
 |agg {a b:List V} (hl:b.length=a.length) (h:∀k (hk:k<a.length) (hk':k<b.length),V.cl ι m a[k] b[k]):V.cl ι m (.agg a) (.agg b)
 |ay {a b:List V} (hl:b.length=a.length) (h:∀k (hk:k<a.length) (hk':k<b.length),V.cl ι m a[k] b[k]):V.cl ι m (.ay a) (.ay b)
inductive ad.cl (ι:Nat->Nat) (m:Nat):ad->ad->Prop where
 |cells {a b:List V} {tg:Option TypeId} (hl:b.length=a.length) (h:∀k (hk:k<a.length) (hk':k<b.length),V.cl ι m a[k] b[k]):ad.cl ι m (.cells a tg) (.cells b tg)
 |spare (e s n:Nat):ad.cl ι m (.spare e s n) (.spare e s n)
 |mp (l:List (C×C)):ad.cl ι m (.mp l) (.mp l)
 |vec (e s:Nat) (cs:List C):ad.cl ι m (.vec e s cs) (.vec e s cs)
 |gone:ad.cl ι m .gone .gone
def K.pack(κ:K)(ι:Nat->Nat)(m:Nat):K:={κ with n:=m,pos:=fun j=>κ.pos (ι j),fr:=fun j=>κ.fr (ι j),sv:=fun j=>κ.sv (ι j),sz:=fun j=>κ.sz (ι j)}
section
variable {w0 w:World} {κ:K} {σ τ:H} {ι:Nat->Nat} {m:Nat}
theorem RV.pack{x y:V}{v:Value}(h:V.cl ι m x y)(r:RV κ x v):RV (κ.pack ι m) y v:=by
 induction h generalizing v with
 |void=>cases r;exact .void
 |any=>exact .any v
 |c x=>cases r with|c h=>exact .c h
 |ptr hj=>cases r with|ptr h h1=>exact RV.ptr (κ:=κ.pack ι m) hj h1
 |aG hj=>cases r with|aG h h1 h2 h3 h4 h5=>exact RV.aG (κ:=κ.pack ι m) h hj h2 h3 h4 h5
 |ab r'=>cases r with|ab h=>exact .ab h
 |fn hl h ih=>cases r with|fn k k1=>exact .fn (by omega) fun j hj=>ih j (by omega) hj (k1 j (by omega))
 |cg=>cases r;exact .cg
 |mp hj=>cases r with|mp h h1=>exact RV.mp (κ:=κ.pack ι m) hj h1
 |cC=>cases r;exact .cC
 |vec hj=>cases r with|vec h h1 h2 h3 h4 h5=>exact RV.vec (κ:=κ.pack ι m) hj h1 h2 h3 h4 h5
 |agg hl h ih=>cases r with|agg k k1=>exact .agg (by omega) fun j hj=>ih j (by omega) hj (k1 j (by omega))
 |ay hl h ih=>cases r with|ay k k1=>exact .ay (by omega) fun j hj=>ih j (by omega) hj (k1 j (by omega))
theorem V.Q8{x y:V}(h:V.cl ι m x y):y.leaf=x.leaf:=by cases h<;>rfl
theorem ad.Bp{a b:ad}(h:ad.cl ι m a b)(j:Nat):b.be (κ.pack ι m) j=a.be κ (ι j):=by cases h<;>rfl
theorem aC.pack(h:aC w0 κ σ w)(hlt:∀j,j<m->ι j<σ.length)(inj:∀i j,i<m->j<m->ι i=ι j->i=j)(hτ:τ.length=m)(hb:∀j (hj:j<m) (hj':j<τ.length) (hι:ι j<σ.length),ad.cl ι m σ[ι j] τ[j]):aC w0 (κ.pack ι m) τ w:=by
 refine⟨hτ.symm,h.ext,h.mem,fun j hj=>?_,fun i j hi hj g hne=>?_,fun l o hr=>⟨(h.rest l o hr).1,(h.rest l o hr).2.1,fun j hj=>?_⟩,h.dw⟩
 ·have hjm:j<m:=by omega
  have hι:=hlt j hjm;have h1:=h.cD (ι j) hι;have h2:=hb j hjm hj hι;generalize σ[ι j]=X at h1 h2;generalize τ[j]=Y at h2⊢;cases h2 with
  |cells hl hc=>
   obtain⟨vs,t,k1,k2,k3⟩:=h1.row;refine⟨h1.fr,⟨vs,t,k1,by omega,fun k hk=>?_⟩,h1.own,h1.free,h1.ty⟩;have hka:=hc k (by omega) hk;have:=k3 k (by omega);exact⟨(V.Q8 hka).trans this.1,this.2.pack hka⟩
  |spare e s n=>exact⟨h1.fr,h1.sz,h1.row,h1.free⟩
  |mp l=>exact⟨h1.fr,h1.row,h1.own,h1.free⟩
  |vec e s cs=>exact⟨h1.fr,h1.row,h1.own,h1.free⟩
  |gone=>trivial
 ·have him:i<m:=by omega
  have hjm:j<m:=by omega
  rw[ad.Bp (hb i him hi (hlt i him)),ad.Bp (hb j hjm hj (hlt j hjm))];exact h.apart _ _ (hlt i him) (hlt j hjm) g (fun e=>hne (inj i j him hjm e))
 ·have hjm:j<m:=by omega
  rw[ad.Bp (hb j hjm hj (hlt j hjm))];exact(h.rest l o hr).2.2 _ (hlt j hjm)
theorem K.xA{κ0:K}(h:κ0.le κ)(hid:∀b,b<κ0.n->ι b=b)(hn:κ0.n<=m):κ0.le (κ.pack ι m):=by
 refine⟨h.m,hn,fun b hb hf=>?_,fun b f hb hf=>?_,fun b hb hf=>?_,h.rest,h.dw⟩
 ·show κ.fr (ι b)=none/\κ.pos (ι b)=_;rw[hid b hb];exact h.cells b hb hf
 ·show∃f',κ.fr (ι b)=some f'/\f<=f'/\(f'=f->κ.sv (ι b)=_)/\κ.sz (ι b)=_;rw[hid b hb];exact h.spare b f hb hf
 ·show κ.sv (ι b)=_;rw[hid b hb];exact h.sI b hb hf
theorem DC.pack{P:Program}{f:FuncId}{args:List V}{d d':V}{σ1:H}(hd:DC P w0 f args σ (Same d σ1))(hid:∀b,b<σ.length->ι b=b)(hn:σ.length<=m)(hlt:∀j,j<m->ι j<σ1.length)(inj:∀i j,i<m->j<m->ι i=ι j->i=j)(hτ:τ.length=m)
  (hb:∀j (hj:j<m) (hj':j<τ.length) (hι:ι j<σ1.length),ad.cl ι m σ1[ι j] τ[j]) (hv:V.cl ι m d d'):DC P w0 f args σ (Same d' τ):=by
 refine⟨hd.enters,fun κ w vs hrep hfit=>(hd.run κ w vs hrep hfit).mono ?_⟩;rintro e w' ⟨v,d0,σ0,κ',rfl,⟨rfl,rfl⟩,h3,h4,h5⟩;exact⟨v,d',τ,κ'.pack ι m,rfl,⟨rfl,rfl⟩,K.xA h3 (fun b hb=>hid b (by rw[<-hrep.n];exact hb)) (by rw[hrep.n];exact hn),h4.pack hlt inj hτ hb,h5.pack hv⟩
end
def posOf(b:Nat):Nat->List Nat->Option Nat
 |_,[]=>none
 |i,a::l=>cond (ca a b) (some i) (posOf b (i+1) l)
theorem G0{b:Nat}:∀{l:List Nat} {i k:Nat},posOf b i l=some k->i<=k/\∃h:k-i<l.length,l[k-i]=b
 |[],_,_,h=>by cases h
 |a::l,i,k,h=>by
  unfold posOf at h;cases hc:ca a b with
  |true=>
   rw[hc]at h;injection h with h;subst h;have:=fu hc;exact⟨aA _,by simp,by simpa using this⟩
  |false=>
   rw[hc]at h;obtain⟨h1,h2,h3⟩:=G0 (l:=l) h;refine⟨by omega,by simp;omega,?_⟩;have e:k-i=(k-(i+1))+1:=by omega
   simp only[e,oS];exact h3
def rh(n0:Nat)(js:List Nat)(b:Nat):Option Nat:=cond (lG b n0) (some b) (posOf b n0 js)
def iC(n0:Nat)(js:List Nat)(j:Nat):Nat:=if j<n0 then j else js.getD (j-n0) 0
theorem Q9{n0 b k:Nat}{js:List Nat}(h:rh n0 js b=some k):k<n0+js.length/\iC n0 js k=b:=by
 unfold rh at h;cases hc:lG b n0 with
 |true=>
  rw[hc]at h;injection h with h;subst h;have:b<n0:=eJ hc;exact⟨by omega,by unfold iC;rw[if_pos this]⟩
 |false=>
  rw[hc]at h;obtain⟨h1,h2,h3⟩:=G0 h;refine⟨by omega,?_⟩;unfold iC;rw[if_neg (by omega)];simp[lA,h2,h3]
def tG(n0:Nat)(js:List Nat):V->Option V
 | .void=>some .void
 | .any=>some .any
 | .c x=>some (.c x)
 | .ab r=>some (.ab r)
 | .cg=>some .cg
 | .cC=>some .cC
 | .ptr b o=>match rh n0 js b with
   |some k=>some (.ptr k o)
   |none=>none
 | .aG b r=>match rh n0 js b with
   |some k=>some (.aG k r)
   |none=>none
 | .mp b=>match rh n0 js b with
   |some k=>some (.mp k)
   |none=>none
 | .vec b n=>match rh n0 js b with
   |some k=>some (.vec k n)
   |none=>none
 |_=>none
def pB(g:V->Option V):List V->Option (List V)
 |[]=>some []
 |x::l=>match g x with
  |none=>none
  |some y=>match pB g l with
   |none=>none
   |some r=>some (y::r)
def tH(n0:Nat)(js:List Nat):V->Option V
 | .fn f caps=>match pB (tG n0 js) caps with
   |some l=>some (.fn f l)
   |none=>none
 | .agg vs=>match pB (tG n0 js) vs with
   |some l=>some (.agg l)
   |none=>none
 |x=>tG n0 js x
def Bq(n0:Nat)(js:List Nat):V->Option V
 | .ay vs=>match pB (tH n0 js) vs with
   |some l=>some (.ay l)
   |none=>none
 |x=>tH n0 js x
def Br(n0:Nat)(js:List Nat):ad->Option ad
 | .cells cs tg=>match pB (tH n0 js) cs with
   |some l=>some (.cells l tg)
   |none=>none
 | .spare e s n=>some (.spare e s n)
 | .mp l=>some (.mp l)
 | .vec e s cs=>some (.vec e s cs)
 | .gone=>some .gone
section
variable {n0:Nat} {js:List Nat}
theorem Bt{x y:V}(h:tG n0 js x=some y):V.cl (iC n0 js) (n0+js.length) x y:=by
 unfold tG at h;split at h<;>first
  |(injection h with h;subst h;constructor;done)
  |(split at h
    ·rename_i k hk;obtain⟨h1,h2⟩:=Q9 hk;injection h with h;subst h;rw[<-h2];constructor;exact h1
    ·cases h)
  |(cases h;done)
theorem tI{g:V->Option V}{R:V->V->Prop}(hg:∀x y,g x=some y->R x y):∀{l r:List V},pB g l=some r->r.length=l.length/\∀k (hk:k<l.length) (hk':k<r.length),R l[k] r[k]
 |[],r,h=>by injection h with h;subst h;exact⟨rfl,fun k hk=>by simp at hk⟩
 |x::l,r,h=>by
  unfold pB at h;split at h
  ·cases h
  ·rename_i y hy;split at h
   ·cases h
   ·rename_i r' hr;injection h with h;subst h;obtain⟨h1,h2⟩:=tI hg hr;refine⟨by simp[h1],fun k hk hk'=>?_⟩;cases k with
    |zero=>exact hg _ _ hy
    |succ k=>exact h2 k (by simpa using hk) (by simpa using hk')
theorem Bu{x y:V}(h:tH n0 js x=some y):V.cl (iC n0 js) (n0+js.length) x y:=by
 unfold tH at h;split at h
 ·split at h
  ·rename_i l hl;injection h with h;subst h;obtain⟨h1,h2⟩:=tI (fun _ _=>Bt) hl;exact .fn h1 h2
  ·cases h
 ·split at h
  ·rename_i l hl;injection h with h;subst h;obtain⟨h1,h2⟩:=tI (fun _ _=>Bt) hl;exact .agg h1 h2
  ·cases h
 ·exact Bt h
theorem Ra{x y:V}(h:Bq n0 js x=some y):V.cl (iC n0 js) (n0+js.length) x y:=by
 unfold Bq at h;split at h
 ·split at h
  ·rename_i l hl;injection h with h;subst h;obtain⟨h1,h2⟩:=tI (fun _ _=>Bu) hl;exact .ay h1 h2
  ·cases h
 ·exact Bu h
theorem Rb{x y:ad}(h:Br n0 js x=some y):ad.cl (iC n0 js) (n0+js.length) x y:=by
 unfold Br at h;split at h
 ·split at h
  ·rename_i l hl;injection h with h;subst h;obtain⟨h1,h2⟩:=tI (fun _ _=>Bu) hl;exact .cells h1 h2
  ·cases h
 all_goals (injection h with h;subst h;constructor)
end
def Bv:V->List Nat
 | .ptr b _=>[b]
 | .aG b _=>[b]
 | .mp b=>[b]
 | .vec b _=>[b]
 |_=>[]
def tJ(g:V->List Nat):List V->List Nat->List Nat
 |[],acc=>acc
 |x::l,acc=>g x++tJ g l acc
def Bw:V->List Nat
 | .fn _ caps=>tJ Bv caps []
 | .agg vs=>tJ Bv vs []
 |x=>Bv x
def Rc:V->List Nat
 | .ay vs=>tJ Bw vs []
 |x=>Bw x
def G1:ad->List Nat->List Nat
 | .cells cs _,acc=>tJ Bw cs acc
 |_,acc=>acc
def G2:Nat->H->List Nat->List Nat
 |0,_,acc=>acc
 |_,[],acc=>acc
 |n+1,b::σ,acc=>G1 b (G2 n σ acc)
def G3(a:Nat):List Nat->Bool
 |[]=>false
 |b::l=>cond (ca a b) true (G3 a l)
def G4(ls:List Nat):Nat->H->List Nat×List Nat
 |_,[]=>([],ls)
 |i,b::σ=>match G4 ls (i+1) σ with
  |(js,ls)=>cond (G3 i ls) (i::js,G1 b ls) (js,ls)
def tK:Nat->Nat->List Nat->Bool
 |_,_,[]=>true
 |lo,n,a::l=>dp lo a&&(lG a n&&tK (a+1) n l)
theorem G5{n:Nat}:∀{l:List Nat} {lo:Nat},tK lo n l=true->(∀k (hk:k<l.length),lo<=l[k]/\l[k]<n)/\∀i j (hi:i<l.length) (hj:j<l.length),i<j->l[i]<l[j]
 |[],lo,_=>⟨fun k hk=>by simp at hk,fun i j hi=>by simp at hi⟩
 |a::l,lo,h=>by
  unfold tK at h;simp only[bG]at h;obtain⟨h1,h2⟩:=G5 h.2.2;have e1:lo<=a:=eJ h.1;have e2:a<n:=eJ h.2.1;refine⟨fun k hk=>?_,fun i j hi hj hij=>?_⟩
  ·cases k with
   |zero=>exact⟨e1,e2⟩
   |succ k=>
    have:=h1 k (by simpa using hk);simp only[oS];omega
  ·cases j with
   |zero=>omega
   |succ j=>
    have hj':j<l.length:=by simpa using hj
    cases i with
    |zero=>
     have:=(h1 j hj').1;simp only[dC,oS];omega
    |succ i=>
     simp only[oS];exact h2 i j (by simpa using hi) hj' (by omega)
def xB(n0:Nat)(js:List Nat):H->Option H
 |[]=>some []
 |b::σ=>match Br n0 js b with
  |none=>none
  |some b'=>match xB n0 js σ with
   |none=>none
   |some τ=>some (b'::τ)
def xC(σ:H):List Nat->Option H
 |[]=>some []
 |j::js=>match σ[j]? with
  |none=>none
  |some b=>match xC σ js with
   |none=>none
   |some τ=>some (b::τ)
theorem G6{n0:Nat}{js:List Nat}:∀{σ τ:H},xB n0 js σ=some τ->τ.length=σ.length/\∀k (hk:k<σ.length) (hk':k<τ.length),ad.cl (iC n0 js) (n0+js.length) σ[k] τ[k]
 |[],τ,h=>by injection h with h;subst h;exact⟨rfl,fun k hk=>by simp at hk⟩
 |b::σ,τ,h=>by
  unfold xB at h;split at h
  ·cases h
  ·rename_i b' hb;split at h
   ·cases h
   ·rename_i τ' hτ;injection h with h;subst h;obtain⟨h1,h2⟩:=G6 hτ;refine⟨by simp[h1],fun k hk hk'=>?_⟩;cases k with
    |zero=>exact Rb hb
    |succ k=>exact h2 k (by simpa using hk) (by simpa using hk')
theorem G7{σ:H}:∀{js:List Nat} {τ:H},xC σ js=some τ->τ.length=js.length/\∀k (hk:k<js.length) (hk':k<τ.length),σ[js[k]]?=some τ[k]
 |[],τ,h=>by injection h with h;subst h;exact⟨rfl,fun k hk=>by simp at hk⟩
 |j::js,τ,h=>by
  unfold xC at h;split at h
  ·cases h
  ·rename_i b hb;split at h
   ·cases h
   ·rename_i τ' hτ;injection h with h;subst h;obtain⟨h1,h2⟩:=G7 hτ;refine⟨by simp[h1],fun k hk hk'=>?_⟩;cases k with
    |zero=>exact hb
    |succ k=>exact h2 k (by simpa using hk) (by simpa using hk')
def By(n0:Nat)(d:V)(σ:H):Option (V×H):=
 match G4 (Rc d++G2 n0 σ []) n0 (σ.drop n0)with
 |(js,_)=>cond (dp n0 σ.length&&tK n0 σ.length js) (match xC σ js with
  |none=>none
  |some L=>match xB n0 js (σ.take n0++L)with
   |none=>none
   |some τ=>match Bq n0 js d with
    |none=>none
    |some d'=>some (d',τ)) none
theorem Rd{P:Program}{w0:World}{f:FuncId}{args:List V}{σ σ1 τ:H}{d d':V}(hd:DC P w0 f args σ (Same d σ1))(h:By σ.length d σ1=some (d',τ)):DC P w0 f args σ (Same d' τ):=by
 unfold By at h;split at h;rename_i js ls hjs;cases hc:(dp σ.length σ1.length&&tK σ.length σ1.length js)with
 |false=>rw[hc]at h;cases h
 |true=>
  rw[hc]at h;simp only[bG]at hc;have hn:σ.length<=σ1.length:=eJ hc.1;obtain⟨i1,i2⟩:=G5 hc.2;simp only[cond_true]at h;split at h
  ·cases h
  ·rename_i L hL;split at h
   ·cases h
   ·rename_i τ' hτ;split at h
    ·cases h
    ·rename_i d0 hd0;injection h with h;injection h with h1 h2;subst h1 h2;obtain⟨a1,a2⟩:=G7 hL;obtain⟨r1,r2⟩:=G6 hτ;have hlen:τ'.length=σ.length+js.length:=by rw[r1];simp[a1,Nat.min_eq_left hn]
     have hold:∀j,σ.length<=j->j<σ.length+js.length->∃hk:j-σ.length<js.length,iC σ.length js j=js[j-σ.length]:=fun j h1 h2=>by
      have hk:j-σ.length<js.length:=by omega
      refine⟨hk,?_⟩;unfold iC;rw[if_neg (by omega)];simp[lA,hk]
     have hlow:∀j,j<σ.length->iC σ.length js j=j:=fun j hj=>by unfold iC;rw[if_pos hj]
     refine hd.pack (ι:=iC σ.length js) (m:=σ.length+js.length) (fun b hb=>hlow b hb) (by omega) (fun j hj=>?_) (fun i j hi hj e=>?_) hlen (fun j hj hj' hι=>?_) (Ra hd0)
     ·rcases dT j σ.length with h'|h'
      ·rw[hlow j h'];omega
      ·obtain⟨hk,e⟩:=hold j h' hj;rw[e];exact(i1 _ hk).2
     ·rcases dT i σ.length with hi'|hi'<;>rcases dT j σ.length with hj'|hj'
      ·rwa [hlow i hi',hlow j hj']at e
      ·obtain⟨hk,e2⟩:=hold j hj' hj;rw[hlow i hi',e2]at e;have:=(i1 _ hk).1;omega
      ·obtain⟨hk,e2⟩:=hold i hi' hi;rw[hlow j hj',e2]at e;have:=(i1 _ hk).1;omega
      ·obtain⟨hk,e2⟩:=hold i hi' hi;obtain⟨hk',e3⟩:=hold j hj' hj;rw[e2,e3]at e;rcases Nat.lt_trichotomy (i-σ.length) (j-σ.length)with q|q|q
       ·have:=i2 _ _ hk hk' q;omega
       ·omega
       ·have:=i2 _ _ hk' hk q;omega
     ·have hjr:j<(σ1.take σ.length++L).length:=by rw[<-r1];exact hj'
      have hr:=r2 j hjr hj';have e:(σ1.take σ.length++L)[j]=σ1[iC σ.length js j]:=by
       rcases dT j σ.length with h'|h'
       ·rw[cL (by simp;omega),List.getElem_take];simp only[hlow j h']
       ·obtain⟨hk,e2⟩:=hold j h' hj;rw[dU (by simp;omega)];have hq:=a2 (j-σ.length) hk (by omega);have hq':σ1[iC σ.length js j]?=some (L[j-σ.length]'(by omega)):=by rw[e2];exact hq
        rw[aO hι]at hq';injection hq' with hq';rw[hq'];congr 1;simp[Nat.min_eq_left hn]
      rwa [e]at hr
end Go.Lamb
