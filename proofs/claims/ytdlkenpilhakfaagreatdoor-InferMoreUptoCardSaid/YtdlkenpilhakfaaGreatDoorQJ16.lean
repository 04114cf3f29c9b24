/- . -/
import Derived.Test.YtdlkenpilhakfaaGreatDoorQJ14
import Derived.Test.YtdlkenpilhakfaaGreatDoorQRd1
import Derived.Lib.Join
import Derived.Lib.ItoaNum
import Derived.Lib.ItoaLen
import Derived.Test.YtdlkenpilhakfaaGreatDoorQJ13
import Derived.Test.YtdlkenpilhakfaaGreatDoorQLexNl
set_option linter.unusedSimpArgs false
set_option linter.unusedVariables false
set_option maxHeartbeats 8000000
set_option maxRecDepth 20000
open Bool renaming and_eq_true->bz,rec->zV
open Go.IntKind renaming i64->aW
open List renaming all_cons->jl,cons_append->iR,drop_eq_getElem_cons->mV,drop_eq_nil_of_le->Od,getD->lG,getD_eq_getElem?_getD->cc,getElem?_append_left->cF,getElem?_append_right->cY,getElem?_eq_getElem->aR,getElem?_eq_some_iff->aK,getElem?_set_ne->bX,getElem_append_left->cC,getElem_append_right->dJ,getElem_cons_succ->nP,getElem_cons_zero->dq,getElem_mem->bw,getElem_set_ne->fz,getElem_set_self->gw,length_cons->bo,length_set->bC,mem_append->cH,mem_append_left->jY,mem_cons->cD,mem_cons_of_mem->bW,mem_cons_self->bp,mem_or_eq_of_mem_set->lK,set_append_left->qx,set_append_right->iQ,sizeOf_lt_of_mem->aad
open Nat renaming add_sub_cancel_left->fm,beq->ca,ble->dk,blt->lL,eq_of_beq_eq_true->fo,le_of_ble_eq_true->eI,le_refl->aA,le_trans->bB,lt_or_ge->dS,lt_succ_iff_lt_or_eq->zS,lt_succ_self->zN,mod_two_eq_zero_or_one->zW,not_lt_zero->mU,strongRecOn->nO,sub_self->ck,succ_lt_succ->zR,zero_le->bx
namespace Go.Lamb
open Go Go.RowKit
def gV{α β:Type}(f:α->β->Bool):List α->List β->Bool
 |[],[]=>true
 |x::l,y::r=>f x y&&gV f l r
 |_,_=>false
theorem GH{α β:Type}{f:α->β->Bool}:∀{l:List α} {r:List β},l.length≠r.length->gV f l r=false
 |[],[],h=>absurd rfl h
 |x::l,y::r,h=>by
  rw[gV,GH (l:=l) (r:=r) (fun e=>h (by simp[e])),Bool.and_false]
 |[],_::_,_=>rfl
 |_::_,[],_=>rfl
theorem GI{α β:Type}{f:α->β->Bool}:∀{l:List α} {r:List β} {j:Nat} (hj:j<l.length) (hj':j<r.length),f l[j] r[j]=false->gV f l r=false
 |x::l,y::r,0,_,_,h=>by rw[gV];simp only[dq]at h;rw[h];rfl
 |x::l,y::r,j+1,hj,hj',h=>by
  rw[gV,GI (j:=j) (by simpa using hj) (by simpa using hj') (by simpa using h),Bool.and_false]
 |[],_,_,hj,_,_=>by simp at hj
 |_::_,[],_,_,hj',_=>by simp at hj'
theorem A7{α β:Type}{f:α->β->Bool}:∀{l:List α} {r:List β},l.length=r.length->(∀j (hj:j<l.length) (hj':j<r.length),f l[j] r[j]=true)->gV f l r=true
 |[],[],_,_=>rfl
 |x::l,y::r,hl,h=>by
  rw[gV,A7 (by simpa using hl) (fun j hj hj'=>h (j+1) (zR hj) (zR hj'))];have:=h 0 (by simp) (by simp);simp only[dq]at this;rw[this];rfl
 |[],_::_,hl,_=>by simp at hl
 |_::_,[],hl,_=>by simp at hl
theorem ao.ind{P:ao->Prop}(h:∀p,(∀q∈p.l,P q)->P p):∀p,P p
 | .mk k s n l a=>h _ fun q hq=>ao.ind h q
termination_by p=>SizeOf.sizeOf p
decreasing_by
 have:=aad hq;simp only[ao.l]at this;simp only[ao.mk.sizeOf_spec];omega
mutual
def fZ:ao->Int->Int
 | .mk _ _ _ l _,n=>fK l (n-1)
def fK:List ao->Int->Int
 |[],n=>n
 |p::l,n=>if 0<=n then fK l (fZ p n)else n
end
theorem QV(p:ao)(n:Int):fZ p n=fK p.l (n-1):=by cases p;simp[fZ,ao.l]
theorem GJ{l:List ao}{n:Int}(h:¬0<=n):fK l n=n:=by
 cases l with
 |nil=>rfl
 |cons p l=>rw[fK,if_neg h]
mutual
theorem GK:∀(p:ao) (n:Int),0<=n->-1<=fZ p n/\fZ p n<=n-1
 | .mk _ _ _ l _,n,h=>by rw[fZ];exact GL l (n-1) (by omega)
theorem GL:∀(l:List ao) (n:Int),-1<=n->-1<=fK l n/\fK l n<=n
 |[],n,h=>by rw[fK];omega
 |p::l,n,h=>by
  rw[fK];split
  ·rename_i h0;have h1:=GK p n h0;have h2:=GL l (fZ p n) h1.1;omega
  ·omega
end
theorem QW{l:List ao}{i:Nat}{n:Int}(hi:i<l.length)(hn:0<=n):fK (l.drop i) n=fK (l.drop (i+1)) (fZ l[i] n):=by
 rw[mV hi,fK,if_pos hn]
theorem QX{l:List ao}{i:Nat}{n:Int}(hi:l.length<=i):fK (l.drop i) n=n:=by
 rw[Od hi,fK]
inductive aa where
 |mk (k:Int) (name:List UInt8) (n:Int) (l:List aa)
 deriving Inhabited
def aa.k:aa->Int| .mk k _ _ _=>k
def aa.name:aa->List UInt8| .mk _ s _ _=>s
def aa.n:aa->Int| .mk _ _ n _=>n
def aa.l:aa->List aa| .mk _ _ _ l=>l
theorem aY(k:Int)(s:List UInt8)(n:Int)(l:List aa):(aa.mk k s n l).k=k:=rfl
theorem a7(k:Int)(s:List UInt8)(n:Int)(l:List aa):(aa.mk k s n l).name=s:=rfl
theorem aV(k:Int)(s:List UInt8)(n:Int)(l:List aa):(aa.mk k s n l).n=n:=rfl
theorem aL(k:Int)(s:List UInt8)(n:Int)(l:List aa):(aa.mk k s n l).l=l:=rfl
mutual
def aa.cs:aa->List C
 | .mk k s n l=>[.int .i64 k,.str s,.int .i64 n,.sl (aa.rows l)]
def aa.rows:List aa->List (List C)
 |[]=>[]
 |p::l=>p.cs::aa.rows l
end
theorem aa.A5(l:List aa):aa.rows l=l.map aa.cs:=by
 induction l with
 |nil=>rfl
 |cons p l ih=>simp[aa.rows,ih]
def aa.v(p:aa):V:=.agg [.c (.int .i64 p.k),.c (.str p.name),.c (.int .i64 p.n),.c (.sl (p.l.map aa.cs))]
theorem aa.aM(p:aa):p.cs=[.int .i64 p.k,.str p.name,.int .i64 p.n,.sl (p.l.map aa.cs)]:=by
 cases p;simp[aa.cs,aa.k,aa.name,aa.n,aa.l,aa.A5]
def aT(l:List aa):C:=.sl (l.map aa.cs)
def aa.none:aa:=.mk 0 [] 0 []
def aa.var(n:Int):aa:=.mk 1 [] n []
def aa.arr(a b:aa):aa:=.mk 2 [] 0 [a,b]
theorem aa.ind{P:aa->Prop}(h:∀p,(∀q∈p.l,P q)->P p):∀p,P p
 | .mk k s n l=>h _ fun q hq=>aa.ind h q
termination_by p=>SizeOf.sizeOf p
decreasing_by
 have:=aad hq;simp only[aa.l]at this;simp only[aa.mk.sizeOf_spec];omega
mutual
def kj:aa->aa->Bool
 | .mk k s n l,.mk k' s' n' l'=>k==k'&&s==s'&&n==n'&&pt l l'
def pt:List aa->List aa->Bool
 |[],[]=>true
 |x::l,y::r=>kj x y&&pt l r
 |_,_=>false
end
theorem GM:∀(l r:List aa),pt l r=gV kj l r
 |[],[]=>by simp[pt,gV]
 |x::l,y::r=>by rw[pt,gV,GM l r]
 |[],_::_=>by simp[pt,gV]
 |_::_,[]=>by simp[pt,gV]
theorem A8(p q:aa):kj p q=(p.k==q.k&&p.name==q.name&&p.n==q.n&&gV kj p.l q.l):=by
 cases p;cases q;simp only[kj,GM,aa.k,aa.name,aa.n,aa.l]
theorem GN:∀(p:aa),kj p p=true:=aa.ind fun p ih=>by
 rw[A8];simp only[beq_self_eq_true,Bool.true_and];exact A7 rfl fun j hj _=>ih _ (bw hj)
mutual
def dv:aa->Int->Int
 | .mk _ _ _ l,n=>fM l (n-1)
def fM:List aa->Int->Int
 |[],n=>n
 |p::l,n=>if 0<=n then fM l (dv p n)else n
end
theorem QY(p:aa)(n:Int):dv p n=fM p.l (n-1):=by cases p;simp[dv,aa.l]
theorem GO{l:List aa}{n:Int}(h:¬0<=n):fM l n=n:=by
 cases l with
 |nil=>rfl
 |cons p l=>rw[fM,if_neg h]
mutual
theorem GP:∀(p:aa) (n:Int),0<=n->-1<=dv p n/\dv p n<=n-1
 | .mk _ _ _ l,n,h=>by rw[dv];exact GQ l (n-1) (by omega)
theorem GQ:∀(l:List aa) (n:Int),-1<=n->-1<=fM l n/\fM l n<=n
 |[],n,h=>by rw[fM];omega
 |p::l,n,h=>by
  rw[fM];split
  ·rename_i h0;have h1:=GP p n h0;have h2:=GQ l (dv p n) h1.1;omega
  ·omega
end
theorem QZ{l:List aa}{i:Nat}{n:Int}(hi:i<l.length)(hn:0<=n):fM (l.drop i) n=fM (l.drop (i+1)) (dv l[i] n):=by
 rw[mV hi,fM,if_pos hn]
theorem Q0{l:List aa}{i:Nat}{n:Int}(hi:l.length<=i):fM (l.drop i) n=n:=by
 rw[Od hi,fM]
abbrev bG:=List UInt8
def dA(p:aa):Bool:=p.k==2&&p.l.length==2
mutual
def cJ:aa->Bool
 | .mk k s n l=>(if k=0 then iD s&&n==0 else if k=1 then s==[]&&decide (0<=n)&&decide (n<=4611686018427387904)&&l.length==0 else if k=2 then s==[]&&n==0&&l.length==2 else false)&&tE l
def tE:List aa->Bool
 |[]=>true
 |x::l=>cJ x&&tE l
end
def lf(p:aa):Bool:=if p.k=0 then iD p.name&&p.n==0 else if p.k=1 then p.name==[]&&decide (0<=p.n)&&decide (p.n<=4611686018427387904)&&p.l.length==0 else if p.k=2 then p.name==[]&&p.n==0&&p.l.length==2 else false
theorem GR:∀(l:List aa),tE l=l.all cJ
 |[]=>by simp[tE]
 |x::l=>by rw[tE,jl,GR l]
theorem jF(p:aa):cJ p=(lf p&&p.l.all cJ):=by
 cases p;rw[cJ,GR];rfl
def fe(l:List aa)(u:aa):aa:=l.foldr aa.arr u
theorem GS{p:aa}(h:dA p=true):∃a b,p.l=[a,b]:=by
 simp only[dA,bz,beq_iff_eq]at h
 match hp:p.l with
 |[a,b]=>exact⟨a,b,rfl⟩
 |[]=>rw[hp]at h;simp at h
 |[_]=>rw[hp]at h;simp at h
 |_::_::_::_=>rw[hp]at h;simp at h
def oh:Nat->aa->List aa×aa
 |0,p=>([],p)
 |f+1,p=>if dA p=true then match p.l with
  |[a,b]=>(a::(oh f b).1,(oh f b).2)
  |_=>([],p)
  else([],p)
mutual
def dB:aa->Nat
 | .mk _ _ _ l=>mh l+1
def mh:List aa->Nat
 |[]=>0
 |x::l=>max (dB x) (mh l)
end
theorem GU{x:aa}:∀{l:List aa},x∈l->dB x<=mh l
 |[],h=>by simp at h
 |y::l,h=>by
  rw[mh];rcases cD.1 h with rfl|h
  ·exact Nat.le_max_left _ _
  ·exact bB (GU h) (Nat.le_max_right _ _)
theorem A9{p x:aa}(h:x∈p.l):dB x<dB p:=by
 cases p with
 |mk k s n l=>rw[dB];have:=GU h;simp only[aa.l]at this;omega
def ga(p:aa):List aa×aa:=oh (dB p) p
theorem Ba:∀(f:Nat) (p:aa),dB p<=f->oh f p=ga p
 |f,p,h=>by
  unfold ga;generalize hg:dB p=g at h;induction g using nO generalizing f p with
  |ind g ih=>
   cases g with
   |zero=>cases p;rw[dB]at hg;omega
   |succ g=>
    cases f with
    |zero=>omega
    |succ f=>
     rw[oh,oh];by_cases c:dA p=true
     ·rw[if_pos c,if_pos c];obtain⟨a,b,hl⟩:=GS c;have hb:dB b<dB p:=A9 (by rw[hl];simp);simp only[hl];rw[ih (dB b) (by omega) f b rfl (by omega),ih (dB b) (by omega) g b rfl (by omega)]
     ·rw[if_neg c,if_neg c]
theorem GV{p a b:aa}(h:dA p=true)(hl:p.l=[a,b]):ga p=(a::(ga b).1,(ga b).2):=by
 have hb:dB b<dB p:=A9 (by rw[hl];simp);rw[<-Ba (dB p+1) p (by omega),oh,if_pos h];simp only[hl];rw[Ba _ b (by omega)]
theorem Bb{p:aa}(h:dA p=false):ga p=([],p):=by
 rw[<-Ba (dB p+1) p (by omega),oh,if_neg (by rw[h];decide)]
theorem Q1(a b:aa):dA (.arr a b)=true:=rfl
def GW(s:bG)(b:Bool):bG:=if b then 40::(s++[41])else s
def Q2(n:Int):bG:=(UInt8.ofNat (65+n%26).toNat)::(if 0<n/26 then Lib.itoa (n/26)else[])
def Q3(p:aa):Bool:=p.k !=1&&decide (0<p.l.length)
mutual
def Bc:aa->bG
 | .mk k s n l=>if k=1 then(if n<0 then[63]else Q2 n)else if k=2/\l.length=2 then Q4 l else Lib.join (s::GX l) [32]
def GX:List aa->List bG
 |[]=>[]
 |x::l=>GW (Bc x) (Q3 x)::GX l
def Q4:List aa->bG
 |[]=>[]
 |x::l=>GW (Bc x) (dA x)++Q5 l
def Q5:List aa->bG
 |[]=>[]
 |x::_=>[32,45,62,32]++Bc x
end
mutual
def gW:aa->Nat
 | .mk k _ _ l=>if k=1 then 1 else 1+jb l
def jb:List aa->Nat
 |[]=>0
 |x::l=>gW x+jb l
end
theorem Bd(p:aa):gW p=if p.k=1 then 1 else 1+jb p.l:=by cases p;rw[gW];rfl
def nh(n v:Int):Int:=if aW.wrap ((if-1>v then-1 else v)+1)>n then aW.wrap ((if-1>v then-1 else v)+1)else n
mutual
def cx:Int->aa->Int
 |m,.mk k _ n l=>if k=1 then nh m n else cO m l
def cO:Int->List aa->Int
 |m,[]=>m
 |m,x::l=>cO (cx m x) l
end
theorem Be(m:Int)(p:aa):cx m p=if p.k=1 then nh m p.n else cO m p.l:=by cases p;rw[cx];rfl
theorem Bf:∀(l r:List aa) (m:Int),cO m (l++r)=cO (cO m l) r
 |[],r,m=>by rw[cO];rfl
 |x::l,r,m=>by rw[iR,cO,cO,Bf l r]
mutual
def lg:aa->aa
 | .mk k s n l=>if k=1 then .none else .mk (if k=2/\l.length=2 then 2 else 0) (if k=2/\l.length=2 then[]else s) 0 (tF l)
def tF:List aa->List aa
 |[]=>[]
 |x::l=>lg x::tF l
end
theorem GY:∀l:List aa,tF l=l.map lg
 |[]=>by simp[tF]
 |x::l=>by rw[tF,GY l,List.map_cons]
theorem Q6(p:aa):lg p=if p.k=1 then .none else .mk (if dA p=true then 2 else 0) (if dA p=true then[]else p.name) 0 (p.l.map lg):=by
 cases p;rw[lg,GY];simp only[aa.k,aa.l,aa.name,dA,bz,beq_iff_eq]
def gF(n:Int):Prop:=-9223372036854775808<=n/\n<=9223372036854775807
inductive mi:aa->Prop where
 |mk {k:Int} {s:bG} {n:Int} {l:List aa} (hk:gF k) (hn:gF n) (h:∀x∈l,mi x):mi (.mk k s n l)
instance(n:Int):Decidable (gF n):=inferInstanceAs (Decidable (_/\_))
mutual
def aC:aa->Nat
 | .mk _ _ _ l=>1+bS l
def bS:List aa->Nat
 |[]=>0
 |x::l=>aC x+bS l
end
theorem cW(p:aa):aC p=1+bS p.l:=by cases p;rw[aC];rfl
theorem GZ(p:aa):1<=aC p:=by rw[cW];omega
theorem kl{x:aa}:∀{l:List aa},x∈l->aC x<=bS l
 |[],h=>by simp at h
 |y::l,h=>by
  rw[bS];rcases cD.1 h with rfl|h
  ·omega
  ·have:=kl h;omega
theorem G0{p x:aa}(h:x∈p.l):aC x<aC p:=by rw[cW p];have:=kl h;omega
theorem G1:∀l:List aa,l.length<=bS l
 |[]=>by simp
 |x::l=>by rw[bS,bo];have:=G1 l;have:=GZ x;omega
mutual
theorem Bg:∀p:aa,dB p<=aC p
 | .mk _ _ _ l=>by rw[dB,aC];have:=G2 l;omega
theorem G2:∀l:List aa,mh l<=bS l
 |[]=>by simp[mh]
 |x::l=>by rw[mh,bS];have:=Bg x;have:=G2 l;omega
end
mutual
theorem Bh:∀p:aa,gW p<=aC p
 | .mk k _ _ l=>by rw[gW,aC];have:=G3 l;split<;>omega
theorem G3:∀l:List aa,jb l<=bS l
 |[]=>by simp[jb]
 |x::l=>by rw[jb,bS];have:=Bh x;have:=G3 l;omega
end
def cf(s:List aa)(n:Int):aa:=s.getD n.toNat .none
def aN(n:Int):aa:=.mk 1 [] n []
def bH(s:List aa)(t:aa):Bool:=t.k==1&&!((cf s t.n).k==1&&(cf s t.n).n==t.n)
mutual
def cX(v:Int):aa->Bool
 | .mk k _ n l=>if k=1 then n==v else ri v l
def ri(v:Int):List aa->Bool
 |[]=>false
 |x::l=>cX v x||ri v l
end
theorem G4(v:Int)(t:aa):cX v t=if t.k=1 then t.n==v else ri v t.l:=by cases t;rw[cX];rfl
theorem G5(v:Int):∀(l:List aa),ri v l=true↔∃u∈l,cX v u=true
 |[]=>by rw[ri];simp
 |x::l=>by
  rw[ri,Bool.or_eq_true,G5 v l];simp
theorem mj{v:Int}{t:aa}(h:t.k=1):cX v t=true↔t.n=v:=by rw[G4,if_pos h,beq_iff_eq]
theorem lh{v:Int}{t:aa}(h:t.k≠1):cX v t=true↔∃u∈t.l,cX v u=true:=by rw[G4,if_neg h,G5]
structure aD (n:Nat) (t:aa):Prop where
 valid:cJ t=true
 vars:∀v,cX v t=true->0<=v/\v<n
theorem aD.dO{n:Nat}{t u:aa}(h:aD n t)(hk:t.k≠1)(hu:u∈t.l):aD n u:=by
 refine⟨?_,fun v hv=>h.vars v ((lh hk).2 ⟨u,hu,hv⟩)⟩;have:=h.valid;rw[jF,bz]at this;exact List.all_eq_true.1 this.2 u hu
theorem aD.var{n:Nat}{t:aa}(h:aD n t)(hk:t.k=1):0<=t.n/\t.n<n/\t.name=[]/\t.l=[]:=by
 have h1:=h.vars t.n ((mj hk).2 rfl);have h2:=h.valid;rw[jF,bz]at h2;have h2:=h2.1;unfold lf at h2;simp[hk]at h2;exact⟨h1.1,h1.2,h2.1.1.1,h2.2⟩
theorem aD.mono{n m:Nat}{t:aa}(h:aD n t)(hn:n<=m):aD m t:=⟨h.valid,fun v hv=>by have:=h.vars v hv;omega⟩
structure rj (s:List aa):Prop where
 holds:∀t∈s,aD s.length t
 Bi:∃rk:Int->Nat,∀i:Nat,i<s.length->bH s (aN i)=true->∀v,cX v (cf s i)=true->rk v<rk i
theorem iE{s:List aa}{n:Int}(h0:0<=n)(h:n<s.length):cf s n∈s:=by
 unfold cf;rw[cc,aR (by omega),Option.getD_some];exact bw _
theorem gb{s:List aa}{t:aa}(h:bH s t=true):t.k=1:=by
 unfold bH at h;rw[bz,beq_iff_eq]at h;exact h.1
theorem lj{s:List aa}{t:aa}(h:t.k=1):bH s t=bH s (aN t.n):=by
 unfold bH aN;rw[h];rfl
structure tG (s:List aa) (rk:Int->Nat):Prop where
 less:∀t,aD s.length t->bH s t=true->aD s.length (cf s t.n)/\∀v,cX v (cf s t.n)=true->rk v<rk t.n
theorem rj.less{s:List aa}(h:rj s):∃rk,tG s rk:=by
 obtain⟨rk,hr⟩:=h.Bi;refine⟨rk,⟨fun t ht hs=>?_⟩⟩;have hk:=gb hs;obtain⟨h0,h1,_⟩:=ht.var hk;refine⟨h.holds _ (iE h0 h1),fun v hv=>?_⟩;have e:((t.n.toNat:Nat):Int)=t.n:=by omega
 have:=hr t.n.toNat (by omega) (by rw[e,<-lj hk];exact hs) v (by rw[e];exact hv);rwa [e]at this
inductive gd (s:List aa):aa->aa->Nat->Prop where
 |stop {t:aa} (h:bH s t=false):gd s t t 0
 |go {t u:aa} {n:Nat} (h:bH s t=true) (r:gd s (cf s t.n) u n):gd s t u (n+1)
theorem xp{s:List aa}{rk:Int->Nat}(hL:tG s rk):∀(m:Nat) (t:aa),aD s.length t->(∀v,cX v t=true->rk v<m)->∃u n,gd s t u n/\n<=m/\aD s.length u/\bH s u=false/\(t.k≠1->u=t)
 |m,t,ht,hm=>by
  cases h:bH s t
  ·exact⟨t,0,.stop h,bx _,ht,h,fun _=>rfl⟩
  ·obtain⟨h1,h2⟩:=hL.less t ht h;have hk:=gb h;have hv:=hm t.n ((mj hk).2 rfl);cases m with
   |zero=>omega
   |succ m=>
    obtain⟨u,n,r,hn,a,b,c⟩:=xp hL m (cf s t.n) h1 (fun v hv'=>by have:=h2 v hv';omega);exact⟨u,n+1,.go h r,by omega,a,b,fun e=>absurd hk e⟩
def dC(st:List Int)(n:Int):Int:=st.getD n.toNat 0
mutual
inductive ni (s:List aa):List Int->aa->List Int->Prop where
 |gX {st st':List Int} {t:aa} (h:t.k≠1) (r:pw s st t.l st'):ni s st t st'
 |stop {st:List Int} {t:aa} (h:t.k=1) (h1:dC st t.n≠1) (h2:dC st t.n=2\/bH s t=false):ni s st t st
 |go {st st':List Int} {t:aa} (h:bH s t=true) (h1:dC st t.n≠1) (h2:dC st t.n≠2) (r:ni s (st.set t.n.toNat 1) (cf s t.n) st'):ni s st t (st'.set t.n.toNat 2)
inductive pw (s:List aa):List Int->List aa->List Int->Prop where
 |nil {st:List Int}:pw s st [] st
 |cons {st st1 st2:List Int} {t:aa} {l:List aa} (r:ni s st t st1) (rs:pw s st1 l st2):pw s st (t::l) st2
end
theorem G6{st:List Int}{n m:Int}{x:Int}(h0:0<=n)(h:n<st.length)(m0:0<=m):dC (st.set n.toNat x) m=if m=n then x else dC st m:=by
 unfold dC;rw[cc,cc,List.getElem?_set];by_cases e:m=n
 ·subst e;rw[if_pos rfl,if_pos (by omega),if_pos rfl];rfl
 ·rw[if_neg (by omega),if_neg e]
def rl(rk:Int->Nat)(st:List Int)(P:Int->Prop):Prop:=∀u:Int,0<=u->u<st.length->dC st u=1->∀v,P v->rk v<rk u
def om(st st':List Int):Prop:=st'.length=st.length/\∀u:Int,0<=u->u<st.length->(dC st' u=1↔dC st u=1)
theorem om.trans{a b c:List Int}(h:om a b)(k:om b c):om a c:=⟨k.1.trans h.1,fun u h0 h1=>(k.2 u h0 (by rw[h.1];exact h1)).trans (h.2 u h0 h1)⟩
theorem rl.post{rk:Int->Nat}{st st':List Int}{P Q:Int->Prop}(h:rl rk st P)(k:om st st')(hq:∀v,Q v->P v):rl rk st' Q:=fun u h0 h1 hs v hv=>h u h0 (by rw[<-k.1];exact h1) ((k.2 u h0 (by rw[<-k.1];exact h1)).1 hs) v (hq v hv)
theorem Q7{s:List aa}{rk:Int->Nat}(hL:tG s rk)(m:Nat):∀(t:aa) (st:List Int),st.length=s.length->aD s.length t->(∀v,cX v t=true->rk v<m)->rl rk st (fun v=>cX v t=true)->∃st',ni s st t st'/\om st st':=by
 induction m using nO with
 |ind m ihm=>
  intro t;refine aa.ind (P:=fun t=>∀(st:List Int),st.length=s.length->aD s.length t->(∀v,cX v t=true->rk v<m)->rl rk st (fun v=>cX v t=true)->∃st',ni s st t st'/\om st st') (fun t ih st hst ht hm hp=>?_) t;by_cases hk:t.k=1
  ·have hocc:=(mj (v:=t.n) hk).2 rfl;obtain⟨h0,hlt,_⟩:=ht.var hk;have h1:dC st t.n≠1:=fun e=>by have:=hp t.n h0 (by omega) e t.n hocc;omega
   by_cases h2:dC st t.n=2
   ·exact⟨st,.stop hk h1 (.inl h2),rfl,fun _ _ _=>Iff.rfl⟩
   cases hs:bH s t
   ·exact⟨st,.stop hk h1 (.inr hs),rfl,fun _ _ _=>Iff.rfl⟩
   obtain⟨g1,g2⟩:=hL.less t ht hs;have de:∀u:Int,0<=u->dC (st.set t.n.toNat 1) u=if u=t.n then 1 else dC st u:=fun u hu=>G6 h0 (by omega) hu
   obtain⟨st',r,e1,e2⟩:=ihm (rk t.n) (hm t.n hocc) (cf s t.n) (st.set t.n.toNat 1) (by rw[bC];exact hst) g1 g2 (fun u hu0 hu1 hu v hv=>by
    rw[de u hu0]at hu;have hv':=g2 v hv;split at hu
    ·rename_i e;subst e;exact hv'
    ·have:=hp u hu0 (by rw[bC]at hu1;exact hu1) hu t.n hocc;omega)
   rw[bC]at e1;refine⟨_,.go hs h1 h2 r,by rw[bC];exact e1,fun u hu0 hu1=>?_⟩;rw[G6 h0 (by omega) hu0];have h3:=e2 u hu0 (by rw[bC];exact hu1);rw[de u hu0]at h3;by_cases e:u=t.n
   ·subst e;rw[if_pos rfl];exact⟨fun h=>absurd h (by decide),fun h=>absurd h h1⟩
   ·rw[if_neg e]at h3⊢;exact h3
  ·have key:∀(l:List aa) (st:List Int),(∀u∈l,u∈t.l)->st.length=s.length->rl rk st (fun v=>cX v t=true)->∃st',pw s st l st'/\om st st':=by
    intro l;induction l with
    |nil=>exact fun st _ _ _=>⟨st,.nil,rfl,fun _ _ _=>Iff.rfl⟩
    |cons x l ihl=>
     intro st hs hst hp;have hx:=hs x (bp ..);have hoc:∀v,cX v x=true->cX v t=true:=fun v hv=>(lh hk).2 ⟨x,hx,hv⟩;obtain⟨s1,r1,p1⟩:=ih x hx st hst (ht.dO hk hx) (fun v hv=>hm v (hoc v hv)) (fun u h0 h1 h v hv=>hp u h0 h1 h v (hoc v hv));obtain⟨s2,r2,p2⟩:=ihl s1 (fun u hu=>hs u (bW _ hu)) (by rw[p1.1];exact hst) (hp.post p1 (fun v hv=>hv));exact⟨s2,.cons r1 r2,p1.trans p2⟩
   obtain⟨st',r,p⟩:=key t.l st (fun _ h=>h) hst hp;exact⟨st',.gX hk r,p⟩
mutual
inductive gY (s:List aa) (v:Int):List Int->aa->Bool->List Int->Prop where
 |seen {met:List Int} {t:aa} (h:bH s t=true) (h1:met.contains t.n=true):gY s v met t false met
 |go {met met':List Int} {t:aa} {b:Bool} (h:bH s t=true) (h1:met.contains t.n=false) (r:gY s v (met++[t.n]) (cf s t.n) b met'):gY s v met t b met'
 |var {met:List Int} {t:aa} (h:bH s t=false) (hk:t.k=1):gY s v met t (t.n==v) met
 |gX {met met':List Int} {t:aa} {b:Bool} (hk:t.k≠1) (r:oq s v met t.l b met'):gY s v met t b met'
inductive oq (s:List aa) (v:Int):List Int->List aa->Bool->List Int->Prop where
 |nil {met:List Int}:oq s v met [] false met
 |yes {met met':List Int} {t:aa} {l:List aa} (r:gY s v met t true met'):oq s v met (t::l) true met'
 |no {met m1 m2:List Int} {t:aa} {l:List aa} {b:Bool} (r:gY s v met t false m1) (rs:oq s v m1 l b m2):oq s v met (t::l) b m2
end
theorem Q8{s:List aa}{rk:Int->Nat}(hL:tG s rk)(v:Int)(m:Nat):∀(t:aa) (met:List Int),aD s.length t->(∀v,cX v t=true->rk v<m)->∃b met',gY s v met t b met':=by
 induction m using nO with
 |ind m ihm=>
  intro t;refine aa.ind (P:=fun t=>∀(met:List Int),aD s.length t->(∀v,cX v t=true->rk v<m)->∃b met',gY s v met t b met') (fun t ih met ht hm=>?_) t;by_cases hk:t.k=1
  ·have hocc:=(mj (v:=t.n) hk).2 rfl;cases hs:bH s t
   ·exact⟨_,_,.var hs hk⟩
   cases h1:met.contains t.n
   ·obtain⟨g1,g2⟩:=hL.less t ht hs;obtain⟨b,met',r⟩:=ihm (rk t.n) (hm t.n hocc) (cf s t.n) (met++[t.n]) g1 g2;exact⟨_,_,.go hs h1 r⟩
   ·exact⟨_,_,.seen hs h1⟩
  ·have key:∀(l:List aa) (met:List Int),(∀u∈l,u∈t.l)->∃b met',oq s v met l b met':=by
    intro l;induction l with
    |nil=>exact fun met _=>⟨_,_,.nil⟩
    |cons x l ihl=>
     intro met hs;have hx:=hs x (bp ..);obtain⟨b,m1,r⟩:=ih x hx met (ht.dO hk hx) (fun v hv=>hm v ((lh hk).2 ⟨x,hx,hv⟩));cases b
     ·obtain⟨b,m2,rs⟩:=ihl m1 (fun u hu=>hs u (bW _ hu));exact⟨_,_,.no r rs⟩
     ·exact⟨_,_,.yes r⟩
   obtain⟨b,met',r⟩:=key t.l met (fun _ h=>h);exact⟨_,_,.gX hk r⟩
def ot(s:List aa)(v:Int)(M:List Int)(t:aa):Prop:=∀w,cX w t=true->(bH s (aN w)=true->w∈M)/\(bH s (aN w)=false->w≠v)
theorem ot.mono{s:List aa}{v:Int}{M M':List Int}{t:aa}(h:ot s v M t)(hm:∀x∈M,x∈M'):ot s v M' t:=fun w hw=>⟨fun e=>hm w ((h w hw).1 e),(h w hw).2⟩
structure rm (s:List aa) (v:Int) (met met':List Int):Prop where
 sub:∀x∈met,x∈met'
 xq:∀x∈met',x∈met\/ot s v met' (cf s x)
theorem rm.trans{s:List aa}{v:Int}{a b c:List Int}(h:rm s v a b)(k:rm s v b c):rm s v a c:=⟨fun x hx=>k.sub x (h.sub x hx),fun x hx=>by
 rcases k.xq x hx with h1|h1
 ·rcases h.xq x h1 with h2|h2
  ·exact .inl h2
  ·exact .inr (h2.mono k.sub)
 ·exact .inr h1⟩
mutual
theorem Bj{s:List aa}{v:Int}:∀{met met':List Int} {t:aa} {b:Bool},gY s v met t b met'->b=false->rm s v met met'/\ot s v met' t
 |_,_,t,_,.seen h h1,_=>⟨⟨fun x hx=>hx,fun x hx=>.inl hx⟩,fun w hw=>by
   have e:=(mj (gb h)).1 hw;subst e;exact⟨fun _=>by simpa using h1,fun e=>by rw[<-lj (gb h),h]at e;cases e⟩⟩
 |met,met',t,_,.go h h1 r,hb=>by
   obtain⟨o,c⟩:=Bj r hb;refine⟨⟨fun x hx=>o.sub x (jY _ hx),fun x hx=>?_⟩,fun w hw=>?_⟩
   ·rcases o.xq x hx with h2|h2
    ·rcases cH.1 h2 with h3|h3
     ·exact .inl h3
     ·simp at h3;subst h3;exact .inr c
    ·exact .inr h2
   ·have e:=(mj (gb h)).1 hw;subst e;exact⟨fun _=>o.sub _ (by simp),fun e=>by rw[<-lj (gb h),h]at e;cases e⟩
 |_,_,t,_,.var h hk,hb=>⟨⟨fun x hx=>hx,fun x hx=>.inl hx⟩,fun w hw=>by
   have e:=(mj hk).1 hw;subst e;exact⟨fun e=>(by rw[<-lj hk,h]at e;cases e),fun _=>by simpa using hb⟩⟩
 |_,_,t,_,.gX hk r,hb=>by
   obtain⟨o,c⟩:=G7 r hb;exact⟨o,fun w hw=>by
    obtain⟨u,hu,hw'⟩:=(lh hk).1 hw;exact c u hu w hw'⟩
theorem G7{s:List aa}{v:Int}:∀{met met':List Int} {l:List aa} {b:Bool},oq s v met l b met'->b=false->rm s v met met'/\∀u∈l,ot s v met' u
 |_,_,_,_,.nil,_=>⟨⟨fun x hx=>hx,fun x hx=>.inl hx⟩,fun u hu=>by cases hu⟩
 |_,_,_,_,.yes r,hb=>by cases hb
 |_,_,_,_,.no r rs,hb=>by
   obtain⟨o1,c1⟩:=Bj r rfl;obtain⟨o2,c2⟩:=G7 rs hb;refine⟨o1.trans o2,fun u hu=>?_⟩;rcases cD.1 hu with rfl|hu
   ·exact c1.mono o2.sub
   ·exact c2 u hu
end
inductive px (s:List aa) (v:Int):Int->Prop where
 |here:px s v v
 |go {u w:Int} (h:bH s (aN u)=true) (ho:cX w (cf s u)=true) (r:px s v w):px s v u
theorem Q9{s:List aa}{v:Int}{M:List Int}(hv:bH s (aN v)=false)(hM:∀x∈M,ot s v M (cf s x)){w:Int}(r:px s v w):(bH s (aN w)=true->w∈M)->(bH s (aN w)=false->w≠v)->False:=by
 induction r with
 |here=>exact fun _ h=>h hv rfl
 |go h ho r ih=>
  intro h1 _;have hc:=hM _ (h1 h) _ ho;exact ih hc.1 hc.2
theorem occ_no{s:List aa}{v:Int}{t:aa}{met:List Int}(hv:bH s (aN v)=false)(h:gY s v [] t false met):∀w,cX w t=true->¬px s v w:=fun w hw r=>by
 obtain⟨o,c⟩:=Bj h rfl;have hM:∀x∈met,ot s v met (cf s x):=fun x hx=>by
  rcases o.xq x hx with h|h
  ·cases h
  ·exact h
 exact Q9 hv hM r (c w hw).1 (c w hw).2
theorem G8{s:List aa}{v u:Int}{t:aa}(h0:0<=v)(h:v<s.length)(u0:0<=u):cf (s.set v.toNat t) u=if u=v then t else cf s u:=by
 unfold cf;rw[cc,cc,List.getElem?_set];by_cases e:u=v
 ·subst e;rw[if_pos rfl,if_pos (by omega),if_pos rfl];rfl
 ·rw[if_neg (by omega),if_neg e]
theorem G9{s:List aa}(hR:rj s){v:Int}(h0:0<=v)(h:v<s.length)(hv:bH s (aN v)=false){t:aa}(ht:aD s.length t){met:List Int}(ho:gY s v [] t false met):rj (s.set v.toNat t):=by
 have hno:=occ_no hv ho;refine⟨fun u hu=>?_,?_⟩
 ·rw[bC];rcases lK hu with hu|rfl
  ·exact hR.holds u hu
  ·exact ht
 ·obtain⟨rk,hr⟩:=hR.Bi;obtain⟨K,hK⟩:∃K:Nat,∀i:Nat,i<s.length->rk (i:Int)<K:=by
   have:∀n:Nat,∃K:Nat,∀i:Nat,i<n->rk (i:Int)<K:=fun n=>by
    induction n with
    |zero=>exact⟨0,fun i hi=>absurd hi (mU _)⟩
    |succ n ih=>
     obtain⟨K,hK⟩:=ih;refine⟨max K (rk (n:Int)+1),fun i hi=>?_⟩;rcases zS.1 hi with h|h
     ·have:=hK i h;omega
     ·subst h;omega
   exact this s.length
  have hin:∀w,cX w t=true->rk w<K:=fun w hw=>by
   obtain⟨a,b⟩:=ht.vars w hw;have:=hK w.toNat (by omega);rwa [show((w.toNat:Nat):Int)=w by omega]at this
  refine⟨fun w=>open Classical in rk w+(if px s v w then K else 0),fun i hi hs w hw=>?_⟩;rw[bC]at hi;rw[G8 h0 h (by omega)]at hw;simp only
  by_cases e:(i:Int)=v
  ·rw[if_pos e]at hw;rw[if_neg (hno w hw),e,if_pos .here];have:=hin w hw;omega
  ·rw[if_neg e]at hw;have hs':bH s (aN i)=true:=by
    unfold bH at hs⊢;rw[show(aN (i:Int)).n=(i:Int)from rfl,G8 h0 h (by omega),if_neg e]at hs;exact hs
   have:=hr i hi hs' w hw;by_cases hl:px s v w
   ·rw[if_pos hl,if_pos (.go hs' hw hl)];omega
   ·rw[if_neg hl];split<;>omega
inductive nj (s:List aa) (v:Int) (t:aa):Int->List aa->Prop where
 |yes {met:List Int} (h:gY s v [] t true met):nj s v t 61 s
 |no {met:List Int} (h:gY s v [] t false met):nj s v t 0 (s.set v.toNat t)
def df:List aa->List aa->List (aa×aa)
 |a::l,b::r=>(a,b)::df l r
 |_,_=>[]
inductive lk (s:List aa) (a b:aa):List (aa×aa)->Int->List aa->Prop where
 |mk {x y:aa} {n m:Nat} {l:List (aa×aa)} {e:Int} {s':List aa} (hx:gd s a x n) (hy:gd s b y m)
   (h:(x.k=1/\y.k=1/\x.n=y.n/\l=[]/\e=0/\s'=s)\/(x.k=1/\y.k=1/\x.n≠y.n/\l=[]/\nj s (max x.n y.n) (aN (min x.n y.n)) e s')\/(x.k=1/\y.k≠1/\l=[]/\nj s x.n y e s')\/(x.k≠1/\y.k=1/\l=[]/\nj s y.n x e s')
     \/(x.k≠1/\y.k≠1/\¬(x.k=y.k/\x.name=y.name/\x.l.length=y.l.length)/\l=[]/\e=60/\s'=s)\/(x.k≠1/\y.k≠1/\(x.k=y.k/\x.name=y.name/\x.l.length=y.l.length)/\l=df x.l y.l/\e=0/\s'=s)):lk s a b l e s'
def ee(n N:Nat)(p:aa×aa):Prop:=aD n p.1/\aD n p.2/\aC p.1<=N/\aC p.2<=N
structure cl (N:Nat) (s:List aa):Prop where
 right:rj s
 size:∀t∈s,aC t<=N
theorem py{s:List aa}{N:Nat}(hs:∀t∈s,aC t<=N){t u:aa}{n:Nat}(r:gd s t u n):(∀x,aD s.length x->bH s x=true->cf s x.n∈s/\aD s.length (cf s x.n))->aD s.length t->aC t<=N->aC u<=N:=by
 induction r with
 |stop h=>exact fun _ _ h=>h
 |go h r ih=>
  intro hm ht _;obtain⟨a,b⟩:=hm _ ht h;exact ih hm b (hs _ a)
theorem xr{n N:Nat}:∀(l r:List aa),(∀u∈l,aD n u/\aC u<=N)->(∀u∈r,aD n u/\aC u<=N)->∀p∈df l r,ee n N p
 |[],r,_,_,p,hp=>by cases r<;>cases hp
 |a::l,[],_,_,p,hp=>by cases hp
 |a::l,b::r,h1,h2,p,hp=>by
  rcases cD.1 hp with rfl|hp
  ·exact⟨(h1 a (by simp)).1,(h2 b (by simp)).1,(h1 a (by simp)).2,(h2 b (by simp)).2⟩
  ·exact xr l r (fun u hu=>h1 u (bW _ hu)) (fun u hu=>h2 u (bW _ hu)) p hp
theorem iF{n:Nat}{v:Int}(h0:0<=v)(h:v<n)(hn:n<=1000000):aD n (aN v):=by
 refine⟨?_,fun w hw=>?_⟩
 ·rw[jF];have:(v<=4611686018427387904):=by omega
  simp[lf,aN,aa.k,aa.name,aa.n,aa.l,h0,this]
 ·have:=(mj (t:=aN v) rfl).1 hw;have e:(aN v).n=v:=rfl;omega
theorem Bk{s:List aa}{N:Nat}(hR:cl N s)(hN:1<=N){v:Int}(h0:0<=v)(h:v<s.length)(hv:bH s (aN v)=false){t:aa}(ht:aD s.length t)(hn:aC t<=N):∃e s',nj s v t e s'/\cl N s'/\s'.length=s.length:=by
 obtain⟨rk,hL⟩:=hR.right.less;obtain⟨m,hm⟩:∃m:Nat,∀w,cX w t=true->rk w<m:=by
  have:∀n:Nat,∃K:Nat,∀i:Nat,i<n->rk (i:Int)<K:=fun n=>by
   induction n with
   |zero=>exact⟨0,fun i hi=>absurd hi (mU _)⟩
   |succ n ih=>
    obtain⟨K,hK⟩:=ih;refine⟨max K (rk (n:Int)+1),fun i hi=>?_⟩;rcases zS.1 hi with h|h
    ·have:=hK i h;omega
    ·subst h;omega
  obtain⟨K,hK⟩:=this s.length;refine⟨K,fun w hw=>?_⟩;obtain⟨a,b⟩:=ht.vars w hw;have:=hK w.toNat (by omega);rwa [show((w.toNat:Nat):Int)=w by omega]at this
 obtain⟨b,met,r⟩:=Q8 hL v m t [] ht hm;cases b
 ·refine⟨0,_,.no r,⟨G9 hR.right h0 h hv ht r,fun u hu=>?_⟩,bC ..⟩;rcases lK hu with hu|rfl
  ·exact hR.size u hu
  ·exact hn
 ·exact⟨61,s,.yes r,hR,rfl⟩
theorem tH{s:List aa}(rk:Int->Nat){t:aa}(ht:aD s.length t):∃m:Nat,∀w,cX w t=true->rk w<m:=by
 have:∀n:Nat,∃K:Nat,∀i:Nat,i<n->rk (i:Int)<K:=fun n=>by
  induction n with
  |zero=>exact⟨0,fun i hi=>absurd hi (mU _)⟩
  |succ n ih=>
   obtain⟨K,hK⟩:=ih;refine⟨max K (rk (n:Int)+1),fun i hi=>?_⟩;rcases zS.1 hi with h|h
   ·have:=hK i h;omega
   ·subst h;omega
 obtain⟨K,hK⟩:=this s.length;refine⟨K,fun w hw=>?_⟩;obtain⟨a,b⟩:=ht.vars w hw;have:=hK w.toNat (by omega);rwa [show((w.toNat:Nat):Int)=w by omega]at this
theorem Ra{s:List aa}{N:Nat}(hR:cl N s)(hN:1<=N)(hs:s.length<=1000000){a b:aa}(hp:ee s.length N (a,b)):∃l e s',lk s a b l e s'/\cl N s'/\s'.length=s.length/\(∀p∈l,ee s.length N p):=by
 obtain⟨rk,hL⟩:=hR.right.less;obtain⟨ha,hb,na,nb⟩:=hp;obtain⟨m1,hm1⟩:=tH rk ha;obtain⟨m2,hm2⟩:=tH rk hb;obtain⟨x,n1,r1,_,hx,sx,_⟩:=xp hL m1 a ha hm1;obtain⟨y,n2,r2,_,hy,sy,_⟩:=xp hL m2 b hb hm2;have hmem:∀x,aD s.length x->bH s x=true->cf s x.n∈s/\aD s.length (cf s x.n):=fun x hx hs=>by
  obtain⟨h0,h1,_⟩:=hx.var (gb hs);exact⟨iE h0 h1,hR.right.holds _ (iE h0 h1)⟩
 have nx:=py hR.size r1 hmem ha na;have ny:=py hR.size r2 hmem hb nb;by_cases kx:x.k=1
 ·obtain⟨x0,x1,_⟩:=hx.var kx;have sx':bH s (aN x.n)=false:=by rw[<-lj kx];exact sx
  by_cases ky:y.k=1
  ·obtain⟨y0,y1,_⟩:=hy.var ky;have sy':bH s (aN y.n)=false:=by rw[<-lj ky];exact sy
   by_cases he:x.n=y.n
   ·exact⟨[],0,s,.mk r1 r2 (.inl ⟨kx,ky,he,rfl,rfl,rfl⟩),hR,rfl,fun p hp=>by cases hp⟩
   ·have sm:bH s (aN (max x.n y.n))=false:=by
     rcases Int.le_total x.n y.n with h|h
     ·rw[Int.max_eq_right h];exact sy'
     ·rw[Int.max_eq_left h];exact sx'
    obtain⟨e,s',r,q1,q2⟩:=Bk hR hN (v:=max x.n y.n) (by omega) (by omega) sm (iF (v:=min x.n y.n) (by omega) (by omega) hs) (by rw[cW];simp[aN,aa.l,bS];exact hN);exact⟨[],e,s',.mk r1 r2 (.inr (.inl ⟨kx,ky,he,rfl,r⟩)),q1,q2,fun p hp=>by cases hp⟩
  ·obtain⟨e,s',r,q1,q2⟩:=Bk hR hN x0 x1 sx' hy ny;exact⟨[],e,s',.mk r1 r2 (.inr (.inr (.inl ⟨kx,ky,rfl,r⟩))),q1,q2,fun p hp=>by cases hp⟩
 ·by_cases ky:y.k=1
  ·obtain⟨y0,y1,_⟩:=hy.var ky;have sy':bH s (aN y.n)=false:=by rw[<-lj ky];exact sy
   obtain⟨e,s',r,q1,q2⟩:=Bk hR hN y0 y1 sy' hx nx;exact⟨[],e,s',.mk r1 r2 (.inr (.inr (.inr (.inl ⟨kx,ky,rfl,r⟩)))),q1,q2,fun p hp=>by cases hp⟩
  ·by_cases hc:x.k=y.k/\x.name=y.name/\x.l.length=y.l.length
   ·refine⟨df x.l y.l,0,s,.mk r1 r2 (.inr (.inr (.inr (.inr (.inr ⟨kx,ky,hc,rfl,rfl,rfl⟩))))),hR,rfl,xr _ _ (fun u hu=>⟨hx.dO kx hu,?_⟩) (fun u hu=>⟨hy.dO ky hu,?_⟩)⟩
    ·have:=kl hu;rw[cW]at nx;omega
    ·have:=kl hu;rw[cW]at ny;omega
   ·exact⟨[],60,s,.mk r1 r2 (.inr (.inr (.inr (.inr (.inl ⟨kx,ky,hc,rfl,rfl,rfl⟩))))),hR,rfl,fun p hp=>by cases hp⟩
inductive eU:Nat->List aa->List (aa×aa)->Int->List aa->Prop where
 |done {n:Nat} {s:List aa}:eU n s [] 0 s
 |out {s:List aa} {st:List (aa×aa)} (h:st≠[]):eU 0 s st 62 s
 |fail {n:Nat} {s s':List aa} {st l:List (aa×aa)} {p:aa×aa} {e:Int} (h:lk s p.1 p.2 l e s') (he:e≠0):eU (n+1) s (st++[p]) e s'
 |go {n:Nat} {s s1 s':List aa} {st l:List (aa×aa)} {p:aa×aa} {e:Int} (h:lk s p.1 p.2 l 0 s1) (r:eU n s1 (st++l.reverse) e s'):eU (n+1) s (st++[p]) e s'
theorem Ha{N:Nat}(hN:1<=N):∀(n:Nat) (s:List aa) (st:List (aa×aa)),cl N s->s.length<=1000000->(∀p∈st,ee s.length N p)->∃e s',eU n s st e s'/\cl N s'/\s'.length=s.length
 |0,s,st,hR,hs,hst=>by
  by_cases h:st=[]
  ·subst h;exact⟨0,s,.done,hR,rfl⟩
  ·exact⟨62,s,.out h,hR,rfl⟩
 |n+1,s,st,hR,hs,hst=>by
  by_cases h:st=[]
  ·subst h;exact⟨0,s,.done,hR,rfl⟩
  ·obtain⟨ps,p,rfl⟩:∃ps p,st=ps++[p]:=⟨st.dropLast,st.getLast h,(List.dropLast_concat_getLast h).symm⟩;obtain⟨l,e,s1,r,q1,q2,q3⟩:=Ra hR hN hs (a:=p.1) (b:=p.2) (hst p (by simp));by_cases he:e=0
   ·subst he;obtain⟨e,s',r',q4,q5⟩:=Ha hN n s1 (ps++l.reverse) q1 (by omega) (fun p' hp'=>by
     rw[q2];rcases cH.1 hp' with h|h
     ·exact hst p' (jY _ h)
     ·exact q3 p' (List.mem_reverse.1 h))
    exact⟨e,s',.go r r',q4,q5.trans q2⟩
   ·exact⟨e,s1,.fail r he,q1,q2⟩
def K.new(κ:K)(w w':World):K:={κ with m:=fun b o=>if b<w.heap.size then κ.m b o else w'.cell? ⟨b,o,none⟩}
section
variable {P:Program} {w0 w w':World} {κ:K} {σ:H}
theorem K.Hb(h:aB w0 κ σ w):κ.le (κ.new w w'):=
 RV.same (fun b o v hm=>by
  show(if b<w.heap.size then _ else _)=_;rw[if_pos (h.nf hm)];exact hm) (aA _) (fun _ _=>rfl) (fun _ _=>rfl) (fun _ _=>rfl) (fun _ _=>rfl)
theorem aB.new(h:aB w0 κ σ w)(hb:Below w.heap.size w w'):aB w0 (κ.new w w') σ w':=by
 have hle:κ.le (κ.new w w'):=K.Hb h;have hg:=h.grow hb;have hmo:∀b o,b<w.heap.size->(κ.new w w').m b o=κ.m b o:=fun b o hlt=>by show(if b<w.heap.size then _ else _)=_;rw[if_pos hlt]
 refine⟨h.n,hg.ext,fun b o v hm=>?_,fun b hb'=>?_,fun x y hx hy g hne=>h.apart x y hx hy g hne,fun l o hr=>hg.rest l o hr,hg.dt⟩
 ·rcases dS b w.heap.size with hlt|hge
  ·rw[hmo b o hlt]at hm;exact hg.mem b o v hm
  ·have hm':(if b<w.heap.size then κ.m b o else w'.cell? ⟨b,o,none⟩)=some v:=hm;rw[if_neg (by omega)]at hm';exact hm'
 ·have h1:=hg.cz b hb';have hl:=fun g hg=>(h.gR (g:=g) hb' hg).2;cases hσ:σ[b]with
  |cells cs=>
   rw[hσ]at h1 hl;obtain⟨vs,t,k1,k2,k3⟩:=h1.row;exact⟨h1.fr,⟨vs,t,k1,k2,fun j hj=>⟨(k3 j hj).1,(k3 j hj).2.mono hle⟩⟩,h1.own,fun o=>(hmo _ o (hl _ rfl)).trans (h1.free o),h1.ty⟩
  |spare e size n=>
   rw[hσ]at h1 hl;exact⟨h1.fr,h1.sz,h1.row,fun g hg' o ho=>(hmo g o (hl g hg')).trans (h1.free g hg' o ho)⟩
  |vec e size cs=>
   rw[hσ]at h1 hl;exact ad.lP.le h1 hle.m h1.fr rfl rfl (fun o=>(hmo _ o (hl _ rfl)).trans (h1.free o))
  |mp kvs=>
   rw[hσ]at h1 hl;exact ad.mapped.le h1 hle.m h1.fr rfl (fun o=>(hmo _ o (hl _ rfl)).trans (h1.free o))
  |gone=>trivial
theorem K.Rb{b:Nat}(hb:w.heap.size<=b)(o:Nat):(κ.new w w').m b o=w'.cell? ⟨b,o,none⟩:=by
 show(if b<w.heap.size then _ else _)=_;rw[if_neg (by omega)]
theorem DC.xt{f:FuncId}{args:List V}{d:V}(hen:Enters P f)(h:∀κ w vs,aB w0 κ σ w->Fits κ args vs->Calls P f vs.toArray w (fun e w'=>∃v,e= .returned v/\Below w.heap.size w w'/\RV (κ.new w w') d v)):
  DC P w0 f args σ (Same d σ):=by
 refine⟨hen,fun κ w vs hrep hfit=>(h κ w vs hrep hfit).mono ?_⟩;rintro e w' ⟨v,he,hb,hv⟩;exact⟨v,d,σ,κ.new w w',he,⟨rfl,rfl⟩,K.Hb hrep,hrep.new hb,hv⟩
theorem aB.Rc(h0:aB w0 κ σ w)(hb:Below w.heap.size w w')(e size:Nat)(v:Value)(hv:(∃A,v= .slice A 0 0)\/w'.ownsRow w.heap.size e size v 0 []):aB w0 (κ.own v size) (σ++[.spare e size 0]) w':=by
 have h:=h0.grow hb;have hle:κ.le (κ.own v size):=K.qS;have fro:∀b,b<σ.length->(κ.own v size).fr b=κ.fr b:=fun b hb=>by show(if b=κ.n then _ else _)=_;rw[if_neg (by rw[h.n];omega)]
 have svo:∀b,b<σ.length->(κ.own v size).sv b=κ.sv b:=fun b hb=>by show(if b=κ.n then _ else _)=_;rw[if_neg (by rw[h.n];omega)]
 have szo:∀b,b<σ.length->(κ.own v size).sz b=κ.sz b:=fun b hb=>by show(if b=κ.n then _ else _)=_;rw[if_neg (by rw[h.n];omega)]
 have frn:(κ.own v size).fr σ.length=some 0:=by show(if σ.length=κ.n then _ else _)=_;rw[if_pos h.n.symm]
 have svn:(κ.own v size).sv σ.length=v:=by show(if σ.length=κ.n then _ else _)=_;rw[if_pos h.n.symm]
 have szn:(κ.own v size).sz σ.length=size:=by show(if σ.length=κ.n then _ else _)=_;rw[if_pos h.n.symm]
 have hheld:∀g,heldBy v=some g->w.heap.size<=g:=fun g hg=>by
  rcases hv with⟨A,rfl⟩|ho
  ·cases A<;>cases hg
  ·exact(ho.lt g (wz hg)).1
 refine⟨by show κ.n+1=_;rw[h.n];simp,h.ext,h.mem,fun b hb=>?_,fun x y hx hy g hne=>?_,fun l o hr=>⟨(h.rest l o hr).1,(h.rest l o hr).2.1,sX (κ:=κ) (fun b hb=>ad.ka (κ:=κ) rfl (svo b hb)) (h.rest l o hr).2.2 (by simp only[ad.bc];rw[svn];intro e;have:=hheld _ e;have:=(Array.getElem?_eq_some_iff.1 (h0.rest l o hr).1).1;omega)⟩,h.dt⟩
 ·rcases dS b σ.length with hb'|hb'
  ·rw[cC hb'];exact ad.is_le (κ:=κ) rfl hle rfl (fro b hb') (svo b hb') (szo b hb') (h.cz b hb')
  ·have hbe:b=σ.length:=by simp at hb;omega
   subst hbe;rw[dJ (aA _)];simp only[ck,dq];refine⟨frn,szn,?_,fun g hg o _=>?_⟩
   ·rw[svn];rcases hv with⟨A,rfl⟩|ho
    ·exact .inl ⟨rfl,A,rfl⟩
    ·refine .inr ⟨[],ho.1,?_⟩;rcases ho.2 with h1|⟨g,cap,cur,q1,q2,q3⟩
     ·exact .inl h1
     ·exact .inr ⟨g,cap,cur,q1,bB h0.ext.size q2,q3⟩
   ·rw[svn]at hg;exact h0.fresh (hheld g hg) o
 ·rcases dS x σ.length with hx'|hx'
  ·rcases dS y σ.length with hy'|hy'
   ·rw[cC hx',cC hy',ad.ka (κ:=κ) (κ':=κ.own v size) rfl (svo x hx'),ad.ka (κ:=κ) (κ':=κ.own v size) rfl (svo y hy')];exact h.apart x y hx' hy' g hne
   ·have hye:y=σ.length:=by simp at hy;omega
    subst hye;rw[cC hx',dJ (aA _),ad.ka (κ:=κ) (κ':=κ.own v size) rfl (svo x hx')];simp only[ck,dq,ad.bc];rw[svn];intro e1 e2;have:=(h0.gR hx' e1).2;have:=hheld g e2;omega
  ·have hxe:x=σ.length:=by simp at hx;omega
   subst hxe;have hy':y<σ.length:=by simp at hy;omega
   rw[dJ (aA _),cC hy',ad.ka (κ:=κ) (κ':=κ.own v size) rfl (svo y hy')];simp only[ck,dq,ad.bc];rw[svn];intro e1 e2;have:=(h0.gR hy' e2).2;have:=hheld g e1;omega
theorem DC.z8{f:FuncId}{args:List V}{e size:Nat}(hen:Enters P f)(h:∀κ w vs,aB w0 κ σ w->Fits κ args vs->Calls P f vs.toArray w (fun r w'=>∃v,r= .returned v/\Below w.heap.size w w'/\((∃A,v= .slice A 0 0)\/w'.ownsRow w.heap.size e size v 0 []))):
  DC P w0 f args σ (Same (.aF σ.length []) (σ++[.spare e size 0])):=by
 refine⟨hen,fun κ w vs hrep hfit=>(h κ w vs hrep hfit).mono ?_⟩;rintro r w' ⟨v,he,hb,hv⟩;have hfr:(κ.own v size).fr σ.length=some 0:=by show(if σ.length=κ.n then _ else _)=_;rw[if_pos hrep.n.symm]
 have hsv:(κ.own v size).sv σ.length=v:=by show(if σ.length=κ.n then _ else _)=_;rw[if_pos hrep.n.symm]
 have hrc:RC (κ.own v size).m (.sl []) v:=by
  rcases hv with⟨A,rfl⟩|ho
  ·exact .sl [] 0 A 0 [] (by simp) (aA _) (bx _) (by simp) (fun h=>absurd rfl h) (fun i hi=>by simp at hi)
  ·rcases ho.2 with⟨rfl,_⟩|⟨g,cap,cur,rfl,_,_,hc,hcm,_⟩
   ·exact RC.nil _
   ·exact .sl [] 0 _ cap [] (by simp) hc hcm (by simp) (fun h=>absurd rfl h) (fun i hi=>by simp at hi)
 exact⟨v,.aF σ.length [],_,κ.own v size,he,⟨rfl,rfl⟩,K.qS,hrep.Rc hb e size v hv,.aF hrc (by show _<κ.n+1;rw[hrep.n];omega) hfr (aA _) (fun _=>hsv.symm) (by simp)⟩
theorem aq.own{n0:Nat}{ρ:Env}(d e size:Nat)(hρ:ρ d= .ab []):aq n0 ⟨ρ.put (some d) (.aF σ.length []),σ++[.spare e size 0]⟩ ⟨ρ,σ⟩:=fun w0 κ0 n κ a w hκ hR=>by
 have hrep:=hR.cZ;have hv:=hR.env d;rw[show(⟨ρ,σ⟩:St).ρ d=ρ d from rfl,hρ]at hv;generalize hx:a.tmps.getD d undef=v at hv;cases hv with
 |ab h1=>
  rename_i A;have hle:κ.le (κ.own (.slice A 0 0) size):=K.qS;have frn:(κ.own (.slice A 0 0) size).fr σ.length=some 0:=by show(if σ.length=κ.n then _ else _)=_;rw[if_pos hrep.n.symm]
  have svn:(κ.own (.slice A 0 0) size).sv σ.length= .slice A 0 0:=by show(if σ.length=κ.n then _ else _)=_;rw[if_pos hrep.n.symm]
  refine⟨κ.own (.slice A 0 0) size,hrep.own e size A,fun k=>?_,hR.size,hR.defers,K.le_trans hR.le hle⟩;show RV _ (Env.put ρ (some d) _ k) _;rw[tw];by_cases hk:k=d
  ·subst hk;rw[if_pos rfl,hx];exact .aF (h1.mono hle.m) (by show _<κ.n+1;rw[hrep.n];exact zN _) frn (aA _) (fun _=>svn.symm) (by simp)
  ·rw[if_neg hk];exact(hR.env k).mono hle
theorem W.own{n0:Nat}{Q:St->Prop}{k:List It}{ρ:Env}(d e size:Nat)(hρ:ρ d= .ab [])(h:W P w0 n0 Q k ⟨ρ.put (some d) (.aF σ.length []),σ++[.spare e size 0]⟩):W P w0 n0 Q k ⟨ρ,σ⟩:=.fG (aq.own d e size hρ) h
end
section
variable {P:Program} {w0 w w':World} {κ:K} {σ:H}
theorem aB.xu(h:aB w0 κ σ w){b j:Nat}{cs:List V}{tg:Option TypeId}{y:V}(hb:σ[b]?=some (.cells cs tg))(hl:y.leaf=true)
  (hxy:∀vs t,w.heap[κ.pos b]?=some (.cells vs t (0,0))->∀(hj:j<cs.length),RV κ cs[j] (vs.getD j undef)->RV κ y (vs.getD j undef)):aB w0 κ (σ.set b (.cells (cs.set j y) tg)) w:=by
 obtain⟨hlt,hbe⟩:=aK.1 hb;have key:∀z (hz:z<σ.length) (hz':z<(σ.set b (.cells (cs.set j y) tg)).length) g,((σ.set b (.cells (cs.set j y) tg))[z]).bc κ z=some g->(σ[z]).bc κ z=some g:=fun z hz hz' g hg=>by
  by_cases hzb:z=b
  ·subst hzb;rw[gw]at hg;rw[hbe];exact hg
  ·rw[fz (fun e=>hzb e.symm)]at hg;exact hg
 refine⟨by rw[bC];exact h.n,h.ext,h.mem,fun c hc=>?_,fun x z hx hz g hne=>?_,fun l o hr=>⟨(h.rest l o hr).1,(h.rest l o hr).2.1,fun z hz' e=>(h.rest l o hr).2.2 z (by simpa using hz') (key z (by simpa using hz') hz' l e)⟩,h.dt⟩
 ·have hc':c<σ.length:=by simpa using hc
  have h1:=h.cz c hc';by_cases hcb:c=b
  ·subst hcb;rw[gw];rw[hbe]at h1;obtain⟨vs,t,k1,k2,k3⟩:=h1.row;refine⟨h1.fr,⟨vs,t,k1,by rw[bC];exact k2,fun i hi=>?_⟩,h1.own,h1.free,h1.ty⟩;have hi':i<cs.length:=by simpa using hi
   by_cases hij:j=i
   ·subst hij;rw[gw];exact⟨hl,hxy vs t k1 hi' (k3 j hi').2⟩
   ·rw[fz hij];exact k3 i hi'
  ·rw[fz (fun e=>hcb e.symm)];exact h1
 ·have hx':x<σ.length:=by simpa using hx
  have hz':z<σ.length:=by simpa using hz
  intro e1 e2;exact h.apart x z hx' hz' g hne (key x hx' hx g e1) (key z hz' hz g e2)
theorem aq.rn{n0:Nat}{ρ:Env}(b j e size:Nat){cs:List V}{tg:Option TypeId}(hb:σ[b]?=some (.cells cs tg))(hj:cs[j]?=some (.ab [])):
  aq n0 ⟨ρ,(σ++[ad.spare e size 0]).set b (.cells (cs.set j (.aF σ.length [])) tg)⟩ ⟨ρ,σ⟩:=fun w0 κ0 n κ a w hκ hR=>by
 have hrep:=hR.cZ;obtain⟨hlt,hbe⟩:=aK.1 hb;obtain⟨hjl,hje⟩:=aK.1 hj;have h1:=hrep.cz b hlt;rw[show(⟨ρ,σ⟩:St).σ[b]= .cells cs tg from hbe]at h1;obtain⟨vs,t,k1,k2,k3⟩:=h1.row;have hv:=(k3 j hjl).2;rw[hje]at hv;generalize hx:vs.getD j undef=v at hv;cases hv with
 |ab hc=>
  rename_i A;have hle:κ.le (κ.own (.slice A 0 0) size):=K.qS;have frn:(κ.own (.slice A 0 0) size).fr σ.length=some 0:=by show(if σ.length=κ.n then _ else _)=_;rw[if_pos hrep.n.symm]
  have svn:(κ.own (.slice A 0 0) size).sv σ.length= .slice A 0 0:=by show(if σ.length=κ.n then _ else _)=_;rw[if_pos hrep.n.symm]
  have hr2:=hrep.own e size A;have hpos:(κ.own (.slice A 0 0) size).pos b=κ.pos b:=(hle.cells b (by rw[hrep.n];exact hlt) h1.fr).2;refine⟨κ.own (.slice A 0 0) size,hr2.xu (b:=b) (j:=j) (cs:=cs) (tg:=tg) (y:=.aF σ.length []) ((cF hlt).trans hb) rfl (fun vs' t' k1' hj' hv'=>?_),fun k=>(hR.env k).mono hle,hR.size,hR.defers,K.le_trans hR.le hle⟩;rw[hpos,k1]at k1';injection k1' with k1';injection k1' with e1 e2;subst e1;rw[hx];exact .aF (hc.mono hle.m) (by show _<κ.n+1;rw[hrep.n];exact zN _) frn (aA _) (fun _=>svn.symm) (by simp)
theorem W.rn{n0:Nat}{Q:St->Prop}{k:List It}{ρ:Env}(b j e size:Nat){cs:List V}{tg:Option TypeId}(hb:σ[b]?=some (.cells cs tg))(hj:cs[j]?=some (.ab []))
 (h:W P w0 n0 Q k ⟨ρ,(σ++[ad.spare e size 0]).set b (.cells (cs.set j (.aF σ.length [])) tg)⟩):W P w0 n0 Q k ⟨ρ,σ⟩:=.fG (aq.rn b j e size hb hj) h
end
structure Two (σ:H) (b v:Nat):Prop where
 ne:b≠v
 lb:b<σ.length
 lv:v<σ.length
def rs(σ:H)(b v:Nat)(X Y:ad):H:=(σ.set b X).set v Y
section
variable {σ:H} {b v:Nat}
@[simp] theorem nk (X Y:ad):(rs σ b v X Y).length=σ.length:=by simp[rs]
theorem tI(X Y Z:ad):(rs σ b v X Y).set v Z=rs σ b v X Z:=by
 unfold rs;rw[List.set_set]
theorem tJ(x:ad)(L:H)(X Y:ad):(rs σ b v X Y++x::L)[σ.length]?=some x:=by
 rw[cY (by simp),nk,ck];rfl
theorem tK(k:Nat)(L:H)(X Y:ad):(rs σ b v X Y++L)[σ.length+k]?=L[k]?:=by
 rw[cY (by simp),nk,fm]
theorem tL(x:ad)(L:H)(X Y:ad):(rs σ b v X Y++L).set σ.length x=rs σ b v X Y++L.set 0 x:=by
 rw[iQ _ _ (by simp),nk,ck]
theorem tM(k:Nat)(x:ad)(L:H)(X Y:ad):(rs σ b v X Y++L).set (σ.length+k) x=rs σ b v X Y++L.set k x:=by
 rw[iQ _ _ (by simp),nk,fm]
end
def pz(l:List bG):C:=.sl (l.map fun s=>[C.str s])
structure gg where
 k:Int
 names:List bG
 n:Int
 ty:aa
 op:cN
 body:ao
 pos:Int
def gg.v(s:gg):V:=.agg [I s.k,.c (pz s.names),I s.n,I s.ty.k,S s.ty.name,I s.ty.n,.c (aT s.ty.l),S s.op.name,I s.op.prec,I s.op.fix,I s.body.k,S s.body.name,I s.body.n,.c (.sl (s.body.l.map ao.cs)),I s.body.pos,I s.pos]
def Rd(s:bG):Bool:=s==[33]||s==[45,62]||s==[107,105,110,100]||s==[116,121,112,101]||s==[105,110,102,105,120]||s==[105,110,102,105,120,108]||s==[105,110,102,105,120,114]
def Hc(l:List cN)(o:cN):Int:=
 if o.fix<0\/2<o.fix then 1
 else if(iD o.name=false/\ll o.name=false)\/Rd o.name=true then 20
 else if o.prec<1\/200<o.prec then 21
 else if(Hd l o.name).isSome=true then 22
 else if 64<=l.length then 23
 else 0
def rz(σ:H)(b:Nat)(X:ad):H:=σ.set b X
section
variable {σ:H} {b:Nat}
@[simp] theorem jG (X:ad):(rz σ b X).length=σ.length:=by simp[rz]
theorem Bl(D:b<σ.length)(L:H)(X:ad):rz (σ++L) b X=rz σ b X++L:=qx _ _ D
theorem Bm(D:b<σ.length)(X:ad):(rz σ b X)[b]?=some X:=List.getElem?_set_self D
theorem Re(D:b<σ.length)(L:H)(X:ad):(rz σ b X++L)[b]?=some X:=by
 rw[cF (by simpa using D),Bm D]
theorem xv(X Z:ad):(rz σ b X).set b Z=rz σ b Z:=by unfold rz;rw[List.set_set]
theorem Rf(D:b<σ.length)(L:H)(X Z:ad):(rz σ b X++L).set b Z=rz σ b Z++L:=by
 rw[qx _ _ (by simpa using D),xv]
theorem Bn(x:ad)(L:H)(X:ad):(rz σ b X++x::L)[σ.length]?=some x:=by
 rw[cY (by simp),jG,ck];rfl
theorem tN(k:Nat)(L:H)(X:ad):(rz σ b X++L)[σ.length+k]?=L[k]?:=by
 rw[cY (by simp),jG,fm]
theorem Bo(x:ad)(L:H)(X:ad):(rz σ b X++L).set σ.length x=rz σ b X++L.set 0 x:=by
 rw[iQ _ _ (by simp),jG,ck]
theorem Bp(k:Nat)(x:ad)(L:H)(X:ad):(rz σ b X++L).set (σ.length+k) x=rz σ b X++L.set k x:=by
 rw[iQ _ _ (by simp),jG,fm]
theorem Rg(D:b<σ.length)(L:H):b<(σ++L).length:=by simp;omega
theorem He(D:b<σ.length){X X':ad}(h:H.ok (rz σ b X))(hx:∀cs tg,X'= .cells cs tg->∀x∈cs,V.low σ.length x):H.ok (rz σ b X'):=by
 intro B hB cs tg hc x hxm;rw[jG];obtain⟨i,hi,rfl⟩:=List.getElem_of_mem hB;have hi':i<σ.length:=by simpa using hi
 have hg:(rz σ b X')[i]?=some (.cells cs tg):=by rw[aR hi,hc]
 by_cases hb:i=b
 ·subst hb;rw[Bm D]at hg;injection hg with hg;exact hx cs tg hg x hxm
 ·have e:(rz σ b X)[i]?=some (.cells cs tg):=by
   rw[<-hg];unfold rz;rw[bX (fun e=>hb e.symm),bX (fun e=>hb e.symm)]
  have:=h (.cells cs tg) (List.mem_of_getElem? e) cs tg rfl x hxm;rwa [jG]at this
theorem dV(D:b<σ.length):(∀X:ad,(rz σ b X)[b]?=some X)/\(∀(L:H) (X:ad),(rz σ b X++L)[b]?=some X)/\(∀(L:H) (X Z:ad),(rz σ b X++L).set b Z=rz σ b Z++L)/\(∀(L:H) (X:ad),rz (σ++L) b X=rz σ b X++L):=⟨Bm D,Re D,Rf D,Bl D⟩
theorem DC.Bq{P:Program}{w0:World}{f:FuncId}{args:List V}{L:H}{X X':ad}{d:V}(D:b<σ.length)(h:b<(σ++L).length->DC P w0 f args (rz (σ++L) b X) (Same d (rz (σ++L) b X'))):DC P w0 f args (rz σ b X++L) (Same d (rz σ b X'++L)):=by rw[<-Bl D,<-Bl D];exact h (Rg D L)
end
section
variable {P:Program} {w0:World} {σ:H}
def Br(r:List aw)(R:V->H->Prop)(s:St):Prop:=∃vs d,br s r=some vs/\V.wk (ak vs) d/\R d s.σ
theorem DC.Rh{f:FuncId}{fn:Func}{x:AC}{r:List aw}{args:List V}{R:V->H->Prop}(hm:P.follows .mixedOrders=true)(hf:P.funcs[f]?=some fn)(hb:fn.body=some (fn.body.getD .skip))(ag:tr P fn.ntmps (fn.body.getD .skip)=some x)
  (dN:jB P fn.results.toList=some r) (hargs:args.length<=fn.ntmps) (hen:Enters P f) (hW:H.ok σ->(∀x∈args,V.Sz x)->W P w0 σ.length (Br r R) [.code x] ⟨iB args,σ⟩):DC P w0 f args σ R:=by
 refine⟨hen,fun κ w vs hrep hfit=>?_⟩;refine calls_of_wp hf hb ?_;have hR:Rel w0 κ fn.ntmps κ ⟨iB args,σ⟩ {tmps:=vs.toArray++Array.replicate (fn.ntmps-vs.toArray.size) undef,defers:=[]} w:=
  ⟨hrep,AN hfit _,by simp[hfit.1];omega,rfl,K.le_refl κ⟩
 have hfin:∀s κ' a w,Rel w0 κ fn.ntmps κ' s a w->Br r R s->a.defers=[]/\∃v,(results fn a.tmps).run P w= .ok v w/\∃v' d σ' κ'',Ending.returned v= .returned v'/\R d σ'/\κ.le κ''/\aB w0 κ'' σ' w/\RV κ'' d v':=by
  rintro s κ' a w hR' ⟨vs,d,h1,h2,h3⟩;obtain⟨v,k1,k2⟩:=AM hR' dN h1;exact⟨hR'.defers,v,k1,v,d,s.σ,κ',rfl,h3,hR'.le,hR'.cZ,k2.wk h2⟩
 refine wp_mono (lV (n0:=σ.length) hrep.n hm (fn.body.getD .skip) x ag (hW hrep.ok hfit.sz) hR) ?_;rintro e a w' ⟨s,κ',hR',hs⟩;cases e with
 |normal=>
  obtain⟨t,hl,hq⟩:=W.AB hs;obtain⟨κ2,hR2⟩:=hl w0 κ fn.ntmps κ' a w' hrep.n hR';exact hfin t κ2 a w' hR2 hq
 |ret=>exact hfin s κ' a w' hR' hs
 |exit id=>obtain⟨k',hp,_⟩:=hs;cases hp
 |goto l=>exact hs.elim
 |panic ch=>exact hs.elim
 |outgrown=>exact hs.elim
theorem az.dn{f:FuncId}{n:Nat}{fn:Func}{x:AC}{r:List aw}(K:az P f n fn x r){args:List V}{R:V->H->Prop}(ha:args.length=n)(h:H.ok σ->(∀x∈args,V.Sz x)->W P w0 σ.length (Br r R) [.code x] ⟨iB args,σ⟩):DC P w0 f args σ R:=
 DC.Rh K.hm K.hf K.hb K.ag K.dN (by rw[ha];exact K.hn) K.en h
end
section
variable {α:Type} (g:α->Int->aa×α)
mutual
def cI:α->aa->aa×α
 |s,.mk k nm n l=>if k=1 then g s n else(.mk (if k=2/\l.length=2 then 2 else 0) (if k=2/\l.length=2 then[]else nm) 0 (bZ s l).1,(bZ s l).2)
def bZ:α->List aa->List aa×α
 |s,[]=>([],s)
 |s,x::l=>((cI s x).1::(bZ (cI s x).2 l).1,(bZ (cI s x).2 l).2)
end
theorem pA(s:α)(p:aa):cI g s p=if p.k=1 then g s p.n else(.mk (if dA p=true then 2 else 0) (if dA p=true then[]else p.name) 0 (bZ g s p.l).1,(bZ g s p.l).2):=by
 cases p;rw[cI];simp only[aa.k,aa.l,aa.name,aa.n,dA,bz,beq_iff_eq]
theorem Hf:∀(l r:List aa) (s:α),bZ g s (l++r)=((bZ g s l).1++(bZ g (bZ g s l).2 r).1,(bZ g (bZ g s l).2 r).2)
 |[],r,s=>by simp[bZ]
 |x::l,r,s=>by rw[iR,bZ,bZ,Hf l r];rfl
theorem tO:∀(l:List aa) (s:α),(bZ g s l).1.length=l.length
 |[],s=>by simp[bZ]
 |x::l,s=>by rw[bZ,bo,bo,tO l]
theorem Hg(s:α){l:List aa}{i:Nat}(h:i<l.length):bZ g s (l.take (i+1))=((bZ g s (l.take i)).1++[(cI g (bZ g s (l.take i)).2 l[i]).1],(cI g (bZ g s (l.take i)).2 l[i]).2):=by
 rw[List.take_succ_eq_append_getElem h,Hf,bZ,bZ]
end
def ml(Ri:Int):Unit->Int->aa×Unit:=fun _ v=>(.var (aW.wrap (v+Ri)),())
def nl(vs:List Int)(v:Int):Nat:=(vs.findIdx? (·==v)).getD vs.length
def aI(vs:List Int)(v:Int):List Int:=if(vs.findIdx? (·==v)).isSome then vs else vs++[v]
def dp:List Int->Int->aa×List Int:=fun vs v=>(.var (nl vs v),aI vs v)
def cK(p:aa):aa:=(cI dp [] p).1
theorem Hh(vs:List Int)(v:Int):(aI vs v).length<=vs.length+1/\vs.length<=(aI vs v).length:=by
 unfold aI;split<;>simp
theorem Hi(vs:List Int)(v:Int):(nl vs v=vs.length/\aI vs v=vs++[v]/\∀j (hj:j<vs.length),(vs[j]==v)=false)\/(∃hk:nl vs v<vs.length,aI vs v=vs/\vs[nl vs v]=v/\∀j (hj:j<vs.length),j<nl vs v->(vs[j]==v)=false):=by
 unfold nl aI;cases h:vs.findIdx? (·==v)with
 |none=>
  left;rw[List.findIdx?_eq_none_iff]at h;exact⟨rfl,rfl,fun j hj=>h _ (bw hj)⟩
 |some k=>
  right;obtain⟨hk,h1,h2⟩:=List.findIdx?_eq_some_iff_getElem.1 h;exact⟨hk,rfl,by simpa using h1,fun j hj hjk=>by simpa using h2 j hjk⟩
structure bL where
 name:bG
 n:Int
structure ay where
 name:bG
 ty:aa
structure Sg where
 kinds:List bL
 types:List ay
 ops:List cN
def bL.cs(x:bL):List C:=[.str x.name,.int .i64 x.n]
def bL.v(x:bL):V:=.agg [S x.name,I x.n]
def ay.cs(x:ay):List C:=[.str x.name,.int .i64 x.ty.k,.str x.ty.name,.int .i64 x.ty.n,aT x.ty.l]
def ay.v(x:ay):V:=.agg [S x.name,I x.ty.k,S x.ty.name,I x.ty.n,.c (aT x.ty.l)]
def bL.none:bL:=⟨[],0⟩
def ay.none:ay:=⟨[],.none⟩
def fO(l:List bL):C:=.sl (l.map bL.cs)
def ef(l:List ay):C:=.sl (l.map ay.cs)
def Sg.v(s:Sg):V:=.agg [.c (fO s.kinds),.c (ef s.types),.c (iC s.ops)]
def mm(l:List bL)(name:bG):Option bL:=l.find? (·.name==name)
def fP(l:List ay)(name:bG):Option ay:=l.find? (·.name==name)
def pB(l:List bL)(p:aa):Bool:=!(p.k==0)||(match mm l p.name with|some x=>x.n==(p.l.length:Int)|none=>false)
mutual
def nn(l:List bL):aa->Bool
 | .mk k s n r=>(!(k==0)||(match mm l s with|some x=>x.n==(r.length:Int)|none=>false))&&tP l r
def tP(l:List bL):List aa->Bool
 |[]=>true
 |x::r=>nn l x&&tP l r
end
theorem Hj(l:List bL):∀r:List aa,tP l r=r.all (nn l)
 |[]=>by simp[tP]
 |x::r=>by rw[tP,jl,Hj l r]
theorem Rj(l:List bL)(p:aa):nn l p=(pB l p&&p.l.all (nn l)):=by
 cases p;rw[nn,Hj];rfl
def pC(l:List bL)(p:aa):Bool:=cJ p&&nn l p
def pD(ok there:Bool)(n:Nat):Int:=if ok=false then 113 else if there=true then 110 else if 1024<=n then 112 else 0
def xw(x:gg)(name:bG):cN:=⟨name,x.op.prec,x.op.fix⟩
def ko(s:Sg)(x:gg)(name:bG):Sg×Int:=
 if x.k=0 then(⟨s.kinds++[⟨name,x.n⟩],s.types,s.ops⟩,pD (iD name&&decide (x.n>=0)) (mm s.kinds name).isSome s.kinds.length)
 else if x.k=1 then(⟨s.kinds,s.types++[⟨name,x.ty⟩],s.ops⟩,pD (iD name||ll name) (fP s.types name).isSome s.types.length)
 else if x.k=2 then(⟨s.kinds,s.types,if Hc s.ops (xw x name)=0 then s.ops++[xw x name]else s.ops⟩,Hc s.ops (xw x name))
 else(s,0)
def jH(x:gg):Sg->List bG->Except Int Sg
 |s,[]=>.ok s
 |s,n::r=>if(ko s x n).2=0 then jH x (ko s x n).1 r else .error (ko s x n).2
def Hk(s:Sg):Except Int Sg->Sg×Int
 | .ok t=>(t,0)
 | .error e=>(s,e)
def kp(s:Sg)(x:gg):Sg×Int:=
 if x.k<0\/3<x.k then(s,1)
 else if x.k=1/\pC s.kinds x.ty=false then(s,111)
 else Hk s (jH x s x.names)
theorem Hl(x:gg):∀(l:List bG) (s:Sg) (e:Int),jH x s l= .error e->(e==0)=false
 |[],s,e,h=>by rw[jH]at h;cases h
 |m::l,s,e,h=>by
  rw[jH]at h;by_cases h0:(ko s x m).2=0
  ·rw[if_pos h0]at h;exact Hl x l _ e h
  ·rw[if_neg h0]at h;injection h with h;subst h;simpa using h0
theorem OC{κ:K}(s:ByteArray)(h:s.size<=maxLen):RV κ (S s.data.toList) (.string s):=by
 have:=RC.str (m:=κ.m) s.data.toList (by simpa using h);rw[<-Bt]at this;exact .c this
noncomputable section
def eqStr:List UInt8->List UInt8->Bool
 |[],[]=>true
 |a::l,b::r=>bif ca a.toNat b.toNat then eqStr l r else false
 |_,_=>false
theorem Hm:∀{a b:List UInt8},eqStr a b=true->a=b
 |[],[],_=>rfl
 |x::l,y::r,h=>by
  simp only[eqStr,cond_eq_ite]at h;split at h
  ·rename_i hx;have h1:x=y:=UInt8.toNat_inj.1 (fo hx);rw[h1,Hm h]
  ·cases h
 |[],_::_,h=>by cases h
 |_::_,[],h=>by cases h
def Bu:Int->Int->Bool
 | .ofNat a,.ofNat b=>ca a b
 | .negSucc a,.negSucc b=>ca a b
 |_,_=>false
theorem Rk{a b:Int}(h:Bu a b=true):a=b:=by
 cases a<;>cases b<;>simp only[Bu]at h
 ·rw[fo h]
 ·cases h
 ·cases h
 ·rw[fo h]
mutual
def jI:C->C->Bool
 | .bool a,.bool b=>a==b
 | .int k a,.int q b=>decide (k=q)&&Bu a b
 | .str a,.str b=>eqStr a b
 | .sl a,.sl b=>ln a b
 | .ez,.ez=>true
 | .ref a n,.ref b m=>pE a b&&ca n m
 | .iT,.iT=>true
 | .err,.err=>true
 |_,_=>false
def pE:List C->List C->Bool
 |[],[]=>true
 |a::l,b::r=>jI a b&&pE l r
 |_,_=>false
def ln:List (List C)->List (List C)->Bool
 |[],[]=>true
 |a::l,b::r=>pE a b&&ln l r
 |_,_=>false
end
mutual
theorem xx:∀{a b:C},jI a b=true->a=b
 | .bool a,b,h=>by cases b<;>simp[jI]at h;rw[h]
 | .int k a,b,h=>by
   cases b<;>simp[jI]at h;rw[h.1,Rk h.2]
 | .str a,b,h=>by cases b<;>simp[jI]at h;rw[Hm h]
 | .sl a,b,h=>by cases b<;>simp[jI]at h;rw[rp h]
 | .ez,b,h=>by cases b<;>simp[jI]at h;rfl
 | .ref a n,b,h=>by
   cases b<;>simp[jI]at h;rw[xy h.1,h.2]
 | .iT,b,h=>by cases b<;>simp[jI]at h;rfl
 | .err,b,h=>by cases b<;>simp[jI]at h;rfl
theorem xy:∀{a b:List C},pE a b=true->a=b
 |[],b,h=>by cases b<;>simp[pE]at h;rfl
 |x::l,b,h=>by
  cases b<;>simp[pE]at h;rw[xx h.1,xy h.2]
theorem rp:∀{a b:List (List C)},ln a b=true->a=b
 |[],b,h=>by cases b<;>simp[ln]at h;rfl
 |x::l,b,h=>by
  cases b<;>simp[ln]at h;rw[xy h.1,rp h.2]
end
mutual
def gh:V->V->Bool
 | .void,.void=>true
 | .any,.any=>true
 | .c a,.c b=>jI a b
 | .ptr a n,.ptr b m=>ca a b&&ca n m
 | .aF a r,.aF b q=>ca a b&&ln r q
 | .ab r,.ab q=>ln r q
 | .fn f a,.fn g b=>ca f g&&mq a b
 | .cj,.cj=>true
 | .mp a,.mp b=>ca a b
 | .cy,.cy=>true
 | .vec a k,.vec b m=>ca a b&&ca k m
 | .agg a,.agg b=>mq a b
 | .av a,.av b=>mq a b
 |_,_=>false
def mq:List V->List V->Bool
 |[],[]=>true
 |a::l,b::r=>gh a b&&mq l r
 |_,_=>false
end
mutual
theorem xz:∀{a b:V},gh a b=true->a=b
 | .void,b,h=>by cases b<;>simp[gh]at h;rfl
 | .any,b,h=>by cases b<;>simp[gh]at h;rfl
 | .c a,b,h=>by cases b<;>simp[gh]at h;rw[xx h]
 | .ptr a n,b,h=>by cases b<;>simp[gh]at h;rw[h.1,h.2]
 | .aF a r,b,h=>by cases b<;>simp[gh]at h;rw[h.1,rp h.2]
 | .ab r,b,h=>by cases b<;>simp[gh]at h;rw[rp h]
 | .fn f a,b,h=>by
   cases b<;>simp[gh]at h;rw[h.1,rq h.2]
 | .cj,b,h=>by cases b<;>simp[gh]at h;rfl
 | .mp a,b,h=>by cases b<;>simp[gh]at h;rw[h]
 | .cy,b,h=>by cases b<;>simp[gh]at h;rfl
 | .vec a k,b,h=>by cases b<;>simp[gh]at h;rw[h.1,h.2]
 | .agg a,b,h=>by cases b<;>simp[gh]at h;rw[rq h]
 | .av a,b,h=>by cases b<;>simp[gh]at h;rw[rq h]
theorem rq:∀{a b:List V},mq a b=true->a=b
 |[],b,h=>by cases b<;>simp[mq]at h;rfl
 |x::l,b,h=>by
  cases b<;>simp[mq]at h;rw[xz h.1,rq h.2]
end
def Bv:Option TypeId->Option TypeId->Bool
 |none,none=>true
 |some a,some b=>ca a b
 |_,_=>false
theorem Rm{a b:Option TypeId}(h:Bv a b=true):a=b:=by
 cases a<;>cases b<;>simp only[Bv]at h
 ·rfl
 ·cases h
 ·cases h
 ·rw[fo h]
def xA:List (C×C)->List (C×C)->Bool
 |[],[]=>true
 |(a,x)::l,(b,y)::r=>jI a b&&(jI x y&&xA l r)
 |_,_=>false
theorem Hn:∀{a b:List (C×C)},xA a b=true->a=b
 |[],[],_=>rfl
 |(x,u)::l,(y,v)::r,h=>by
  simp only[xA,bz]at h;rw[xx h.1,xx h.2.1,Hn h.2.2]
 |[],_::_,h=>by cases h
 |_::_,[],h=>by cases h
def Bw:ad->ad->Bool
 | .cells a t,.cells b u=>mq a b&&Bv t u
 | .spare a s n,.spare b t m=>ca a b&&(ca s t&&ca n m)
 | .mp a,.mp b=>xA a b
 | .vec e s a,.vec f t b=>ca e f&&(ca s t&&pE a b)
 | .gone,.gone=>true
 |_,_=>false
theorem Rn{a b:ad}(h:Bw a b=true):a=b:=by
 cases a<;>cases b<;>simp only[Bw,bz]at h<;>first|(cases h;done)|skip
 ·rw[rq h.1,Rm h.2]
 ·rw[fo h.1,fo h.2.1,fo h.2.2]
 ·rw[Hn h]
 ·rw[fo h.1,fo h.2.1,xy h.2.2]
 ·rfl
def kq:H->H->Bool
 |[],[]=>true
 |a::l,b::r=>Bw a b&&kq l r
 |_,_=>false
theorem pF:∀{a b:H},kq a b=true->a=b
 |[],[],_=>rfl
 |x::l,y::r,h=>by
  simp only[kq,bz]at h;rw[Rn h.1,pF h.2]
 |[],_::_,h=>by cases h
 |_::_,[],h=>by cases h
section
variable {α β:Type}
def fN(n:Nat)(k:Nat->α):α:=match n with
 |0=>k 0
 |m+1=>k (Nat.succ m)
theorem xB(n:Nat)(k:Nat->α):fN n k=k n:=by cases n<;>rfl
def fI(i:Int)(k:Int->α):α:=match i with
 | .ofNat n=>fN n fun n=>k (.ofNat n)
 | .negSucc n=>fN n fun n=>k (.negSucc n)
theorem Ho(i:Int)(k:Int->α):fI i k=k i:=by cases i<;>simp only[fI,xB]
def fB(b:Bool)(k:Bool->α):α:=match b with
 |true=>k true
 |false=>k false
theorem np(b:Bool)(k:Bool->α):fB b k=k b:=by cases b<;>rfl
def fL(f:β->(β->α)->α)(l:List β):(List β->α)->α:=List.rec (motive:=fun _=>(List β->α)->α) (fun k=>k []) (fun a _ ih k=>f a fun a=>ih fun l=>k (a::l)) l
theorem Ro(f:β->(β->α)->α)(a:β)(l:List β)(k:List β->α):fL f (a::l) k=f a fun a=>fL f l fun l=>k (a::l):=rfl
theorem kr{f:β->(β->α)->α}(hf:∀a k,f a k=k a):∀(l:List β) (k:List β->α),fL f l k=k l
 |[],k=>rfl
 |a::l,k=>by simp only[Ro,hf,kr hf l]
def fC(x:C)(k:C->α):α:=match x with
 | .bool b=>fB b fun b=>k (.bool b)
 | .int q n=>fI n fun n=>k (.int q n)
 |x=>k x
theorem tQ(x:C)(k:C->α):fC x k=k x:=by cases x<;>simp only[fC,np,Ho]
def fR(l:List (List C))(k:List (List C)->α):α:=fL (fL fC) l k
theorem Hp(l:List (List C))(k:List (List C)->α):fR l k=k l:=kr (fun a k=>kr tQ a k) l k
def By(x:C)(k:C->α):α:=match x with
 | .bool b=>fB b fun b=>k (.bool b)
 | .int q n=>fI n fun n=>k (.int q n)
 | .str l=>fL (fun a k=>k a) l fun l=>k (.str l)
 | .sl r=>fR r fun r=>k (.sl r)
 | .ref cs o=>fL fC cs fun cs=>fN o fun o=>k (.ref cs o)
 |x=>k x
theorem Rp(x:C)(k:C->α):By x k=k x:=by
 cases x<;>simp only[By,np,Ho,Hp,xB]
 ·exact kr (fun _ _=>rfl) _ _
 ·rw[kr tQ]
def nw(x:V)(k:V->α):α:=match x with
 | .void=>k .void
 | .any=>k .any
 | .c x=>fC x fun x=>k (.c x)
 | .ptr b o=>k (.ptr b o)
 | .aF b r=>k (.aF b r)
 | .ab r=>k (.ab r)
 | .fn f l=>k (.fn f l)
 | .cj=>k .cj
 | .mp b=>k (.mp b)
 | .cy=>k .cy
 | .vec b n=>k (.vec b n)
 | .agg l=>k (.agg l)
 | .av l=>k (.av l)
theorem xC(x:V)(k:V->α):nw x k=k x:=by cases x<;>simp only[nw,tQ]
def nz(x:V)(k:V->α):α:=match x with
 | .c x=>By x fun x=>k (.c x)
 | .ptr b o=>fN b fun b=>fN o fun o=>k (.ptr b o)
 | .aF b r=>fN b fun b=>fR r fun r=>k (.aF b r)
 | .ab r=>fR r fun r=>k (.ab r)
 | .fn f l=>fN f fun f=>fL nw l fun l=>k (.fn f l)
 | .mp b=>fN b fun b=>k (.mp b)
 | .vec b n=>fN b fun b=>fN n fun n=>k (.vec b n)
 | .agg l=>fL nw l fun l=>k (.agg l)
 | .av l=>fL nw l fun l=>k (.av l)
 |x=>k x
theorem pG(x:V)(k:V->α):nz x k=k x:=by cases x<;>simp only[nz,Rp,xB,Hp,kr xC]
def ru(x:V)(k:V->α):α:=match x with
 | .av l=>fL nz l fun l=>k (.av l)
 |x=>nz x k
theorem Hq(x:V)(k:V->α):ru x k=k x:=by cases x<;>simp only[ru,pG,kr pG]
def xD(x:ad)(k:ad->α):α:=match x with
 | .cells cs tg=>fL nw cs fun cs=>k (.cells cs tg)
 | .spare e s n=>fN n fun n=>k (.spare e s n)
 | .mp kvs=>fL (fun p k=>fC p.1 fun a=>fC p.2 fun b=>k (a,b)) kvs fun kvs=>k (.mp kvs)
 | .vec e s cs=>fL fC cs fun cs=>k (.vec e s cs)
 | .gone=>k .gone
theorem Hr(x:ad)(k:ad->α):xD x k=k x:=by
 cases x<;>simp only[xD,xB,kr xC,kr tQ];exact kr (fun p k=>by simp only[tQ]) _ _
def fH(σ:H)(k:H->α):α:=fL xD σ k
theorem xE(σ:H)(k:H->α):fH σ k=k σ:=kr Hr σ k
def fS(σ:H)(k:H->α):α:=fL (fun x k=>k x) σ k
theorem Rq(σ:H)(k:H->α):fS σ k=k σ:=kr (fun _ _=>rfl) σ k
def Hs(σ:H):Nat->(H->α)->α:=List.rec (motive:=fun _=>Nat->(H->α)->α) (fun _ k=>k []) (fun x l ih i k=>Nat.rec (motive:=fun _=>α) (xD x fun x=>k (x::l)) (fun i _=>ih i fun l=>k (x::l)) i) σ
theorem Ht:∀(σ:H) (i:Nat) (k:H->α),Hs σ i k=k σ
 |[],_,_=>rfl
 |x::l,0,k=>Hr x fun x=>k (x::l)
 |x::l,i+1,k=>Ht l i fun l=>k (x::l)
end
inductive TR where
 |e
 |n (v:V) (l r:TR)
def TR.get(t:TR):Nat->V:=TR.rec (motive:=fun _=>Nat->V) (fun _=>.void) (fun v _ _ gl gr i=>Nat.rec (motive:=fun _=>V) v (fun i _=>zV (motive:=fun _=>V) (gr (Nat.div i 2)) (gl (Nat.div i 2)) (ca (Nat.mod i 2) 0)) i) t
section
variable {α:Type}
def TR.ou(t:TR):Nat->V->(TR->Option α)->Option α:=TR.rec (motive:=fun _=>Nat->V->(TR->Option α)->Option α) (fun _ _ _=>none)
 (fun u l r pl pr i v k=>Nat.rec (motive:=fun _=>Option α) (k (.n v l r)) (fun i _=>zV (motive:=fun _=>Option α) (pr (Nat.div i 2) v fun r=>k (.n u l r)) (pl (Nat.div i 2) v fun l=>k (.n u l r)) (ca (Nat.mod i 2) 0)) i) t
end
theorem TR.pH(v:V)(l r:TR)(i:Nat)(h:i%2=0):(TR.n v l r).get (i+1)=l.get (i/2):=by
 show zV (motive:=fun _=>V) _ _ (ca (i%2) 0)=_;rw[h];rfl
theorem TR.pI(v:V)(l r:TR)(i:Nat)(h:i%2=1):(TR.n v l r).get (i+1)=r.get (i/2):=by
 show zV (motive:=fun _=>V) _ _ (ca (i%2) 0)=_;rw[h];rfl
theorem TR.xF{α:Type}{b:α}:∀{t:TR} {i:Nat} {v:V} {k:TR->Option α},t.ou i v k=some b->∃t',k t'=some b/\∀j,t'.get j=if j=i then v else t.get j
 | .e,_,_,_,h=>by cases h
 | .n u l r,i,v,k,h=>by
   cases i with
   |zero=>
    refine⟨.n v l r,h,fun j=>?_⟩;cases j with
    |zero=>rfl
    |succ j=>rfl
   |succ i=>
    have h':zV (motive:=fun _=>Option α) (r.ou (i/2) v (fun r=>k (.n u l r))) (l.ou (i/2) v (fun l=>k (.n u l r))) (ca (i%2) 0)=some b:=h;rcases zW i with hi|hi
    ·rw[hi]at h';obtain⟨l',h1,h2⟩:=TR.xF (t:=l) (show l.ou (i/2) v (fun l=>k (.n u l r))=some b from h');refine⟨.n u l' r,h1,fun j=>?_⟩;cases j with
     |zero=>rfl
     |succ j=>
      rcases zW j with hj|hj
      ·rw[TR.pH _ _ _ _ hj,TR.pH _ _ _ _ hj,h2];have:(j/2=i/2)↔(j+1=i+1):=by omega
       simp only[this]
      ·rw[TR.pI _ _ _ _ hj,TR.pI _ _ _ _ hj,if_neg (by omega)]
    ·rw[hi]at h';obtain⟨r',h1,h2⟩:=TR.xF (t:=r) (show r.ou (i/2) v (fun r=>k (.n u l r))=some b from h');refine⟨.n u l r',h1,fun j=>?_⟩;cases j with
     |zero=>rfl
     |succ j=>
      rcases zW j with hj|hj
      ·rw[TR.pH _ _ _ _ hj,TR.pH _ _ _ _ hj,if_neg (by omega)]
      ·rw[TR.pI _ _ _ _ hj,TR.pI _ _ _ _ hj,h2];have:(j/2=i/2)↔(j+1=i+1):=by omega
       simp only[this]
def TR.full:Nat->TR
 |0=>.e
 |d+1=>.n .void (TR.full d) (TR.full d)
theorem TR.Bz:∀(d i:Nat),(TR.full d).get i= .void
 |0,_=>rfl
 |d+1,0=>rfl
 |d+1,i+1=>by
  rcases zW i with hi|hi
  ·rw[TR.full,TR.pH _ _ _ _ hi,TR.Bz d]
  ·rw[TR.full,TR.pI _ _ _ _ hi,TR.Bz d]
end
end Go.Lamb
namespace Go.Lamb
open Go Go.RowKit
inductive V.cm (ι:Nat->Nat) (m:Nat):V->V->Prop where
 |void:V.cm ι m .void .void
 |any:V.cm ι m .any .any
 |c (x:C):V.cm ι m (.c x) (.c x)
 |ptr {j o:Nat} (h:j<m):V.cm ι m (.ptr (ι j) o) (.ptr j o)
 |aF {j:Nat} {r:List (List C)} (h:j<m):V.cm ι m (.aF (ι j) r) (.aF j r)
 |ab (r:List (List C)):V.cm ι m (.ab r) (.ab r)
 |fn {f:FuncId} {a b:List V} (hl:b.length=a.length) (h:∀k (hk:k<a.length) (hk':k<b.length),V.cm ι m a[k] b[k]):V.cm ι m (.fn f a) (.fn f b)
 |cj:V.cm ι m .cj .cj
 |mp {j:Nat} (h:j<m):V.cm ι m (.mp (ι j)) (.mp j)
 |cy:V.cm ι m .cy .cy
 |vec {j k:Nat} (h:j<m):V.cm ι m (.vec (ι j) k) (.vec j k)
 |agg {a b:List V} (hl:b.length=a.length) (h:∀k (hk:k<a.length) (hk':k<b.length),V.cm ι m a[k] b[k]):V.cm ι m (.agg a) (.agg b)
 |av {a b:List V} (hl:b.length=a.length) (h:∀k (hk:k<a.length) (hk':k<b.length),V.cm ι m a[k] b[k]):V.cm ι m (.av a) (.av b)
inductive ad.cm (ι:Nat->Nat) (m:Nat):ad->ad->Prop where
 |cells {a b:List V} {tg:Option TypeId} (hl:b.length=a.length) (h:∀k (hk:k<a.length) (hk':k<b.length),V.cm ι m a[k] b[k]):ad.cm ι m (.cells a tg) (.cells b tg)
 |spare (e s n:Nat):ad.cm ι m (.spare e s n) (.spare e s n)
 |mp (l:List (C×C)):ad.cm ι m (.mp l) (.mp l)
 |vec (e s:Nat) (cs:List C):ad.cm ι m (.vec e s cs) (.vec e s cs)
 |gone:ad.cm ι m .gone .gone
def K.pack(κ:K)(ι:Nat->Nat)(m:Nat):K:={κ with n:=m,pos:=fun j=>κ.pos (ι j),fr:=fun j=>κ.fr (ι j),sv:=fun j=>κ.sv (ι j),sz:=fun j=>κ.sz (ι j)}
section
variable {w0 w:World} {κ:K} {σ τ:H} {ι:Nat->Nat} {m:Nat}
theorem RV.pack{x y:V}{v:Value}(h:V.cm ι m x y)(r:RV κ x v):RV (κ.pack ι m) y v:=by
 induction h generalizing v with
 |void=>cases r;exact .void
 |any=>exact .any v
 |c x=>cases r with|c h=>exact .c h
 |ptr hj=>cases r with|ptr h h1=>exact RV.ptr (κ:=κ.pack ι m) hj h1
 |aF hj=>cases r with|aF h h1 h2 h3 h4 h5=>exact RV.aF (κ:=κ.pack ι m) h hj h2 h3 h4 h5
 |ab r'=>cases r with|ab h=>exact .ab h
 |fn hl h ih=>cases r with|fn k k1=>exact .fn (by omega) fun j hj=>ih j (by omega) hj (k1 j (by omega))
 |cj=>cases r;exact .cj
 |mp hj=>cases r with|mp h h1=>exact RV.mp (κ:=κ.pack ι m) hj h1
 |cy=>cases r;exact .cy
 |vec hj=>cases r with|vec h h1 h2 h3 h4 h5=>exact RV.vec (κ:=κ.pack ι m) hj h1 h2 h3 h4 h5
 |agg hl h ih=>cases r with|agg k k1=>exact .agg (by omega) fun j hj=>ih j (by omega) hj (k1 j (by omega))
 |av hl h ih=>cases r with|av k k1=>exact .av (by omega) fun j hj=>ih j (by omega) hj (k1 j (by omega))
theorem V.Rr{x y:V}(h:V.cm ι m x y):y.leaf=x.leaf:=by cases h<;>rfl
theorem ad.BA{a b:ad}(h:ad.cm ι m a b)(j:Nat):b.bc (κ.pack ι m) j=a.bc κ (ι j):=by cases h<;>rfl
theorem aB.pack(h:aB w0 κ σ w)(hlt:∀j,j<m->ι j<σ.length)(inj:∀i j,i<m->j<m->ι i=ι j->i=j)(hτ:τ.length=m)(hb:∀j (hj:j<m) (hj':j<τ.length) (hι:ι j<σ.length),ad.cm ι m σ[ι j] τ[j]):aB w0 (κ.pack ι m) τ w:=by
 refine⟨hτ.symm,h.ext,h.mem,fun j hj=>?_,fun i j hi hj g hne=>?_,fun l o hr=>⟨(h.rest l o hr).1,(h.rest l o hr).2.1,fun j hj=>?_⟩,h.dt⟩
 ·have hjm:j<m:=by omega
  have hι:=hlt j hjm;have h1:=h.cz (ι j) hι;have h2:=hb j hjm hj hι;generalize σ[ι j]=X at h1 h2;generalize τ[j]=Y at h2⊢;cases h2 with
  |cells hl hc=>
   obtain⟨vs,t,k1,k2,k3⟩:=h1.row;refine⟨h1.fr,⟨vs,t,k1,by omega,fun k hk=>?_⟩,h1.own,h1.free,h1.ty⟩;have hka:=hc k (by omega) hk;have:=k3 k (by omega);exact⟨(V.Rr hka).trans this.1,this.2.pack hka⟩
  |spare e s n=>exact⟨h1.fr,h1.sz,h1.row,h1.free⟩
  |mp l=>exact⟨h1.fr,h1.row,h1.own,h1.free⟩
  |vec e s cs=>exact⟨h1.fr,h1.row,h1.own,h1.free⟩
  |gone=>trivial
 ·have him:i<m:=by omega
  have hjm:j<m:=by omega
  rw[ad.BA (hb i him hi (hlt i him)),ad.BA (hb j hjm hj (hlt j hjm))];exact h.apart _ _ (hlt i him) (hlt j hjm) g (fun e=>hne (inj i j him hjm e))
 ·have hjm:j<m:=by omega
  rw[ad.BA (hb j hjm hj (hlt j hjm))];exact(h.rest l o hr).2.2 _ (hlt j hjm)
theorem K.xG{κ0:K}(h:κ0.le κ)(hid:∀b,b<κ0.n->ι b=b)(hn:κ0.n<=m):κ0.le (κ.pack ι m):=by
 refine⟨h.m,hn,fun b hb hf=>?_,fun b f hb hf=>?_,fun b hb hf=>?_,h.rest,h.dt⟩
 ·show κ.fr (ι b)=none/\κ.pos (ι b)=_;rw[hid b hb];exact h.cells b hb hf
 ·show∃f',κ.fr (ι b)=some f'/\f<=f'/\(f'=f->κ.sv (ι b)=_)/\κ.sz (ι b)=_;rw[hid b hb];exact h.spare b f hb hf
 ·show κ.sv (ι b)=_;rw[hid b hb];exact h.sS b hb hf
theorem DC.pack{P:Program}{f:FuncId}{args:List V}{d d':V}{σ1:H}(hd:DC P w0 f args σ (Same d σ1))(hid:∀b,b<σ.length->ι b=b)(hn:σ.length<=m)(hlt:∀j,j<m->ι j<σ1.length)(inj:∀i j,i<m->j<m->ι i=ι j->i=j)(hτ:τ.length=m)
  (hb:∀j (hj:j<m) (hj':j<τ.length) (hι:ι j<σ1.length),ad.cm ι m σ1[ι j] τ[j]) (hv:V.cm ι m d d'):DC P w0 f args σ (Same d' τ):=by
 refine⟨hd.enters,fun κ w vs hrep hfit=>(hd.run κ w vs hrep hfit).mono ?_⟩;rintro e w' ⟨v,d0,σ0,κ',rfl,⟨rfl,rfl⟩,h3,h4,h5⟩;exact⟨v,d',τ,κ'.pack ι m,rfl,⟨rfl,rfl⟩,K.xG h3 (fun b hb=>hid b (by rw[<-hrep.n];exact hb)) (by rw[hrep.n];exact hn),h4.pack hlt inj hτ hb,h5.pack hv⟩
end
def posOf(b:Nat):Nat->List Nat->Option Nat
 |_,[]=>none
 |i,a::l=>cond (ca a b) (some i) (posOf b (i+1) l)
theorem Hu{b:Nat}:∀{l:List Nat} {i k:Nat},posOf b i l=some k->i<=k/\∃h:k-i<l.length,l[k-i]=b
 |[],_,_,h=>by cases h
 |a::l,i,k,h=>by
  unfold posOf at h;cases hc:ca a b with
  |true=>
   rw[hc]at h;injection h with h;subst h;have:=fo hc;exact⟨aA _,by simp,by simpa using this⟩
  |false=>
   rw[hc]at h;obtain⟨h1,h2,h3⟩:=Hu (l:=l) h;refine⟨by omega,by simp;omega,?_⟩;have e:k-i=(k-(i+1))+1:=by omega
   simp only[e,nP];exact h3
def rv(n0:Nat)(js:List Nat)(b:Nat):Option Nat:=cond (lL b n0) (some b) (posOf b n0 js)
def iG(n0:Nat)(js:List Nat)(j:Nat):Nat:=if j<n0 then j else js.getD (j-n0) 0
theorem Rs{n0 b k:Nat}{js:List Nat}(h:rv n0 js b=some k):k<n0+js.length/\iG n0 js k=b:=by
 unfold rv at h;cases hc:lL b n0 with
 |true=>
  rw[hc]at h;injection h with h;subst h;have:b<n0:=eI hc;exact⟨by omega,by unfold iG;rw[if_pos this]⟩
 |false=>
  rw[hc]at h;obtain⟨h1,h2,h3⟩:=Hu h;refine⟨by omega,?_⟩;unfold iG;rw[if_neg (by omega)];simp[lG,h2,h3]
def tR(n0:Nat)(js:List Nat):V->Option V
 | .void=>some .void
 | .any=>some .any
 | .c x=>some (.c x)
 | .ab r=>some (.ab r)
 | .cj=>some .cj
 | .cy=>some .cy
 | .ptr b o=>match rv n0 js b with
   |some k=>some (.ptr k o)
   |none=>none
 | .aF b r=>match rv n0 js b with
   |some k=>some (.aF k r)
   |none=>none
 | .mp b=>match rv n0 js b with
   |some k=>some (.mp k)
   |none=>none
 | .vec b n=>match rv n0 js b with
   |some k=>some (.vec k n)
   |none=>none
 |_=>none
def pJ(g:V->Option V):List V->Option (List V)
 |[]=>some []
 |x::l=>match g x with
  |none=>none
  |some y=>match pJ g l with
   |none=>none
   |some r=>some (y::r)
def tS(n0:Nat)(js:List Nat):V->Option V
 | .fn f caps=>match pJ (tR n0 js) caps with
   |some l=>some (.fn f l)
   |none=>none
 | .agg vs=>match pJ (tR n0 js) vs with
   |some l=>some (.agg l)
   |none=>none
 |x=>tR n0 js x
def BB(n0:Nat)(js:List Nat):V->Option V
 | .av vs=>match pJ (tS n0 js) vs with
   |some l=>some (.av l)
   |none=>none
 |x=>tS n0 js x
def BC(n0:Nat)(js:List Nat):ad->Option ad
 | .cells cs tg=>match pJ (tS n0 js) cs with
   |some l=>some (.cells l tg)
   |none=>none
 | .spare e s n=>some (.spare e s n)
 | .mp l=>some (.mp l)
 | .vec e s cs=>some (.vec e s cs)
 | .gone=>some .gone
section
variable {n0:Nat} {js:List Nat}
theorem BD{x y:V}(h:tR n0 js x=some y):V.cm (iG n0 js) (n0+js.length) x y:=by
 unfold tR at h;split at h<;>first
  |(injection h with h;subst h;constructor;done)
  |(split at h
    ·rename_i k hk;obtain⟨h1,h2⟩:=Rs hk;injection h with h;subst h;rw[<-h2];constructor;exact h1
    ·cases h)
  |(cases h;done)
theorem tT{g:V->Option V}{R:V->V->Prop}(hg:∀x y,g x=some y->R x y):∀{l r:List V},pJ g l=some r->r.length=l.length/\∀k (hk:k<l.length) (hk':k<r.length),R l[k] r[k]
 |[],r,h=>by injection h with h;subst h;exact⟨rfl,fun k hk=>by simp at hk⟩
 |x::l,r,h=>by
  unfold pJ at h;split at h
  ·cases h
  ·rename_i y hy;split at h
   ·cases h
   ·rename_i r' hr;injection h with h;subst h;obtain⟨h1,h2⟩:=tT hg hr;refine⟨by simp[h1],fun k hk hk'=>?_⟩;cases k with
    |zero=>exact hg _ _ hy
    |succ k=>exact h2 k (by simpa using hk) (by simpa using hk')
theorem BE{x y:V}(h:tS n0 js x=some y):V.cm (iG n0 js) (n0+js.length) x y:=by
 unfold tS at h;split at h
 ·split at h
  ·rename_i l hl;injection h with h;subst h;obtain⟨h1,h2⟩:=tT (fun _ _=>BD) hl;exact .fn h1 h2
  ·cases h
 ·split at h
  ·rename_i l hl;injection h with h;subst h;obtain⟨h1,h2⟩:=tT (fun _ _=>BD) hl;exact .agg h1 h2
  ·cases h
 ·exact BD h
theorem Rt{x y:V}(h:BB n0 js x=some y):V.cm (iG n0 js) (n0+js.length) x y:=by
 unfold BB at h;split at h
 ·split at h
  ·rename_i l hl;injection h with h;subst h;obtain⟨h1,h2⟩:=tT (fun _ _=>BE) hl;exact .av h1 h2
  ·cases h
 ·exact BE h
theorem Ru{x y:ad}(h:BC n0 js x=some y):ad.cm (iG n0 js) (n0+js.length) x y:=by
 unfold BC at h;split at h
 ·split at h
  ·rename_i l hl;injection h with h;subst h;obtain⟨h1,h2⟩:=tT (fun _ _=>BE) hl;exact .cells h1 h2
  ·cases h
 all_goals (injection h with h;subst h;constructor)
end
def BF:V->List Nat
 | .ptr b _=>[b]
 | .aF b _=>[b]
 | .mp b=>[b]
 | .vec b _=>[b]
 |_=>[]
def tU(g:V->List Nat):List V->List Nat->List Nat
 |[],acc=>acc
 |x::l,acc=>g x++tU g l acc
def BG:V->List Nat
 | .fn _ caps=>tU BF caps []
 | .agg vs=>tU BF vs []
 |x=>BF x
def Rv:V->List Nat
 | .av vs=>tU BG vs []
 |x=>BG x
def Hv:ad->List Nat->List Nat
 | .cells cs _,acc=>tU BG cs acc
 |_,acc=>acc
def Hw:Nat->H->List Nat->List Nat
 |0,_,acc=>acc
 |_,[],acc=>acc
 |n+1,b::σ,acc=>Hv b (Hw n σ acc)
def Hx(a:Nat):List Nat->Bool
 |[]=>false
 |b::l=>cond (ca a b) true (Hx a l)
def Hy(ls:List Nat):Nat->H->List Nat×List Nat
 |_,[]=>([],ls)
 |i,b::σ=>match Hy ls (i+1) σ with
  |(js,ls)=>cond (Hx i ls) (i::js,Hv b ls) (js,ls)
def tV:Nat->Nat->List Nat->Bool
 |_,_,[]=>true
 |lo,n,a::l=>dk lo a&&(lL a n&&tV (a+1) n l)
theorem Hz{n:Nat}:∀{l:List Nat} {lo:Nat},tV lo n l=true->(∀k (hk:k<l.length),lo<=l[k]/\l[k]<n)/\∀i j (hi:i<l.length) (hj:j<l.length),i<j->l[i]<l[j]
 |[],lo,_=>⟨fun k hk=>by simp at hk,fun i j hi=>by simp at hi⟩
 |a::l,lo,h=>by
  unfold tV at h;simp only[bz]at h;obtain⟨h1,h2⟩:=Hz h.2.2;have e1:lo<=a:=eI h.1;have e2:a<n:=eI h.2.1;refine⟨fun k hk=>?_,fun i j hi hj hij=>?_⟩
  ·cases k with
   |zero=>exact⟨e1,e2⟩
   |succ k=>
    have:=h1 k (by simpa using hk);simp only[nP];omega
  ·cases j with
   |zero=>omega
   |succ j=>
    have hj':j<l.length:=by simpa using hj
    cases i with
    |zero=>
     have:=(h1 j hj').1;simp only[dq,nP];omega
    |succ i=>
     simp only[nP];exact h2 i j (by simpa using hi) hj' (by omega)
def xH(n0:Nat)(js:List Nat):H->Option H
 |[]=>some []
 |b::σ=>match BC n0 js b with
  |none=>none
  |some b'=>match xH n0 js σ with
   |none=>none
   |some τ=>some (b'::τ)
def xI(σ:H):List Nat->Option H
 |[]=>some []
 |j::js=>match σ[j]? with
  |none=>none
  |some b=>match xI σ js with
   |none=>none
   |some τ=>some (b::τ)
theorem HA{n0:Nat}{js:List Nat}:∀{σ τ:H},xH n0 js σ=some τ->τ.length=σ.length/\∀k (hk:k<σ.length) (hk':k<τ.length),ad.cm (iG n0 js) (n0+js.length) σ[k] τ[k]
 |[],τ,h=>by injection h with h;subst h;exact⟨rfl,fun k hk=>by simp at hk⟩
 |b::σ,τ,h=>by
  unfold xH at h;split at h
  ·cases h
  ·rename_i b' hb;split at h
   ·cases h
   ·rename_i τ' hτ;injection h with h;subst h;obtain⟨h1,h2⟩:=HA hτ;refine⟨by simp[h1],fun k hk hk'=>?_⟩;cases k with
    |zero=>exact Ru hb
    |succ k=>exact h2 k (by simpa using hk) (by simpa using hk')
theorem HC{σ:H}:∀{js:List Nat} {τ:H},xI σ js=some τ->τ.length=js.length/\∀k (hk:k<js.length) (hk':k<τ.length),σ[js[k]]?=some τ[k]
 |[],τ,h=>by injection h with h;subst h;exact⟨rfl,fun k hk=>by simp at hk⟩
 |j::js,τ,h=>by
  unfold xI at h;split at h
  ·cases h
  ·rename_i b hb;split at h
   ·cases h
   ·rename_i τ' hτ;injection h with h;subst h;obtain⟨h1,h2⟩:=HC hτ;refine⟨by simp[h1],fun k hk hk'=>?_⟩;cases k with
    |zero=>exact hb
    |succ k=>exact h2 k (by simpa using hk) (by simpa using hk')
def BH(n0:Nat)(d:V)(σ:H):Option (V×H):=
 match Hy (Rv d++Hw n0 σ []) n0 (σ.drop n0)with
 |(js,_)=>cond (dk n0 σ.length&&tV n0 σ.length js) (match xI σ js with
  |none=>none
  |some L=>match xH n0 js (σ.take n0++L)with
   |none=>none
   |some τ=>match BB n0 js d with
    |none=>none
    |some d'=>some (d',τ)) none
theorem Rw{P:Program}{w0:World}{f:FuncId}{args:List V}{σ σ1 τ:H}{d d':V}(hd:DC P w0 f args σ (Same d σ1))(h:BH σ.length d σ1=some (d',τ)):DC P w0 f args σ (Same d' τ):=by
 unfold BH at h;split at h;rename_i js ls hjs;cases hc:(dk σ.length σ1.length&&tV σ.length σ1.length js)with
 |false=>rw[hc]at h;cases h
 |true=>
  rw[hc]at h;simp only[bz]at hc;have hn:σ.length<=σ1.length:=eI hc.1;obtain⟨i1,i2⟩:=Hz hc.2;simp only[cond_true]at h;split at h
  ·cases h
  ·rename_i L hL;split at h
   ·cases h
   ·rename_i τ' hτ;split at h
    ·cases h
    ·rename_i d0 hd0;injection h with h;injection h with h1 h2;subst h1 h2;obtain⟨a1,a2⟩:=HC hL;obtain⟨r1,r2⟩:=HA hτ;have hlen:τ'.length=σ.length+js.length:=by rw[r1];simp[a1,Nat.min_eq_left hn]
     have hold:∀j,σ.length<=j->j<σ.length+js.length->∃hk:j-σ.length<js.length,iG σ.length js j=js[j-σ.length]:=fun j h1 h2=>by
      have hk:j-σ.length<js.length:=by omega
      refine⟨hk,?_⟩;unfold iG;rw[if_neg (by omega)];simp[lG,hk]
     have hlow:∀j,j<σ.length->iG σ.length js j=j:=fun j hj=>by unfold iG;rw[if_pos hj]
     refine hd.pack (ι:=iG σ.length js) (m:=σ.length+js.length) (fun b hb=>hlow b hb) (by omega) (fun j hj=>?_) (fun i j hi hj e=>?_) hlen (fun j hj hj' hι=>?_) (Rt hd0)
     ·rcases dS j σ.length with h'|h'
      ·rw[hlow j h'];omega
      ·obtain⟨hk,e⟩:=hold j h' hj;rw[e];exact(i1 _ hk).2
     ·rcases dS i σ.length with hi'|hi'<;>rcases dS j σ.length with hj'|hj'
      ·rwa [hlow i hi',hlow j hj']at e
      ·obtain⟨hk,e2⟩:=hold j hj' hj;rw[hlow i hi',e2]at e;have:=(i1 _ hk).1;omega
      ·obtain⟨hk,e2⟩:=hold i hi' hi;rw[hlow j hj',e2]at e;have:=(i1 _ hk).1;omega
      ·obtain⟨hk,e2⟩:=hold i hi' hi;obtain⟨hk',e3⟩:=hold j hj' hj;rw[e2,e3]at e;rcases Nat.lt_trichotomy (i-σ.length) (j-σ.length)with q|q|q
       ·have:=i2 _ _ hk hk' q;omega
       ·omega
       ·have:=i2 _ _ hk' hk q;omega
     ·have hjr:j<(σ1.take σ.length++L).length:=by rw[<-r1];exact hj'
      have hr:=r2 j hjr hj';have e:(σ1.take σ.length++L)[j]=σ1[iG σ.length js j]:=by
       rcases dS j σ.length with h'|h'
       ·rw[cC (by simp;omega),List.getElem_take];simp only[hlow j h']
       ·obtain⟨hk,e2⟩:=hold j h' hj;rw[dJ (by simp;omega)];have hq:=a2 (j-σ.length) hk (by omega);have hq':σ1[iG σ.length js j]?=some (L[j-σ.length]'(by omega)):=by rw[e2];exact hq
        rw[aR hι]at hq';injection hq' with hq';rw[hq'];congr 1;simp[Nat.min_eq_left hn]
      rwa [e]at hr
end Go.Lamb
