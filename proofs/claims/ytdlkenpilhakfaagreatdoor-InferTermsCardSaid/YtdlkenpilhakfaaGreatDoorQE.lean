/- . -/
import Derived.Test.YtdlkenpilhakfaaGreatDoorQD
import Derived.Lib.AppendIntMem
set_option linter.unusedSimpArgs false
set_option linter.unusedVariables false
set_option maxHeartbeats 8000000
set_option maxRecDepth 20000
set_option linter.defProp false
set_option linter.unnecessarySimpa false
set_option linter.constructorNameAsVariable false
open Bool renaming and_eq_true->bM,true_and->jz,false_and->nF
open Classical renaming choose->xw,choose_spec->Bm
open Go.Builtin renaming zeroCells->rP
open Go.IntKind renaming i64->aE
open Go.Lib renaming run_append_grow_zeros->xa,wpList_append_run->xb
open Go.RowKit.Below renaming refl->fJ
open Int renaming eq_ofNat_of_zero_le->oY,le_refl->ei
open List renaming all_eq_true->cW,cons_ne_nil->aF,drop->gh,drop_eq_getElem_cons->gg,drop_length->xx,drop_zero->iY,getElem?_append_right->da,getElem?_eq_getElem->aN,getElem?_eq_none->rV,getElem?_eq_some_iff->aI,getElem?_set_ne->bA,getElem?_set_self->bW,getElem?_take_of_lt->Bl,getElem?_zipWith->aei,getElem_map->eI,getElem_mem->bg,length_append->bC,length_cons->bG,length_map->bY,length_set->bz,length_take->dE,length_zipWith->Bn,map_cons->ck,mem_cons->cD,mem_cons_of_mem->bH,mem_cons_self->aZ,nil_append->dK,take->dj,take_of_length_le->dT,take_succ_eq_append_getElem->eW,take_zero->ey,zipWith->gj,append_nil->cd,cons_append->iB,length_nil->dU,map->gV,map_append->dF,map_nil->cP,mem_map->eU,not_mem_nil->iZ,set_append_right->gX,take_append_drop->Bi,drop_of_length_le->p7,ext_getElem->tU,getElem?_append_left->cr,getElem_of_mem->eH,reverse_append->QG
open Nat renaming beq->cm,ble->dM,eq_of_beq_eq_true->fP,le_of_ble_eq_true->fv,le_refl->aA,le_trans->bf,lt_of_succ_lt_succ->mm,mul_add->iC,mul_one->eK,sub_self->cw,zero_le->be,lt_irrefl->p8,not_lt_zero->fe,strongRecOn->p6
open Option renaming bind_eq_some_iff->QF,getD_none->qa,getD_some->mi,map_none->mf,map_some->fc
open Go.Proofs.Tryz
namespace Go.Proofs.YtdlkenpilhakfaaGreatDoor
open Go.RowKit Go.Lamb
theorem tC:∀(l:List al) (n:Int),1<=n->0<=cv n l->∀q∈l,0<=ba q
 |[],_,_,_,q,b=>by cases b
 |x::l,n,hn,h,q,b=>by
  rw[cv]at h;split at h
  ·omega
  ·rename_i c;rcases cD.1 b with rfl|b
   ·omega
   ·exact tC l _ (by omega) h q b
theorem Of{t:al}(h:0<=ba t):(t.k=0\/t.k=1\/t.k=2)\/(∃c n b pos,t= .mk 4 c n [b] pos/\0<=ba b)\/(∃c n a b pos,t= .mk 3 c n [a,b] pos/\0<=ba a/\0<=ba b):=by
 obtain⟨k,c,n,l,pos⟩:=t;rw[ba]at h;split at h
 ·rename_i e;exact .inl e
 ·split at h
  ·rename_i e;have g:=tC l 1 (by decide) h;rcases e with⟨rfl,hl⟩|⟨rfl,hl⟩
   ·match l,hl with
    |[b],_=>exact .inr (.inl ⟨c,n,b,pos,rfl,g b (by simp)⟩)
   ·match l,hl with
    |[a,b],_=>exact .inr (.inr ⟨c,n,a,b,pos,rfl,g a (by simp),g b (by simp)⟩)
  ·omega
section
variable {g:Sg} {W:Nat}
attribute [local go_sem] aa.v aa.aG aO aQ aL aH aM
theorem Zg(w0:World){n0 p:Nat}{σ:H}{f:az}{y3 y4 b:V}(h:aS n0 σ p g f y3 y4 b)(hn:n0<=σ.length)(c:f.e≠0)(t:al):
  DC prog w0 25 [.ptr p 0,t.v] σ (gQ n0 p g σ f (.au [aa.none.v,aa.none.v])):=by
 refine vO.cl rfl (fun i j=>?_);have hp:=fun L=>hG h.here L;unfold bh at hp;have k0:(f.e !=0)=true:=by simp[c]
 apply bl;simp only[go_sem,qX,hp,k0];refine wY ?_;simp only[go_sem];exact W.ret ⟨_,_,(by simp only[aX,od,go_sem];rfl),aR,rfl,⟨_,_,_,h.app _⟩,(Kept.refl n0 p σ).app hn _⟩
theorem Zh(w0:World){n0 p:Nat}{σ:H}{f:az}{y3 y4 b:V}(h:aS n0 σ p g f y3 y4 b)(hn:n0<=σ.length)(c:f.e=0)(t:al)(i:t.k=2):
  DC prog w0 25 [.ptr p 0,t.v] σ (gQ n0 p g σ f (.au [(aa.mk 2 [] t.n []).v,(aa.mk 0 [105,110,116] 0 []).v])):=by
 refine vO.cl rfl (fun j r=>?_);have hp:=fun L=>hG h.here L;unfold bh at hp;have k0:(f.e !=0)=false:=by simp[c]
 have u:(t.k==2)=true:=by simp[i]
 apply bl;simp only[go_sem,qX,hp,k0];refine wN ?_;simp only[go_sem,u];refine wY ?_;simp only[go_sem];exact W.ret ⟨_,_,(by simp only[aX,od,go_sem];rfl),aR,rfl,⟨_,_,_,h.app _⟩,(Kept.refl n0 p σ).app hn _⟩
theorem Og(w0:World){n0 p:Nat}{σ:H}{f f':az}{y3 y4 Q:V}(h:aS n0 σ p g f y3 y4 Q)(hn:n0<=σ.length)(R:f.e=0)(t:al)(x u:aa)
  (hc:(t.k=4/\∀{E:H} {z3 z4 z5:V},aS n0 E p g f z3 z4 z5->n0<=E.length->DC prog w0 66 [.ptr p 0,t.v] E (gQ n0 p g E f' (.au [x.v,u.v])))\/(t.k≠2/\t.k≠3/\t.k≠4/\∀{E:H} {z3 z4 z5:V},aS n0 E p g f z3 z4 z5->n0<=E.length->DC prog w0 70 [.ptr p 0,t.v] E (gQ n0 p g E f' (.au [x.v,u.v])))):
  DC prog w0 25 [.ptr p 0,t.v] σ (gQ n0 p g σ f' (.au [x.v,u.v])):=by
 refine vO.cl rfl (fun T U=>?_);have hp:=fun L=>hG h.here L;unfold bh at hp;have X:=h.lt;have k0:(f.e !=0)=false:=by simp[R]
 have j:=h.app [.cells t.v.af,.cells [I 0,S [],I 0,.ae []],.cells [I 0,S [],I 0,.ae []]];have c:=(Kept.refl n0 p σ).app hn [.cells t.v.af,.cells [I 0,S [],I 0,.ae []],.cells [I 0,S [],I 0,.ae []]];have r:=bf hn c.len;rcases hc with⟨i,hc⟩|⟨O,P,i,hc⟩
 ·have F:(t.k==2)=false:=by simp[i]
  have k4:(t.k==4)=true:=by simp[i]
  have w:=hc j r;simp only[al.v,aa.v,V.af]at w;clear i;apply bl;simp only[go_sem,qX,hp,k0];refine wN ?_;simp only[go_sem,F];refine wN ?_;simp only[go_sem,k4];refine wY ?_;simp only[go_sem];(refine W.call (w) rfl rfl (by first|rfl|simp) ?_);rintro d b ⟨rfl,⟨Y,Z,w5,d2⟩,d3⟩;have t4:b[σ.length+1]?=some (.cells [I 0,S [],I 0,.ae []]):=d3.cells _ _ _ (by omega) (Go.Lamb.bx _ _ 1);have t5:b[σ.length+2]?=some (.cells [I 0,S [],I 0,.ae []]):=d3.cells _ _ _ (by omega) (Go.Lamb.bx _ _ 2);have G:=(aI.1 t4).1
  have J:=(aI.1 t5).1;have D:=fun A=>(bA (l:=b) (a:=A) (by omega:σ.length+1≠σ.length+2)).trans t5;have M:∀A B,((b.set (σ.length+1) A).set (σ.length+2) B)[σ.length+2]?=some B:=fun A B=>bW (by rw[bz];exact J);have N:∀A B,((b.set (σ.length+1) A).set (σ.length+2) B)[σ.length+1]?=some A:=fun A B=>by rw[bA (by omega)];exact bW G
  have f1:=fun A B=>(d2.box t4 (by omega) A).box (D A) (by omega) B;have f2:=fun A B=>((c.trans d3).set A (a:=σ.length+1) (by omega) (.inr (.inl (by omega)))).set B (a:=σ.length+2) (by omega) (.inr (.inl (by omega)));apply bl;simp only[go_sem,t4,D];exact W.ret ⟨_,_,(by simp only[aX,od,N,M,go_sem];rfl),aR,rfl,⟨_,_,_,f1 _ _⟩,f2 _ _⟩
 ·have F:(t.k==2)=false:=by simp[O]
  have k4:(t.k==4)=false:=by simp[i]
  have k3:(t.k==3)=false:=by simp[P]
  have w:=hc j r;simp only[al.v,aa.v,V.af]at w;clear O P i;apply bl;simp only[go_sem,qX,hp,k0];refine wN ?_;simp only[go_sem,F];refine wN ?_;simp only[go_sem,k4];refine wN ?_;simp only[go_sem,k3];refine wN ?_;simp only[go_sem];(refine W.call (w) rfl rfl (by first|rfl|simp) ?_);rintro d b ⟨rfl,⟨Y,Z,w5,d2⟩,d3⟩;have t4:b[σ.length+1]?=some (.cells [I 0,S [],I 0,.ae []]):=d3.cells _ _ _ (by omega) (Go.Lamb.bx _ _ 1);have t5:b[σ.length+2]?=some (.cells [I 0,S [],I 0,.ae []]):=d3.cells _ _ _ (by omega) (Go.Lamb.bx _ _ 2)
  have G:=(aI.1 t4).1;have J:=(aI.1 t5).1;have D:=fun A=>(bA (l:=b) (a:=A) (by omega:σ.length+1≠σ.length+2)).trans t5;have M:∀A B,((b.set (σ.length+1) A).set (σ.length+2) B)[σ.length+2]?=some B:=fun A B=>bW (by rw[bz];exact J);have N:∀A B,((b.set (σ.length+1) A).set (σ.length+2) B)[σ.length+1]?=some A:=fun A B=>by rw[bA (by omega)];exact bW G
  have f1:=fun A B=>(d2.box t4 (by omega) A).box (D A) (by omega) B;have f2:=fun A B=>((c.trans d3).set A (a:=σ.length+1) (by omega) (.inr (.inl (by omega)))).set B (a:=σ.length+2) (by omega) (.inr (.inl (by omega)));apply bl;simp only[go_sem,t4,D];exact W.ret ⟨_,_,(by simp only[aX,od,N,M,go_sem];rfl),aR,rfl,⟨_,_,_,f1 _ _⟩,f2 _ _⟩
theorem Zi(w0:World)(T:∀x∈g.types,aw x.ty<=W)(F:1<=W)(r:W<=10000)(t:al):∀{n0 p:Nat} {σ:H} {f:az} {y3 y4 U:V},aS n0 σ p g f y3 y4 U->n0<=σ.length->cU f->bn t<=20000->f.sub.length+(W+1)*bn t<=999000->f.bound.length+bn t<=1000000->f.vars.length+bn t<=1000000->0<=ba t->
  DC prog w0 25 [.ptr p 0,t.v] σ (gQ n0 p g σ (bI g t f).2.2 (.au [(bI g t f).1.v,(bI g t f).2.1.v])):=by
 refine al.ind (P:=fun t=>∀{n0 p:Nat} {σ:H} {f:az} {y3 y4 U:V},aS n0 σ p g f y3 y4 U->n0<=σ.length->cU f->bn t<=20000->f.sub.length+(W+1)*bn t<=999000->f.bound.length+bn t<=1000000->f.vars.length+bn t<=1000000->0<=ba t->
  DC prog w0 25 [.ptr p 0,t.v] σ (gQ n0 p g σ (bI g t f).2.2 (.au [(bI g t f).1.v,(bI g t f).2.1.v]))) (fun t Y {n0 p σ f y3 y4 U} h hn i J X L M Z=>?_) t
 have hp1:1<=bn t:=by rw[nV];omega
 have hW1':(W+1)*1<=(W+1)*bn t:=Nat.mul_le_mul_left _ hp1;by_cases c:f.e=0
 ·rcases Of Z with hk|⟨j,n,b,pos,rfl,hb⟩|⟨j,n,a,b,pos,rfl,ha,hb⟩
  ·by_cases N:t.k=2
   ·rw[EF g t f c N];exact Zh w0 h hn c t N
   ·rw[NJ g t f c N (by omega) (by omega)];exact Og w0 h hn c t _ _ (.inr ⟨N,by omega,by omega,fun u w=>Y4 w0 T r u w (i.live c) (by omega) (by omega) (by omega) t⟩)
  ·have G:bn (.mk 4 j n [b] pos)=1+bn b:=by rw[bn,cz,cz];omega
   rw[G]at J X L M;rw[iC,eK]at X;have hl:=f.nk;have hi:f.sub.length<f.fresh.sub.length:=by omega
   have O:=(i.fresh (by omega)).push hi j;have hbb:(f.fresh.push ⟨j,aJ f.sub.length⟩).bound.length=f.bound.length+1:=by show(f.bound++[_]).length=_;rw[bC];rfl
   have A:=pM T F r b _ O (by omega) (by show f.fresh.sub.length+_<=_;omega);have Q:∀{E:H} {z3 z4 z5:V},aS n0 E p g (f.fresh.push ⟨j,aJ f.sub.length⟩) z3 z4 z5->n0<=E.length->_:=fun u w=>Y b (by simp[al.l]) u w O (by omega) (by show f.fresh.sub.length+_<=_;omega) (by omega) (by show f.vars.length+_<=_;omega) hb;rw[EG g j n b pos f c];exact Og w0 h hn c _ _ _ (.inl ⟨rfl,fun u w=>Y5 w0 u w (i.live c) (by omega) (by omega) j n b pos _ A.bound Q⟩)
  ·have G:bn (.mk 3 j n [a,b] pos)=1+bn a+bn b:=by rw[bn,cz,cz,cz];omega
   rw[G]at J X L M;rw[iC,iC,eK]at X;have A:=pM T F r a f i (by omega) (by omega);have hrl:=A.len;have R:=pM T F r b _ A.ok (by omega) (by omega);have hra:∀{E:H} {z3 z4 z5:V},aS n0 E p g f z3 z4 z5->n0<=E.length->_:=fun u w=>Y a (by simp[al.l]) u w i (by omega) (by omega) (by omega) (by omega) ha;have hrb:∀{E:H} {z3 z4 z5:V},aS n0 E p g (bI g a f).2.2 z3 z4 z5->n0<=E.length->_:=fun u w=>Y b (by simp[al.l]) u w A.ok (by omega) (by omega) (by rw[A.bound];omega) (by have:=A.vars;omega) hb
   rw[EH g j n a b pos f c];refine Y6 w0 h hn c j n a b pos _ _ hra hrb (fun D=>?_) ?_
   ·have hr0:(bI g a f).2.2.e=0:=by
     by_cases h0:(bI g a f).2.2.e=0
     ·exact h0
     ·rw[tw g b _ h0]at D;exact absurd D h0
    obtain⟨t1,t2⟩:=A.ty hr0;obtain⟨t3,t4⟩:=R.ty D;have hl:=(bI g b (bI g a f).2.2).2.2.nk;have hge:=R.ge;have hql:=R.len;exact⟨R.ok.live D,by omega,EE (by decide) (by omega) R.ok.right,t1.mono (by omega),At (t3.mono (by omega)) (ij (by omega) (by omega) (by omega)),by show aw (bI g a f).2.1<=_;omega,by show aw (.arr _ _)<=_;rw[vY,om];omega⟩
   ·have h1:=eR (bI g a f).1;have N:=A.nodes;omega
 ·rw[tw g t f c];exact Zg w0 h hn c t
end
mutual
theorem wc{s:List aa}:∀{t:aa} {n r:Int},ll s t n r->r<=n
 |_,_,_,.neg _=>ei _
 |_,_,_,.go _ _ a=>by have:=E5 a;omega
theorem E5{s:List aa}:∀{l:List aa} {n r:Int},gD s l n r->r<=n
 |_,_,_,.nil=>ei _
 |_,_,_,.cons a b=>by have c:=wc a;have e:=E5 b;omega
end
mutual
theorem we{s:List aa}:∀{t:aa} {n r:Int},ll s t n r->-1<=n->-1<=r
 |_,_,_,.neg _,hn=>hn
 |_,_,_,.go _ _ a,_=>Oh a (by omega)
theorem Oh{s:List aa}:∀{l:List aa} {n r:Int},gD s l n r->-1<=n->-1<=r
 |_,_,_,.nil,hn=>hn
 |_,_,_,.cons a b,hn=>Oh b (we a hn)
end
section
variable {n0 p:Nat} {g:Sg} {f:az}
attribute [local go_sem] aa.v aa.aG aO aQ aL aH aM
theorem Zj(w0:World){N:Nat}(hR:bO N f.sub)(hN:N<=1000000)(hl:f.live=true):∀(d:Nat) (t:aa) (n r:Int),n<=(d:Int)-1->-1<=n->n<=1000000->ll f.sub t n r->ay f.sub.length t->aw t<=N->∀{σ:H} {y3 y4 y5:V},aS n0 σ p g f y3 y4 y5->DC prog w0 78 [.ptr p 0,t.v,I n] σ (Same (I r) σ):=by
 intro d;induction d with
 |zero=>
  intro t n r hn _ _ h _ _ σ y3 y4 y5 U;cases h with
  |neg h=>
   refine Es.go rfl (fun A hsz=>?_);apply bl;simp only[go_sem,vU,h];refine wY ?_;simp only[go_sem];exact wF A
  |go h _ _=>omega
 |succ d ihd=>
  intro t n r hn hn1 hn2 h ht htn σ y3 y4 y5 U;refine Es.go rfl (fun A hsz=>?_);have hp:=fun L=>hG U.here L;unfold bh at hp;cases h with
  |neg h=>
   apply bl;simp only[go_sem,vU,h];refine wY ?_;simp only[go_sem];exact wF A
  |@go _ u _ _ k h dr a=>
   have hneg:¬n<0:=by omega
   have hw1:aE.wrap (n-1)=n-1:=by rw[a7]<;>omega
   apply bl;simp only[go_sem,vU,hneg];refine wN ?_;simp only[go_sem];refine W.aY (α:=aa×Nat) (fun x=>eP f.sub x.1 u x.2/\ay f.sub.length x.1/\aw x.1<=N) (fun x=>⟨(((base.put (some 0) (.ptr p 0)).put (some 2) (I n)).put (some 4) (.ptr σ.length 0)),σ++[.cells x.1.v.af]⟩) (fun x=>x.2) (t,k) ⟨dr,ht,htn⟩ ?_ (fun x M=>?_)
   ·exact wV
   obtain⟨x,m⟩:=x;obtain⟨X,M,Y⟩:=M;dsimp only at X M Y⊢;cases X with
   |stop e=>
    have J:∀y∈u.l,ay f.sub.length y:=fun y E=>by
     by_cases G:u.k=1
     ·obtain⟨_,_,_,hll⟩:=M.var G;rw[hll]at E;cases E
     ·exact M.dA G E
    have hkn:∀y∈u.l,aw y<=N:=fun y E=>by have:=jm E;rw[ct]at Y;omega
    have P:∀(y:aa) (m Q:Int),y∈u.l->m<=n-1->-1<=m->ll f.sub y m Q->∀L,DC prog w0 78 [.ptr p 0,y.v,I m] (σ++L) (Same (I Q) (σ++L)):=fun y m Q E hm hm1 j L=>ihd y m Q (by omega) hm1 (by omega) j (J y E) (hkn y E) (U.app L);have hlen:u.l.length<=1000000:=by
     have h1:u.l.length<=bE u.l:=by
      have:∀l:List aa,l.length<=bE l:=by
       intro l;induction l with
       |nil=>exact be _
       |cons x l ih=>rw[bG,bE,ct];omega
      exact this _
     rw[ct]at Y;omega
    by_cases G:u.k=1
    ·obtain⟨h0,j,hnm,hl0⟩:=M.var G;rw[hl0]at a;cases a;have R:(u.k==1)=true:=by simp[G]
     obtain⟨i,O⟩:=oY h0;have w:i<f.sub.length:=by omega
     unfold bJ at e;rw[O,nc w,R,jz]at e;have q1:(f.sub[i].k==1)=true:=by
      cases hq:(f.sub[i].k==1)
      ·rw[hq]at e;simp at e
      ·rfl
     have q2:(f.sub[i].n==(i:Int))=true:=by
      cases hq:(f.sub[i].n==(i:Int))
      ·rw[hq]at e;simp at e
      ·rfl
     obtain⟨x0,Z⟩:=vG w;rcases U.sub hl with⟨hs0,_⟩|⟨b,_,E,hb,_⟩
     ·rw[hs0]at w;cases w
     subst E;have D:=fun L=>hG hb L;have g0:(0:Int)<=(i:Int):=by omega
     have g1:(i:Int)<(f.sub.length:Int):=by omega
     generalize f.sub[i]=y at*;generalize aK f.sub=F at*;clear e G J P hkn;apply bl;simp only[go_sem];apply W.aD (aF _ _)
     case hc=>
      (apply ab.aj;simp only[go_sem,hp,D,O,R,q1,q2,x0,Z,g0,g1,bne]);exact ab.nil
     apply bl;simp only[go_sem];refine wN ?_;simp only[go_sem,hw1,hl0];refine W.aY (α:=Unit) (fun _=>True) (fun _=>⟨(((base.put (some 2) (I (n-1))).put (some 53) (I 0)).put (some 54) (I 0)),σ⟩) (fun _=>0) () trivial ?_ (fun _ _=>?_)
     ·exact wD A
     have hz:¬((0:Int)<0):=by decide
     apply bl;simp only[go_sem,hz];refine wN ?_;simp only[go_sem];exact wF A
    ·have R:(u.k==1)=false:=by simp[G]
     clear e G;apply bl;simp only[go_sem];apply W.aD (aF _ _)
     case hc=>
      (apply ab.aj;simp only[go_sem,R]);exact ab.nil
     apply bl;simp only[go_sem];refine wN ?_;simp only[go_sem,hw1];refine W.aY (α:=Nat×Int) (fun x=>x.1<=u.l.length/\x.2<=n-1/\-1<=x.2/\gD f.sub (u.l.drop x.1) x.2 r) (fun x=>⟨(((((base.put (some 0) (.ptr p 0)).put (some 2) (I x.2)).put (some 52) (.c (aM u.l))).put (some 53) (I (u.l.length:Int))).put (some 54) (I (x.1:Int))),σ⟩) (fun x=>u.l.length-x.1) (0,n-1) ⟨be _,ei _,by show-1<=n-1;omega,a⟩ ?_ (fun x M=>?_)
     ·refine aV.drop ?_ (aA _) A ?_
      ·exact dZ
      ·repeat' (first|exact cK.base _|(refine cK.put ?_ (by first|exact .c _|exact .ptr U.lt)))
     obtain⟨i,m⟩:=x;obtain⟨x1,Z,x3,x4⟩:=M;dsimp only at x1 Z x3 x4⊢;by_cases j:i<u.l.length
     ·have z:(i:Int)<(u.l.length:Int):=by omega
      have hx0:u.l[i]?=some u.l[i]:=aN j;have hw:=cF j (by omega:u.l.length<=9223372036854775807);rw[gg j]at x4;cases x4 with
      |@cons _ _ _ Q _ a1 a2=>
       have hK:=fun L=>P u.l[i] m Q (bg j) Z x3 a1 L;have hle:=wc a1;have hge:=we a1 x3;apply bl;simp only[go_sem,z];refine wY ?_;simp only[go_sem,z,bu,hx0];(refine db (hK _) ?_;simp only[go_sem,hw]);refine .inv ⟨(i+1,Q),⟨j,by show Q<=n-1;omega,hge,a2⟩,by show u.l.length-(i+1)<u.l.length-i;omega,?_⟩;refine aV.drop ?_ (aA _) A ?_
       ·exact dZ
       ·repeat' (first|exact cK.base _|(refine cK.put ?_ (by first|exact .c _|exact .ptr U.lt)))
     ·obtain rfl:i=u.l.length:=by omega
      rw[xx]at x4;cases x4;have z:¬((u.l.length:Nat):Int)<((u.l.length:Nat):Int):=by omega
      apply bl;simp only[go_sem,z];refine wN ?_;simp only[go_sem];exact wF A
   |@go _ _ m e X=>
    have G:=fk e;obtain⟨h0,j,_⟩:=M.var G;obtain⟨i,O⟩:=oY h0;rw[O]at X h0 j;have w:i<f.sub.length:=by omega
    have hu:ay f.sub.length (cq f.sub (i:Int)):=hR.right.holds _ (iN h0 j);have hun:aw (cq f.sub (i:Int))<=N:=hR.size _ (iN h0 j);unfold bJ at e;have R:(x.k==1)=true:=by simp[G]
    rw[O,R,jz]at e;rw[nc w]at X hu hun e;have T:=ob w;have hle:i*4+4<=f.sub.length*4:=by omega
    have hFl:=gC f.sub;obtain⟨x0,Z⟩:=vG w;rcases U.sub hl with⟨hs0,_⟩|⟨b,_,E,hb,_⟩
    ·rw[hs0]at w;cases w
    subst E;have D:=fun L=>hG hb L;have g0:(0:Int)<=(i:Int):=by omega
    have g1:(i:Int)<(f.sub.length:Int):=by omega
    generalize f.sub[i]=y at*;generalize aK f.sub=F at*;clear G;cases q1:(y.k==1)
    ·apply bl;simp only[go_sem];apply W.aD (aF _ _)
     case hc=>
      (apply ab.aj;simp only[go_sem,hp,D,O,R,q1,x0,Z,g0,g1,bne]);exact ab.nil
     apply bl;simp only[go_sem];refine wY ?_;simp only[go_sem];apply W.aD (aF _ _)
     case hc=>
      (apply ab.aj;simp only[go_sem,hp,D,O,g0,g1,T,hle,hFl]);exact ab.nil
     apply bl;simp only[go_sem];refine .inv ⟨(y,m),⟨X,hu,hun⟩,by dsimp only;omega,?_⟩;exact wV
    ·rw[q1,jz]at e;have q2:(y.n==(i:Int))=false:=by simpa using e
     apply bl;simp only[go_sem];apply W.aD (aF _ _)
     case hc=>
      (apply ab.aj;simp only[go_sem,hp,D,O,R,q1,q2,x0,Z,g0,g1,bne]);exact ab.nil
     apply bl;simp only[go_sem];refine wY ?_;simp only[go_sem];apply W.aD (aF _ _)
     case hc=>
      (apply ab.aj;simp only[go_sem,hp,D,O,g0,g1,T,hle,hFl]);exact ab.nil
     apply bl;simp only[go_sem];refine .inv ⟨(y,m),⟨X,hu,hun⟩,by dsimp only;omega,?_⟩;exact wV
end
end Go.Proofs.YtdlkenpilhakfaaGreatDoor
namespace Go.Proofs.YtdlkenpilhakfaaGreatDoor
open Go Go.RowKit Go.Lamb
theorem Oi{s:List aa}{t u v:aa}{n m:Nat}(h:eP s t u n):eP s t v m->u=v:=by
 induction h generalizing m with
 |stop h=>intro k;cases k with
  |stop _=>rfl
  |go b _=>rw[h]at b;cases b
 |go h r c=>intro k;cases k with
  |stop b=>rw[h]at b;cases b
  |go b e=>exact c e
theorem Oj{N:Nat}{s:List aa}(b:bO N s){t u:aa}{n:Nat}(h:eP s t u n):ay s.length t->ay s.length u:=by
 induction h with
 |stop _=>exact id
 |go h r c=>intro e;exact c (qY b _ e h).2
mutual
theorem Zk{N:Nat}{s:List aa}(w:bO N s):∀{t u:aa} {n r:Int},lT s t u->ll s t n r->0<=r->ay s.length t->n=r+aw u/\ay s.length u
 |_,_,_,_,.var h b,.neg h0,p,_=>by omega
 |_,_,_,_,.gK h b a,.neg h0,p,_=>by omega
 |t,u,n,r,.var h b,.go h0 d l,p,A=>by
  have e:=Oi h d;subst e;have c:=Oj w h A;obtain⟨_,_,_,hl⟩:=c.var b;rw[hl]at l;cases l;rw[ct,hl,bE];exact⟨by omega,c⟩
 |t,_,n,r,.gK (u:=u) h b a,.go h0 d l,p,A=>by
  have e:=Oi h d;subst e;have c:=Oj w h A;obtain⟨G,D⟩:=Ay w a l p (fun x g=>c.dA b g);have i:=a.len;refine⟨by rw[nj];omega,⟨?_,fun v j=>?_⟩⟩
  ·have j:=c.valid;rw[iL,bM]at j⊢;refine⟨?_,cW.2 fun x g=>(D x g).valid⟩;have hn:=j.1;unfold iK at hn⊢;rw[aO,aQ,aL,aH,i];by_cases h0:u.k=0
   ·simp[h0]at hn⊢;exact hn.1
   ·by_cases E:u.k=2
    ·simp[E]at hn⊢;exact⟨hn.1.1,hn.2⟩
    ·simp[h0,b,E]at hn
  ·rw[lO (by rw[aO];exact b),aH]at j;obtain⟨x,g,F⟩:=j;exact(D x g).vars v F
theorem Ay{N:Nat}{s:List aa}(e:bO N s):∀{l w:List aa} {n r:Int},fY s l w->gD s l n r->0<=r->(∀x∈l,ay s.length x)->n=r+bE w/\∀x∈w,ay s.length x
 |_,_,_,_,.nil,.nil,_,_=>⟨by rw[bE];omega,fun x hx=>by cases hx⟩
 |_,_,_,_,.cons a b,.cons c d,g,h=>by
  have i:=E5 d;obtain⟨t,j⟩:=Zk e a c (by omega) (h _ (aZ ..));obtain⟨u,p⟩:=Ay e b d g (fun x hx=>h x (bH _ hx));refine⟨by rw[bE];omega,fun x hx=>?_⟩;rcases cD.1 hx with rfl|hx
  ·exact j
  ·exact p x hx
end
end Go.Proofs.YtdlkenpilhakfaaGreatDoor
namespace Go.Proofs.YtdlkenpilhakfaaGreatDoor
open Go.RowKit Go.Lamb
section
def Zl(s:List UInt8):ad:=.spare 5 1 s.length
attribute [local go_sem] Zl kY sF sG sH sI qy
end
section
attribute [local go_sem] aa.v aa.aG aO aQ aL aH aM ep.v ep.cs av.v av.cs jL fy Sg.v yA.v yz
def Zm(b:Nat)(s:Sg):ad:=.cells [.aC (b+1) (s.kinds.map ep.cs),.aC (b+2) (s.types.map av.cs),.aC (b+3) (s.ops.map eO.cs)]
attribute [local go_sem] Zm vr UY UZ U0 U1
end
section
def c160:AC:=rsq [oN 2] (rsq [oK 3 0] (.seq (rsq [.m 9 0,oL 10 9,oK 11 0] (.block 0 (.loop (rsq [oI 12 .lss 11 10] (.seq (.cond 12 .skip (.exit 0)) (.seq (.block 1 (rsq [oJ 13 1 9 11,.l 14 13,.m 5 14] (rsq [.m 15 3,.m 16 5,oL 17 16,oI 18 .add 15 17,.m 3 18] (rif [.m 19 3,oI 20 .lss 19 (zK 0)] 20 (.ax [.o 21 .bad,⟨none,.bad,none⟩]) .skip)))) (.ax [oI 22 .add 11 (zK 1),.m 11 22]))))))) (rsq [.m 23 3,.k 24 211 [(.k (.ae [])),23],.m 6 24] (.seq (rsq [.m 25 0,oL 26 25,oK 27 0] (.block 2 (.loop (rsq [oI 28 .lss 27 26] (.seq (.cond 28 .skip (.exit 2)) (.seq (.block 3 (rsq [oJ 29 1 25 27,.l 30 29,.m 8 30] (.ax [.m 31 6,.m 32 8,oQ 33 50 5 72 31 32,.m 6 33]))) (.ax [oI 34 .add 27 (zK 1),.m 27 34]))))))) (rsq [.m 35 6,.m 2 35] .ret)))))
abbrev Ol:List ak:=[.tmp 2]
theorem Zn:aq prog 160 1 Tryz.f160 c160 Ol:=.auto func160
attribute [local go_sem] aa.v aa.aG aO aQ aL aH aM ep.v ep.cs av.v av.cs jL fy Sg.v yA.v yz
theorem Zo:(prog.info? 50).map (fun i=>(i.zero,i.size,i.bytes))=some (some (.agg #[.string ⟨#[]⟩,.int .i64 0,.string ⟨#[]⟩,.int .i64 0,.slice none 0 0]),5,72):=by kernel_rfl
theorem Om(w:World)(n:Nat)(hn:n<=1000000)(b:Array Value)(c:b.size=5):
  (w.alloc (.cells (rP b n++rP b (grownCap w n 0 50-n)) 50)).drew.ownsRow w.heap.size 50 5 (.slice (some ⟨w.heap.size,0,none⟩) 0 (grownCap w n 0 50)) 0 []:=by
 have e:=grownCap_ge w n 0 50;refine⟨by simp,.inr ⟨w.heap.size,_,_,rfl,aA _,heap_alloc_new w _,be _,grownCap_le_maxLen w n 0 50 (by unfold maxLen;omega),?_,by simp⟩⟩;simp only[Array.size_append,size_zeroCells,c];omega
set_option maxHeartbeats 4000000 in
set_option maxRecDepth 100000 in
theorem Zp(A:Option Addr)(n:Nat)(w:World)(hn:n<=1000000):Calls prog 211 #[.slice A 0 0,.int .i64 n] w (fun e w'=>∃v,e= .returned v/\Below w.heap.size w w'/\Roomy w w' 50 5 v):=by
 by_cases h0:n=0
 ·subst h0;cases A
  ·go_enter func211,ntmps211
   go_wp2_with fail
   go_ret
   exact⟨_,rfl,fJ _ _,.inl ⟨_,rfl⟩⟩
  ·go_enter func211,ntmps211
   go_wp2_with fail
   go_ret
   exact⟨_,rfl,fJ _ _,.inl ⟨_,rfl⟩⟩
 ·obtain⟨j,c,g,h,b⟩:=info_parts Zo;have p:¬((n:Int)<0):=by omega
  have r:(n:Int)>0:=by omega
  have hw:aE.wrap (n:Int)=n:=by rw[a7]<;>omega
  cases A
  case none=>
   have i:=xa (P:=prog) w 23 3 23 50 j _ .i64 .i64 underlying23 underlying3 c g none 0 0 [] (o4 (by simp) (by simp)) n (by omega) (by rw[h];decide) (by omega) (by omega) (by rw[b];omega) (growslice_fits (by omega) (by rw[b];omega))
   go_enter func211,ntmps211
   go_wp2_with (first
    |(at_builtin;refine xb w rfl (.tmp 20) (.tmp 21) 23 3 rfl _ _ rfl rfl _ _ i ?_))
   go_ret
   exact⟨_,rfl,rX w _,.inr (Om w n hn _ rfl)⟩
  case some a=>
   have i:=xa (P:=prog) w 23 3 23 50 j _ .i64 .i64 underlying23 underlying3 c g (some a) 0 0 [] (o4 (by simp) (by simp)) n (by omega) (by rw[h];decide) (by omega) (by omega) (by rw[b];omega) (growslice_fits (by omega) (by rw[b];omega))
   go_enter func211,ntmps211
   go_wp2_with (first
    |(at_builtin;refine xb w rfl (.tmp 20) (.tmp 21) 23 3 rfl _ _ rfl rfl _ _ i ?_))
   go_ret
   exact⟨_,rfl,rX w _,.inr (Om w n hn _ rfl)⟩
theorem Zq(w0:World)(n:Nat)(hn:n<=1000000)(σ:H):DC prog w0 211 [.ae [],I n] σ (Same (.aC σ.length []) (σ++[.spare 50 5 0])):=by
 refine DC.Bp (jC func211 (by kernel_rfl) rfl) fun κ w vs g b=>?_;obtain⟨v,ys,rfl,h,b⟩:=b.cons_inv;obtain⟨u,zs,rfl,e,b⟩:=b.cons_inv;have:=b.jZ;subst this;cases h with
 |ae i=>
  rename_i A;cases e with
  |c e=>
   cases e with
   |int=>exact Zp A n w hn
end
theorem Zr(w0:World)(p:al):∀(n:Int),0<=n->n<=1000000->∀(σ:H),DC prog w0 61 [p.v,I n] σ (Same (I (gJ p n)) σ):=by
 refine al.ind (P:=fun p=>∀(n:Int),0<=n->n<=1000000->∀(σ:H),DC prog w0 61 [p.v,I n] σ (Same (I (gJ p n)) σ)) (fun p A n hn D σ=>?_) p;refine WK.go rfl (fun g t=>?_);have h:=WO t (aZ ..);have u:aE.wrap (n-1)=n-1:=by rw[a7]<;>omega
 apply bl;simp only[go_sem,LF,u];refine W.aY (α:=Nat×Int) (fun x=>x.1<=p.l.length/\-1<=x.2/\x.2<=1000000/\gq (p.l.drop x.1) x.2=gJ p n) (fun x=>⟨((((base.put (some 2) (.ptr σ.length 0)).put (some 4) (I 0)).put (some 5) (I x.2)).put (some 6) (I (x.1:Nat))),σ++[.cells p.v.af]⟩) (fun x=>p.l.length-x.1) (0,n-1) ⟨be _,by simp only;omega,by simp only;omega,by rw[Th];rfl⟩ ?_ (fun x w=>?_)
 ·exact wV
 ·obtain⟨i,m⟩:=x;obtain⟨w,E,j,b⟩:=w;simp only at w E j b;by_cases c:i<p.l.length
  ·have r:((i:Int)<(p.l.length:Int)):=by omega
   have F:p.l[i]?=some p.l[i]:=aN c;have hw:aE.wrap ((i:Int)+1)=((i+1:Nat):Int):=cF c h;by_cases h0:0<=m
   ·have e:m>=0:=h0;apply bl;simp only[go_sem,r,e];refine wY ?_;simp only[go_sem,r,bu,F];(refine db (A p.l[i] (bg c) m h0 j _) ?_;simp only[go_sem,hw]);have:=H6 p.l[i] m h0;refine .inv ⟨(i+1,gJ p.l[i] m),⟨c,this.1,by simp only;omega,by rw[<-b,Ti c h0]⟩,by simp only;omega,?_⟩;exact wV
   ·have e:¬m>=0:=h0;apply bl;simp only[go_sem,r,e];refine wN ?_;simp only[go_sem];(refine W.fs g (by simp only[go_sem];rfl) ?_;simp only[aT];try exact V.wk.rfl _);rw[<-b,H5 h0];exact .rfl _
  ·have r:¬((i:Int)<(p.l.length:Int)):=by omega
   apply bl;simp only[go_sem,r];refine wN ?_;simp only[go_sem];(refine W.fs g (by simp only[go_sem];rfl) ?_;simp only[aT];try exact V.wk.rfl _);rw[<-b,Tj (by omega)];exact .rfl _
theorem Zs(w0:World)(p:al)(n:Int)(hn:0<=n)(b:n<=1000000)(σ:H):DC prog w0 21 [p.v,I n] σ (Same (B (decide (gJ p n<0))) σ):=by
 refine WM.go rfl (fun c e=>?_);apply bl;simp only[go_sem,c21];(refine db (Zr w0 p n hn b _) ?_;simp only[go_sem]);exact wF c
def oq(e size:Nat):List V->H->Option (V×H)
 |[.ae [],.c (.int .i64 n)],σ=>cond (decide (0<=n)&&decide (n<=1000000)) (some (.aC σ.length [],σ++[.spare e size 0])) none
 |_,_=>none
def ot(e size:Nat):List V->H->Option (V×H)
 |[a],σ=>match a.rows with
  |some r=>cond (r.all (fun q=>cm q.length size)&&dM r.length 1000000) (some (.aC σ.length r,σ++[.spare e size r.length])) none
  |none=>none
 |_,_=>none
def E6(e:Nat):List V->H->Option (V×H)
 |[a],σ=>match a.rows with
  |some []=>some (.aC σ.length [],σ++[.spare e 4 0])
  |_=>none
 |_,_=>none
theorem Zt(w0:World)(b:List V)(σ:H)(v:V)(c:H)(h:oq 60 3 b σ=some (v,c)):DC prog w0 203 b σ (Same v c):=by
 unfold oq at h;split at h
 ·rename_i n;cases hc:(decide (0<=n)&&decide (n<=1000000))with
  |false=>rw[hc]at h;cases h
  |true=>
   rw[hc]at h;injection h with h;injection h with e g;subst e g;simp only[bM,decide_eq_true_eq]at hc;obtain⟨m,rfl⟩:∃m:Nat,n=(m:Int):=⟨n.toNat,by omega⟩;exact QN w0 m (by omega) σ
 ·cases h
theorem Zu(w0:World)(b:List V)(σ:H)(v:V)(c:H)(h:oq 50 5 b σ=some (v,c)):DC prog w0 211 b σ (Same v c):=by
 unfold oq at h;split at h
 ·rename_i n;cases hc:(decide (0<=n)&&decide (n<=1000000))with
  |false=>rw[hc]at h;cases h
  |true=>
   rw[hc]at h;injection h with h;injection h with e g;subst e g;simp only[bM,decide_eq_true_eq]at hc;obtain⟨m,rfl⟩:∃m:Nat,n=(m:Int):=⟨n.toNat,by omega⟩;exact Zq w0 m (by omega) σ
 ·cases h
theorem Zv(w0:World)(b:List V)(σ:H)(v:V)(c:H)(h:oq 41 4 b σ=some (v,c)):DC prog w0 178 b σ (Same v c):=by
 unfold oq at h;split at h
 ·rename_i n;cases hc:(decide (0<=n)&&decide (n<=1000000))with
  |false=>rw[hc]at h;cases h
  |true=>
   rw[hc]at h;injection h with h;injection h with e g;subst e g;simp only[bM,decide_eq_true_eq]at hc;obtain⟨m,rfl⟩:∃m:Nat,n=(m:Int):=⟨n.toNat,by omega⟩;exact LR w0 m (by omega) σ
 ·cases h
theorem wg{a:V}{r:List (List C)}(h:a.rows=some r):V.wk (.agg [a]) (.agg [.c (.sl r)]):=by
 refine .agg rfl fun j b e=>?_;have:j=0:=by simp at b;omega
 subst this;simp only[List.getElem_cons_zero];unfold V.rows at h;split at h
 ·injection h with h;subst h;exact .rfl _
 ·injection h with h;subst h;exact .aC _ _
 ·injection h with h;subst h;exact .ae _
 ·cases h
theorem Zw(w0:World)(b:List V)(σ:H)(v:V)(c:H)(h:ot 60 3 b σ=some (v,c)):DC prog w0 98 b σ (Same v c):=by
 unfold ot at h;split at h
 ·split at h
  ·rename_i r e;cases hc:(r.all (fun q=>cm q.length 3)&&dM r.length 1000000)with
   |false=>rw[hc]at h;cases h
   |true=>
    rw[hc]at h;injection h with h;injection h with g i;subst g i;simp only[bM,cW]at hc;exact(W6 w0 r (fun q j=>fP (hc.1 q j)) (fv hc.2) σ).gI (wg e)
  ·cases h
 ·cases h
theorem Zx(w0:World)(b:List V)(σ:H)(v:V)(c:H)(h:ot 106 2 b σ=some (v,c)):DC prog w0 97 b σ (Same v c):=by
 unfold ot at h;split at h
 ·split at h
  ·rename_i r e;cases hc:(r.all (fun q=>cm q.length 2)&&dM r.length 1000000)with
   |false=>rw[hc]at h;cases h
   |true=>
    rw[hc]at h;injection h with h;injection h with g i;subst g i;simp only[bM,cW]at hc;exact(W7 w0 r (fun q j=>fP (hc.1 q j)) (fv hc.2) σ).gI (wg e)
  ·cases h
 ·cases h
theorem Zy(w0:World)(b:List V)(σ:H)(v:V)(c:H)(h:ot 50 5 b σ=some (v,c)):DC prog w0 81 b σ (Same v c):=by
 unfold ot at h;split at h
 ·split at h
  ·rename_i r e;cases hc:(r.all (fun q=>cm q.length 5)&&dM r.length 1000000)with
   |false=>rw[hc]at h;cases h
   |true=>
    rw[hc]at h;injection h with h;injection h with g i;subst g i;simp only[bM,cW]at hc;exact(LO w0 r (fun q j=>fP (hc.1 q j)) (fv hc.2) σ).gI (wg e)
  ·cases h
 ·cases h
theorem Zz(w0:World)(b:List V)(σ:H)(v:V)(c:H)(h:E6 41 b σ=some (v,c)):DC prog w0 185 b σ (Same v c):=by
 unfold E6 at h;split at h
 ·split at h
  ·rename_i e;injection h with h;injection h with g i;subst g i;exact(LP w0 [] rfl σ).gI (wg e)
  ·cases h
 ·cases h
theorem ZA{x:V}{y:C}(h:x.gE=some y):V.wk x (.c y):=by
 unfold V.gE at h;split at h
 ·injection h with h;subst h;exact .rfl _
 ·injection h with h;subst h;exact .aC _ _
 ·injection h with h;subst h;exact .ae _
 ·cases h
theorem ZB{l:List V}{r:List C}(h:fx l=some r):V.wk (.agg l) (.agg (r.map .c)):=by
 obtain⟨b,_,e⟩:=uq h;exact .agg (by simp[b]) fun j g i=>by
  rw[eI];exact ZA (e j g (by omega))
theorem wh{a:V}{r:List (List C)}(h:a.rows=some r):V.wk a (.c (.sl r)):=by
 unfold V.rows at h;split at h
 ·injection h with h;subst h;exact .rfl _
 ·injection h with h;subst h;exact .aC _ _
 ·injection h with h;subst h;exact .ae _
 ·cases h
theorem On{p:V}{cs:List C}{q:aa}(h:zw p=some cs)(b:cs=q.cs):V.wk p q.v:=by
 have e:q.v= .agg (cs.map .c):=by rw[b,aa.aG];rfl
 rw[e];unfold zw at h;have hl:=(uq h).1;rw[b,aa.aG]at hl;unfold V.af at h hl;split at h
 ·exact ZB h
 ·exfalso;simp at hl
theorem E7{a b c d:V}(e:V.wk a c)(g:V.wk b d):V.wk (.agg [a,b]) (.agg [c,d]):=
 .agg rfl fun j h i=>by
  rcases(by simp at h;omega:j=0\/j=1)with rfl|rfl
  ·exact e
  ·exact g
def E8:List V->H->Option (V×H)
 |[b,fs],σ=>match(zw b).bind (qO 100),fs.rows.bind (vp (qO 100))with
  |some t,some l=>cond (dM l.length 1000000) (some ((du l t).v,σ)) none
  |_,_=>none
 |_,_=>none
theorem ZC(w0:World)(b:List V)(σ:H)(v:V)(c:H)(h:E8 b σ=some (v,c)):DC prog w0 68 b σ (Same v c):=by
 unfold E8 at h;split at h
 ·rename_i D fs;split at h
  ·rename_i t l i j;obtain⟨cs,g,p⟩:=QF.1 i;obtain⟨r,u,hl⟩:=QF.1 j;cases hc:dM l.length 1000000 with
   |false=>rw[hc]at h;cases h
   |true=>
    rw[hc]at h;injection h with h;injection h with w A;subst w A;have e:=wh u;rw[Dl (fun r x=>vq) hl]at e;exact(zB w0 t l (fv hc) σ).gI (E7 (On g (vq p)) e)
  ·cases h
 ·cases h
end Go.Proofs.YtdlkenpilhakfaaGreatDoor
namespace Go.Lamb
open Go Go.RowKit
def wi:List (List C)->Option (List av)
 |[]=>some []
 |r::l=>match r with
  | .str s::r=>match qO 100 r with
    |none=>none
    |some t=>match wi l with
     |none=>none
     |some y=>some (⟨s,t⟩::y)
  |_=>none
theorem E9:∀{l:List (List C)} {y:List av},wi l=some y->l=y.map av.cs
 |[],y,h=>by injection h with h;subst h;rfl
 |r::l,y,h=>by
  unfold wi at h;split at h
  ·split at h
   ·cases h
   ·rename_i t b;split at h
    ·cases h
    ·rename_i z c;injection h with h;subst h;have:=vq b;subst this;rw[ck,<-E9 c];rw[aa.aG];rfl
  ·cases h
def Az:List (List C)->Option (List ep)
 |[]=>some []
 |r::l=>match r with
  |[.str s,.int .i64 n]=>match Az l with
   |none=>none
   |some y=>some (⟨s,n⟩::y)
  |_=>none
theorem Oo:∀{l:List (List C)} {y:List ep},Az l=some y->l=y.map ep.cs
 |[],y,h=>by injection h with h;subst h;rfl
 |r::l,y,h=>by
  unfold Az at h;split at h
  ·split at h
   ·cases h
   ·rename_i z b;injection h with h;subst h;rw[ck,<-Oo b];rfl
  ·cases h
def Fa(a b c:V):Option Sg:=match a.rows with
 |none=>none
 |some e=>match b.rows with
  |none=>none
  |some g=>match c.rows with
   |none=>none
   |some h=>match Az e with
    |none=>none
    |some k=>match wi g with
     |none=>none
     |some n=>match zu h with
      |none=>none
      |some o=>some ⟨k,n,o⟩
def Fb:List V->H->Option (V×H)
 |[.c (.str s)],σ=>some (.c (.bool (ie s)),σ)
 |_,_=>none
def Fc:List V->H->Option (V×H)
 |[.c (.str s)],σ=>some (.c (.bool (ld s)),σ)
 |_,_=>none
def wj(a:V):Option aa:=match zw a with
 |none=>none
 |some cs=>qO 100 cs
def Fe:List V->H->Option (V×H)
 |[a],σ=>match wj a with
  |none=>none
  |some t=>some (.c (.bool (bZ t)),σ)
 |_,_=>none
def Ff:List V->H->Option (V×H)
 |[a],σ=>match wj a with
  |none=>none
  |some t=>some (.c (.bool (aP t)),σ)
 |_,_=>none
def Fg:List V->H->Option (V×H)
 |[a],σ=>match wj a with
  |none=>none
  |some t=>cond (dM (iM t) 1000000) (some (.c (.int .i64 (bS 0 t)),σ)) none
 |_,_=>none
def Fh:List V->H->Option (V×H)
 |[.agg [a,b,c],.c (.str s)],σ=>match Fa a b c with
  |none=>none
  |some g=>some (Go.Proofs.YtdlkenpilhakfaaGreatDoor.mY (mU g.types s),σ)
 |_,_=>none
def Fi:List V->H->Option (V×H)
 |[a,.c (.str s)],σ=>match a.rows with
  |none=>none
  |some r=>match wi r with
   |none=>none
   |some l=>cond (dM l.length 1000000) (some (.c (.int .i64 (cZ s 0 l)),σ)) none
 |_,_=>none
def AA(e:Nat)(σ σ1:H)(b o:Nat)(cs:List V)(tg:Option TypeId)(n:Nat)(pre:List C):Option (V×H):=
 some (.agg (cL n),σ1.set b (.cells (cs.take (o+3)++[.vec (σ.length+2) (n+1)]++cs.drop (o+3+1)) tg)++[.cells (cL n) none,.cells (cL n) none,.vec e 4 (pre++jr n)])
def Fj(e:Nat):List V->H->Option (V×H)
 |[.ptr b o],σ=>match σ[b]? with
  |some (.cells cs tg)=>match cs[o+3]? with
   |some (.ae [])=>AA e σ σ b o cs tg 0 []
   |some (.vec c n)=>match σ[c]? with
    |some (.vec g s cells)=>cond (cm g e&&(cm s 4&&(dM n 1000000&&dM (n*4) cells.length))) (AA e σ (σ.set c .gone) b o cs tg n (cells.take (n*4))) none
    |_=>none
   |_=>none
  |_=>none
 |_,_=>none
def AB(e size:Nat)(r:List (List C))(σ:H):Option (V×H):=
 cond (!r.isEmpty&&(r.all (fun q=>cm q.length size)&&dM r.length 1000000)) (some (.vec σ.length r.length,σ++[.vec e size r.flatten])) none
def wm(e size:Nat):List V->H->Option (V×H)
 |[.vec b k],σ=>match σ[b]? with
  |some (.vec _ s cs)=>cond (dM (k*s) cs.length) (AB e size (rowsOf s k cs) ((σ.set b .gone).map (qH b s cs))) none
  |_=>none
 |[a],σ=>match a.rows with
  |some r=>AB e size r σ
  |none=>none
 |_,_=>none
theorem Fk{a:V}{t:aa}(h:wj a=some t):V.wk (.agg [a]) (.agg [t.v]):=by
 unfold wj at h;split at h
 ·cases h
 ·rename_i cs b;refine .agg rfl fun j c e=>?_;have:j=0:=by simp at c;omega
  subst this;exact Go.Proofs.YtdlkenpilhakfaaGreatDoor.On b (vq h)
theorem ZD{a b c:V}{g:Sg}(h:Fa a b c=some g):V.wk (.agg [a,b,c]) g.v:=by
 unfold Fa at h;split at h
 ·cases h
 rename_i D ha;split at h
 ·cases h
 rename_i E e;split at h
 ·cases h
 rename_i F hc;split at h
 ·cases h
 rename_i k i;split at h
 ·cases h
 rename_i n hn;split at h
 ·cases h
 rename_i o p;injection h with h;subst h;have r:=Oo i;have t:=E9 hn;have u:=Jm p;subst r t u;refine .agg rfl fun j w A=>?_;rcases(by simp at w;omega:j=0\/j=1\/j=2)with rfl|rfl|rfl
 ·exact Go.Proofs.YtdlkenpilhakfaaGreatDoor.wh ha
 ·exact Go.Proofs.YtdlkenpilhakfaaGreatDoor.wh e
 ·exact Go.Proofs.YtdlkenpilhakfaaGreatDoor.wh hc
end Go.Lamb
namespace Go.Proofs.YtdlkenpilhakfaaGreatDoor
open Go.RowKit Go.Lamb
theorem ZE(w0:World)(l:List (List C))(e:l≠[])(g:∀r∈l,r.length=4)(hn:l.length<=1000000)(σ:H):DC prog w0 181 [.c (.sl l)] σ (Same (.vec σ.length l.length) (σ++[.vec 34 4 l.flatten])):=by
 refine Ex.cl rfl (fun j p=>?_);have h:l.length*56<=140737488355328:=by omega
 have i:l.length<=140737488355328:=by omega
 apply bl;simp only[go_sem,Ai];refine W.lH rfl rfl rfl (fun b t=>?_);cases b
 ·apply bl;simp only[go_sem];refine W.no rfl ?_;refine W.skip (W.seq (W.ax (W.kg rfl rfl (W.kg rfl rfl ?_))));refine W.nN (olds:=[]) (news:=l) rfl rfl rfl rfl ⟨e,(fun r u=>by cases u),g,by simpa using h,by simpa using i⟩ ?_;apply bl;simp only[go_sem,dK];refine W.ret ⟨_,_,rfl,.rfl _,?_⟩;exact⟨rfl,rfl⟩
 ·exact absurd (t rfl) e
theorem Oq(w0:World)(l:List (List C))(e:l≠[])(g:∀r∈l,r.length=5)(hn:l.length<=1000000)(σ:H):DC prog w0 81 [.c (.sl l)] σ (Same (.vec σ.length l.length) (σ++[.vec 50 5 l.flatten])):=by
 refine Lt.cl rfl (fun j p=>?_);have h:l.length*72<=140737488355328:=by omega
 have i:l.length<=140737488355328:=by omega
 apply bl;simp only[go_sem,DK];refine W.lH rfl rfl rfl (fun b t=>?_);cases b
 ·apply bl;simp only[go_sem];refine W.no rfl ?_;refine W.skip (W.seq (W.ax (W.kg rfl rfl (W.kg rfl rfl ?_))));refine W.nN (olds:=[]) (news:=l) rfl rfl rfl rfl ⟨e,(fun r u=>by cases u),g,by simpa using h,by simpa using i⟩ ?_;apply bl;simp only[go_sem,dK];refine W.ret ⟨_,_,rfl,.rfl _,?_⟩;exact⟨rfl,rfl⟩
 ·exact absurd (t rfl) e
theorem ZF(w0:World)(b:List V)(σ:H)(v:V)(c:H)(h:Fb b σ=some (v,c)):DC prog w0 62 b σ (Same v c):=by
 unfold Fb at h;split at h
 ·injection h with h;injection h with e g;subst e g;exact Du w0 _ σ
 ·cases h
theorem ZG(w0:World)(b:List V)(σ:H)(v:V)(c:H)(h:Fc b σ=some (v,c)):DC prog w0 103 b σ (Same v c):=by
 unfold Fc at h;split at h
 ·injection h with h;injection h with e g;subst e g;exact KH w0 _ σ
 ·cases h
theorem ZH(w0:World)(b:List V)(σ:H)(v:V)(c:H)(h:Fe b σ=some (v,c)):DC prog w0 24 b σ (Same v c):=by
 unfold Fe at h;split at h
 ·split at h
  ·cases h
  ·rename_i t e;injection h with h;injection h with g i;subst g i;exact(qQ w0 t σ).gI (Fk e)
 ·cases h
theorem ZI(w0:World)(b:List V)(σ:H)(v:V)(c:H)(h:Ff b σ=some (v,c)):DC prog w0 183 b σ (Same v c):=by
 unfold Ff at h;split at h
 ·split at h
  ·cases h
  ·rename_i t e;injection h with h;injection h with g i;subst g i;exact(zN w0 t σ).gI (Fk e)
 ·cases h
theorem ZJ(w0:World)(b:List V)(σ:H)(v:V)(c:H)(h:Fg b σ=some (v,c)):DC prog w0 74 b σ (Same v c):=by
 unfold Fg at h;split at h
 ·split at h
  ·cases h
  ·rename_i t e;cases hc:dM (iM t) 1000000 with
   |false=>rw[hc]at h;cases h
   |true=>
    rw[hc]at h;injection h with h;injection h with g i;subst g i;exact(vv w0 t (fv hc) σ).gI (Fk e)
 ·cases h
theorem ZK(w0:World)(b:List V)(σ:H)(v:V)(c:H)(h:Fh b σ=some (v,c)):DC prog w0 15 b σ (Same v c):=by
 unfold Fh at h;split at h
 ·split at h
  ·cases h
  ·rename_i g hg;injection h with h;injection h with e i;subst e i;exact(DN w0 g _ σ).gI (E7 (ZD hg) (.rfl _))
 ·cases h
theorem ZL(w0:World)(b:List V)(σ:H)(v:V)(c:H)(h:Fi b σ=some (v,c)):DC prog w0 121 b σ (Same v c):=by
 unfold Fi at h;split at h
 ·split at h
  ·cases h
  ·rename_i r e;split at h
   ·cases h
   ·rename_i l hl;cases hc:dM l.length 1000000 with
    |false=>rw[hc]at h;cases h
    |true=>
     rw[hc]at h;injection h with h;injection h with g i;subst g i;have:=E9 hl;subst this;exact(Ap w0 l _ (fv hc) σ).gI (E7 (wh e) (.rfl _))
 ·cases h
theorem ZM(w0:World)(b:List V)(σ:H)(v:V)(c:H)(h:Fj 34 b σ=some (v,c)):DC prog w0 67 b σ (Same v c):=by
 unfold Fj at h;split at h
 ·split at h
  ·rename_i cs tg p;split at h
   ·rename_i e;unfold AA at h;injection h with h;injection h with g i;subst g i;exact Al Ez _ _ _ _ 0 (by decide) cs tg p _ e [] (.inl ⟨rfl,rfl,rfl,rfl⟩)
   ·rename_i r n e;split at h
    ·rename_i t s cells u;cases hc:(cm t 34&&(cm s 4&&(dM n 1000000&&dM (n*4) cells.length)))with
     |false=>rw[hc]at h;cases h
     |true=>
      rw[hc]at h;simp only[bM]at hc;obtain⟨c1,j,c3,c4⟩:=hc;have c1:=fP c1;have j:=fP j;subst c1 j;simp only[cond_true]at h;unfold AA at h;injection h with h;injection h with g i;subst g i;exact Al Ez _ _ _ _ n (fv c3) cs tg p _ e _ (.inr ⟨r,cells,rfl,u,fv c4,rfl,rfl⟩)
    ·cases h
   ·cases h
  ·cases h
 ·cases h
theorem Fl{f:FuncId}{e size:Nat}(E:∀w0 (l:List (List C)),l≠[]->(∀r∈l,r.length=size)->l.length<=1000000->∀σ,DC prog w0 f [.c (.sl l)] σ (Same (.vec σ.length l.length) (σ++[.vec e size l.flatten])))
  (w0:World) (j:List V) (σ:H) (v:V) (g:H) (h:wm e size j σ=some (v,g)):DC prog w0 f j σ (Same v g):=by
 have key:∀r σ v g,AB e size r σ=some (v,g)->DC prog w0 f [.c (.sl r)] σ (Same v g):=fun r σ v g h=>by
  unfold AB at h;cases hc:(!r.isEmpty&&(r.all (fun q=>cm q.length size)&&dM r.length 1000000))with
  |false=>rw[hc]at h;cases h
  |true=>
   rw[hc]at h;injection h with h;injection h with D F;subst D F;simp only[bM,cW]at hc;exact E w0 r (by intro hn;subst hn;exact absurd hc.1 (by decide)) (fun q L=>fP (hc.2.1 q L)) (fv hc.2.2) σ
 unfold wm at h;split at h
 ·rename_i b k;split at h
  ·rename_i Y s cs M;cases hc:dM (k*s) cs.length with
   |false=>rw[hc]at h;cases h
   |true=>
    rw[hc]at h;have N:=fv hc;have hd:=key _ _ _ _ h;refine⟨hd.enters,fun κ w vs p i=>?_⟩;obtain⟨κ',D,F,J⟩:=aB.jj p M;obtain⟨u,ys,rfl,O,i⟩:=i.cons_inv;have:=i.jZ;subst this;have G:RV κ' (.c (.sl (rowsOf s k cs))) u:=.c (J k u N (O.mono D));refine(hd.run κ' w [u] (F.qH J) (Fits.cons G Fits.nil)).mono ?_;rintro e w' ⟨v',d,t,A,P,Q,R,T,U⟩;exact⟨v',d,t,A,P,Q,K.le_trans D R,T,U⟩
  ·cases h
 ·split at h
  ·rename_i r X;exact(key _ _ _ _ h).gI (wg X)
  ·cases h
 ·cases h
end Go.Proofs.YtdlkenpilhakfaaGreatDoor
namespace Go.Proofs.YtdlkenpilhakfaaGreatDoor
open Go Go.RowKit Go.Lamb
def oT:aa:=.mk 0 [111] 0 []
def dW(x:av)(t:aa):av:=⟨x.name,t⟩
def dp(b:List aa):List aa:=(eC (bT (du b oT))).1
noncomputable def tD(f:az):List av:=gj dW f.vars (dp (wb f.sub (f.vars.map (·.ty))))
theorem Ot:∀(b:List aa) (vs:List Int),(eC (b8 b9 vs (du b oT)).1).1.length=b.length
 |[],vs=>by
  show(eC (b8 b9 vs oT).1).1.length=0;have e:(b8 b9 vs oT).1=oT:=by
   rw[mT];rfl
  rw[e,yo rfl];rfl
 |a::b,vs=>by
  show(eC (b8 b9 vs (.arr a (du b oT))).1).1.length=_;have e:(b8 b9 vs (.arr a (du b oT))).1= .arr (b8 b9 vs a).1 (b8 b9 (b8 b9 vs a).2 (du b oT)).1:=by
   rw[mT,if_neg (by rw[aa.arr,aO];decide)];show aa.mk _ _ _ (bF b9 vs [a,du b oT]).1=_;rw[bF,bF,bF];rfl
  rw[e,Cr (To _ _) rfl,bG,Ot b];rfl
theorem Ou(b:List aa):(dp b).length=b.length:=Ot b []
theorem Fm:∀b:List aa,aw (du b oT)=1+b.length+bE b
 |[]=>by show aw oT=_;rw[oT,nj,bE];rfl
 |a::b=>by
  show aw (.arr a (du b oT))=_;rw[vY,Fm b,bG,bE];omega
theorem yu(t:aa):cY t<=aw t:=by
 refine aa.ind (P:=fun t=>cY t<=aw t) (fun t c=>?_) t;have key:∀l:List aa,(∀u∈l,cY u<=aw u)->mQ l<=bE l:=by
  intro l;induction l with
  |nil=>intro _;rw[mQ,bE];exact aA _
  |cons x l b=>
   intro h;have g:=h x (aZ ..);have i:=b (fun u e=>h u (bH _ e));rw[mQ,bE];omega
 obtain⟨k,s,n,l⟩:=t;have:=key l c;rw[cY,aw];omega
def fF(l:List av)(b:List aa)(i:Nat):List av:=gj dW (l.take i) b++l.drop i
theorem Fo{l:List av}{b:List aa}(h:b.length=l.length)(i:Nat)(c:i<=l.length):(fF l b i).length=l.length:=by
 unfold fF;rw[bC,Bn,dE,List.length_drop];omega
theorem ZN(l:List av)(b:List aa):fF l b 0=l:=by unfold fF;simp
theorem ZO{l:List av}{b:List aa}:fF l b l.length=gj dW l b:=by unfold fF;simp
theorem ZP{l:List av}{b:List aa}(h:b.length=l.length){i:Nat}(c:i<l.length):(fF l b i)[i]'(by rw[Fo h i (by omega)];exact c)=l[i]:=by
 have e:(gj dW (l.take i) b).length=i:=by rw[Bn,dE];omega
 have:(fF l b i)[i]?=some l[i]:=by
  unfold fF;rw[da (by omega),e,cw,List.getElem?_drop,Nat.add_zero,aN c]
 exact(List.getElem_eq_iff _).2 this
theorem ZQ{l:List av}{b:List aa}(h:b.length=l.length){i:Nat}(c:i<l.length):(fF l b i).set i (dW l[i] (b[i]'(by omega)))=fF l b (i+1):=by
 have e:(gj dW (l.take i) b).length=i:=by rw[Bn,dE];omega
 have g:gj dW (l.take (i+1)) b=gj dW (l.take i) b++[dW l[i] (b[i]'(by omega))]:=by
  refine List.ext_getElem? fun j=>?_;rw[aei];rcases Nat.lt_trichotomy j i with hj|hj|hj
  ·rw[List.getElem?_append_left (by omega),aei,Bl (by omega),Bl hj]
  ·subst hj;rw[da (by omega),e,cw,Bl (by omega),aN c,aN (by omega)];rfl
  ·rw[da (by omega),e,rV (by rw[dE];omega),rV (l:=[_]) (by rw[List.length_singleton];omega)]
 unfold fF;rw[List.set_append_right _ _ (by omega),e,cw,gg c,List.set_cons_zero,g,List.append_assoc];rfl
theorem ZR{L:List av}{i:Nat}(b:i<L.length)(t:aa):dj (i*5+1) (bX L)++ .int .i64 t.k:: .str t.name:: .int .i64 t.n:: .sl (t.l.map aa.cs)::gh (i*5+1+4) (bX L)=bX (L.set i (dW L[i] t)):=by
 have h:=M0 (pH L) (i:=i) (by rw[bY];exact b) (dW L[i] t).cs rfl;rw[<-List.map_set]at h;have e:=EC b;have hl:=nh L;have c:dj (i*5+1) (bX L)=dj (i*5) (bX L)++[.str L[i].name]:=by
  have h0:=ED b;rw[List.take_add_one,h0];rfl
 have hd:i*5+1+4=i*5+5:=by omega
 rw[c,hd];unfold bX at*
 rw[<-h];simp[dW,av.cs,aM]
end Go.Proofs.YtdlkenpilhakfaaGreatDoor
namespace Go.Proofs.YtdlkenpilhakfaaGreatDoor
open Go.RowKit Go.Lamb
theorem AD{q:al}:∀{l:List al},q∈l->bn q<=cz l
 |[],h=>by cases h
 |x::l,h=>by
  rw[cz];rcases cD.1 h with rfl|h
  ·omega
  ·have:=AD h;omega
theorem Ov{l:List al}{i:Nat}(b:i<l.length):cz (l.drop i)=bn l[i]+cz (l.drop (i+1)):=by
 rw[gg b,cz]
theorem AE(t:al):-1<=ba t/\ba t<=bn t:=by
 refine al.ind (P:=fun t=>-1<=ba t/\ba t<=bn t) (fun t c=>?_) t;obtain⟨k,g,n,l,pos⟩:=t;have key:∀(l:List al) (n:Int),(∀q∈l,-1<=ba q/\ba q<=bn q)->1<=n->-1<=cv n l/\cv n l<=n+cz l:=by
  intro l;induction l with
  |nil=>intro n _ hn;rw[cv,cz];omega
  |cons x l b=>
   intro n h hn;have i:=h x (aZ ..);rw[cv,cz];split
   ·omega
   ·have:=b (n+ba x) (fun q e=>h q (bH _ e)) (by omega);omega
 rw[ba,bn];have:=key l 1 c (by decide);split
 ·omega
 ·split<;>omega
section
variable {n0 p:Nat} {g:Sg} {f:az}
attribute [local go_sem] aa.v aa.aG aO aQ aL aH aM
theorem ZS(w0:World){N:Nat}(Q:bO N f.sub)(R:N<=1000000){b:List aa}(hl:b≠[]->f.live=true){r:Int}(h:gD f.sub b 4096 r)(D:∀t∈b,ay f.sub.length t/\aw t<=N)(O:b.length<=1000000){σ:H}{y3 y4 T:V}(P:aS n0 σ p g f y3 y4 T):
  DC prog w0 31 [.ptr p 0,.c (.sl (b.map aa.cs))] σ (Same (B (decide (r<0))) σ):=by
 refine Nh.go rfl (fun u U=>?_);apply bl;simp only[go_sem,c31];refine W.aY (α:=Nat×Int) (fun x=>x.1<=b.length/\x.2<=4096/\-1<=x.2/\gD f.sub (b.drop x.1) x.2 r) (fun x=>⟨(((((base.put (some 0) (.ptr p 0)).put (some 5) (I x.2)).put (some 8) (.c (.sl (b.map aa.cs)))).put (some 9) (I (b.length:Int))).put (some 10) (I (x.1:Int))),σ⟩) (fun x=>b.length-x.1) (0,4096) ⟨be _,ei _,by decide,h⟩ ?_ (fun x X=>?_)
 ·exact wV
 obtain⟨i,m⟩:=x;obtain⟨Y,Z,E,w⟩:=X;dsimp only at Y Z E w⊢;by_cases j:i<b.length
 ·have z:(i:Int)<(b.length:Int):=by omega
  have F:b[i]?=some b[i]:=aN j;have hw:=cF j (by omega:b.length<=9223372036854775807);rw[gg j]at w;cases w with
  |@cons _ _ _ G _ J a2=>
   have A:=D b[i] (bg j);have hK:=fun L=>Zj w0 Q R (hl (fun e=>by rw[e]at j;cases j)) 4097 b[i] m G (by omega) E (by omega) J A.1 A.2 (P.app L);have hle:=wc J;have M:=we J E;apply bl;simp only[go_sem,z];refine wY ?_;simp only[go_sem,z,bu,F];(refine db (hK _) ?_;simp only[go_sem,hw]);refine .inv ⟨(i+1,G),⟨j,by show G<=4096;omega,M,a2⟩,by show b.length-(i+1)<b.length-i;omega,?_⟩;refine aV.drop ?_ (aA _) u ?_
   ·exact dZ
   ·repeat' (first|exact cK.base _|(refine cK.put ?_ (by first|exact .c _|exact .ptr P.lt)))
 ·obtain rfl:i=b.length:=by omega
  rw[xx]at w;cases w;have z:¬((b.length:Nat):Int)<((b.length:Nat):Int):=by omega
  apply bl;simp only[go_sem,z];refine wN ?_;simp only[go_sem];exact wF u
end
theorem Ow(w0:World)(t:al):bn t<=1000000->∀(σ:H),DC prog w0 23 [t.v] σ (Same (I (ba t)) σ):=by
 refine al.ind (P:=fun t=>bn t<=1000000->∀(σ:H),DC prog w0 23 [t.v] σ (Same (I (ba t)) σ)) (fun t Q hn σ=>?_) t;refine Nb.go rfl (fun g U=>?_);have hS:ba t=if t.k=0\/t.k=1\/t.k=2 then 1 else if(t.k=4/\t.l.length=1)\/(t.k=3/\t.l.length=2)then cv 1 t.l else-1:=by
  obtain⟨k,nm,n,l,pos⟩:=t;rw[ba];rfl
 have X:=nV t;have R:t.l.length<=1000000:=by
  have:∀l:List al,l.length<=cz l:=by
   intro l;induction l with
   |nil=>exact be _
   |cons x l Q=>rw[bG,cz,nV];omega
  have:=this t.l;omega
 have w:∀q∈t.l,∀σ,DC prog w0 23 [q.v] σ (Same (I (ba q)) σ):=fun q T σ=>Q q T (by have:=AD T;omega) σ;rw[hS];by_cases h0:t.k=0
 ·have k0:(t.k==0)=true:=by simp[h0]
  have b:(t.k==1)=false:=by simp[h0]
  have e:(t.k==2)=false:=by simp[h0]
  rw[if_pos (.inl h0)];clear h0;apply bl;simp only[go_sem,nf,k0,b,e];refine wY ?_;simp only[go_sem,k0,b,e];refine wY ?_;simp only[go_sem,k0,b,e];exact wF g
 by_cases A:t.k=1
 ·have k0:(t.k==0)=false:=by simp[A]
  have b:(t.k==1)=true:=by simp[A]
  have e:(t.k==2)=false:=by simp[A]
  rw[if_pos (.inr (.inl A))];clear A;apply bl;simp only[go_sem,nf,k0,b,e];refine wN ?_;simp only[go_sem,k0,b,e];refine wY ?_;simp only[go_sem,k0,b,e];refine wY ?_;simp only[go_sem,k0,b,e];exact wF g
 by_cases D:t.k=2
 ·have k0:(t.k==0)=false:=by simp[D]
  have b:(t.k==1)=false:=by simp[D]
  have e:(t.k==2)=true:=by simp[D]
  rw[if_pos (.inr (.inr D))];clear D;apply bl;simp only[go_sem,nf,k0,b,e];refine wN ?_;simp only[go_sem,k0,b,e];refine wN ?_;simp only[go_sem,k0,b,e];refine wY ?_;simp only[go_sem,k0,b,e];exact wF g
 by_cases r:t.k=4
 ·have k0:(t.k==0)=false:=by simp[r]
  have b:(t.k==1)=false:=by simp[r]
  have e:(t.k==2)=false:=by simp[r]
  have k3:(t.k==3)=false:=by simp[r]
  have k4:(t.k==4)=true:=by simp[r]
  by_cases hl:t.l.length=1
  ·have q:((t.l.length:Int) !=1)=false:=by simp;omega
   rw[if_neg (by omega),if_pos (.inl ⟨r,hl⟩)];clear r;apply bl;simp only[go_sem,nf,k0,b,e,k3,k4];refine wN ?_;simp only[go_sem,k0,b,e,k3,k4,q];refine wN ?_;simp only[go_sem,k0,b,e,k3,k4,q];refine wN ?_;simp only[go_sem,k0,b,e,k3,k4,q];refine wY ?_;simp only[go_sem,k0,b,e,k3,k4,q];refine wN ?_;simp only[go_sem,k0,b,e,k3,k4,q];refine W.aY (α:=Nat×Int) (fun x=>x.1<=t.l.length/\1<=x.2/\x.2+cz (t.l.drop x.1)<=1000000/\cv 1 t.l=cv x.2 (t.l.drop x.1)) (fun x=>⟨((((base.put (some 4) (I x.2)).put (some 24) (.c (.sl (t.l.map al.cs)))).put (some 25) (I (t.l.length:Int))).put (some 26) (I (x.1:Int))),σ⟩) (fun x=>t.l.length-x.1) (0,1) ⟨be _,ei _,by show 1+((cz (t.l.drop 0):Nat):Int)<=_;rw[iY];omega,by show _=cv 1 (t.l.drop 0);rw[iY]⟩ ?_ (fun x J=>?_)
   ·exact wD g
   obtain⟨i,m⟩:=x;obtain⟨L,M,F,E⟩:=J;dsimp only at L M F E⊢;rw[E];clear E;by_cases j:i<t.l.length
   ·have z:(i:Int)<(t.l.length:Int):=by omega
    have p:t.l[i]?=some t.l[i]:=aN j;have hw:=cF j (by omega:t.l.length<=9223372036854775807);have G:=fun σ=>w t.l[i] (bg j) σ;obtain⟨Y,Z⟩:=AE t.l[i];rw[Ov j]at F;have N:cv m (t.l.drop i)=if ba t.l[i]<0 then-1 else cv (m+ba t.l[i]) (t.l.drop (i+1)):=by rw[gg j,cv]
    rw[N];by_cases h:ba t.l[i]<0
    ·rw[if_pos h];apply bl;simp only[go_sem,z];refine wY ?_;simp only[go_sem,z,bu,p];(refine db (G _) ?_;simp only[go_sem,h]);refine wY ?_;simp only[go_sem];exact wF g
    ·rw[if_neg h];have O:aE.wrap (m+ba t.l[i])=m+ba t.l[i]:=by rw[a7]<;>omega
     apply bl;simp only[go_sem,z];refine wY ?_;simp only[go_sem,z,bu,p];(refine db (G _) ?_;simp only[go_sem,h]);refine wN ?_;simp only[go_sem,O,hw];refine .inv ⟨(i+1,m+ba t.l[i]),⟨j,by show 1<=m+ba t.l[i];omega,by show m+ba t.l[i]+(cz (t.l.drop (i+1)):Nat)<=(1000000:Int);omega,rfl⟩,by show t.l.length-(i+1)<t.l.length-i;omega,?_⟩;exact wD g
   ·obtain rfl:i=t.l.length:=by omega
    rw[xx,cv];have z:¬((t.l.length:Nat):Int)<((t.l.length:Nat):Int):=by omega
    apply bl;simp only[go_sem,z];refine wN ?_;simp only[go_sem];exact wF g
  ·have q:((t.l.length:Int) !=1)=true:=by simp;omega
   rw[if_neg (by omega),if_neg (by omega)];clear r;apply bl;simp only[go_sem,nf,k0,b,e,k3,k4];refine wN ?_;simp only[go_sem,k0,b,e,k3,k4,q];refine wN ?_;simp only[go_sem,k0,b,e,k3,k4,q];refine wN ?_;simp only[go_sem,k0,b,e,k3,k4,q];refine wY ?_;simp only[go_sem,k0,b,e,k3,k4,q];refine wY ?_;simp only[go_sem,k0,b,e,k3,k4,q];exact wF g
 by_cases u:t.k=3
 ·have k0:(t.k==0)=false:=by simp[u]
  have b:(t.k==1)=false:=by simp[u]
  have e:(t.k==2)=false:=by simp[u]
  have k3:(t.k==3)=true:=by simp[u]
  have k4:(t.k==4)=false:=by simp[u]
  by_cases hl:t.l.length=2
  ·have q:((t.l.length:Int) !=2)=false:=by simp;omega
   rw[if_neg (by omega),if_pos (.inr ⟨u,hl⟩)];clear u;apply bl;simp only[go_sem,nf,k0,b,e,k3,k4];refine wN ?_;simp only[go_sem,k0,b,e,k3,k4,q];refine wN ?_;simp only[go_sem,k0,b,e,k3,k4,q];refine wN ?_;simp only[go_sem,k0,b,e,k3,k4,q];refine wN ?_;simp only[go_sem,k0,b,e,k3,k4,q];refine wY ?_;simp only[go_sem,k0,b,e,k3,k4,q];refine wN ?_;simp only[go_sem,k0,b,e,k3,k4,q];refine W.aY (α:=Nat×Int) (fun x=>x.1<=t.l.length/\1<=x.2/\x.2+cz (t.l.drop x.1)<=1000000/\cv 1 t.l=cv x.2 (t.l.drop x.1)) (fun x=>⟨((((base.put (some 4) (I x.2)).put (some 24) (.c (.sl (t.l.map al.cs)))).put (some 25) (I (t.l.length:Int))).put (some 26) (I (x.1:Int))),σ⟩) (fun x=>t.l.length-x.1) (0,1) ⟨be _,ei _,by show 1+((cz (t.l.drop 0):Nat):Int)<=_;rw[iY];omega,by show _=cv 1 (t.l.drop 0);rw[iY]⟩ ?_ (fun x J=>?_)
   ·exact wD g
   obtain⟨i,m⟩:=x;obtain⟨L,M,F,E⟩:=J;dsimp only at L M F E⊢;rw[E];clear E;by_cases j:i<t.l.length
   ·have z:(i:Int)<(t.l.length:Int):=by omega
    have p:t.l[i]?=some t.l[i]:=aN j;have hw:=cF j (by omega:t.l.length<=9223372036854775807);have G:=fun σ=>w t.l[i] (bg j) σ;obtain⟨Y,Z⟩:=AE t.l[i];rw[Ov j]at F;have N:cv m (t.l.drop i)=if ba t.l[i]<0 then-1 else cv (m+ba t.l[i]) (t.l.drop (i+1)):=by rw[gg j,cv]
    rw[N];by_cases h:ba t.l[i]<0
    ·rw[if_pos h];apply bl;simp only[go_sem,z];refine wY ?_;simp only[go_sem,z,bu,p];(refine db (G _) ?_;simp only[go_sem,h]);refine wY ?_;simp only[go_sem];exact wF g
    ·rw[if_neg h];have O:aE.wrap (m+ba t.l[i])=m+ba t.l[i]:=by rw[a7]<;>omega
     apply bl;simp only[go_sem,z];refine wY ?_;simp only[go_sem,z,bu,p];(refine db (G _) ?_;simp only[go_sem,h]);refine wN ?_;simp only[go_sem,O,hw];refine .inv ⟨(i+1,m+ba t.l[i]),⟨j,by show 1<=m+ba t.l[i];omega,by show m+ba t.l[i]+(cz (t.l.drop (i+1)):Nat)<=(1000000:Int);omega,rfl⟩,by show t.l.length-(i+1)<t.l.length-i;omega,?_⟩;exact wD g
   ·obtain rfl:i=t.l.length:=by omega
    rw[xx,cv];have z:¬((t.l.length:Nat):Int)<((t.l.length:Nat):Int):=by omega
    apply bl;simp only[go_sem,z];refine wN ?_;simp only[go_sem];exact wF g
  ·have q:((t.l.length:Int) !=2)=true:=by simp;omega
   rw[if_neg (by omega),if_neg (by omega)];clear u;apply bl;simp only[go_sem,nf,k0,b,e,k3,k4];refine wN ?_;simp only[go_sem,k0,b,e,k3,k4,q];refine wN ?_;simp only[go_sem,k0,b,e,k3,k4,q];refine wN ?_;simp only[go_sem,k0,b,e,k3,k4,q];refine wN ?_;simp only[go_sem,k0,b,e,k3,k4,q];refine wY ?_;simp only[go_sem,k0,b,e,k3,k4,q];refine wY ?_;simp only[go_sem,k0,b,e,k3,k4,q];exact wF g
 rw[if_neg (by omega),if_neg (by omega)];have k0:(t.k==0)=false:=by simp[h0]
 have b:(t.k==1)=false:=by simp[A]
 have e:(t.k==2)=false:=by simp[D]
 have k3:(t.k==3)=false:=by simp[u]
 have k4:(t.k==4)=false:=by simp[r]
 clear h0 A D u r;apply bl;simp only[go_sem,nf,k0,b,e,k3,k4];refine wN ?_;simp only[go_sem,k0,b,e,k3,k4];refine wN ?_;simp only[go_sem,k0,b,e,k3,k4];refine wN ?_;simp only[go_sem,k0,b,e,k3,k4];refine wN ?_;simp only[go_sem,k0,b,e,k3,k4];refine wN ?_;simp only[go_sem,k0,b,e,k3,k4];exact wF g
end Go.Proofs.YtdlkenpilhakfaaGreatDoor
namespace Go.Lamb
open Go Go.RowKit
theorem fY.get{s:List aa}:∀{l w:List aa},fY s l w->∀i (c:i<l.length) (b:i<w.length),lT s l[i] w[i]
 |_,_,.nil,i,c,_=>absurd c (Nat.not_lt_zero _)
 |_,_,.cons r _,0,_,_=>r
 |_,_,.cons _ rs,i+1,c,b=>rs.get i (mm c) (mm b)
end Go.Lamb
namespace Go.Proofs.YtdlkenpilhakfaaGreatDoor
open Go.RowKit Go.Lamb
section
variable {n0 p:Nat} {g:Sg} {f:az}
attribute [local go_sem] aa.v aa.aG aO aQ aL aH aM
theorem ZT(w0:World)(h0:f.vars=[]){σ:H}{y3 y4 u:V}(w:aS n0 σ p g f y3 y4 u):
  DC prog w0 33 [.ptr p 0] σ (Same (.c (.sl ((tD f).map av.cs))) σ):=by
 have F:(tD f).map av.cs=[]:=by unfold tD;rw[h0];rfl
 rw[F];refine Ep.go rfl (fun i G=>?_);have hp:=fun L=>hG w.here L;have h:=w.here;unfold bh at hp h;have t:¬((0:Int)<0):=by decide
 have j:=fun σ=>zB w0 oT [] (by simp) σ;have A:=fun σ=>zJ w0 oT (by rw[oT,nj,bE];decide) σ;have J:bT oT=oT:=by unfold bT;rw[mT];rfl
 have D:=fun σ=>KK w0 oT (by decide) σ;have M:eC oT=([],oT):=yo rfl;have N:du [] oT=oT:=rfl;have E:=fun σ=>LO w0 [] (fun r O=>by cases O) (by simp) σ;have P:u= .ae []\/∃b,u= .aC b []:=by
  rcases w.var with⟨_,e⟩|⟨b,_,e,_⟩
  ·exact .inl e
  ·rw[h0]at e;exact .inr ⟨b,e⟩
 rcases P with rfl|⟨Q,rfl⟩
 ·apply bl;simp only[go_sem,vS,hp,h];refine W.aY (α:=Unit) (fun _=>True) (fun _=>⟨((((base.put (some 0) (.ptr p 0)).put (some 3) (.ae [])).put (some 14) (I 0)).put (some 15) (I 0)),σ⟩) (fun _=>0) () trivial ?_ (fun _ _=>?_)
  ·exact wV
  apply bl;simp only[go_sem,t];refine wN ?_;simp only[go_sem];(refine W.fV (j _) ?_;simp only[go_sem]);(refine db (A _) ?_;simp only[go_sem]);(refine db (D _) ?_;simp only[go_sem,hp,h]);(refine W.fV (E _) ?_;simp only[go_sem]);refine W.aY (α:=Unit) (fun _=>True) (fun _=>⟨(((base.put (some 8) (.aC (σ.length+1) [])).put (some 44) (I 0)).put (some 45) (I 0)),σ++[.gone,.spare 50 5 0]⟩) (fun _=>0) () trivial ?_ (fun _ _=>?_)
  ·exact wQ i
  apply bl;simp only[go_sem,t];refine wN ?_;simp only[go_sem];exact wF i
 ·apply bl;simp only[go_sem,vS,hp,h];refine W.aY (α:=Unit) (fun _=>True) (fun _=>⟨((((base.put (some 0) (.ptr p 0)).put (some 3) (.ae [])).put (some 14) (I 0)).put (some 15) (I 0)),σ⟩) (fun _=>0) () trivial ?_ (fun _ _=>?_)
  ·exact wV
  apply bl;simp only[go_sem,t];refine wN ?_;simp only[go_sem];(refine W.fV (j _) ?_;simp only[go_sem]);(refine db (A _) ?_;simp only[go_sem]);(refine db (D _) ?_;simp only[go_sem,hp,h]);(refine W.fV (E _) ?_;simp only[go_sem]);refine W.aY (α:=Unit) (fun _=>True) (fun _=>⟨(((base.put (some 8) (.aC (σ.length+1) [])).put (some 44) (I 0)).put (some 45) (I 0)),σ++[.gone,.spare 50 5 0]⟩) (fun _=>0) () trivial ?_ (fun _ _=>?_)
  ·exact wQ i
  apply bl;simp only[go_sem,t];refine wN ?_;simp only[go_sem];exact wF i
theorem ZU(w0:World){N:Nat}(hR:bO N f.sub)(hN:N<=1000000)(hs:f.sub.length<=1000000)(hl:f.live=true)(hv:∀x∈f.vars,ay f.sub.length x.ty/\aw x.ty<=N)(Z:f.vars≠[])(hvl:f.vars.length<=100000)(hs0:f.sub≠[]){j:List aa}(hw:fY f.sub (f.vars.map (·.ty)) j)(hwn:bE j<=100000)(hwv:∀x∈j,bZ x=true){σ:H}{y3 y4 y5:V}(hA:aS n0 σ p g f y3 y4 y5):
  DC prog w0 33 [.ptr p 0] σ (Same (.c (.sl ((gj dW f.vars (dp j)).map av.cs))) σ):=by
 have hwl:j.length=f.vars.length:=by rw[hw.len,bY]
 have D:(dp j).length=f.vars.length:=(Ou j).trans hwl;refine Ep.go rfl (fun P hsz=>?_);have hp:=fun L=>hG hA.here L;have hp0:=hA.here;unfold bh at hp hp0;have hlt:=hA.lt;rcases hA.sub hl with⟨e,_⟩|⟨b,_,hy3,hb,_⟩
 ·exact absurd e hs0
 subst hy3;rcases hA.var with⟨e,_⟩|⟨bv,_,hy5,hbv⟩
 ·exact absurd e Z
 subst hy5;have hbvl:=(aI.1 hbv).1;have hb2:=fun L=>hG hb L;have E:0<f.vars.length:=List.length_pos_iff.2 Z;have Q:(f.vars.map av.cs).length=f.vars.length:=bY _;have F:∀i (A:i<f.vars.length) (T:H),T[b]?=some (.vec 34 4 (aK f.sub))->DC prog w0 79 [.vec b f.sub.length,f.vars[i].ty.v] T (Same (j[i]'(by omega)).v T):=fun i A T G=>by
  have hg:=hw.get i (by rw[bY];exact A) (by omega);rw[eI]at hg;have hx:=hv f.vars[i] (bg A);exact Yt w0 hR hN hs b hg hx.1 hx.2 T G
 have han:=Fm j;have hAr:=fun σ=>zB w0 oT j (by omega) σ;have hNo:=fun σ=>zJ w0 (du j oT) (by omega) σ;have hav:∀l:List aa,(∀x∈l,bZ x=true)->bZ (du l oT)=true:=by
  intro l;induction l with
  |nil=>intro _;decide
  |cons x l ih=>
   intro h;show bZ (.arr x (du l oT))=true;rw[iL];simp[aa.arr,iK,aO,aQ,aL,aH,h x (aZ ..),ih (fun u hu=>h u (bH _ hu))]
 have hnd:=(rj (hav j hwv) (by omega)).2.1;have hP:=fun σ=>KK w0 (bT (du j oT)) (bf (yu _) (by omega)) σ;have hCl:=fun σ=>Oq w0 (f.vars.map av.cs) (by simpa using Z) (pH f.vars) (by omega) σ;have hnf:(f.vars.map av.cs).flatten=bX f.vars:=rfl;rw[hnf,Q]at hCl;have hpe:(eC (bT (du j oT))).1=dp j:=rfl;rw[hpe]at hP;have hmap:(gj dW f.vars (dp j)).map av.cs=rowsOf 5 f.vars.length (bX (fF f.vars (dp j) f.vars.length)):=by
  rw[ZO];have hz:(gj dW f.vars (dp j)).length=f.vars.length:=by rw[Bn];omega
  have h:=qo (pH (gj dW f.vars (dp j)));rw[bY,hz]at h;exact h.symm
 rw[hmap];generalize hA1:du j (aa.mk 0 [111] 0 [])=ar at*
 generalize (eC (bT ar)).2=rt at*
 generalize bT ar=nt at*
 have hz1:(0:Int)<(f.vars.length:Int):=by omega
 apply bl;simp only[go_sem,vS,hp,hp0,Q];refine W.aY (α:=Option Nat) (fun o=>match o with|none=>True|some i=>1<=i/\i<=f.vars.length) (fun o=>match o with
  |none=>⟨(((((base.put (some 0) (.ptr p 0)).put (some 3) (.ae [])).put (some 13) (.aC bv (f.vars.map av.cs))).put (some 14) (I (f.vars.length:Int))).put (some 15) (I 0)),σ⟩
  |some i=>⟨(((((base.put (some 0) (.ptr p 0)).put (some 3) (.aC (σ.length+1) ((j.take i).map aa.cs))).put (some 13) (.aC bv (f.vars.map av.cs))).put (some 14) (I (f.vars.length:Int))).put (some 15) (I (i:Int))),σ++[.gone,.spare 34 4 i]⟩) (fun o=>match o with|none=>f.vars.length+1|some i=>f.vars.length-i) none trivial ?_ (fun o ho=>?_)
 ·dsimp only
  exact wV
 cases o with
 |none=>
  dsimp only
  have J:=rm E;have hF:=fun T G=>F 0 E T G;have U:(j.take 1).map aa.cs=[(j[0]'(by omega)).cs]:=by
   rw[eW (by omega:0<j.length)];rfl
  have M:aE.wrap (0+1)=((1:Nat):Int):=by decide
  generalize f.vars[0]=x at*;generalize j[0]'(by omega)=w at*
  apply bl;simp only[go_sem,hz1];refine wY ?_;simp only[go_sem,hz1,J,Q];apply W.aD (aF _ _)
  case hc=>
   (apply ab.aj;simp only[go_sem,hp]);(apply ab.call (hF _ (hG hb _))<;>try rfl);(apply ab.aj;simp only[go_sem,true_or]);exact ab.nil
  apply bl;simp only[go_sem,M];refine .inv ⟨some 1,⟨aA _,by omega⟩,by dsimp only;omega,?_⟩;dsimp only
  rw[U];simp only[aa.aG];exact wQ P
 |some i=>
  obtain⟨hi1,A⟩:=ho;dsimp only
  by_cases t:i<f.vars.length
  ·have Y:(i:Int)<(f.vars.length:Int):=by omega
   have z0:(0:Int)<=(i:Int):=by omega
   have J:=rm t;have hF:=fun T G=>F i t T G;have U:(j.take (i+1)).map aa.cs=(j.take i).map aa.cs++[(j[i]'(by omega)).cs]:=by
    rw[eW (by omega:i<j.length),List.map_append];rfl
   have M:aE.wrap ((i:Int)+1)=((i+1:Nat):Int):=by rw[a7]<;>omega
   have htl:((j.take i).map aa.cs).length=i:=by rw[bY,dE];omega
   have b1:(i+1)*56<=140737488355328:=by omega
   have b2:i+1<=140737488355328:=by omega
   have b3:i<=140737488355327:=by omega
   have hr4:(∀r∈(j.take i).map aa.cs,r.length=4)=True:=eq_true (fX _);generalize f.vars[i]=x at*;generalize j[i]'(by omega)=w at*
   rw[aa.aG]at U;generalize (j.take i).map aa.cs=R at*
   apply bl;simp only[go_sem,Y];refine wY ?_;simp only[go_sem,Y,z0,J,Q];apply W.aD (aF _ _)
   case hc=>
    (apply ab.aj;simp only[go_sem,hp]);(apply ab.call (hF _ (hG hb _))<;>try rfl);(apply ab.aj;simp only[go_sem,true_or,htl,b1,b2,b3,hr4]);exact ab.nil
   apply bl;simp only[go_sem,M];refine .inv ⟨some (i+1),⟨by omega,t⟩,by dsimp only;omega,?_⟩;dsimp only
   rw[U];exact wQ P
  ·obtain rfl:i=f.vars.length:=by omega
   have Y:¬((f.vars.length:Nat):Int)<((f.vars.length:Nat):Int):=by omega
   rw[dT (by omega:j.length<=f.vars.length)];apply bl;simp only[go_sem,Y];refine wN ?_;simp only[go_sem];(refine W.fV (hAr _) ?_;simp only[go_sem]);(refine db (hNo _) ?_;simp only[go_sem]);(refine db (hP _) ?_;simp only[go_sem,hp]);(refine W.fV (hCl _) ?_;simp only[go_sem]);have hob:∀i,i<=f.vars.length->(bX (fF f.vars (dp j) i)).length=f.vars.length*5:=fun i A=>by rw[nh,Fo D i A]
   have bx:∀i (A:i<f.vars.length) (X:i<(dp j).length),dj (i*5+1) (bX (fF f.vars (dp j) i))++ .int .i64 (dp j)[i].k:: .str (dp j)[i].name:: .int .i64 (dp j)[i].n:: .sl ((dp j)[i].l.map aa.cs)::gh (i*5+1+4) (bX (fF f.vars (dp j) i))=bX (fF f.vars (dp j) (i+1)):=fun i A X=>by
    have hol:=Fo D i (Nat.le_of_lt A);have h:=ZR (L:=fF f.vars (dp j) i) (i:=i) (by omega) (dp j)[i];rw[ZP D A,ZQ D A]at h;exact h
   have hz0:bX f.vars=bX (fF f.vars (dp j) 0):=by rw[ZN]
   rw[hz0];generalize hO:(fun i=>bX (fF f.vars (dp j) i))=O at*
   have hO2:∀i,bX (fF f.vars (dp j) i)=O i:=fun i=>by rw[<-hO]
   simp only[hO2]at hob bx⊢;refine W.aY (α:=Nat) (fun i=>i<=f.vars.length) (fun i=>⟨(((((base.put (some 6) (.c (.sl ((dp j).map aa.cs)))).put (some 8) (.vec (σ.length+3) f.vars.length)).put (some 43) (.vec (σ.length+3) f.vars.length)).put (some 44) (I (f.vars.length:Int))).put (some 45) (I (i:Int))),σ++[.gone,.gone,.gone,.vec 50 5 (O i)]⟩) (fun i=>f.vars.length-i) 0 (be _) ?_ (fun i A=>?_)
   ·(refine aV.lJ (P) ?_ (by simp) (by simp) ?_ ?_ ?_;exact dZ;((try simp only[okB,cT,go_sem,pG])<;>omega);(simp only[bG,List.length_nil,Nat.reduceAdd,List.take_succ_cons,ey,cT,and_true];(repeat' (refine And.intro ?_ ?_))<;>(first|exact ad.wk.rfl _|exact ad.wk.gone _|(refine ad.lL ?_ rfl;(exact aR))));(repeat' (first|exact cK.base _|(refine cK.put ?_ (by first|exact .c _|((try simp only[okB,cT,go_sem,pG])<;>omega))))))
   by_cases t:i<f.vars.length
   ·have Y:(i:Int)<(f.vars.length:Int):=by omega
    have z0:(0:Int)<=(i:Int):=by omega
    have X:i<(dp j).length:=by omega
    have J:(dp j)[i]?=some (dp j)[i]:=aN X;have M:aE.wrap ((i:Int)+1)=((i+1:Nat):Int):=by rw[a7]<;>omega
    have hgi:=bx i t X;have hFl:=hob i (Nat.le_of_lt t);have hii:i*5+1+4<=f.vars.length*5:=by omega
    generalize (dp j)[i]=w at*
    apply bl;simp only[go_sem,Y];refine wY ?_;simp only[go_sem,Y,z0,J,D,M,hgi,hFl,hii];refine .inv ⟨i+1,t,by omega,?_⟩;exact wV
   ·obtain rfl:i=f.vars.length:=by omega
    refine W.jj (b:=σ.length+3) (e:=50) (size:=5) (k:=f.vars.length) (cs:=O f.vars.length) 8 rfl (Go.Lamb.bx _ _ 3) (Nat.le_of_eq (hob _ (aA _)).symm) ?_;apply bl;simp only[go_sem,Y];refine wN ?_;simp only[go_sem];exact wF P
end
end Go.Proofs.YtdlkenpilhakfaaGreatDoor
namespace Go.Lamb
open Go Go.RowKit
def cI:Option aa->V
 |some u=>.au [u.v,I 0]
 |none=>.au [aa.none.v,I 80]
end Go.Lamb
namespace Go.Proofs.YtdlkenpilhakfaaGreatDoor
open Go.RowKit Go.Lamb
section
attribute [local go_sem] aa.v aa.aG aO aQ aL aH aM
theorem Fp(w0:World)(t:aa):ao t<=1000000000000->∀(σ:H),DC prog w0 30 [t.v] σ (Same (I (cn t:Nat)) σ):=by
 refine aa.ind (P:=fun t=>ao t<=1000000000000->∀(σ:H),DC prog w0 30 [t.v] σ (Same (I (cn t:Nat)) σ)) (fun t J hn σ=>?_) t;refine Nf.go rfl (fun g L=>?_);have r:=fun σ=>DU w0 t σ;have w:bj t.l<=1000000000000:=by rw[ef]at hn;omega
 obtain⟨l,hl,h,j⟩:∃l:List aa,l=(if t.k=5\/t.k=6 then t.l else[])/\bj l<=1000000000000/\∀u∈l,u∈t.l:=by
  refine⟨_,rfl,?_,fun u A=>?_⟩
  ·split
   ·exact w
   ·rw[bj];omega
  ·split at A
   ·exact A
   ·cases A
 have E:cn t=1+dJ l:=by
  rw[Au,hl];split
  ·rfl
  ·rw[dJ]
 rw[<-hl]at r;rw[E];clear E;have F:l.length<=1000000000000:=bf (sY l) h;simp only[aM]at r;generalize (if t.k=5 then(1:Int)else 0)=z at*
 apply bl;simp only[go_sem,Em];(refine db (r _) ?_;simp only[go_sem]);refine W.aY (fun i=>i<=l.length) (fun i=>⟨((((base.put (some 3) (I ((1+dJ (l.take i):Nat):Int))).put (some 13) (.c (.sl (l.map aa.cs)))).put (some 14) (I (l.length:Int))).put (some 15) (I (i:Int))),σ⟩) (fun i=>l.length-i) 0 (be _) ?_ (fun i R=>?_)
 ·simp only[ey,dJ];exact wD g
 ·by_cases b:i<l.length
  ·have p:(i:Int)<(l.length:Int):=by omega
   have M:l[i]?=some l[i]:=aN b;have e:=bg b;have D:ao l[i]<=1000000000000:=bf (sV e) h;have hS:=fun σ=>J l[i] (j _ e) D σ;have N:=N6 b;have O:=N7 l i;have G:=rn l[i];have hw:=cF b (by omega:l.length<=9223372036854775807);have Q:aE.wrap (((1+dJ (l.take i):Nat):Int)+((cn l[i]:Nat):Int))=((1+dJ (l.take (i+1)):Nat):Int):=by rw[a7]<;>omega
   apply bl;simp only[go_sem,p];refine wY ?_;simp only[go_sem,p,bu,M];(refine db (hS _) ?_;simp only[go_sem,Q,hw]);refine .inv ⟨i+1,b,by omega,?_⟩;exact wD g
  ·have p:¬((i:Int)<(l.length:Int)):=by omega
   have:l.take i=l:=dT (by omega);apply bl;simp only[go_sem,p];refine wN ?_;simp only[go_sem];rw[this];exact wF g
theorem Ox(w0:World)(t:aa):ao t<=1000000000000->∀(i:Nat),i+ao t<=2000000000000->∀(σ:H),DC prog w0 261 [t.v,I (i:Int)] σ (Same (I (bV (i:Int) t:Nat)) σ):=by
 refine aa.ind (P:=fun t=>ao t<=1000000000000->∀(i:Nat),i+ao t<=2000000000000->∀(σ:H),DC prog w0 261 [t.v,I (i:Int)] σ (Same (I (bV (i:Int) t:Nat)) σ)) (fun t X hn i hi σ=>?_) t;refine NQ.go rfl (fun g Z=>?_);have hnp:=ef t;have Y:t.l.length<=1000000000000:=bf (eR t) hn;rw[v8];by_cases A:t.k=3/\t.n=(i:Int)
 ·rw[if_pos A];have k3:(t.k==3)=true:=by simp[A.1]
  have R:(t.n==(i:Int))=true:=by simp[A.2]
  clear A;apply bl;simp only[go_sem,tx,k3];refine wY ?_;simp only[go_sem,R];refine wY ?_;simp only[go_sem];exact wF g
 rw[if_neg A];have u:∀(j:Nat),j<=i+1->∀x (E:x<t.l.length) σ,DC prog w0 261 [t.l[x].v,I (j:Int)] σ (Same (I (bV (j:Int) t.l[x]:Nat)) σ):=fun j T x E σ=>by
  have hm:=fz (bg E);exact X _ (bg E) (by omega) j (by omega) σ
 have U:aE.wrap ((i:Int)+1)=((i+1:Nat):Int):=by rw[a7]<;>omega
 have D:bj t.l<=1000000000000:=by omega
 obtain⟨j,T,F,G⟩:∃j:Nat,(j:Int)=(if t.k=5 then(i:Int)+1 else(i:Int))/\(∀x (E:x<t.l.length) σ,DC prog w0 261 [t.l[x].v,I (j:Int)] σ (Same (I (bV (j:Int) t.l[x]:Nat)) σ))/\((t.k=5/\j=i+1)\/(t.k≠5/\j=i)):=by
  by_cases r:t.k=5
  ·exact⟨i+1,by rw[if_pos r];omega,u _ (aA _),.inl ⟨r,rfl⟩⟩
  ·exact⟨i,by rw[if_neg r],u _ (Nat.le_succ _),.inr ⟨r,rfl⟩⟩
 rw[<-T];clear T u X;have h:∀x,x<t.l.length->cH (j:Int) (t.l.take (x+1))<=1000000000000/\cH (j:Int) (t.l.take x)<=1000000000000:=fun x _=>⟨bf (EW _ _ _) D,bf (EW _ _ _) D⟩;rcases G with⟨r,rfl⟩|⟨r,rfl⟩
 ·have k3:(t.k==3)=false:=by simp[r]
  have k5:(t.k==5)=true:=by simp[r]
  clear r A;apply bl;simp only[go_sem,tx,k3,k5];refine wN ?_;simp only[go_sem,k5];refine wY ?_;simp only[go_sem,U];refine W.aY (fun x=>x<=t.l.length) (fun x=>⟨(((((base.put (some 1) (I ((i+1:Nat):Int))).put (some 5) (I (cH ((i+1:Nat):Int) (t.l.take x):Nat))).put (some 21) (.c (aM t.l))).put (some 22) (I (t.l.length:Int))).put (some 23) (I (x:Int))),σ⟩) (fun x=>t.l.length-x) 0 (be _) ?_ (fun x E=>?_)
  ·simp only[ey,cH];exact wD g
  by_cases b:x<t.l.length
  ·have p:(x:Int)<(t.l.length:Int):=by omega
   have w:t.l[x]?=some t.l[x]:=aN b;have J:=fun σ=>F x b σ;have L:=Av ((i+1:Nat):Int) b;have M:=h x b;have hw:=cF b (by omega:t.l.length<=9223372036854775807);have N:aE.wrap (((cH ((i+1:Nat):Int) (t.l.take x):Nat):Int)+((bV ((i+1:Nat):Int) t.l[x]:Nat):Int))=((cH ((i+1:Nat):Int) (t.l.take (x+1)):Nat):Int):=by rw[a7]<;>omega
   apply bl;simp only[go_sem,p];refine wY ?_;simp only[go_sem,p,bu,w];(refine db (J _) ?_;simp only[go_sem,N,hw]);refine .inv ⟨x+1,b,by omega,?_⟩;exact wD g
  ·have p:¬((x:Int)<(t.l.length:Int)):=by omega
   have O:t.l.take x=t.l:=dT (by omega);apply bl;simp only[go_sem,p];refine wN ?_;simp only[go_sem];rw[O];exact wF g
 ·by_cases Q:t.k=3
  ·have k3:(t.k==3)=true:=by simp[Q]
   have R:(t.n==(j:Int))=false:=by
    have:t.n≠(j:Int):=fun e=>A ⟨Q,e⟩;simpa using this
   clear Q r A;apply bl;simp only[go_sem,tx,k3];refine wY ?_;simp only[go_sem,R];refine wN ?_;simp only[go_sem];refine W.aY (fun x=>x<=t.l.length) (fun x=>⟨(((((base.put (some 1) (I (j:Int))).put (some 5) (I (cH (j:Int) (t.l.take x):Nat))).put (some 21) (.c (aM t.l))).put (some 22) (I (t.l.length:Int))).put (some 23) (I (x:Int))),σ⟩) (fun x=>t.l.length-x) 0 (be _) ?_ (fun x E=>?_)
   ·simp only[ey,cH];exact wD g
   by_cases b:x<t.l.length
   ·have p:(x:Int)<(t.l.length:Int):=by omega
    have w:t.l[x]?=some t.l[x]:=aN b;have J:=fun σ=>F x b σ;have L:=Av (j:Int) b;have M:=h x b;have hw:=cF b (by omega:t.l.length<=9223372036854775807);have N:aE.wrap (((cH (j:Int) (t.l.take x):Nat):Int)+((bV (j:Int) t.l[x]:Nat):Int))=((cH (j:Int) (t.l.take (x+1)):Nat):Int):=by rw[a7]<;>omega
    apply bl;simp only[go_sem,p];refine wY ?_;simp only[go_sem,p,bu,w];(refine db (J _) ?_;simp only[go_sem,N,hw]);refine .inv ⟨x+1,b,by omega,?_⟩;exact wD g
   ·have p:¬((x:Int)<(t.l.length:Int)):=by omega
    have O:t.l.take x=t.l:=dT (by omega);apply bl;simp only[go_sem,p];refine wN ?_;simp only[go_sem];rw[O];exact wF g
  ·have k3:(t.k==3)=false:=by simp[Q]
   have k5:(t.k==5)=false:=by simp[r]
   clear Q r A;apply bl;simp only[go_sem,tx,k3,k5];refine wN ?_;simp only[go_sem,k5];refine wN ?_;simp only[go_sem];refine W.aY (fun x=>x<=t.l.length) (fun x=>⟨(((((base.put (some 1) (I (j:Int))).put (some 5) (I (cH (j:Int) (t.l.take x):Nat))).put (some 21) (.c (aM t.l))).put (some 22) (I (t.l.length:Int))).put (some 23) (I (x:Int))),σ⟩) (fun x=>t.l.length-x) 0 (be _) ?_ (fun x E=>?_)
   ·simp only[ey,cH];exact wD g
   by_cases b:x<t.l.length
   ·have p:(x:Int)<(t.l.length:Int):=by omega
    have w:t.l[x]?=some t.l[x]:=aN b;have J:=fun σ=>F x b σ;have L:=Av (j:Int) b;have M:=h x b;have hw:=cF b (by omega:t.l.length<=9223372036854775807);have N:aE.wrap (((cH (j:Int) (t.l.take x):Nat):Int)+((bV (j:Int) t.l[x]:Nat):Int))=((cH (j:Int) (t.l.take (x+1)):Nat):Int):=by rw[a7]<;>omega
    apply bl;simp only[go_sem,p];refine wY ?_;simp only[go_sem,p,bu,w];(refine db (J _) ?_;simp only[go_sem,N,hw]);refine .inv ⟨x+1,b,by omega,?_⟩;exact wD g
   ·have p:¬((x:Int)<(t.l.length:Int)):=by omega
    have O:t.l.take x=t.l:=dT (by omega);apply bl;simp only[go_sem,p];refine wN ?_;simp only[go_sem];rw[O];exact wF g
theorem Oy(w0:World)(b a:aa){m:Int}(t:m<=2305843009213693952)(A:Nr m b)(ha:Nr m a)(j:ao b<=4096)(p:ao a<=4096)(σ:H):DC prog w0 231 [b.v,a.v] σ (Same (cI (jO b a)) σ):=by
 refine YU.go rfl (fun c D=>?_);have e:=fun σ=>Fp w0 b (by omega) σ;have g:=fun σ=>Fp w0 a (by omega) σ;have r:=fun σ=>Ox w0 b (by omega) 0 (by omega) σ;have E:((0:Nat):Int)=0:=rfl;rw[E]at r;have w:ao a*ao b<=4096*4096:=Nat.mul_le_mul p j;have hS:=fun σ=>XA w0 b 0 a (by decide) (by decide) (lh t a ha.2) (by omega) (lh t b A.2) (by omega) (by omega) σ;have F:=rn b;have G:=rn a;have J:=EV b 0;have L:bV 0 b*cn a<=4096*4096:=Nat.mul_le_mul (by omega) (by omega);have h:aE.wrap (((bV 0 b:Nat):Int)*((cn a:Nat):Int))=((bV 0 b*cn a:Nat):Int):=by rw[a7]<;>omega
 have i:aE.wrap (((cn b:Nat):Int)+((bV 0 b*cn a:Nat):Int))=((cn b+bV 0 b*cn a:Nat):Int):=by rw[a7]<;>omega
 unfold jO;by_cases hc:cn b+bV 0 b*cn a>4096
 ·rw[if_pos hc];have hg:(((cn b+bV 0 b*cn a:Nat):Int)>4096):=by omega
  generalize cn b+bV 0 b*cn a=z at*;generalize bV 0 b*cn a=y at*
  apply bl;simp only[go_sem,EJ];apply W.ff
  case hc=>
   (apply Canon.gH;simp only[mI,mJ,mK,mL,mM,mN,go_sem]);(apply Canon.call (e _)<;>try rfl);(apply Canon.gH;simp only[mI,mJ,mK,mL,mM,mN,go_sem]);(apply Canon.call (r _)<;>try rfl);(apply Canon.gH;simp only[mI,mJ,mK,mL,mM,mN,go_sem]);(apply Canon.call (g _)<;>try rfl);(apply Canon.gH;simp only[mI,mJ,mK,mL,mM,mN,go_sem,h,i,hg]);exact Canon.nil
  apply bl;simp only[go_sem];refine wY ?_;simp only[go_sem,cI,aa.none];exact wF c
 ·rw[if_neg hc];have hg:¬(((cn b+bV 0 b*cn a:Nat):Int)>4096):=by omega
  generalize cn b+bV 0 b*cn a=z at*;generalize bV 0 b*cn a=y at*;generalize kC 0 a b=u at*
  apply bl;simp only[go_sem,EJ];apply W.ff
  case hc=>
   (apply Canon.gH;simp only[mI,mJ,mK,mL,mM,mN,go_sem]);(apply Canon.call (e _)<;>try rfl);(apply Canon.gH;simp only[mI,mJ,mK,mL,mM,mN,go_sem]);(apply Canon.call (r _)<;>try rfl);(apply Canon.gH;simp only[mI,mJ,mK,mL,mM,mN,go_sem]);(apply Canon.call (g _)<;>try rfl);(apply Canon.gH;simp only[mI,mJ,mK,mL,mM,mN,go_sem,h,i,hg]);exact Canon.nil
  apply bl;simp only[go_sem];refine wN ?_;simp only[go_sem,cI];(refine db (hS _) ?_;simp only[go_sem]);exact wF c

def ZV(w0:World)(t:aa)(h:t.k=6->t.l≠[])(σ:H):DC prog w0 230 [t.v] σ (Same (B (dD t)) σ):=by
 refine MB.go rfl (fun b e=>?_);unfold dD;by_cases c:t.k=6
 ·have k6:(t.k==6)=true:=by simp[c]
  obtain⟨x,l,hl⟩:∃x l,t.l=x::l:=by
   cases hl:t.l with
   |nil=>exact absurd hl (h c)
   |cons x l=>exact⟨x,l,rfl⟩
  have z:(0:Int)<((l.length+1:Nat):Int):=by omega
  rw[hl,List.headD_cons];clear c h;apply bl;simp only[go_sem,zY,k6,hl,z];exact wF b
 ·have k6:(t.k==6)=false:=by simp[c]
  clear c h;apply bl;simp only[go_sem,zY,k6];exact wF b
def Oz{σ:H}{p:Nat}(h:p<σ.length)(c:ad)(L:H):(σ.set p c++L)[p]?=some c:=by
 rw[List.getElem?_append_left (by simpa using h),bW h]
def OA{σ:H}{p:Nat}(h:p<σ.length)(c d:ad)(L:H):(σ.set p c++L).set p d=σ.set p d++L:=by
 rw[List.set_append_left _ _ (by simpa using h),List.set_set]
def ok_int{σ:H}(h:H.ok σ)(p:Nat)(n:Int):H.ok (σ.set p (.cells [I n])):=fun B b cs tg hc x e=>by
 rw[List.length_set];rcases List.mem_or_eq_of_mem_set b with b|rfl
 ·exact h B b cs tg hc x e
 ·injection hc with hc;subst hc;simp only[cD,iZ,or_false]at e;subst e;exact .c _
def rv(b a:aa)(r:List aa):(eG b a r).k=6:=rfl
def wo(b a:aa)(r:List aa):(eG b a r).name=[]:=rfl
def wq(b a:aa)(r:List aa):(eG b a r).n=0:=rfl
def rA(b a:aa)(r:List aa):(eG b a r).l=bk b::a::r:=rfl
def jP(b:aa):(bk b).k=5:=rfl
def jQ(b:aa):(bk b).name=[]:=rfl
def jR(b:aa):(bk b).n=0:=rfl
def iT(b:aa):(bk b).l=[b]:=rfl
def cf.parts{n:Nat}{b a:aa}{r:List aa}(h:cf n (eG b a r)):ao b<=4096/\ao a<=4096/\Nr (2199023255552-8192*(n:Int)) b/\Nr (2199023255552-8192*(n:Int)) a:=by
 have c:=h.bd.kids (by rw[rv];decide);rw[rA]at c;have g:=c (bk b) (aZ ..);have i:=kF b;have hn:=(Nr.jN _ _ h.nr).2;rw[rA]at hn;have e:=hn (bk b) (aZ ..);exact⟨by omega,c a (bH _ (aZ ..)),(Nr.jN _ _ e).2 b (by rw[iT];simp),hn a (bH _ (aZ ..))⟩
def ZW(w0:World)(n:Nat)(hn:n<=100000)(t:aa)(hi:cf n t)(N:ao t+4097*n<=1000000000)(D:∀p b,(p<n\/(p=n/\b∈t.l))->cf p b->ao b+4097*p<=1000000000->∀o m,e9 p b o m->∀(e:Nat) (σ:H),σ[e]?=some (.cells [I p])->DC prog w0 184 [b.v,.ptr e 0] σ (Same (cI o) (σ.set e (.cells [I m])))){o:Option aa}{m:Nat}(h:e9 n t o m)(e:Nat)(σ:H)(hf:σ[e]?=some (.cells [I n])):
  DC prog w0 184 [t.v,.ptr e 0] σ (Same (cI o) (σ.set e (.cells [I m]))):=by
 have E:e<σ.length:=(aI.1 hf).1;have O:σ.set e (.cells [I n])=σ:=qp hf;refine Mv.go rfl (fun F hsz=>?_);have g:=ok_int F e m;have fg:=fun c L=>Oz E c L;have fs:=fun c d L=>OA E c d L;apply bl;simp only[go_sem,D6];refine W.aY (α:=Nat×aa) (fun x=>x.1<=n/\(x.1<n\/x.2=t)/\e9 x.1 x.2 o m/\cf x.1 x.2/\ao x.2+4097*x.1<=1000000000) (fun x=>⟨(((base.put (some 1) (.ptr e 0)).put (some 2) (.ptr σ.length 0)).put (some 4) (.ptr (σ.length+1) 0)),σ.set e (.cells [I (x.1:Int)])++[.cells x.2.v.af,.cells [I 0,S [],I 0,.ae []]]⟩) (fun x=>x.1) (n,t) ⟨aA _,.inr rfl,h,hi,N⟩ ?_ (fun x hx=>?_)
 ·dsimp only
  rw[O];exact wV
 obtain⟨j,s⟩:=x;obtain⟨x1,w,x3,A,x5⟩:=hx;dsimp only at x1 w x3 A x5⊢;have P:s.k=6->s.l≠[]:=fun h6=>by
  obtain⟨_,_,a,b,l,hl,_⟩:=fD A.nr.1 h6;rw[hl];simp
 have hR:=fun σ=>ZV w0 s P σ;apply bl;simp only[go_sem,fg,fs];(refine db (hR _) ?_;simp only[go_sem]);cases x3 with
 |@tB b a r=>
  have i:dD (eG b a r)=true:=rfl;rw[i];refine wY ?_;simp only[go_sem,fg,fs];refine wY ?_;simp only[go_sem,cI,aa.none];exact wF g
 |@mZ j b a r hc=>
  have i:dD (eG b a r)=true:=rfl;have z:¬(((j+1:Nat):Int)<=0):=by omega
  have z0:(0:Int)<((r.length+1+1:Nat):Int):=by omega
  have Q:(1:Int)<((r.length+1+1:Nat):Int):=by omega
  have z2:(2:Int)<=((r.length+1+1:Nat):Int):=by omega
  obtain⟨R,T,U,X⟩:=A.parts;have G:=fun σ=>Oy w0 b a (m:=2199023255552) (by decide) (U.more (by omega)) (X.more (by omega)) R T σ;rw[hc]at G;rw[i];refine wY ?_;simp only[go_sem,fg,fs,z];refine wN ?_;simp only[go_sem];apply W.aD (aF _ _)
  case hc=>
   (apply ab.aj;simp only[go_sem,rv,wo,wq,rA,jP,jQ,jR,iT,fg,fs,z0,Q]);(apply ab.nO (fun τ=>G τ);(case hg=>rfl);(case hf=>rfl);(case ha=>first|rfl|simp));(apply ab.aj;simp only[go_sem,cI,aa.none]);exact ab.nil
  apply bl;simp only[go_sem];refine wY ?_;simp only[go_sem,cI,aa.none];exact wF g
 |@step j m b a u r o hc Y=>
  have i:dD (eG b a r)=true:=rfl;have z:¬(((j+1:Nat):Int)<=0):=by omega
  have z0:(0:Int)<((r.length+1+1:Nat):Int):=by omega
  have Q:(1:Int)<((r.length+1+1:Nat):Int):=by omega
  have z2:(2:Int)<=((r.length+1+1:Nat):Int):=by omega
  have Z:aE.wrap (((j+1:Nat):Int)-1)=((j:Nat):Int):=by rw[a7]<;>omega
  obtain⟨R,T,U,X⟩:=A.parts;obtain⟨b1,b2,b3⟩:=A.beta (by omega) hc;have G:=fun σ=>Oy w0 b a (m:=2199023255552) (by decide) (U.more (by omega)) (X.more (by omega)) R T σ;have J:bj r<=ao (eG b a r):=by unfold eG;rw[iu,bj,bj];omega
  have hrl2:=sY r;have hul:=eR u;have hA:=fun σ=>vA w0 u r (by omega) σ;rw[hc]at G;rw[i];have M:=ok_int F e j;have htk:dj r.length (r.map aa.cs)=r.map aa.cs:=dT (by simp);have hr4:(∀x,x∈gV aa.cs r->x.length=4)=True:=eq_true (fX r);refine wY ?_;simp only[go_sem,fg,fs,z];refine wN ?_;simp only[go_sem];apply W.aD (aF _ _)
  case hc=>
   (apply ab.aj;simp only[go_sem,rv,wo,wq,rA,jP,jQ,jR,iT,fg,fs,z0,Q]);(apply ab.nO (fun τ=>G τ);(case hg=>rfl);(case hf=>rfl);(case ha=>first|rfl|simp));(apply ab.aj;simp only[go_sem,cI]);exact ab.nil
  apply bl;simp only[go_sem];refine wN ?_;simp only[go_sem,fg,fs,Z];apply W.aD (aF _ _)
  case hc=>
   (apply ab.aj;simp only[go_sem,rv,wo,wq,rA,jP,jQ,jR,iT,fg,fs,htk,z2,hr4]);(apply ab.call (hA _)<;>try rfl);(apply ab.aj;simp only[go_sem,fg,fs]);exact ab.nil
  apply bl;simp only[go_sem];refine .inv ⟨(j,bP u r),⟨by omega,.inl (by omega),Y,b1,by show ao (bP u r)+4097*j<=_;omega⟩,by dsimp only;omega,?_⟩;dsimp only
  exact wQ M
 |@stop _ _ i h5=>
  have k5:(s.k !=5)=true:=by simp[h5]
  rw[i];refine wN ?_;simp only[go_sem,fg,fs,k5];refine wY ?_;simp only[go_sem,cI];exact wF g
 |@lam _ m b o Y=>
  have i:dD (bk b)=false:=rfl;have J:ao b+4097*j<=1000000000:=by have:=kF b;omega
  have hH:=D j b (by
   rcases w with w|w
   ·exact .inl w
   ·by_cases hj:j<n
    ·exact .inl hj
    ·exact .inr ⟨by omega,by rw[<-w,iT];simp⟩) A.body J o m Y
  have hH2:∀c d,DC prog w0 184 [b.v,.ptr e 0] (σ.set e (.cells [I (j:Int)])++[c,d]) (Same (cI o) (σ.set e (.cells [I (m:Int)])++[c,d])):=fun c d=>by
   have:=hH e (σ.set e (.cells [I (j:Int)])++[c,d]) (fg _ _);rwa [fs]at this
  rw[i];refine wN ?_;simp only[go_sem,fg,fs,rv,jP,jQ,jR,iT];refine wN ?_;simp only[go_sem,jP,jQ,jR,iT];(refine db (hH2 _ _) ?_;simp only[go_sem]);cases o with
  |none=>
   (simp only[go_sem,cI,aa.none]);refine wY ?_;simp only[go_sem,cI,aa.none,mf];exact wF g
  |some v=>
   have hL:=fun σ=>v7 w0 v σ;(simp only[go_sem,cI]);refine wN ?_;simp only[go_sem];(refine db (hL _) ?_;simp only[go_sem,cI,fc]);exact wF g
def ZX(w0:World)(n:Nat):n<=100000->∀t,cf n t->ao t+4097*n<=1000000000->∀o m,e9 n t o m->∀(c:Nat) (σ:H),σ[c]?=some (.cells [I (n:Int)])->DC prog w0 184 [t.v,.ptr c 0] σ (Same (cI o) (σ.set c (.cells [I (m:Int)]))):=by
 induction n using p6 with
 |ind n u=>
  intro hn t;refine aa.ind (P:=fun t=>cf n t->ao t+4097*n<=1000000000->∀o m,e9 n t o m->∀(c:Nat) (σ:H),σ[c]?=some (.cells [I (n:Int)])->DC prog w0 184 [t.v,.ptr c 0] σ (Same (cI o) (σ.set c (.cells [I (m:Int)])))) (fun t J L w o m h c σ hf=>?_) t;refine ZW w0 n hn t L w (fun A b hc D g E F G i j p=>?_) h c σ hf;by_cases r:A<n
  ·exact u A r (by omega) b D g E F G i j p
  ·rcases hc with hc|⟨e,hc⟩
   ·exact absurd hc r
   ·subst e;exact J b hc D g E F G i j p
structure OB where
 n:Nat
 done:List aa
 rest:List aa
 o:Option (List aa)
structure ZY (m q:Nat) (l:List aa) (o:Option (List aa)) (x:OB):Prop where
 le:x.n<=m
 len:x.done.length+x.rest.length=l.length
 sub:∀u∈x.rest,u∈l
 to:rp x.n x.rest x.o q
 out:o=x.o.map fun r=>x.done++r
def ZZ(w0:World)(l:List (List C))(e:l≠[])(g:∀r∈l,r.length=4)(hn:l.length<=1000000000)(σ:H):DC prog w0 185 [.c (.sl l)] σ (Same (.vec σ.length l.length) (σ++[.vec 41 4 l.flatten])):=by
 refine DP.cl rfl (fun j p=>?_);have h:l.length*56<=140737488355328:=by omega
 have i:l.length<=140737488355328:=by omega
 apply bl;simp only[go_sem,zL];refine W.lH rfl rfl rfl (fun b t=>?_);cases b
 ·apply bl;simp only[go_sem];refine W.no rfl ?_;refine W.skip (W.seq (W.ax (W.kg rfl rfl (W.kg rfl rfl ?_))));refine W.nN (olds:=[]) (news:=l) rfl rfl rfl rfl ⟨e,(fun r u=>by cases u),g,by simpa using h,by simpa using i⟩ ?_;apply bl;simp only[go_sem,dK];refine W.ret ⟨_,_,rfl,.rfl _,?_⟩;exact⟨rfl,rfl⟩
 ·exact absurd (t rfl) e
def Z0(w0:World)(n:Nat)(hn:n<=100000)(t:aa)(hi:cf n t)(hnd:ao t+4097*n<=1000000000)
  (Y:∀g b,(g<n\/(g=n/\ao b<ao t))->cf g b->ao b+4097*g<=1000000000->∀o q,dV g b o q->∀(i:Nat) (σ:H),σ[i]?=some (.cells [I (g:Int)])->DC prog w0 130 [b.v,.ptr i 0] σ (Same (cI o) (σ.set i (.cells [I (q:Int)]))))
  {o:Option aa} {q:Nat} (h:dV n t o q) (i:Nat) (σ:H) (hf:σ[i]?=some (.cells [I (n:Int)])):
  DC prog w0 130 [t.v,.ptr i 0] σ (Same (cI o) (σ.set i (.cells [I (q:Int)]))):=by
 have Z:i<σ.length:=(aI.1 hf).1;refine Mo.go rfl (fun hok hsz=>?_);have j:=ok_int hok i q;have fg:=fun c L=>Oz Z c L;have fs:=fun c d L=>OA Z c d L;have hH:∀(r:Option aa) (m:Nat),e9 n t r m->∀L,DC prog w0 184 [t.v,.ptr i 0] (σ++L) (Same (cI r) (σ.set i (.cells [I (m:Int)])++L)):=fun r m A L=>by
  have:=ZX w0 n hn t hi hnd r m A i (σ++L) (hG hf L);rwa [hS hf]at this
 have hR:∀(g:Nat) (b:aa) (o:Option aa) (N:Nat),dV g b o N->(g<n\/(g=n/\ao b<ao t))->cf g b->ao b+4097*g<=1000000000->∀L,DC prog w0 130 [b.v,.ptr i 0] (σ.set i (.cells [I (g:Int)])++L) (Same (cI o) (σ.set i (.cells [I (N:Int)])++L)):=fun g b o N U hc hb hbn L=>by
  have:=Y g b hc hb hbn o N U i (σ.set i (.cells [I (g:Int)])++L) (fg _ _);rwa [fs]at this
 cases h with
 |bad A=>
  have A:=hH _ _ A;apply bl;simp only[go_sem,c130];(refine db (A _) ?_;simp only[go_sem,cI,aa.none]);refine wY ?_;simp only[go_sem,cI,aa.none];exact wF j
 |@lam _ m _ _ b o A U=>
  obtain⟨k1,k2⟩:=pN A hn hi;obtain⟨k3,k4,k5⟩:=k2 _ rfl;have hln:=kF b;have hB:=hR m b o q U (by
   rcases k4 with k4|k4
   ·exact .inl k4
   ·by_cases hm:m<n
    ·exact .inl hm
    ·exact .inr ⟨by omega,by rw[<-k4];omega⟩) k3.body (by omega)
  have A:=hH _ _ A;apply bl;simp only[go_sem,c130];(refine db (A _) ?_;simp only[go_sem,cI,jP,jQ,jR,iT]);refine wN ?_;simp only[go_sem,jP,jQ,jR,iT];refine wY ?_;simp only[go_sem,jP,jQ,jR,iT];(refine db (hB _) ?_;simp only[go_sem]);cases o with
  |none=>
   (simp only[go_sem,cI,aa.none]);refine wY ?_;simp only[go_sem,cI,aa.none,mf];exact wF j
  |some v=>
   have hL:=fun σ=>v7 w0 v σ;(simp only[go_sem,cI]);refine wN ?_;simp only[go_sem];(refine db (hL _) ?_;simp only[go_sem,cI,fc]);exact wF j
 |@kids _ m _ _ u o A h5 U=>
  obtain⟨k1,k2⟩:=pN A hn hi;obtain⟨k3,k4,k5⟩:=k2 _ rfl;have A:=hH _ _ A;have hu5:(u.k==5)=false:=by simp[h5]
  have hun:=ef u;by_cases D:u.l=[]
  ·rw[D]at U;cases U;have E:=fun σ=>LP w0 [] rfl σ;have hz:¬((0:Int)<0):=by decide
   apply bl;simp only[go_sem,c130];(refine db (A _) ?_;simp only[go_sem,cI]);refine wN ?_;simp only[go_sem,hu5,D];refine wN ?_;simp only[go_sem,D];(refine db (E _) ?_;simp only[go_sem]);refine W.aY (α:=Unit) (fun _=>True) (fun _=>⟨(((((((base.put (some 1) (.ptr i 0)).put (some 2) (.ptr σ.length 0)).put (some 4) (.ptr (σ.length+1) 0)).put (some 9) (.aC (σ.length+2) [])).put (some 43) (.aC (σ.length+2) [])).put (some 44) (I 0)).put (some 45) (I 0)),σ.set i (.cells [I (q:Int)])++[.cells u.v.af,.cells [I 0,S [],I 0,.ae []],.spare 41 4 0]⟩) (fun _=>0) () trivial ?_ (fun _ _=>?_)
   ·simp only[aa.v,D,V.af,cP];exact wV
   apply bl;simp only[go_sem,hz];refine wN ?_;simp only[go_sem,cI,fc];exact wF j
  ·have hlen:=eR u;have hne:u.l.map aa.cs≠[]:=by simpa using D
   have E:=fun σ=>ZZ w0 (u.l.map aa.cs) hne (fX u.l) (by rw[bY];omega) σ;rw[bY]at E;have hF0:(u.l.map aa.cs).flatten=aK u.l:=rfl;rw[hF0]at E;have F:∀(g:Nat) (x:aa),g<=m->x∈u.l->∀(r:Option aa) (N:Nat),dV g x r N->∀L,DC prog w0 130 [x.v,.ptr i 0] (σ.set i (.cells [I (g:Int)])++L) (Same (cI r) (σ.set i (.cells [I (N:Int)])++L))/\N<=g:=fun g x hn' hx r N hxn L=>by
    have hb:=(k3.dA h5 hx).down hn';have hxs:=k3.bd.kids h5 x hx;have hxu:=fz hx;refine⟨hR g x r N hxn ?_ hb (by omega) L,(rq hxn (by omega) hb).1⟩;by_cases hm:g<n
    ·exact .inl hm
    ·refine .inr ⟨by omega,?_⟩;rcases k4 with k4|k4
     ·omega
     ·rw[<-k4];exact hxu
   apply bl;simp only[go_sem,c130];(refine db (A _) ?_;simp only[go_sem,cI]);refine wN ?_;simp only[go_sem,hu5];refine wN ?_;simp only[go_sem];(refine db (E _) ?_;simp only[go_sem]);refine W.aY (α:=OB) (ZY m q u.l o) (fun x=>⟨(((((((base.put (some 1) (.ptr i 0)).put (some 2) (.ptr σ.length 0)).put (some 4) (.ptr (σ.length+1) 0)).put (some 9) (.vec (σ.length+2) u.l.length)).put (some 43) (.vec (σ.length+2) u.l.length)).put (some 44) (I (u.l.length:Int))).put (some 45) (I (x.done.length:Int))),σ.set i (.cells [I (x.n:Int)])++[.cells u.v.af,.cells [I 0,S [],I 0,.ae []],.vec 41 4 (aK (x.done++x.rest))]⟩) (fun x=>x.rest.length) ⟨m,[],u.l,o⟩ ⟨aA _,by simp,fun _ h=>h,U,by cases o<;>simp⟩ ?_ (fun x hx=>?_)
   ·exact wV
   obtain⟨g,done,rest,o'⟩:=x;obtain⟨x1,R,x3,x4,x5⟩:=hx;dsimp only at x1 R x3 x4 x5⊢;have G:(aK (done++rest)).length=u.l.length*4:=by rw[gC,bC,R]
   cases x4 with
   |@bad _ _ y rest hy=>
    have p:done.length<(done++y::rest).length:=by simp
    have O:(done.length:Int)<(u.l.length:Int):=by simp at R;omega
    have h0:(0:Int)<=(done.length:Int):=by omega
    have J:=ob p;have X:(done++y::rest)[done.length]=y:=by simp
    rw[X]at J;have P:=vH p aa.none;have M:done.length*4+4<=u.l.length*4:=by simp at R;omega
    have hK:=fun L=>(F g y x1 (x3 y (aZ ..)) none q hy L).1;subst x5;apply bl;simp only[go_sem,O];refine wY ?_;simp only[go_sem,O,h0,J,G,M];(refine db (hK _) ?_;simp only[go_sem,cI,aa.none,O,h0,P,G,M]);refine wY ?_;simp only[go_sem,cI,aa.none,mf];exact wF j
   |@cons _ m' _ y z rest o'' hy hk'=>
    have p:done.length<(done++y::rest).length:=by simp
    have O:(done.length:Int)<(u.l.length:Int):=by simp at R;omega
    have h0:(0:Int)<=(done.length:Int):=by omega
    have hw:aE.wrap ((done.length:Int)+1)=((done.length+1:Nat):Int):=by rw[a7]<;>omega
    have J:=ob p;have X:(done++y::rest)[done.length]=y:=by simp
    rw[X]at J;have P:=vH p z;have hse:(done++y::rest).set done.length z=(done++[z])++rest:=by simp
    rw[hse]at P;have M:done.length*4+4<=u.l.length*4:=by simp at R;omega
    have hK:=fun L=>(F g y x1 (x3 y (aZ ..)) (some z) m' hy L).1;have hm':=(F g y x1 (x3 y (aZ ..)) (some z) m' hy []).2;have hdl:(done++[z]).length=done.length+1:=by simp
    have hokm:=ok_int hok i m';apply bl;simp only[go_sem,O];refine wY ?_;simp only[go_sem,O,h0,J,G,M];(refine db (hK _) ?_;simp only[go_sem,cI,O,h0,P,G,M]);refine wN ?_;simp only[go_sem,hw];refine .inv ⟨⟨m',done++[z],rest,o''⟩,⟨by show m'<=m;omega,by simp at R⊢;omega,fun w hw=>x3 w (bH _ hw),hk',by subst x5;cases o''<;>simp⟩,by simp,?_⟩;dsimp only
    simp only[hdl,List.append_assoc,iB,dK];(refine aV.lJ (hokm) ?_ (by simp) (by simp) ?_ ?_ ?_;exact dZ;((try simp only[okB,cT,go_sem,pG])<;>omega);(simp only[bG,dU,Nat.reduceAdd,List.take_succ_cons,ey,cT,and_true];(repeat' (refine And.intro ?_ ?_))<;>(first|exact ad.wk.rfl _|exact ad.wk.gone _|(refine ad.lL ?_ rfl;(exact aR))));(repeat' (first|exact cK.base _|(refine cK.put ?_ (by first|exact .c _|((try simp only[okB,cT,go_sem,pG])<;>omega))))))
   |nil=>
    have hdn:done.length=u.l.length:=by simpa using R
    have O:¬(done.length:Int)<(u.l.length:Int):=by omega
    have Q:rowsOf 4 u.l.length (aK (done++[]))=done.map aa.cs:=by
     have h:=qo (fX done);rw[bY,hdn]at h;rw[cd];exact h
    have T:rowsOf 4 u.l.length (aK done)=done.map aa.cs:=by
     rw[cd]at Q;exact Q
    subst x5;refine W.jj (b:=σ.length+2) (e:=41) (size:=4) (k:=u.l.length) (cs:=aK (done++[])) 9 rfl (by simp only[go_sem]) (Nat.le_of_eq G.symm) ?_;apply bl;simp only[go_sem,O,Q,T];refine wN ?_;simp only[go_sem,Q,T,cI,fc,cd];exact wF j
def Z1(w0:World)(n:Nat):n<=100000->∀t,cf n t->ao t+4097*n<=1000000000->∀o q,dV n t o q->∀(c:Nat) (σ:H),σ[c]?=some (.cells [I (n:Int)])->DC prog w0 130 [t.v,.ptr c 0] σ (Same (cI o) (σ.set c (.cells [I (q:Int)]))):=by
 induction n using p6 with
 |ind n w=>
  intro hn;have key:∀(N:Nat) (t:aa),ao t<N->cf n t->ao t+4097*n<=1000000000->∀o q,dV n t o q->∀(c:Nat) (σ:H),σ[c]?=some (.cells [I (n:Int)])->DC prog w0 130 [t.v,.ptr c 0] σ (Same (cI o) (σ.set c (.cells [I (q:Int)]))):=by
   intro N;induction N with
   |zero=>intro t h;omega
   |succ N A=>
    intro t M D g o q h c σ hf;refine Z0 w0 n hn t D g (fun E b hc F i G J L j p r=>?_) h c σ hf;by_cases u:E<n
    ·exact w E u (by omega) b F i G J L j p r
    ·rcases hc with hc|⟨e,hc⟩
     ·exact absurd hc u
     ·subst e;exact A b (by omega) F i G J L j p r
  intro t D g;exact key (ao t+1) t (by omega) D g
end
end Go.Proofs.YtdlkenpilhakfaaGreatDoor
namespace Go.Proofs.YtdlkenpilhakfaaGreatDoor
open Go Go.RowKit Go.Lamb
def fa(t:aa):aa:=bP (t.l.headD .none) ((t.l.take (t.l.length-1)).drop 1)
def dQ(t:aa):aa:=t.l.getD (t.l.length-1) .none
def fb(t:aa):Option aa:=if t.k=6/\(dQ t).k=3/\(dQ t).n=0 then(if bV 0 (fa t)=0 then some (iR 0 (-1) (fa t))else none)else none
def OC:List aa->aa
 |[]=>.none
 |b::_=>(fb b).getD (bk b)
def AF:List aa->aa
 |[]=>.none
 |x::r=>bP x r
mutual
def bw:aa->aa
 | .mk k s n l=>if k=5 then OC (tE l)else if k=6 then AF (tE l)else .mk k s n l
def tE:List aa->List aa
 |[]=>[]
 |x::l=>bw x::tE l
end
def OD:∀l:List aa,tE l=l.map bw
 |[]=>by rw[tE];rfl
 |x::l=>by rw[tE,OD l];rfl
def Fq(t:aa):bw t=if t.k=5 then OC (t.l.map bw)else if t.k=6 then AF (t.l.map bw)else t:=by
 cases t;rw[bw,OD];rfl
def Fs{i:Int}:∀{l:List aa},cH i l=0->∀u∈l,bV i u=0
 |[],_,u,hu=>by cases hu
 |x::l,h,u,hu=>by
  rw[cH]at h;rcases cD.1 hu with rfl|hu
  ·omega
  ·exact Fs (l:=l) (by omega) u hu
def Z2{M:Int}(U:1<=M)(t:aa):∀k:Int,0<=k->aP t=true->bD M t=true->bV k t=0->aP (bq (bU 0 (-1)) k t)=true/\bD M (bq (bU 0 (-1)) k t)=true:=by
 refine aa.ind (P:=fun t=>∀k:Int,0<=k->aP t=true->bD M t=true->bV k t=0->aP (bq (bU 0 (-1)) k t)=true/\bD M (bq (bU 0 (-1)) k t)=true) (fun t D k G g hn i=>?_) t;rw[v8]at i;by_cases p:t.k=5
 ·rw[EP g p];obtain⟨_,_,b,hl⟩:=nZ g p;rw[if_neg (by omega),if_pos p,hl]at i;have w:b∈t.l:=by rw[hl];simp
  obtain⟨J,L⟩:=D b w (k+1) (by omega) (fA g b w) (fW hn b w) (Fs i b (by simp));rw[hl];exact⟨qT J,ir (.inr (by rw[aL];omega)) (fun u c=>by simp[aH]at c;rw[c];exact L)⟩
 ·by_cases r:t.k=6
  ·rw[EO g r];rw[if_neg (by omega),if_neg p]at i;have N:=Fs i;obtain⟨_,_,a,b,l,hl,ha⟩:=fD g r;have A:∀u∈t.l,aP (bq (bU 0 (-1)) k u)=true/\bD M (bq (bU 0 (-1)) k u)=true:=fun u c=>D u c k G (fA g u c) (fW hn u c) (N u c);rw[hl]at A⊢;have E:=A a (aZ ..);have F:∀u∈(b::l).map (bq (bU 0 (-1)) k),aP u=true/\bD M u=true:=fun u c=>by
    obtain⟨x,j,rfl⟩:=eU.1 c;exact A x (bH _ j)
   exact⟨sW E.1 (fun u c=>(F u c).1),qV (by omega) E.2 (fun u c=>(F u c).2)⟩
  ·rw[ER p r];have hl:=oa g p r;unfold bU;split
   ·rename_i h;obtain⟨O,Q,X,Y⟩:=ES g h.1;have R:t.n≠k:=fun e=>by rw[if_pos ⟨h.1,e⟩]at i;cases i
    have T:=nY hn (by omega);refine⟨vy ?_ (fun x j=>by rw[aH,hl]at j;cases j),ir (.inr (by rw[aL];omega)) (fun x j=>by rw[aH,hl]at j;cases j)⟩;simp[cV,aO,aL,aH,aQ,h.1,O,Q];omega
   ·exact⟨g,hn⟩
def OE{f:aa->aa}:∀(l:List aa),(∀u∈l,ao (f u)<=ao u)->bj (l.map f)<=bj l
 |[],_=>aA _
 |x::l,h=>by
  have c:=h x (aZ ..);have e:=OE l (fun u b=>h u (bH _ b));rw[ck,bj,bj];omega
def Ft{M:Int}(r:0<=M){t:aa}(w:t.k=6)(j:aP t=true)(hn:bD M t=true):aP (fa t)=true/\bD M (fa t)=true/\ao (fa t)<=ao t/\(t.l.headD .none).l.length+((t.l.take (t.l.length-1)).drop 1).length<=2*ao t:=by
 obtain⟨_,_,a,b,l,hl,ha⟩:=fD j w;have e:=fA j;have g:=fW hn;have c:∀u∈(t.l.take (t.l.length-1)).drop 1,u∈t.l:=fun u h=>List.mem_of_mem_take (List.mem_of_mem_drop h);have hd:t.l.headD .none=a:=by rw[hl];rfl
 have i:a∈t.l:=by rw[hl];simp
 unfold fa;rw[hd];have A:=Ax a ((t.l.take (t.l.length-1)).drop 1);have D:bj ((t.l.take (t.l.length-1)).drop 1)+ao a<=bj t.l:=by
  have p:=sX ((t.l.take (t.l.length-1)).take 1) ((t.l.take (t.l.length-1)).drop 1);rw[Bi]at p;have L:=ET t.l (t.l.length-1);have E:(t.l.take (t.l.length-1)).take 1=[a]:=by grind
  rw[E,bj,bj]at p;omega
 have F:=eR a;have G:=sY ((t.l.take (t.l.length-1)).drop 1);have J:=ef t;exact⟨sW (e a i) (fun u h=>e u (c u h)),qV r (g a i) (fun u h=>g u (c u h)),by omega,by omega⟩
def Z3{M:Int}(b:1<=M){t u:aa}(c:aP t=true)(hn:bD M t=true)(h:fb t=some u):aP u=true/\bD M u=true/\ao u<=ao t:=by
 unfold fb at h;split at h
 ·rename_i hc;split at h
  ·rename_i e;injection h with h;subst h;obtain⟨g,i,r3,_⟩:=Ft (by omega) hc.1 c hn;obtain⟨s1,j⟩:=Z2 b (fa t) 0 (ei _) g i e;have p:=zO 0 (-1) (fa t) 0;exact⟨s1,j,bf p r3⟩
  ·cases h
 ·cases h
def tF{M:Int}(F:1<=M)(t:aa):aP t=true->bD M t=true->aP (bw t)=true/\bD M (bw t)=true/\ao (bw t)<=ao t:=by
 refine aa.ind (P:=fun t=>aP t=true->bD M t=true->aP (bw t)=true/\bD M (bw t)=true/\ao (bw t)<=ao t) (fun t G h hn=>?_) t;rw[Fq];have e:∀u∈t.l,aP (bw u)=true/\bD M (bw u)=true/\ao (bw u)<=ao u:=fun u c=>G u c (fA h u c) (fW hn u c);by_cases i:t.k=5
 ·rw[if_pos i];obtain⟨b,rfl⟩:=tz h i;obtain⟨p,r,O⟩:=e b (by unfold bk;simp[aH]);show aP ((fb (bw b)).getD (bk (bw b)))=true/\bD M ((fb (bw b)).getD (bk (bw b)))=true/\ao ((fb (bw b)).getD (bk (bw b)))<=ao (bk b);have J:=kF b;have w:=kF (bw b);cases hd:fb (bw b)with
  |none=>
   exact⟨qT p,ir (.inr (by unfold bk;rw[qa,aL];omega)) (fun u c=>by unfold bk at c;simp[aH]at c;rw[c];exact r),by rw[qa];omega⟩
  |some u=>
   obtain⟨d1,d2,d3⟩:=Z3 F p r hd;exact⟨d1,d2,by rw[mi];omega⟩
 ·rw[if_neg i];by_cases A:t.k=6
  ·rw[if_pos A];obtain⟨_,_,a,b,l,hl,ha⟩:=fD h A;have g:=OE t.l (fun u c=>(e u c).2.2);have j:=ef t;rw[hl]at e g⊢;show aP (bP (bw a) ((b::l).map bw))=true/\bD M (bP (bw a) ((b::l).map bw))=true/\ao (bP (bw a) ((b::l).map bw))<=_;have D:∀u∈(b::l).map bw,aP u=true/\bD M u=true:=fun u c=>by
    obtain⟨x,L,rfl⟩:=eU.1 c;have:=e x (bH _ L);exact⟨this.1,this.2.1⟩
   have E:=e a (aZ ..);have N:=Ax (bw a) ((b::l).map bw);rw[ck,bj]at g;refine⟨sW E.1 (fun u c=>(D u c).1),qV (by omega) E.2.1 (fun u c=>(D u c).2),?_⟩;rw[hl]at j;omega
  ·grind
end Go.Proofs.YtdlkenpilhakfaaGreatDoor
namespace Go.Proofs.YtdlkenpilhakfaaGreatDoor
open Go.RowKit Go.Lamb
section
def pP:Option aa->V
 |some u=>.au [u.v,B true]
 |none=>.au [aa.none.v,B false]
def lX(q:Nat):Option aa->V
 |some u=>.au [u.v,I (q:Int),I 0]
 |none=>.au [aa.none.v,I 0,I 80]
attribute [local go_sem] aa.v aa.aG aO aQ aL aH aM
def Z4(w0:World)(t:aa)(g:aP t=true)(hn:ao t<=1000000000000)(σ:H):DC prog w0 232 [t.v,I 0] σ (Same (I (bV 0 t:Nat)) σ):=by
 refine NS.go rfl (fun b h=>?_);have c:=fun σ=>zN w0 t σ;rw[g]at c;have e:=fun σ=>Ox w0 t hn 0 (by omega) σ;have i:((0:Nat):Int)=0:=rfl;rw[i]at e;apply bl;simp only[go_sem,c232];(refine db (c _) ?_;simp only[go_sem]);refine wN ?_;simp only[go_sem];(refine db (e _) ?_;simp only[go_sem]);exact wF b
def Z5(w0:World)(t:aa)(c:aP t=true)(hn:ao t<=1000000000000)(σ:H):DC prog w0 186 [t.v,I 0] σ (Same (B (!(bV 0 t==0))) σ):=by
 refine NU.go rfl (fun b g=>?_);have h:=fun σ=>Z4 w0 t c hn σ;have e:(decide (((bV 0 t:Nat):Int)>0))=(!(bV 0 t==0)):=by
  cases bV 0 t with
  |zero=>rfl
  |succ n=>
   have:(((n+1:Nat):Int)>0):=by omega
   simp
 rw[<-e];generalize bV 0 t=z at*
 apply bl;simp only[go_sem,EK];(refine db (h _) ?_;simp only[go_sem]);exact wF b
def Z6(w0:World)(t:aa)(N:aP t=true)(A:bD 2305843009213693952 t=true)(hn:ao t<=1000000000)(σ:H):DC prog w0 131 [t.v] σ (Same (pP (fb t)) σ):=by
 refine Mq.go rfl (fun c R=>?_);have O:=eR t;by_cases g:t.k=6
 ·have k6:(t.k !=6)=false:=by simp[g]
  obtain⟨T,U,r3,r4⟩:=Ft (M:=2305843009213693952) (by omega) g N A;obtain⟨_,_,a,b,l,hl,ha⟩:=fD N g;have X:t.l≠[]:=by rw[hl];simp
  have Y:2<=t.l.length:=by rw[hl];simp
  have hw:aE.wrap ((t.l.length:Int)-1)=((t.l.length-1:Nat):Int):=by rw[a7]<;>omega
  have D:t.l[t.l.length-1]?=some (dQ t):=by unfold dQ;rw[List.getD_eq_getElem?_getD,aN (by omega)];rfl
  have w:(0:Int)<=((t.l.length-1:Nat):Int):=by omega
  have g1:((t.l.length-1:Nat):Int)<(t.l.length:Int):=by omega
  have E:t.l[0]?=some (t.l.headD .none):=by rw[hl];rfl
  have Z:(0:Int)<(t.l.length:Int):=by omega
  by_cases hc:(dQ t).k=3/\(dQ t).n=0
  ·have j:((dQ t).k !=3)=false:=by simp[hc.1]
   have F:((dQ t).n !=0)=false:=by simp[hc.2]
   have i:fb t=if bV 0 (fa t)=0 then some (iR 0 (-1) (fa t))else none:=by unfold fb;rw[if_pos ⟨g,hc⟩]
   have P:=fun σ=>vA w0 (t.l.headD .none) ((t.l.take (t.l.length-1)).drop 1) (by omega) σ;have p:bP (t.l.headD .none) ((t.l.take (t.l.length-1)).drop 1)=fa t:=rfl;rw[p]at P;have hF:=fun σ=>Z5 w0 (fa t) T (by omega) σ;have hS:=fun σ=>Ml w0 (fa t) 0 (-1) (by decide) (by decide) (by decide) (by decide) U (by omega) σ;have g3:(1:Int)<=((t.l.length-1:Nat):Int):=by omega
   have g4:((t.l.length-1:Nat):Int)<=(t.l.length:Int):=by omega
   have G:(∀x,x∈gV aa.cs t.l->x.length=4)=True:=eq_true (fX t.l);have J:dj (t.l.length-1-1) (List.drop 1 (gV aa.cs t.l))=((t.l.take (t.l.length-1)).drop 1).map aa.cs:=by
    rw[List.map_drop,List.map_take,List.drop_take]
   rw[i];generalize dQ t=y at*;generalize fa t=r at*;generalize iR 0 (-1) r=z at*;generalize t.l.headD .none=x0 at*;clear i p g hc hl;apply bl;simp only[go_sem,c131,hw,k6,D,w,g1,j,F];refine wN ?_;simp only[go_sem];apply W.aD (aF _ _)
   case hc=>
    (apply ab.aj;simp only[go_sem,E,Z,w,g1,g3,g4,G,J]);(apply ab.nO (fun τ=>P τ);(case hg=>rfl);(case hf=>rfl);(case ha=>first|rfl|simp));(apply ab.aj;simp only[go_sem]);exact ab.nil
   apply bl;simp only[go_sem];(refine db (hF _) ?_;simp only[go_sem]);cases Q:(bV 0 r==0)
   ·rw[if_neg (by simpa using Q)];apply bl;simp only[go_sem];refine wY ?_;simp only[go_sem,pP,aa.none];exact wF c
   ·rw[if_pos (by simpa using Q)];apply bl;simp only[go_sem];refine wN ?_;simp only[go_sem];(refine db (hS _) ?_;simp only[go_sem,pP]);exact wF c
  ·have i:fb t=none:=by unfold fb;rw[if_neg (fun h=>hc h.2)]
   rw[i];by_cases u:(dQ t).k=3
   ·have j:((dQ t).k !=3)=false:=by simp[u]
    have F:((dQ t).n !=0)=true:=by
     have:(dQ t).n≠0:=fun e=>hc ⟨u,e⟩;simpa using this
    generalize dQ t=y at*;clear u hc g;apply bl;simp only[go_sem,c131,hw,k6,D,w,g1,j,F];refine wY ?_;simp only[go_sem,pP,aa.none];exact wF c
   ·have j:((dQ t).k !=3)=true:=by simp[u]
    generalize dQ t=y at*;clear u hc g;apply bl;simp only[go_sem,c131,hw,k6,D,w,g1,j];refine wY ?_;simp only[go_sem,pP,aa.none];exact wF c
 ·have k6:(t.k !=6)=true:=by simp[g]
  have i:fb t=none:=by unfold fb;rw[if_neg (fun h=>g h.1)]
  rw[i];have L:∃z,aE.wrap ((t.l.length:Int)-1)=z:=⟨_,rfl⟩;obtain⟨z,hz⟩:=L;clear g;apply bl;simp only[go_sem,c131,k6,hz];refine wY ?_;simp only[go_sem,pP,aa.none];exact wF c
def kG(l:List aa):List (List C):=(l.map bw).map aa.cs
def Z7(l:List aa):(kG l).length=l.length:=by unfold kG;rw[bY,bY]
def Z8(l:List aa):∀r∈kG l,r.length=4:=fX _
def Z9(w0:World)(t:aa):aP t=true->bD 2305843009213693952 t=true->ao t<=1000000000->∀(σ:H),DC prog w0 76 [t.v] σ (Same (bw t).v σ):=by
 refine aa.ind (P:=fun t=>aP t=true->bD 2305843009213693952 t=true->ao t<=1000000000->∀(σ:H),DC prog w0 76 [t.v] σ (Same (bw t).v σ)) (fun t R J h hn σ=>?_) t;refine No.go rfl (fun e hsz=>?_);rw[Fq];by_cases L:t.k=5
 ·rw[if_pos L];obtain⟨b,rfl⟩:=tz J L;have g:b∈(bk b).l:=by unfold bk;simp[aH]
  have hln:=kF b;have hS:=fun σ=>R b g (fA J b g) (fW h b g) (by omega) σ;obtain⟨q1,q2,q3⟩:=tF (M:=2305843009213693952) (by omega) b (fA J b g) (fW h b g);have T:=fun σ=>Z6 w0 (bw b) q1 q2 (by omega) σ;have hL:=fun σ=>v7 w0 (bw b) σ;show W _ _ _ (Fin _ _ (Same ((fb (bw b)).getD (bk (bw b))).v σ)) _ _;clear R g;generalize bw b=u at*
  cases hd:fb u with
  |none=>
   rw[hd]at T;rw[qa];generalize bk u=z at*
   apply bl;simp only[go_sem,c76,jP,jQ,jR,iT];refine wY ?_;simp only[go_sem,jP,jQ,jR,iT];(refine db (hS _) ?_;simp only[go_sem]);(refine db (T _) ?_;simp only[go_sem,pP,aa.none]);refine wN ?_;simp only[go_sem];(refine db (hL _) ?_;simp only[go_sem]);exact wF e
  |some y=>
   rw[hd]at T;rw[mi];apply bl;simp only[go_sem,c76,jP,jQ,jR,iT];refine wY ?_;simp only[go_sem,jP,jQ,jR,iT];(refine db (hS _) ?_;simp only[go_sem]);(refine db (T _) ?_;simp only[go_sem,pP]);refine wY ?_;simp only[go_sem];exact wF e
 rw[if_neg L];have k5:(t.k==5)=false:=by simp[L]
 by_cases A:t.k=6
 ·rw[if_pos A];have k6:(t.k==6)=true:=by simp[A]
  obtain⟨_,_,a,b,l,hl,ha⟩:=fD J A;have w:=eR t;have hk:∀i (X:i<t.l.length) σ,DC prog w0 76 [t.l[i].v] σ (Same (bw t.l[i]).v σ):=fun i X σ=>by
   have U:=bg X;have:=fz U;exact R _ U (fA J _ U) (fW h _ U) (by omega) σ
  have hll:2<=t.l.length:=by rw[hl];simp
  have hsa:=tF (M:=2305843009213693952) (by omega) a (fA J a (by rw[hl];simp)) (fW h a (by rw[hl];simp));have hka:=eR (bw a);have hna:=fz (t:=t) (u:=a) (by rw[hl];simp);have hA:=fun σ=>vA w0 (bw a) ((b::l).map bw) (by rw[bY];rw[hl]at w;simp only[bG]at w⊢;omega) σ;have hE:AF (t.l.map bw)=bP (bw a) ((b::l).map bw):=by rw[hl];rfl
  have D:kG t.l=(bw a).cs::((b::l).map bw).map aa.cs:=by unfold kG;rw[hl];rfl
  rw[hE];clear hE L A R;generalize hZ:bP (bw a) ((b::l).map bw)=z at*
  apply bl;simp only[go_sem,c76,k5,k6];refine wN ?_;simp only[go_sem,k5,k6];refine wY ?_;simp only[go_sem];refine W.aY (α:=Option Nat) (fun o=>match o with|none=>True|some i=>1<=i/\i<=t.l.length) (fun o=>match o with
   |none=>⟨(((((base.put (some 2) (.ptr (σ.length+1) 0)).put (some 6) (.ae [])).put (some 30) (.c (aM t.l))).put (some 31) (I (t.l.length:Int))).put (some 32) (I 0)),σ++[.cells t.v.af,.cells [I 0,S [],I 0,.ae []]]⟩
   |some i=>⟨(((((base.put (some 2) (.ptr (σ.length+1) 0)).put (some 6) (.aC (σ.length+3) (kG (t.l.take i)))).put (some 30) (.c (aM t.l))).put (some 31) (I (t.l.length:Int))).put (some 32) (I (i:Int))),σ++[.cells t.v.af,.cells [I 0,S [],I 0,.ae []],.gone,.spare 41 4 i]⟩) (fun o=>match o with|none=>t.l.length+1|some i=>t.l.length-i) none trivial ?_ (fun o ho=>?_)
  ·dsimp only
   exact wV
  cases o with
  |none=>
   dsimp only
   have E:(0:Int)<(t.l.length:Int):=by omega
   have F:t.l[0]?=some t.l[0]:=aN (by omega);have j:kG (t.l.take 1)=[(bw t.l[0]).cs]:=by
    unfold kG;rw[eW (by omega:0<t.l.length)];rfl
   have G:aE.wrap (0+1)=((1:Nat):Int):=by decide
   have Y:=fun σ=>hk 0 (by omega) σ;apply bl;simp only[go_sem,E];refine wY ?_;simp only[go_sem,E,F];(refine db (Y _) ?_;simp only[go_sem,G,true_or]);refine .inv ⟨some 1,⟨aA _,by omega⟩,by dsimp only;omega,?_⟩;dsimp only
   rw[j];simp only[aa.aG];exact wQ e
  |some i=>
   obtain⟨hi1,X⟩:=ho;dsimp only
   by_cases p:i<t.l.length
   ·have E:(i:Int)<(t.l.length:Int):=by omega
    have z0:(0:Int)<=(i:Int):=by omega
    have F:t.l[i]?=some t.l[i]:=aN p;have j:kG (t.l.take (i+1))=kG (t.l.take i)++[(bw t.l[i]).cs]:=by
     unfold kG;rw[eW p,dF,dF];rfl
    have G:aE.wrap ((i:Int)+1)=((i+1:Nat):Int):=by rw[a7]<;>omega
    have Z:(kG (t.l.take i)).length=i:=by rw[Z7,dE];omega
    have b1:(i+1)*56<=140737488355328:=by omega
    have b2:i+1<=140737488355328:=by omega
    have b3:i<=140737488355327:=by omega
    have N:(∀r∈kG (t.l.take i),r.length=4)=True:=eq_true (Z8 _);have Y:=fun σ=>hk i p σ;rw[aa.aG]at j;apply bl;simp only[go_sem,E];refine wY ?_;simp only[go_sem,E,z0,F];(refine db (Y _) ?_;simp only[go_sem,G,Z,b1,b2,b3,true_or]);refine .inv ⟨some (i+1),⟨by omega,p⟩,by dsimp only;omega,?_⟩;dsimp only
    rw[j];exact wQ e
   ·obtain rfl:i=t.l.length:=by omega
    have E:¬((t.l.length:Nat):Int)<((t.l.length:Nat):Int):=by omega
    rw[List.take_length,D,aa.aG];have g0:(0:Int)<(((b::l).length+1:Nat):Int):=by omega
    have N:(∀x,x∈gV aa.cs ((b::l).map bw)->x.length=4)=True:=eq_true (fX _);generalize hbl:(b::l).map bw=O at*
    have Q:(b::l).length=O.length:=by rw[<-hbl,bY]
    rw[Q]at g0;have g1:(1:Int)<=((O.length+1:Nat):Int):=by omega
    have hsl:dj O.length (gV aa.cs O)=gV aa.cs O:=dT (by simp);apply bl;simp only[go_sem,E];refine wN ?_;simp only[go_sem];apply W.aD (aF _ _)
    case hc=>
     (apply ab.aj;simp only[go_sem,g0,g1,N,hsl]);(apply ab.call (hA _)<;>try rfl);(apply ab.aj;simp only[go_sem]);exact ab.nil
    apply bl;simp only[go_sem];exact wF e
 ·rw[if_neg A];have k6:(t.k==6)=false:=by simp[A]
  clear L A;apply bl;simp only[go_sem,c76,k5,k6];refine wN ?_;simp only[go_sem,k6];refine wN ?_;simp only[go_sem];exact wF e
def aaa(w0:World)(t:aa)(e:aP t=false)(n:Int)(F:V)(σ:H):DC prog w0 129 [t.v,I n,F] σ (Same (.au [aa.none.v,I 0,I 1]) σ):=by
 refine D1.go rfl (fun b g=>?_);have c:=fun σ=>zN w0 t σ;rw[e]at c;apply bl;simp only[go_sem,zP];(refine db (c _) ?_;simp only[go_sem]);refine wY ?_;simp only[go_sem,aa.none];exact wF b
def aab(w0:World)(n:Nat)(hn:n<=100000)(t:aa)(g:cf n t)(e:ao t+4097*n<=1000000000){o:Option aa}{q:Nat}(h:dV n t o q)(σ:H):DC prog w0 129 [t.v,I (n:Int),.fn 130 []] σ (Same (lX q o) σ):=by
 refine D1.go rfl (fun b j=>?_);have i:=fun σ=>zN w0 t σ;rw[g.nr.1]at i;have p:∀a c,DC prog w0 130 [t.v,.ptr (σ.length+1) 0] (σ++[a,.cells [I (n:Int)],c]) (Same (cI o) (σ++[a,.cells [I (q:Int)],c])):=fun a c=>by
  have:=Z1 w0 n hn t g e o q h (σ.length+1) (σ++[a,.cells [I (n:Int)],c]) (Go.Lamb.bx _ _ 1);rw[Go.Lamb.cR]at this;exact this
 apply bl;simp only[go_sem,zP];(refine db (i _) ?_;simp only[go_sem]);refine wN ?_;simp only[go_sem];(refine db (p _ _) ?_;simp only[go_sem]);cases o with
 |none=>
  (simp only[go_sem,cI,aa.none]);refine wY ?_;simp only[go_sem,lX,aa.none];exact wF b
 |some u=>
  (simp only[go_sem,cI]);refine wN ?_;simp only[go_sem];(apply W.aD (aF _ _);case hc=>((apply ab.aj;simp only[go_sem]);exact ab.nil));apply bl;simp only[go_sem,lX];exact wF b
def aac(w0:World)(n:Nat)(hn:n<=100000)(t:aa)(g:cf n t)(e:ao t+4097*n<=1000000000){o:Option aa}{q:Nat}(h:dV n t o q)(σ:H):DC prog w0 75 [t.v,I (n:Int)] σ (Same (lX q o) σ):=by
 refine Er.go rfl (fun b i=>?_);have c:=fun σ=>aab w0 n hn t g e h σ;cases o with
 |none=>
  simp only[lX]at c⊢;apply bl;simp only[go_sem,c75];(refine db (c _) ?_;simp only[go_sem,aa.none]);exact wF b
 |some u=>
  simp only[lX]at c⊢;apply bl;simp only[go_sem,c75];(refine db (c _) ?_;simp only[go_sem]);exact wF b
def aad(w0:World)(t:aa)(c:aP t=false)(n:Int)(σ:H):DC prog w0 75 [t.v,I n] σ (Same (.au [aa.none.v,I 0,I 1]) σ):=by
 refine Er.go rfl (fun b e=>?_);have g:=fun F σ=>aaa w0 t c n F σ;apply bl;simp only[go_sem,c75];(refine db (g _ _) ?_;simp only[go_sem,aa.none]);exact wF b
def aae(w0:World)(n:Nat)(hn:n<=100000)(t:aa)(g:cf n t)(e:ao t+4097*n<=1000000000){o:Option aa}{q:Nat}(h:dV n t o q)(σ:H):DC prog w0 29 [t.v,I (n:Int)] σ (Same (lX q (o.map bw)) σ):=by
 refine El.go rfl (fun b i=>?_);have c:=fun σ=>aac w0 n hn t g e h σ;obtain⟨p,j⟩:=rq h hn g;cases o with
 |none=>
  simp only[lX,mf]at c⊢;apply bl;simp only[go_sem,vR];(refine db (c _) ?_;simp only[go_sem,aa.none]);refine wY ?_;simp only[go_sem,aa.none];exact wF b
 |some u=>
  obtain⟨k3,k4⟩:=j u rfl;have hS:=fun σ=>Z9 w0 u k3.1 (lh (by omega) u k3.2) (by omega) σ;simp only[lX,fc]at c⊢;generalize bw u=z at*
  apply bl;simp only[go_sem,vR];(refine db (c _) ?_;simp only[go_sem]);refine wN ?_;simp only[go_sem];(refine db (hS _) ?_;simp only[go_sem]);exact wF b
def aaf(w0:World)(t:aa)(c:aP t=false)(n:Int)(σ:H):DC prog w0 29 [t.v,I n] σ (Same (.au [aa.none.v,I 0,I 1]) σ):=by
 refine El.go rfl (fun b e=>?_);have g:=fun σ=>aad w0 t c n σ;apply bl;simp only[go_sem,vR];(refine db (g _) ?_;simp only[go_sem,aa.none]);refine wY ?_;simp only[go_sem,aa.none];exact wF b
end
section
variable {n0 p:Nat} {σ τ:H} {g:Sg} {f:az} {y3 y4 y5:V}
def OF(w0:World){c:H}(h:aS n0 c p g f y3 y4 y5)(hn:n0<=c.length)(hl:f.live=true):∀n:Nat,f.sub.length+n<=1000000->∃T:Nat->H,T 0=c/\∀i,i<=n->(∃y,aS n0 (T i) p g (f.more i) y y4 y5)/\Kept n0 p c (T i)/\(i<n->DC prog w0 67 [.ptr p 0] (T i) (Same (aJ (f.more i).sub.length).v (T (i+1))))
 |0,_=>⟨fun _=>c,rfl,fun i D=>by
  obtain rfl:i=0:=by omega
  exact⟨⟨y3,h⟩,Kept.refl _ _ _,fun h=>absurd h (Nat.lt_irrefl _)⟩⟩
 |n+1,N=>by
  obtain⟨T,e,u⟩:=OF w0 h hn hl n (by omega);obtain⟨⟨y,E⟩,w,_⟩:=u n (aA _);obtain⟨m1,O,P,Q,F⟩:=f.pI n;have A:=f.oh n;obtain⟨r,c1,G,c3⟩:=tv w0 E (bf hn w.len) (by rw[F];exact hl) (by omega);refine⟨fun j=>if j<=n then T j else r,by dsimp only;rw[if_pos (be _)];exact e,fun i D=>?_⟩;dsimp only
  by_cases b:i<=n
  ·rw[if_pos b];obtain⟨J,L,M⟩:=u i b;refine⟨J,L,fun _=>?_⟩;by_cases t:i<n
   ·rw[if_pos (by omega)];exact M t
   ·obtain rfl:i=n:=by omega
    rw[if_neg (by omega)];exact c1
  ·obtain rfl:i=n+1:=by omega
   rw[if_neg b];exact⟨⟨_,G⟩,w.trans c3,fun h=>absurd h (p8 _)⟩
attribute [local go_sem] aa.v aa.aG aO aQ aL aH aM
def aag(w0:World)(h:aS n0 σ p g f y3 y4 y5)(hn:n0<=σ.length)(hl:f.live=true)(t:aa)(hv:bZ t=true)(ht:aw t<=10000)(hs:f.sub.length+aw t<=999999):
  ∃τ N,DC prog w0 27 [.ptr p 0,t.v] σ (Same (f.ca t).v τ)/\aS n0 τ p g (f.renew t) N y4 y5/\Kept n0 p σ τ:=by
 obtain⟨n1,n2,n3,n4⟩:=rj hv (by omega);have Y:=fun σ=>zJ w0 t (by omega) σ;have hS:=fun σ=>K2 w0 (bT t) f.sub.length (by omega) σ;have O:=fun σ=>vv w0 (bT t) (bf (Cu _) (by omega)) σ;have Z:(b8 (gA f.sub.length) () (bT t)).1=f.ca t:=rfl;rw[Z]at hS;obtain⟨c,r⟩:∃c:Nat,bS 0 (bT t)=(c:Int):=⟨(bS 0 (bT t)).toNat,by omega⟩;have j:f.renew t=f.more c:=by unfold az.renew;rw[r,Int.toNat_natCast]
 rw[r]at O n4;rw[j];have hp:=fun L=>hG h.here L;unfold bh at hp;have hlt:=h.lt;have E:=h.sub hl;generalize f.ca t=u at*
 generalize bT t=s at*
 clear Z j n1 n2 n3 r;obtain⟨T,F,G⟩:=OF w0 (h.app [.cells s.v.af,.cells [I 0,S [],I 0,.ae []],.cells u.v.af]) (by rw[bC];omega) hl c (by omega);have P:=(Kept.refl n0 p σ).app hn [.cells s.v.af,.cells [I 0,S [],I 0,.ae []],.cells u.v.af];have w:∀i,i<=c->(T i)[σ.length+1]?=some (.cells [I 0,S [],I 0,.ae []]):=fun i A=>(G i A).2.1.cells _ _ _ (by omega) (Go.Lamb.bx _ _ 1);have J:∀i,i<=c->(T i)[σ.length+2]?=some (.cells u.v.af):=fun i A=>(G i A).2.1.cells _ _ _ (by omega) (Go.Lamb.bx _ _ 2)
 obtain⟨⟨yn,Q⟩,R,_⟩:=G c (aA _);have j:=Q.box (w c (aA _)) (by omega) (.cells u.v.af);have D:=(P.trans R).set (.cells u.v.af) (a:=σ.length+1) (by omega) (.inr (.inl (by omega)));refine⟨_,yn,?_,j,D⟩;have hms:=f.oh;refine Ek.cl rfl (fun hok hsz=>?_);rcases E with⟨h0,rfl⟩|⟨b,hb0,rfl,hb,hz⟩
 ·simp only[h0,dU]at hS;apply bl;simp only[go_sem,tj];(refine db (Y _) ?_;simp only[go_sem]);apply W.aD (aF _ _)
  case hc=>
   (apply ab.aj;simp only[go_sem,hp]);(apply ab.nO (fun τ=>hS τ);(case hg=>rfl);(case hf=>rfl);(case ha=>first|rfl|simp));(apply ab.aj;simp only[go_sem]);exact ab.nil
  apply bl;simp only[go_sem];(refine db (O _) ?_;simp only[go_sem]);refine W.aY (α:=Nat) (fun i=>i<=c) (fun i=>⟨(((((base.put (some 0) (.ptr p 0)).put (some 4) (.ptr (σ.length+1) 0)).put (some 5) (.ptr (σ.length+2) 0)).put (some 16) (I (c:Int))).put (some 17) (I (i:Int))),T i⟩) (fun i=>c-i) 0 (be _) ?_ (fun i A=>?_)
  ·rw[F];exact wV
  by_cases e:i<c
  ·have z:(i:Int)<(c:Int):=by omega
   have hw:aE.wrap ((i:Int)+1)=((i+1:Nat):Int):=by rw[a7]<;>omega
   have c1:=(G i A).2.2 e;apply bl;simp only[go_sem,z];refine wY ?_;simp only[go_sem];(refine db (c1) ?_;simp only[go_sem,hw]);refine .inv ⟨i+1,e,by omega,?_⟩;exact wV
  ·obtain rfl:i=c:=by omega
   have z:¬((i:Int)<(i:Int)):=by omega
   have M:=w i (aA _);have U:=J i (aA _);have X:σ.length+1<(T i).length:=(aI.1 M).1;have s1:∀B,((T i).set (σ.length+1) B)[σ.length+1]?=some B:=fun B=>bW X;apply bl;simp only[go_sem,z];refine wN ?_;simp only[go_sem,M,U,s1];exact W.ret ⟨_,_,(by simp only[aX,tk,s1,go_sem];rfl),.rfl _,rfl,rfl⟩
 ·clear hb hz;apply bl;simp only[go_sem,tj];(refine db (Y _) ?_;simp only[go_sem]);apply W.aD (aF _ _)
  case hc=>
   (apply ab.aj;simp only[go_sem,hp]);(apply ab.nO (fun τ=>hS τ);(case hg=>rfl);(case hf=>rfl);(case ha=>first|rfl|simp));(apply ab.aj;simp only[go_sem]);exact ab.nil
  apply bl;simp only[go_sem];(refine db (O _) ?_;simp only[go_sem]);refine W.aY (α:=Nat) (fun i=>i<=c) (fun i=>⟨(((((base.put (some 0) (.ptr p 0)).put (some 4) (.ptr (σ.length+1) 0)).put (some 5) (.ptr (σ.length+2) 0)).put (some 16) (I (c:Int))).put (some 17) (I (i:Int))),T i⟩) (fun i=>c-i) 0 (be _) ?_ (fun i A=>?_)
  ·rw[F];exact wV
  by_cases e:i<c
  ·have z:(i:Int)<(c:Int):=by omega
   have hw:aE.wrap ((i:Int)+1)=((i+1:Nat):Int):=by rw[a7]<;>omega
   have c1:=(G i A).2.2 e;apply bl;simp only[go_sem,z];refine wY ?_;simp only[go_sem];(refine db (c1) ?_;simp only[go_sem,hw]);refine .inv ⟨i+1,e,by omega,?_⟩;exact wV
  ·obtain rfl:i=c:=by omega
   have z:¬((i:Int)<(i:Int)):=by omega
   have M:=w i (aA _);have U:=J i (aA _);have X:σ.length+1<(T i).length:=(aI.1 M).1;have s1:∀B,((T i).set (σ.length+1) B)[σ.length+1]?=some B:=fun B=>bW X;apply bl;simp only[go_sem,z];refine wN ?_;simp only[go_sem,M,U,s1];exact W.ret ⟨_,_,(by simp only[aX,tk,s1,go_sem];rfl),.rfl _,rfl,rfl⟩
end
end Go.Proofs.YtdlkenpilhakfaaGreatDoor
namespace Go.Proofs.YtdlkenpilhakfaaGreatDoor
open Go Go.RowKit Go.Lamb
def eS:az:=⟨[],[],[],0,0,true⟩
noncomputable def ju(p:al)(want:aa)(r:aa×aa×az):az:=
 if r.2.2.e=0 then(if(r.2.2.renew want).ix r.2.1 (r.2.2.ca want)=true then(r.2.2.renew want).one r.2.1 (r.2.2.ca want)else((r.2.2.renew want).one r.2.1 (r.2.2.ca want)).fail 121 p.pos)else r.2.2
noncomputable def rB(f:az):Option aa->aa×List av×Int×Int
 |none=>(.none,[],122,0)
 |some u=>if 4096<cn (bw u)\/pO f.sub (f.vars.map (·.ty)) 4096<0 then(.none,[],122,0)else(bw u,tD f,0,0)
noncomputable def jS(f:az)(t:aa):aa×List av×Int×Int:=
 if f.e≠0 then(.none,[],f.e,f.pos)else if aP t=true then rB f (ru t)else(.none,[],122,0)
noncomputable def wu(g:Sg)(p:al)(want:aa):aa×List av×Int×Int:=
 if ba p<0\/4096<ba p\/bZ want=false then(.none,[],1,0)else jS (ju p want (bI g p eS)) (bI g p eS).1
def iy(r:aa×List av×Int×Int):V:=.au [r.1.v,.c (.sl (r.2.1.map av.cs)),I r.2.2.1,I r.2.2.2]
def AG:cU eS:=⟨⟨⟨(fun t h=>by cases h),(fun _=>0),(fun i b=>absurd b (fe _))⟩,(fun t h=>by cases h)⟩,(fun x h=>by cases h),(fun x h=>by cases h),(fun _=>rfl)⟩
def OG{W:Nat}{f:az}{n:Nat}{r:aa×aa×az}(h:pJ W f n r)(A:f.sub.length+(W+1)*n<=900000)(D:W+3*n<=90000){want:aa}(c:bZ want=true)(hn:aw want<=10000)(h0:r.2.2.e=0):
  cU (r.2.2.renew want)/\(r.2.2.renew want).e=0/\(r.2.2.renew want).live=true/\(r.2.2.renew want).sub.length<=1000000/\(r.2.2.renew want).vars=r.2.2.vars/\de (r.2.2.renew want).sub.length 100000 (r.2.1,r.2.2.ca want):=by
 obtain⟨g,i,E,F⟩:=rj c (by omega);obtain⟨m1,j,p,G,t⟩:=r.2.2.pI (bS 0 (bT want)).toNat;have b:=r.2.2.oh (bS 0 (bT want)).toNat;have hl:=h.len;obtain⟨s1,u⟩:=NK r.2.2.sub.length (bT want) _ g (by omega);obtain⟨t1,t2⟩:=h.ty h0;have w:=h.ok.more (bS 0 (bT want)).toNat (by omega);refine⟨w,p.trans h0,t.trans (h.ok.live h0),by show(r.2.2.more _).sub.length<=_;omega,j,?_⟩;show de (r.2.2.more _).sub.length 100000 _;rw[b];refine⟨t1.mono (by omega),s1,by show aw r.2.1<=_;omega,?_⟩;show aw (ni _ _)<=_
 rw[u,i];omega
def OH{f:az}(j:bO 100000 f.sub)(g:∀x∈f.vars,∃i:Nat,i<f.sub.length/\x.ty=aJ i)(p:f.sub.length<=1000000):gD f.sub (f.vars.map (·.ty)) 4096 (pO f.sub (f.vars.map (·.ty)) 4096)/\fY f.sub (f.vars.map (·.ty)) (wb f.sub (f.vars.map (·.ty)))/\∀t∈f.vars.map (·.ty),ay f.sub.length t/\aw t<=100000:=by
 have b:∀t∈f.vars.map (·.ty),ay f.sub.length t/\aw t<=100000:=fun t b=>by
  obtain⟨x,c,rfl⟩:=eU.1 b;obtain⟨i,G,e⟩:=g x c;rw[e];exact⟨ij (by omega) (by omega) p,by rw[om];omega⟩
 refine⟨Ze ?_,Zf ?_,b⟩
 ·obtain⟨r,a,_⟩:=E0 (d:=4096) (fun t n b hn=>Od j.right 4097 t n b (by omega)) (f.vars.map (·.ty)) 4096 (fun x c=>(b x c).1) (ei _);exact⟨r,a⟩
 ·obtain⟨A,D⟩:=j.right.less;have key:∀l:List aa,(∀t∈l,ay f.sub.length t)->∃w,fY f.sub l w:=by
   intro l;induction l with
   |nil=>intro _;exact⟨[],.nil⟩
   |cons x l E=>
    intro c;obtain⟨m,F⟩:=uX A (c x (aZ ..));obtain⟨u,r⟩:=Ys D m x (c x (aZ ..)) F;obtain⟨w,rs⟩:=E (fun t b=>c t (bH _ b));exact⟨u::w,.cons r rs⟩
  exact key _ (fun t h=>(b t h).1)
end Go.Proofs.YtdlkenpilhakfaaGreatDoor
namespace Go.Proofs.YtdlkenpilhakfaaGreatDoor
open Go.RowKit Go.Lamb
section
def ou{p:Nat}{σ E:H}(h:Kept σ.length p σ E):∃L,E=σ++L:=by
 have hl:=h.len;refine⟨E.drop σ.length,?_⟩;have e:E.take σ.length=σ:=by
  refine List.ext_getElem? fun j=>?_;by_cases b:j<σ.length
  ·rw[List.getElem?_take_of_lt b,h.low j b]
  ·rw[rV (by rw[dE];omega),rV (by omega)]
 calc E=E.take σ.length++E.drop σ.length:=(Bi ..).symm
  _=_:=by rw[e]
attribute [local go_sem] aa.v aa.aG aO aQ aL aH aM
def aah(w0:World){g:Sg}{p:al}{want:aa}(i:bn p<=2000)(hb:ba p<0\/4096<ba p\/bZ want=false)(σ:H):DC prog w0 9 [g.v,p.v,want.v] σ (Same (iy (.none,[],1,0)) σ):=by
 refine k9.go rfl (fun b j=>?_);have hS:=fun σ=>Ow w0 p (by omega) σ;have h:=fun σ=>qQ w0 want σ;unfold iy;by_cases c:ba p<0
 ·apply bl;simp only[go_sem,c9,Sg.v];(refine db (hS _) ?_;simp only[go_sem,c]);refine wY ?_;simp only[go_sem,aa.none];exact wF b
 ·by_cases e:ba p>4096
  ·apply bl;simp only[go_sem,c9,Sg.v];(refine db (hS _) ?_;simp only[go_sem,c,e]);refine wY ?_;simp only[go_sem,aa.none];exact wF b
  ·have r:bZ want=false:=by
    rcases hb with hb|hb|hb
    ·exact absurd hb c
    ·exact absurd hb e
    ·exact hb
   rw[r]at h;apply bl;simp only[go_sem,c9,Sg.v];(refine db (hS _) ?_;simp only[go_sem,c,e]);(refine db (h _) ?_;simp only[go_sem]);refine wY ?_;simp only[go_sem,aa.none];exact wF b
def aai(w0:World){g:Sg}{Wd:Nat}(hW:∀x∈g.types,aw x.ty<=Wd)(hW1:1<=Wd)(hW2:Wd<=10000){p:al}{want:aa}(hnp:bn p<=2000)(hwp:(Wd+1)*bn p<=900000)(hnw:aw want<=10000)(h1:¬ba p<0)(h2:¬ba p>4096)(hv:bZ want=true)(σ:H):
  DC prog w0 9 [g.v,p.v,want.v] σ (Same (iy (jS (ju p want (bI g p eS)) (bI g p eS).1)) σ):=by
 refine k9.go rfl (fun O hsz=>?_);have hS:=fun σ=>Ow w0 p (by omega) σ;have hV:=fun σ=>qQ w0 want σ;rw[hv]at hV;have N:=pM hW hW1 hW2 p eS AG (by omega) (by show 0+_<=_;omega);have hA1:aS σ.length (σ++[.cells [.c (jL g.kinds),.c (fy g.types),.c (mP g.ops)],.cells p.v.af,.cells want.v.af,.cells [I 0,S [],I 0,.ae []],bh g eS (.ae []) (.ae []) (.ae [])]) (σ.length+4) g eS (.ae []) (.ae []) (.ae []):=⟨Go.Lamb.bx _ _ 4,by omega,fun _=>.inl ⟨rfl,rfl⟩,.inl ⟨rfl,rfl⟩,.inl ⟨rfl,rfl⟩⟩;have hT:=Zi w0 hW hW1 hW2 p hA1 (by rw[bC];omega) AG (by omega) (by show 0+_<=_;omega) (by show 0+_<=_;omega) (by show 0+_<=_;omega) (by omega)
 have hwo:=fun h0=>OG (want:=want) N (by show 0+_<=_;omega) (by omega) hv hnw h0;generalize hr:bI g p eS=r at*
 have hTy0:eS.e=0:=rfl;have hK0:=(Kept.refl σ.length (σ.length+4) σ).app (aA _) [.cells [.c (jL g.kinds),.c (fy g.types),.c (mP g.ops)],.cells p.v.af,.cells want.v.af,.cells [I 0,S [],I 0,.ae []],bh g eS (.ae []) (.ae []) (.ae [])];simp only[bh,al.v,aa.v,V.af,eS]at hT hK0;unfold iy;apply bl;simp only[go_sem,c9,Sg.v];(refine db (hS _) ?_;simp only[go_sem,h1,h2]);(refine db (hV _) ?_;simp only[go_sem]);refine wN ?_;simp only[go_sem];(refine W.call (hT) rfl rfl (by first|rfl|simp) ?_);rintro d J ⟨rfl,⟨u3,u4,u5,c2⟩,c3⟩
 have hn1:σ.length+5<=J.length:=by have:=c3.len;simpa using this
 have a4:J[σ.length+1]?=some (.cells p.v.af):=c3.cells _ _ _ (by omega) (Go.Lamb.bx _ _ 1);have a5:J[σ.length+2]?=some (.cells want.v.af):=c3.cells _ _ _ (by omega) (Go.Lamb.bx _ _ 2);have a6:J[σ.length+3]?=some (.cells [I 0,S [],I 0,.ae []]):=c3.cells _ _ _ (by omega) (Go.Lamb.bx _ _ 3);obtain⟨E1,hE1⟩:∃X,(J++[ad.cells r.1.v.af,ad.cells r.2.1.v.af])=X:=⟨_,rfl⟩;have d1:=c2.app [ad.cells r.1.v.af,ad.cells r.2.1.v.af];have d2:=(hK0.trans c3).app (aA _) [ad.cells r.1.v.af,ad.cells r.2.1.v.af];have b12:(J++[ad.cells r.1.v.af,ad.cells r.2.1.v.af])[J.length]?=some (ad.cells r.1.v.af):=Go.Lamb.cQ _ _
 have T:(J++[ad.cells r.1.v.af,ad.cells r.2.1.v.af])[J.length+1]?=some (ad.cells r.2.1.v.af):=Go.Lamb.bx _ _ 1;have b4:=hG a4 [ad.cells r.1.v.af,ad.cells r.2.1.v.af];have b5:=hG a5 [ad.cells r.1.v.af,ad.cells r.2.1.v.af];have b6:=hG a6 [ad.cells r.1.v.af,ad.cells r.2.1.v.af];rw[hE1]at d1 d2 b12 T b4 b5 b6;have l13:=(aI.1 T).1;have hnE1:σ.length<=E1.length:=by omega
 apply bl;simp only[go_sem];refine W.heap hE1 ?_;by_cases h0:r.2.2.e=0
 ·obtain⟨w1,w2,w3,w4,w5,w6⟩:=hwo h0;have hlive:=N.ok.live h0;obtain⟨τ2,v3,m1,m2,m3⟩:=aag w0 d1 hnE1 hlive want hv hnw (by have:=N.len;show _<=_;have e:eS.sub.length=0:=rfl;omega);have hn2:=bf hnE1 m3.len;obtain⟨E,v3',o1,o2,o3⟩:=NI w0 m2 hn2 w3 w4 w1.right w6;have k2:(r.2.2.e==0)=true:=by simp[h0]
  have j:=d1.here;unfold bh at j;have f4:=o3.cells _ _ _ (by omega) (m3.cells _ _ _ (by omega) b4);have f6:=o3.cells _ _ _ (by omega) (m3.cells _ _ _ (by omega) b6);have f12:=o3.cells _ _ _ (by omega) (m3.cells _ _ _ (by omega) b12);have hQ2:=m2.here;unfold bh at hQ2;have b13':=m3.cells _ _ _ (by omega) T;have hKE3:=(d2.trans m3).trans o3;simp only[aa.v,V.af]at m1 o1 b5 T b13';apply W.aD (aF _ _)
  case hc=>
   (apply ab.aj;simp only[go_sem,j,k2,b5,T]);(apply ab.call (m1)<;>try rfl);(apply ab.aj;simp only[go_sem,j,T,b13',hQ2]);(apply ab.call (o1)<;>try rfl);(apply ab.aj;simp only[go_sem]);exact ab.nil
  cases hob:(r.2.2.renew want).ix r.2.1 (r.2.2.ca want)
  ·have Y:ju p want r=((r.2.2.renew want).one r.2.1 (r.2.2.ca want)).fail 121 p.pos:=by unfold ju;rw[if_pos h0,if_neg (by rw[hob];decide)]
   have hF:=EL w0 o2 121 p.pos;simp only[al.v,V.af]at f4;apply bl;simp only[go_sem];refine wY ?_;simp only[go_sem,f4];(refine W.call (hF) rfl rfl (by first|rfl|simp) ?_);rintro d τ4 ⟨rfl,p2,p3⟩;have hfe:(((r.2.2.renew want).one r.2.1 (r.2.2.ca want)).fail 121 p.pos).e=121:=by unfold az.fail;rw[if_pos (show((r.2.2.renew want).one _ _).e=0 from w2)]
   rw[Y];generalize ((r.2.2.renew want).one r.2.1 (r.2.2.ca want)).fail 121 p.pos=f2 at*
   have k2:(f2.e !=0)=true:=by rw[hfe];rfl
   have hdn:jS f2 r.1=(.none,[],f2.e,f2.pos):=by unfold jS;rw[if_pos (by rw[hfe];decide)]
   rw[hdn];have e6:=p3.cells _ _ _ (by omega) f6;have j:=p2.here;unfold bh at j;have P:=hKE3.trans p3;have l6:=(aI.1 e6).1;have Z:∀A,(τ4.set (σ.length+3) A)[σ.length+3]?=some A:=fun A=>bW l6;have sP:=fun A=>(bA (l:=τ4) (a:=A) (by omega:σ.length+3≠σ.length+4)).trans j;have D:∀A,∃L,τ4.set (σ.length+3) A=σ++L:=fun A=>ou (P.set A (a:=σ.length+3) (by omega) (.inr (.inl (by omega))));apply bl;simp only[go_sem,j,k2];refine wY ?_;simp only[go_sem];apply W.aD (aF _ _)
   case hc=>
    (apply ab.aj;simp only[go_sem,j,e6,sP]);exact ab.nil
   apply bl;simp only[go_sem];obtain⟨L,U⟩:=D (.cells [I 0,S [],I 0,.ae []] none);refine W.fs O (by simp only[aX,r9,Z,go_sem];rfl) ?_ (hσ:=U);simp only[aT];exact aR
  ·have Y:ju p want r=(r.2.2.renew want).one r.2.1 (r.2.2.ca want):=by unfold ju;rw[if_pos h0,if_pos hob]
   rw[Y];obtain⟨x1,x2,x3⟩:=rf w1.right w4 w6;have hR2:bO 100000 ((r.2.2.renew want).one r.2.1 (r.2.2.ca want)).sub:=x2;have hsl2:((r.2.2.renew want).one r.2.1 (r.2.2.ca want)).sub.length<=1000000:=by show(dw _ _ _).2.length<=_;omega
   have hf0:((r.2.2.renew want).one r.2.1 (r.2.2.ca want)).e=0:=w2;have hvar2:∀x∈((r.2.2.renew want).one r.2.1 (r.2.2.ca want)).vars,∃i:Nat,i<((r.2.2.renew want).one r.2.1 (r.2.2.ca want)).sub.length/\x.ty=aJ i:=fun x hx=>by
    obtain⟨i,hi,e⟩:=w1.var x hx;exact⟨i,by show i<(dw _ _ _).2.length;omega,e⟩
   have hlive2:((r.2.2.renew want).one r.2.1 (r.2.2.ca want)).sub≠[]->((r.2.2.renew want).one r.2.1 (r.2.2.ca want)).live=true:=fun hne=>by
    have hne':(r.2.2.renew want).sub≠[]:=fun e=>hne (List.eq_nil_of_length_eq_zero (by show(dw _ _ _).2.length=0;rw[x3,e];rfl));show((r.2.2.renew want).live&&(((dw (r.2.2.renew want).sub r.2.1 (r.2.2.ca want)).1==0)&&!(r.2.2.renew want).sub.isEmpty))=true;have hb':((dw (r.2.2.renew want).sub r.2.1 (r.2.2.ca want)).1==0)=true:=hob;rw[w3,hb'];cases hf:(r.2.2.renew want).sub with
    |nil=>exact absurd hf hne'
    |cons x l=>rfl
   have hvl2:((r.2.2.renew want).one r.2.1 (r.2.2.ca want)).vars.length<=2000:=by
    show(r.2.2.renew want).vars.length<=_;rw[w5];have:=N.vars;have e:eS.vars.length=0:=rfl;omega
   generalize (r.2.2.renew want).one r.2.1 (r.2.2.ca want)=f2 at*
   have k2:(f2.e !=0)=false:=by rw[hf0];rfl
   have e6:=f6;have e12:=f12;have j:=o2.here;unfold bh at j;have P:=hKE3;generalize hz5:u5=z5 at*
   apply bl;simp only[go_sem];refine wN ?_;simp only[go_sem,j,k2];refine W.no rfl ?_;have hdone:jS (f2) r.1=if aP r.1=true then rB (f2) (ru r.1)else(.none,[],122,0):=by
    unfold jS;rw[if_neg (fun h=>h hf0)]
   rw[hdone];have G:=e12;simp only[aa.v,V.af]at G;have hEPL:=fun L=>hG o2.here L;unfold bh at hEPL;by_cases hvt:aP r.1=true
   ·rw[if_pos hvt];have hnr1:Nr (2199023255552-8192*((1000:Nat):Int)) r.1:=⟨hvt,N.NM _ (by show((0:Nat):Int)+_<=_;omega) (by show((0:Nat):Int)+_<=_;omega)⟩;have hbi:cf 1000 r.1:=.tA hnr1 (by have:=N.nodes;omega);obtain⟨q,hq⟩:=Oe (Oc 1000 (by decide) r.1 hbi);have b:=fun σ=>aae w0 1000 (by decide) r.1 hbi (by have:=N.nodes;omega) hq σ;obtain⟨kq1,kq2⟩:=rq hq (by decide) hbi;have e1000:((1000:Nat):Int)=1000:=rfl;rw[e1000]at b;cases hno:ru r.1 with
    |none=>
     rw[hno]at b;simp only[lX,mf,aa.v,aa.none,aO,aQ,aL,aH,cP]at b;simp only[rB];obtain⟨E2,F⟩:∃X,(E++[ad.cells [I 0,S [],I 0,.c (.sl [])]])=X:=⟨_,rfl⟩;have w:=P.app (aA _) [ad.cells [I 0,S [],I 0,.c (.sl [])]];have t:=hG e6 [ad.cells [I 0,S [],I 0,.c (.sl [])]];rw[F]at w t;have l6:=(aI.1 t).1;have Z:∀A,(E2.set (σ.length+3) A)[σ.length+3]?=some A:=fun A=>bW l6;have D:∀A,∃L,E2.set (σ.length+3) A=σ++L:=fun A=>ou (w.set A (a:=σ.length+3) (by omega) (.inr (.inl (by omega))))
     apply bl;simp only[go_sem,G];(refine db (b _) ?_;simp only[go_sem]);refine W.heap F ?_;refine wY ?_;simp only[go_sem,t];obtain⟨L,U⟩:=D (.cells [I 0,S [],I 0,.ae []] none);refine W.fs O (by simp only[aX,r9,Z,go_sem];rfl) ?_ (hσ:=U);simp only[aT];exact aR
    |some u=>
     rw[hno]at b;obtain⟨kn1,kn2⟩:=kq2 u hno;obtain⟨so1,so2,so3⟩:=tF (M:=2199023255552) (by decide) u kn1.1 (lh (by omega) u kn1.2);have hSz:=fun σ=>Fp w0 (bw u) (by have:=N.nodes;omega) σ;simp only[lX,fc]at b;simp only[rB];generalize bw u=c at*;obtain⟨hend1,hend2,Q⟩:=OH hR2 hvar2 hsl2;have hliv:(f2).vars≠[]->(f2).live=true/\(f2).sub≠[]:=fun hne=>by
      obtain⟨x,hx⟩:=List.exists_mem_of_ne_nil _ hne;obtain⟨i,hi,_⟩:=hvar2 x hx;have:(f2).sub≠[]:=fun e=>by rw[e]at hi;cases hi
      exact⟨hlive2 this,this⟩
     obtain⟨E2,F⟩:∃X,(E++[ad.cells c.v.af])=X:=⟨_,rfl⟩;have R:=o2.app [ad.cells c.v.af];have w:=P.app (aA _) [ad.cells c.v.af];have t:=hG e6 [ad.cells c.v.af];have e14:(E++[ad.cells c.v.af])[(E).length]?=some (ad.cells c.v.af):=Go.Lamb.cQ _ _;have hTy:DC prog w0 32 [z5] (E++[ad.cells c.v.af]) (Same (.c (.sl (((f2).vars.map (·.ty)).map aa.cs))) (E++[ad.cells c.v.af])):=by
      have h:=Yz w0 (f2).vars (by omega) (E++[ad.cells c.v.af]);have hm:lV (f2).vars=((f2).vars.map (·.ty)).map aa.cs:=by unfold lV;rw[List.map_map];rfl
      rw[hm]at h;rcases o2.var with⟨hv0,hy⟩|⟨bv,_,hy,_⟩
      ·rw[hy];rw[hv0]at h⊢;exact h.gI (yb (.ae _) (.rfl _))
      ·rw[hy];exact h.gI (yb (.aC _ _) (.rfl _))
     have hLg:=ZS w0 hR2 (by decide) (fun hne=>(hliv (fun e=>hne (by rw[e];rfl))).1) hend1 Q (by rw[bY];omega) R;rw[F]at R w t e14;have l6:=(aI.1 t).1;have l14:=(aI.1 e14).1;have hle6:σ.length+3<(E).length:=(aI.1 e6).1;have Z:∀A,(E2.set (σ.length+3) A)[σ.length+3]?=some A:=fun A=>bW l6;have D:∀A,∃L,E2.set (σ.length+3) A=σ++L:=fun A=>ou (w.set A (a:=σ.length+3) (by omega) (.inr (.inl (by omega))));generalize hlr:pO (f2).sub ((f2).vars.map (·.ty)) 4096=lr at*
     by_cases hz:(((cn c:Nat):Int)>4096)
     ·rw[if_pos (.inl (by omega))];apply bl;simp only[go_sem,G];(refine db (b _) ?_;simp only[go_sem]);(refine db (hSz _) ?_;simp only[go_sem,hz]);refine W.heap F ?_;refine wY ?_;simp only[go_sem,t];obtain⟨L,U⟩:=D (.cells [I 0,S [],I 0,.ae []] none);refine W.fs O (by simp only[aX,r9,Z,go_sem];rfl) ?_ (hσ:=U);simp only[aT];exact aR
     ·simp only[aa.v,V.af]at hTy hLg;by_cases hl0:lr<0
      ·rw[if_pos (.inr hl0)];have hd:decide (lr<0)=true:=by simpa using hl0
       rw[hd]at hLg;apply bl;simp only[go_sem,G];(refine db (b _) ?_;simp only[go_sem]);(refine db (hSz _) ?_;simp only[go_sem,hz,hEPL]);(refine db (hTy) ?_;simp only[go_sem]);(refine db (hLg) ?_;simp only[go_sem]);refine W.heap F ?_;refine wY ?_;simp only[go_sem,t];obtain⟨L,U⟩:=D (.cells [I 0,S [],I 0,.ae []] none);refine W.fs O (by simp only[aX,r9,Z,go_sem];rfl) ?_ (hσ:=U);simp only[aT];exact aR
      ·rw[if_neg (fun h=>h.elim (fun h=>hz (by omega)) hl0)];have hd:decide (lr<0)=false:=by simpa using hl0
       rw[hd]at hLg;have hNm:DC prog w0 33 [.ptr (σ.length+4) 0] E2 (Same (.c (.sl ((tD (f2)).map av.cs))) E2):=by
        by_cases hv0:(f2).vars=[]
        ·exact ZT w0 hv0 R
        ·obtain⟨q1,q2⟩:=hliv hv0;obtain⟨r1,r2⟩:=Ay hR2 hend2 hend1 (by omega) (fun x hx=>(Q x hx).1);exact ZU w0 hR2 (by decide) hsl2 q1 (fun x hx=>Q _ (eU.2 ⟨x,hx,rfl⟩)) hv0 (by omega) q2 hend2 (by omega) (fun x hx=>(r2 x hx).valid) R
       have s14:=fun A=>(bA (l:=E2) (a:=A) (by omega:σ.length+3≠(E).length)).trans e14;simp only[aa.v,V.af]at e14 s14;apply bl;simp only[go_sem,G];(refine db (b _) ?_;simp only[go_sem]);(refine db (hSz _) ?_;simp only[go_sem,hz,hEPL]);(refine db (hTy) ?_;simp only[go_sem]);(refine db (hLg) ?_;simp only[go_sem]);refine W.heap F ?_;refine wN ?_;simp only[go_sem];apply W.aD (aF _ _)
       case hc=>
        (apply ab.aj;simp only[go_sem]);(apply ab.call (hNm)<;>try rfl);(apply ab.aj;simp only[go_sem,e14,t,s14]);exact ab.nil
       apply bl;simp only[go_sem];obtain⟨L,U⟩:=D (.cells c.v.af none);refine W.fs O (by simp only[aX,r9,Z,go_sem];rfl) ?_ (hσ:=U);simp only[aT];exact aR
   ·rw[if_neg hvt];have hvf:aP r.1=false:=by simpa using hvt
    have b:=fun σ=>aaf w0 r.1 hvf 1000 σ;simp only[aa.v,aa.none,aO,aQ,aL,aH,cP]at b;obtain⟨E2,F⟩:∃X,(E++[ad.cells [I 0,S [],I 0,.c (.sl [])]])=X:=⟨_,rfl⟩;have w:=P.app (aA _) [ad.cells [I 0,S [],I 0,.c (.sl [])]];have t:=hG e6 [ad.cells [I 0,S [],I 0,.c (.sl [])]];rw[F]at w t;have l6:=(aI.1 t).1;have Z:∀A,(E2.set (σ.length+3) A)[σ.length+3]?=some A:=fun A=>bW l6;have D:∀A,∃L,E2.set (σ.length+3) A=σ++L:=fun A=>ou (w.set A (a:=σ.length+3) (by omega) (.inr (.inl (by omega))))
    apply bl;simp only[go_sem,G];(refine db (b _) ?_;simp only[go_sem]);refine W.heap F ?_;refine wY ?_;simp only[go_sem,t];obtain⟨L,U⟩:=D (.cells [I 0,S [],I 0,.ae []] none);refine W.fs O (by simp only[aX,r9,Z,go_sem];rfl) ?_ (hσ:=U);simp only[aT];exact aR
 ·have Y:ju p want r=r.2.2:=by unfold ju;rw[if_neg h0]
  rw[Y];have k1:(r.2.2.e==0)=false:=by simp[h0]
  have k2:(r.2.2.e !=0)=true:=by simp[h0]
  have hdn:jS r.2.2 r.1=(.none,[],r.2.2.e,r.2.2.pos):=by unfold jS;rw[if_pos h0]
  rw[hdn];have e6:=b6;have j:=d1.here;unfold bh at j;have P:=d2;apply W.aD (aF _ _)
  case hc=>
   (apply ab.aj;simp only[go_sem,j,k1]);exact ab.nil
  apply bl;simp only[go_sem];refine W.no rfl ?_;have l6:=(aI.1 e6).1;have Z:∀A,(E1.set (σ.length+3) A)[σ.length+3]?=some A:=fun A=>bW l6;have sP:=fun A=>(bA (l:=E1) (a:=A) (by omega:σ.length+3≠σ.length+4)).trans j;have D:∀A,∃L,E1.set (σ.length+3) A=σ++L:=fun A=>ou (P.set A (a:=σ.length+3) (by omega) (.inr (.inl (by omega))));apply bl;simp only[go_sem,j,k2];refine wY ?_;simp only[go_sem];apply W.aD (aF _ _)
  case hc=>
   (apply ab.aj;simp only[go_sem,j,e6,sP]);exact ab.nil
  apply bl;simp only[go_sem];obtain⟨L,U⟩:=D (.cells [I 0,S [],I 0,.ae []] none);refine W.fs O (by simp only[aX,r9,Z,go_sem];rfl) ?_ (hσ:=U);simp only[aT];exact aR
def aaj(w0:World){g:Sg}{Wd:Nat}(t:∀x∈g.types,aw x.ty<=Wd)(e:1<=Wd)(i:Wd<=10000){p:al}{want:aa}(c:bn p<=2000)(j:(Wd+1)*bn p<=900000)(r:aw want<=10000)(σ:H):
  DC prog w0 9 [g.v,p.v,want.v] σ (Same (iy (wu g p want)) σ):=by
 unfold wu;by_cases b:ba p<0\/4096<ba p\/bZ want=false
 ·rw[if_pos b];exact aah w0 c b σ
 ·rw[if_neg b];exact aai w0 t e i c j r (fun h=>b (.inl h)) (fun h=>b (.inr (.inl h))) (by
   cases u:bZ want
   ·exact absurd (.inr (.inr u)) b
   ·rfl) σ
def AH(w0:World)(p:aa)(σ:H):DC prog w0 95 [p.v] σ (Same (B (cX p)) σ):=by
 refine V1.go rfl (fun b e=>?_);have hl:((p.l.length:Int)==2)=(p.l.length==2):=by rw[Bool.eq_iff_iff];simp;omega
 unfold cX;cases c:(p.k==2)
 ·apply bl;simp only[go_sem,DB,c];exact wF b
 ·apply bl;simp only[go_sem,DB,c,hl];exact wF b
def ln(p:aa)(l:List aa):aa:=.mk (if cX p=true then 2 else 0) (if cX p=true then[]else p.name) 0 l
def OI(w0:World)(p:aa)(l:List aa)(σ:H):DC prog w0 138 [p.v,.c (aM l)] σ (Same (ln p l).v σ):=by
 refine V2.go rfl (fun b g=>?_);apply bl;simp only[go_sem,c138];unfold ln;cases e:cX p
 ·(refine db (AH w0 p _) ?_;simp only[go_sem,e]);refine wN ?_;simp only[go_sem];(refine W.fg (b) (d:=.agg [I 0,S p.name,I 0,.c (aM l)]) (by simp only[DD,go_sem];rfl) (by simp only[aT,go_sem];exact aR) ?_);exact⟨rfl,rfl⟩
 ·(refine db (AH w0 p _) ?_;simp only[go_sem,e]);refine wY ?_;simp only[go_sem];(refine W.fg (b) (d:=.agg [I 2,S [],I 0,.c (aM l)]) (by simp only[DD,go_sem];rfl) (by simp only[aT,go_sem];exact aR) ?_);exact⟨rfl,rfl⟩
def aak(w0:World)(n:Int)(p:aa):aw p<=1000000->∀σ:H,DC prog w0 89 [p.v,I n] σ (Same (b8 (gA n) () p).1.v σ):=by
 refine aa.ind (P:=fun p=>aw p<=1000000->∀σ:H,DC prog w0 89 [p.v,I n] σ (Same (b8 (gA n) () p).1.v σ)) (fun p F M σ=>?_) p;refine V3.go rfl (fun h u=>?_);have j:=mX u (aZ ..);rw[mT];by_cases r:p.k=1
 ·have w:(p.k==1)=true:=by simpa using r
  rw[if_pos r];apply bl;simp only[go_sem,DE,w];refine wY ?_;simp only[go_sem];(refine W.fg (h) (d:=(aa.var (aE.wrap (p.n+n))).v) (by simp only[DF,go_sem,aa.var];rfl) (by simp only[aT,go_sem,aa.var];exact aR) ?_ (hl:=by(first|exact .c _|(simp only[go_sem,aa.var];done))));exact⟨rfl,rfl⟩
 ·have w:(p.k==1)=false:=by simpa using r
  rw[if_neg r];have G:=yt p.l;have J:=ct p;apply bl;simp only[go_sem,DE,w];refine wN ?_;simp only[go_sem];refine W.own 5 34 4 rfl ?_;refine W.aY (fun i=>i<=p.l.length) (fun i=>⟨(((((base.put (some 1) (I n)).put (some 2) (.ptr σ.length 0)).put (some 4) (.ptr (σ.length+1) 0)).put (some 5) (.aC (σ.length+2) ((bF (gA n) () (p.l.take i)).1.map aa.cs))).put (some 6) (I i)),σ++[.cells p.v.af,.cells [I 0,S [],I 0,.ae []],.spare 34 4 i]⟩) (fun i=>p.l.length-i) 0 (be _) ?_ (fun i N=>?_)
  ·simp only[go_sem,ey,bF];exact wV
  ·by_cases b:i<p.l.length
   ·have t:((i:Int)<(p.l.length:Int)):=by omega
    have L:p.l[i]?=some p.l[i]:=aN b;have hw:=cF b j;have e:=yD (gA n) () b;have A:(i+1)*56<=140737488355328:=by omega
    have D:i+1<=140737488355328:=by omega
    have g:(bF (gA n) () (p.l.take i)).1.length=i:=by rw[qz,dE];omega
    have hc:=F p.l[i] (bg b) (by have:=yr (bg b);omega);generalize bF (gA n) () (p.l.take i)=E at e g;obtain⟨ac,st⟩:=E;simp only at e g;generalize p.l[i]=x at*
    apply bl;simp only[go_sem,t];refine wY ?_;simp only[go_sem,t,bu,L];(refine db (hc _) ?_;simp only[go_sem,A,D,g,hw]);refine .inv ⟨i+1,b,by omega,?_⟩;rw[e];simp only[go_sem,dF];exact wV
   ·have t:¬((i:Int)<(p.l.length:Int)):=by omega
    have:p.l.take i=p.l:=dT (by omega);apply bl;simp only[go_sem,t];refine W.no rfl ?_;rw[this];apply bl;simp only[go_sem];(refine W.fV (OI w0 p (bF (gA n) () p.l).1 _) ?_;simp only[go_sem,ln]);(refine W.fg (h) (d:=(ln p (bF (gA n) () p.l).1).v) (by simp only[DF,go_sem,ln];rfl) (by simp only[aT,go_sem,ln];exact aR) ?_ (hl:=by(first|exact .c _|(simp only[go_sem,ln];done))));exact⟨rfl,rfl⟩
end
end Go.Proofs.YtdlkenpilhakfaaGreatDoor
namespace Go.Lamb
open Go Go.RowKit
def aal(p:aa):∀vs:List Int,(b8 b9 vs p).2.length<=vs.length+aw p:=by
 induction p using aa.ind with
 |h p e=>
  intro vs;rw[mT,ct];split
  ·have:=(CJ vs p.n).1;show(dm vs p.n).length<=_;omega
  ·have key:∀l:List aa,(∀x∈l,x∈p.l)->∀vs:List Int,(bF b9 vs l).2.length<=vs.length+bE l:=by
    intro l;induction l with
    |nil=>intro _ vs;simp[bF]
    |cons x l b=>
     intro c vs;rw[bF,bE];have j:=e x (c x (aZ ..)) vs;have r:=b (fun y g=>c y (bH _ g)) (b8 b9 vs x).2;simp only;omega
   have:=key p.l (fun x i=>i) vs;simp only;omega
def OJ:∀(l:List aa) (vs:List Int),(bF b9 vs l).2.length<=vs.length+bE l
 |[],vs=>by simp[bF]
 |x::l,vs=>by
  rw[bF,bE];have b:=aal x vs;have c:=OJ l (b8 b9 vs x).2;simp only;omega
def Fu:∀(l r:List aa),bE (l++r)=bE l+bE r
 |[],r=>by simp[bE]
 |x::l,r=>by rw[iB,bE,bE,Fu l r];omega
def aam{l:List aa}{i:Nat}(h:i<l.length):bE (l.take i)+aw l[i]<=bE l:=by
 have b:=Fu (l.take (i+1)) (l.drop (i+1));rw[Bi,eW h,Fu,bE,bE]at b;omega
def rC(l:List Int):List (List C):=l.map fun x=>[C.int .i64 x]
end Go.Lamb
namespace Go.Proofs.YtdlkenpilhakfaaGreatDoor
open Go.RowKit Go.Lamb
section
def qS(m:Nat)(vs:List Int):ad:=.cells [.aC m (rC vs)]
def tG(vs:List Int):ad:=.spare 3 1 vs.length
abbrev lp(σ:H)(b m:Nat)(vs:List Int):H:=rs σ b m (qS m vs) (tG vs)
def Fv{σ:H}{b m:Nat}(D:gw σ b m){X Y:ad}(h:H.ok (rs σ b m X Y))(vs:List Int):H.ok (lp σ b m vs):=
 TD D h (fun cs tg hc x c=>by
  unfold qS at hc;injection hc with hc _;subst hc;simp only[cD,iZ,or_false]at c;subst c;exact .aC D.lv) (fun cs tg hc=>by unfold tG at hc;cases hc)
attribute [local go_sem] qS tG kY sF sG sH sI qy aa.v aa.aG aO aQ aL aH aM
def OK(σ:H)(b m:Nat)(vs:List Int)(x:Int):lp σ b m (vs++[x])=rs σ b m (.cells [.aC m (rC vs++[[C.int .i64 x]])]) (.spare 3 1 (vs.length+1)):=by
 show rs σ b m (qS m (vs++[x])) (tG (vs++[x]))=_;simp only[qS,tG,rC,dF,ck,cP,bC,bG,dU]
def aan(w0:World)(vs:List Int)(n:Int)(σ:H)(b m:Nat)(D:gw σ b m)(M:vs.length<=3000000):
  DC prog w0 143 [.ptr b 0,I n] (lp σ b m vs) (Same (I (iP vs n:Nat)) (lp σ b m (dm vs n))):=by
 refine V7.go rfl (fun t L=>?_);have p:(rC vs).length=vs.length:=by simp[rC]
 apply bl;simp only[go_sem,c143,iO D];refine W.aY (fun i=>i<=vs.length/\lM (·==n) vs i) (fun i=>⟨((((base.put (some 0) (.ptr b 0)).put (some 1) (I n)).put (some 4) (I 0)).put (some 5) (I (i:Nat))),lp σ b m vs⟩) (fun i=>vs.length-i) 0 ⟨be _,uT⟩ ?_ (fun i J=>?_)
 ·exact wV
 ·obtain⟨J,c⟩:=J;by_cases g:i<vs.length
  ·have w:((i:Int)<(vs.length:Int)):=by omega
   have A:(rC vs)[i]?=some [C.int .i64 vs[i]]:=by simp[rC,g]
   have hw:aE.wrap ((i:Int)+1)=((i+1:Nat):Int):=cF g (by omega);apply bl;simp only[go_sem,iO D,p,w];refine wY ?_;simp only[go_sem,iO D,p,w,bu,A];refine W.test rfl (fun h=>?_) (fun h=>?_)
   ·have u:iP vs n=i/\dm vs n=vs:=by
     have e:vs.findIdx? (·==n)=some i:=List.findIdx?_eq_some_iff_getElem.2 ⟨g,h,fun j E=>by have:=c j (by omega) E;simpa using this⟩;unfold iP dm;rw[e];exact⟨rfl,rfl⟩
    rw[u.1,u.2];apply bl;simp only[go_sem];exact wF t
   ·apply bl;simp only[go_sem,hw];refine .inv ⟨i+1,⟨g,uS c g h⟩,by omega,?_⟩;exact wV
  ·have w:¬((i:Int)<(vs.length:Int)):=by omega
   have u:iP vs n=vs.length/\dm vs n=vs++[n]:=by
    have e:vs.findIdx? (·==n)=none:=List.findIdx?_eq_none_iff.2 fun x A=>by obtain⟨j,E,rfl⟩:=List.getElem_of_mem A;exact c j E (by omega)
    unfold iP dm;rw[e];exact⟨rfl,rfl⟩
   have F:(vs.length+1)*8<=140737488355328:=by omega
   have G:vs.length+1<=140737488355328:=by omega
   have hw:aE.wrap (((vs.length+1:Nat):Int)-1)=((vs.length:Nat):Int):=by rw[a7]<;>omega
   rw[u.1,u.2,OK];have r:=Fv D t (vs++[n]);rw[OK]at r;apply bl;simp only[go_sem,iO D,p,w];refine wN ?_;simp only[go_sem,iO D,p,F,G,hw];exact wF r
def aao(w0:World)(p:aa):aw p<=1000000->∀(σ:H) (b m:Nat) (D:gw σ b m) (vs:List Int),vs.length+aw p<=2000000->DC prog w0 96 [.ptr b 0,p.v] (lp σ b m vs) (Same (b8 b9 vs p).1.v (lp σ b m (b8 b9 vs p).2)):=by
 refine aa.ind (P:=fun p=>aw p<=1000000->∀(σ:H) (b m:Nat) (D:gw σ b m) (vs:List Int),vs.length+aw p<=2000000->DC prog w0 96 [.ptr b 0,p.v] (lp σ b m vs) (Same (b8 b9 vs p).1.v (lp σ b m (b8 b9 vs p).2))) (fun p N U σ b m D vs X=>?_) p;refine V5.go rfl (fun j A=>?_);have r:=mX A (bH _ (aZ ..));rw[mT];by_cases u:p.k=1
 ·have E:(p.k==1)=true:=by simpa using u
  rw[if_pos u];show W _ _ _ (Lamb.Fin _ _ (Same (aa.var (iP vs p.n:Nat)).v (lp σ b m (dm vs p.n)))) _ _;apply bl;simp only[go_sem,DG,E,iO D];refine wY ?_;simp only[go_sem,iO D];(refine db (DC.lift D (fun F=>aan w0 vs p.n _ b m F (by omega))) ?_;simp only[go_sem,iO D]);(refine W.fg (Fv D j (dm vs p.n)) (d:=(aa.var (iP vs p.n:Nat)).v) (by simp only[DH,go_sem,aa.var];rfl) (by simp only[aT,go_sem,aa.var];exact aR) ?_ (hl:=by(first|exact .c _|(simp only[go_sem,aa.var];done))));exact⟨rfl,rfl⟩
 ·have E:(p.k==1)=false:=by simpa using u
  rw[if_neg u];have O:=yt p.l;have Q:=ct p;apply bl;simp only[go_sem,DG,E,iO D];refine wN ?_;simp only[go_sem,iO D];refine W.own 5 34 4 rfl ?_;refine W.aY (fun i=>i<=p.l.length) (fun i=>⟨(((((base.put (some 0) (.ptr b 0)).put (some 3) (.ptr σ.length 0)).put (some 4) (.ptr (σ.length+1) 0)).put (some 5) (.aC (σ.length+2) ((bF b9 vs (p.l.take i)).1.map aa.cs))).put (some 6) (I i)),lp σ b m (bF b9 vs (p.l.take i)).2++[.cells p.v.af,.cells [I 0,S [],I 0,.ae []],.spare 34 4 i]⟩) (fun i=>p.l.length-i) 0 (be _) ?_ (fun i Y=>?_)
  ·simp only[go_sem,ey,bF];exact wV
  ·by_cases e:i<p.l.length
   ·have w:((i:Int)<(p.l.length:Int)):=by omega
    have R:p.l[i]?=some p.l[i]:=aN e;have hw:=cF e r;have g:=yD b9 vs e;have G:(i+1)*56<=140737488355328:=by omega
    have J:i+1<=140737488355328:=by omega
    have h:(bF b9 vs (p.l.take i)).1.length=i:=by rw[qz,dE];omega
    have t:=OJ (p.l.take i) vs;have T:=aam e;have hc:=N p.l[i] (bg e) (by have:=yr (bg e);omega);generalize bF b9 vs (p.l.take i)=L at g h t;obtain⟨ac,st⟩:=L;simp only at g h t;have M:st.length+aw p.l[i]<=2000000:=by omega
    generalize p.l[i]=x at*
    apply bl;simp only[go_sem,w,iO D];refine wY ?_;simp only[go_sem,w,bu,R,iO D];(refine db (DC.lift D (fun F=>hc _ b m F st M)) ?_;simp only[go_sem,iO D,G,J,h,hw]);refine .inv ⟨i+1,e,by omega,?_⟩;rw[g];simp only[go_sem,dF];exact wV
   ·have w:¬((i:Int)<(p.l.length:Int)):=by omega
    have:p.l.take i=p.l:=dT (by omega);apply bl;simp only[go_sem,w,iO D];refine W.no rfl ?_;rw[this];apply bl;simp only[go_sem,iO D];(refine W.fV (OI w0 p (bF b9 vs p.l).1 _) ?_;simp only[go_sem,ln,iO D]);(refine W.fg (Fv D j (bF b9 vs p.l).2) (d:=(ln p (bF b9 vs p.l).1).v) (by simp only[DH,go_sem,ln];rfl) (by simp only[aT,go_sem,ln];exact aR) ?_ (hl:=by(first|exact .c _|(simp only[go_sem,ln];done))));exact⟨rfl,rfl⟩
def OL(σ:H)(A B X Y b c:ad):rs (σ++[A,B,X,Y]) (σ.length+2) (σ.length+3) b c=σ++[A,B,b,c]:=by
 unfold rs;rw[gX _ _ (by omega),gX _ _ (by omega)];simp[Nat.add_sub_cancel_left]
def OM(w0:World)(p:aa)(hp:aw p<=1000000)(σ:H):DC prog w0 47 [p.v] σ (Same (bT p).v σ):=by
 refine V4.go rfl (fun b e=>?_);apply bl;simp only[go_sem,KV];refine W.nR (σ.length+2) 0 3 1 (cs:=[.ae []]) (tg:=none) ?_ rfl ?_
 ·simp only[bx,List.getElem?_cons_succ,List.getElem?_cons_zero]
 ·apply bl;simp only[go_sem];have c:∀X Y,DC prog w0 96 [.ptr (σ.length+2) 0,p.v] (σ++[X,Y,.cells [.aC (σ.length+3) []],.spare 3 1 0]) (Same (b8 b9 [] p).1.v (σ++[X,Y,qS (σ.length+3) (b8 b9 [] p).2,tG (b8 b9 [] p).2])):=fun X Y=>by
   have:=aao w0 p hp (σ++[X,Y,X,X]) (σ.length+2) (σ.length+3) ⟨by omega,by simp,by simp⟩ [] (by simp;omega);unfold lp at this;rw[OL,OL]at this;exact this
  unfold bT;generalize b8 b9 [] p=u at c⊢;(refine db (c _ _) ?_;simp only[go_sem]);(refine W.fg (b) (d:=u.1.v) (by simp only[KW,go_sem];rfl) (by simp only[aT,go_sem];exact aR) ?_);exact⟨rfl,rfl⟩
end
section
def c194:AC:=rsq [oA 2 zS4] (rsq [.m 3 0,oD 4 zS4 [(0,1,(zK 1)),(2,1,3)],.s 4 2 4] .ret)
abbrev aap:List ak:=[.aW 4 2]
def aaq:aq prog 194 1 Tryz.f194 c194 aap:=.auto func194
def Fw:AC:=rsq [oB 3 1,oA 4 zS4] (.seq (.block 0 (.loop (.seq (.seq (drg [.f 5 0 3,.l 6 5,oI 7 .eql 6 (zK 1),.m 8 7,yV 9 0 8,yF 10 2 3 8,yL 11 10 8,yJ 12 4 9 11 8,yF 13 0 12 8,yL 14 13 8,yI 15 .eql 14 (zK 1) 8,yV 16 15 8,yV 17 0 16,yF 18 2 3 16,yL 19 18 16,yJ 20 4 17 19 16,yF 21 2 20 16,yL 22 21 16,yF 23 2 3 16,yL 24 23 16,yI 25 .eql 22 24 16,.y 26 (.pick 16 25 zF) 8,.y 27 (.un .not 26) 8,oP 28 8 27 zF] [0,1,2,3,4,5,6,7,8,9,10,11,12,13,14,15,16,17,18,19,20,21,22,23]) (.cond 28 .skip (.exit 0))) (.block 1 (.ax [.m 29 0,.f 30 2 3,.l 31 30,oJ 32 4 29 31,.d 33 4 32,.s 4 3 33]))))) (rsq [.d 34 4 3,.s 4 4 34] .ret))
abbrev r94:List ak:=[.aW 4 4]
def k94:aq prog 94 2 Tryz.f94 Fw r94:=.auto func94
def rD:AC:=rsq [oB 6 2,oF 8] (.seq (rif [.f 11 0 6,.l 12 11,oI 13 .eql 12 (zK 1)] 13 (.seq (.seq (drg [.m 14 0,.f 15 2 6,.l 16 15,oJ 17 4 14 16,.f 18 0 17,.l 19 18,oI 20 .eql 19 (zK 1),.m 21 20,yV 22 0 21,yF 23 2 6 21,yL 24 23 21,yJ 25 4 22 24 21,yF 26 2 25 21,yL 27 26 21,yF 28 2 6 21,yL 29 28 21,yI 30 .eql 27 29 21,oP 31 21 30 zF] [0,1,2,3,4,5,6,7,8,9,10,11,12,13,14,15,16,17]) (.cond 31 (rsq [.f 32 2 6,.l 33 32,.m 34 1,oI 35 .eql 33 34,.m 8 35] .ret) .skip)) (.seq (rif [.m 36 3,.f 37 2 6,.l 38 37,oJ 39 1 36 38,.l 40 39] 40 (rsq [oF 8] .ret) .skip) (rsq [.m 41 3,.f 42 2 6,.l 43 42,oJ 44 1 41 43,⟨none,.store 1 44 zT,none⟩] (rsq [.m 45 0,.m 46 1,.m 47 0,.f 48 2 6,.l 49 48,oJ 50 4 47 49,.d 51 4 50,.m 52 3,.k 53 263 [45,46,51,52],.m 8 53] .ret)))) .skip) (.seq (rsq [oK 9 0] (forL 0 1 [.m 54 9,.f 55 3 6,.l 56 55,oL 57 56,oI 58 .lss 54 57] 58 (rsq [.m 61 0,.m 62 1,.f 63 3 6,.l 64 63,.m 65 9,oJ 66 4 64 65,.d 67 4 66,.m 68 3,.k 69 263 [61,62,67,68],.m 10 69] (rif [.m 70 10] 70 (rsq [oV 8] .ret) .skip)) [.m 59 9,oI 60 .add 59 (zK 1),.m 9 60])) (rsq [oF 8] .ret)))
abbrev pR:List ak:=[.tmp 8]
def ON:aq prog 263 4 Tryz.f263 rD pR:=.auto func263
def Fx:AC:=rsq [oB 5 2,oF 6] (.seq (drg [.m 7 0,.m 8 1,.d 9 4 5,.m 10 0,oL 11 10,.o 12 (.kP 4 1 (.bool false) 11),.k 13 263 [7,8,9,12],.m 6 13] [3,4,105,0,1,2,306,407]) .ret)
abbrev aat:List ak:=[.tmp 6]
def aau:aq prog 239 3 Tryz.f239 Fx aat:=.auto func239
def c193:AC:=rsq [oB 5 2,oN 6,oK 7 0] (rsq [.m 10 0,.m 11 1,.d 12 4 5,.k 13 239 [10,11,12],.m 8 13] (.seq (rif [.m 14 8] 14 (rsq [.m 15 0,.m 6 15,oK 7 61] .ret) .skip) (rsq [oN 9] (rsq [.m 16 9,.m 17 0,oQ 18 34 4 56 16 17,.m 9 18] (rsq [.m 19 9,.m 20 1,.d 21 4 5,oJ 22 4 19 20,.s 4 22 21] (rsq [.m 23 9,.m 6 23,oK 7 0] .ret))))))
abbrev Fy:List ak:=[.tmp 6,.tmp 7]
def OO:aq prog 193 3 Tryz.f193 c193 Fy:=.auto func193
def pS:AC:=rsq [oB 5 1,oB 6 2,oN 8,oK 9 0,oK 10 0] (.seq (rif [.m 24 3,oI 25 .leq 24 (zK 0)] 25 (rsq [.m 26 0,.m 8 26,oK 9 0,oK 10 62] .ret) .skip) (rsq [.m 27 3,oI 28 .sub 27 (zK 1),.m 3 28] (rsq [.m 29 0,.d 30 4 5,.k 31 94 [29,30],oA 11 zS4,.s 4 11 31] (rsq [.m 32 0,.d 33 4 6,.k 34 94 [32,33],oA 12 zS4,.s 4 12 34] (.seq (rif [.f 35 0 11,.l 36 35,oI 37 .eql 36 (zK 1),.m 38 37,yF 39 0 12 38,yL 40 39 38,yI 41 .eql 40 (zK 1) 38,oP 42 38 41 zF] 42 (.seq (rif [.f 43 2 11,.l 44 43,.f 45 2 12,.l 46 45,oI 47 .eql 44 46] 47 (rsq [.m 48 0,.m 49 3,.m 8 48,.m 9 49,oK 10 0] .ret) .skip) (.seq (drg [.m 51 0,.f 52 2 11,.l 53 52,.f 54 2 12,.l 55 54,.o 56 (.mx 53 55),.f 57 2 11,.l 58 57,.f 59 2 12,.l 60 59,.o 61 (.mn 58 60),.k 62 194 [61],.k 63 193 [51,56,62],.m 50 63,.x 64 50 0,.x 65 50 1,.m 13 64,.m 14 65] [6,7,8,9,10,111,0,1,2,3,4,5,312,413,414,415,416,417]) (rsq [.m 66 13,.m 67 3,.m 68 14,.m 8 66,.m 9 67,.m 10 68] .ret))) .skip) (.seq (rif [.f 69 0 11,.l 70 69,oI 71 .eql 70 (zK 1)] 71 (rsq [.m 73 0,.f 74 2 11,.l 75 74,.d 76 4 12,.k 77 193 [73,75,76],.m 72 77,.x 78 72 0,.x 79 72 1,.m 15 78,.m 16 79] (rsq [.m 80 15,.m 81 3,.m 82 16,.m 8 80,.m 9 81,.m 10 82] .ret)) .skip) (.seq (rif [.f 83 0 12,.l 84 83,oI 85 .eql 84 (zK 1)] 85 (rsq [.m 87 0,.f 88 2 12,.l 89 88,.d 90 4 11,.k 91 193 [87,89,90],.m 86 91,.x 92 86 0,.x 93 86 1,.m 17 92,.m 18 93] (rsq [.m 94 17,.m 95 3,.m 96 18,.m 8 94,.m 9 95,.m 10 96] .ret)) .skip) (.seq (rif [.f 97 0 11,.l 98 97,.f 99 0 12,.l 100 99,oI 101 .neq 98 100,.m 102 101,yX 103 1 11 102,yT 104 103 102,yX 105 1 12 102,yT 106 105 102,yB 107 .neq 104 106 102,oP 108 102 zT 107,.m 109 108,yX 110 3 11 109,yT 111 110 109,.z 112 (.eM 111) 109,yX 113 3 12 109,yT 114 113 109,.z 115 (.eM 114) 109,yB 116 .neq 112 115 109,oP 117 109 zT 116] 117 (rsq [.m 118 0,.m 119 3,.m 8 118,.m 9 119,oK 10 60] .ret) .skip) (rsq [.m 120 0,.m 19 120] (.seq (rsq [oK 20 0] (forL 0 1 [.m 121 20,.f 122 3 11,.l 123 122,oL 124 123,oI 125 .lss 121 124] 125 (.seq (drg [.m 129 19,.f 130 3 11,.l 131 130,.m 132 20,oJ 133 4 131 132,.d 134 4 133,.f 135 3 12,.l 136 135,.m 137 20,oJ 138 4 136 137,.d 139 4 138,.m 140 3,.k 141 137 [129,134,139,140],.m 128 141,.x 142 128 0,.x 143 128 1,.x 144 128 2,.m 21 142,.m 22 143,.m 23 144] [0,1,2,3,4,5,6,7,8,9,10,11,112,213,214,215,216,217,218,219]) (.seq (rif [.m 145 23,oI 146 .neq 145 (zK 0)] 146 (rsq [.m 147 0,.m 148 22,.m 149 23,.m 8 147,.m 9 148,.m 10 149] .ret) .skip) (rsq [.m 150 21,.m 19 150] (.ax [.m 151 22,.m 3 151])))) [.m 126 20,oI 127 .add 126 (zK 1),.m 20 127])) (rsq [.m 152 19,.m 153 3,.m 8 152,.m 9 153,oK 10 0] .ret)))))))))))
abbrev lY:List ak:=[.tmp 8,.tmp 9,.tmp 10]
def rE:aq prog 137 4 Tryz.f137 pS lY:=.auto func137
def c87:AC:=rsq [oB 4 1,oB 5 2,oN 6,oK 7 0] (rsq [.m 12 0,.d 13 4 4,.d 14 4 5,.k 15 137 [12,13,14,(zK 4096)],.m 11 15,.x 16 11 0,.x 17 11 1,.x 18 11 2,.m 8 16,.m 9 17,.m 10 18] (.seq (rif [.m 19 10,oI 20 .neq 19 (zK 0)] 20 (rsq [.m 21 0,.m 22 10,.m 6 21,.m 7 22] .ret) .skip) (rsq [.m 23 8,.m 6 23,oK 7 0] .ret)))
abbrev Fz:List ak:=[.tmp 6,.tmp 7]
def OP:aq prog 87 3 Tryz.f87 c87 Fz:=.auto func87
def FA:AC:=rsq [oB 3 1,oA 4 zS4] (rsq [.m 7 0,.d 8 4 3,.k 9 94 [7,8],.s 4 3 9] (.seq (rif [.f 10 0 3,.l 11 10,oI 12 .eql 11 (zK 1)] 12 (rsq [.d 13 4 3,.s 4 4 13] .ret) .skip) (rsq [.f 14 0 3,.l 15 14,.f 16 1 3,.l 17 16,oD 18 zS4 [(0,1,15),(1,1,17)],oA 5 zS4,.s 4 5 18] (.seq (rsq [oK 6 0] (forL 0 1 [.m 19 6,.f 20 3 3,.l 21 20,oL 22 21,oI 23 .lss 19 22] 23 (drg [.f 26 3 5,.l 27 26,.m 28 0,.f 29 3 3,.l 30 29,.m 31 6,oJ 32 4 30 31,.d 33 4 32,.k 34 45 [28,33],oS 35 4 [34],oQ 36 34 4 56 27 35,.f 37 3 5,.s 1 37 36] [2,3,4,5,6,7,108,0,1,209,310,411,512]) [.m 24 6,oI 25 .add 24 (zK 1),.m 6 25])) (rsq [.d 38 4 5,.s 4 4 38] .ret)))))
abbrev r45:List ak:=[.aW 4 4]
def OQ:aq prog 45 2 Tryz.f45 FA r45:=.auto func45
attribute [local go_sem] aa.v aa.aG aO aQ aL aH aM
def eF.vec{n0:Nat}{σ:H}{y:V}{s:List aa}(h:eF n0 σ y s)(c:0<s.length):∃b,n0<=b/\y= .vec b s.length/\σ[b]?=some (.vec 34 4 (aK s)):=by
 rcases h with⟨rfl,_⟩|⟨b,e,g,i,_⟩
 ·exact absurd c (fe _)
 ·exact⟨b,e,g,i⟩
def aaw(w0:World)(n:Int)(σ:H):DC prog w0 194 [I n] σ (Same (aJ n).v σ):=by
 refine aaq.go rfl (fun b c=>?_);apply bl;simp only[go_sem,c194];exact wF b
def rF(w0:World){n0:Nat}{s:List aa}(Y:∀t∈s,ay s.length t){t u:aa}{m:Nat}(D:eP s t u m)(P:ay s.length t){y:V}{σ:H}(Q:eF n0 σ y s):DC prog w0 94 [y,t.v] σ (Same u.v σ):=by
 refine k94.go rfl (fun E Z=>?_);by_cases p:t.k=1
 ·obtain⟨b,_,rfl,hb⟩:=Q.vec (by have:=P.var p;omega);clear Q;have j:=fun L=>hG hb L;apply bl;simp only[go_sem,Fw];refine W.aY (α:=aa×Nat) (fun x=>eP s x.1 u x.2/\ay s.length x.1) (fun x=>⟨(((base.put (some 0) (.vec b s.length)).put (some 3) (.ptr σ.length 0)).put (some 4) (.ptr (σ.length+1) 0)),σ++[.cells x.1.v.af,.cells [I 0,S [],I 0,.ae []]]⟩) (fun x=>x.2) (t,m) ⟨D,P⟩ ?_ (fun x O=>?_)
  ·exact wV
  clear D P p;obtain⟨x,n⟩:=x;obtain⟨D,O⟩:=O;simp only at D O;by_cases p:x.k=1
  ·obtain⟨h0,g,G,hl⟩:=O.var p;obtain⟨k,nm,v,l⟩:=x;simp only[aO,aQ,aL,aH]at p h0 g G hl;subst p G hl;obtain⟨i,rfl⟩:=Int.eq_ofNat_of_zero_le h0;have J:i<s.length:=by omega
   have e:bJ s (.mk 1 [] (i:Int) [])=!(s[i].k==1&&s[i].n==(i:Int)):=by
    unfold bJ;simp only[aO,aL,nc J];rfl
   have X:ay s.length s[i]:=Y _ (bg J);have w:=ob J;have M:i*4+4<=s.length*4:=by omega
   have N:=gC s;obtain⟨R,T⟩:=vG J;cases D with
   |stop c=>
    rw[e]at c;generalize s[i]=y at*;generalize aK s=F at*;clear e;have A:(y.k==1)=true:=by cases h:(y.k==1)<;>simp_all
    have U:(y.n==(i:Int))=true:=by cases h:(y.n==(i:Int))<;>simp_all
    apply bl;simp only[go_sem];(apply W.aD (aF _ _);case hc=>((apply ab.aj;simp only[go_sem,j,h0,g,R,T,bne,A,U]);exact ab.nil));apply bl;simp only[go_sem];refine wN ?_;simp only[go_sem];exact wF E
   |go c r=>
    rw[e]at c;simp only[aL]at r;rw[nc J]at r;generalize s[i]=y at*;generalize aK s=F at*;clear e;cases A:(y.k==1)
    ·apply bl;simp only[go_sem];(apply W.aD (aF _ _);case hc=>((apply ab.aj;simp only[go_sem,j,h0,g,R,T,bne,A]);exact ab.nil));apply bl;simp only[go_sem];refine wY ?_;simp only[go_sem,h0,g,j,w,M,N];refine .inv ⟨(y,_),⟨r,X⟩,by simp only;omega,?_⟩;exact wV
    ·have U:(y.n==(i:Int))=false:=by cases h:(y.n==(i:Int))<;>simp_all
     apply bl;simp only[go_sem];(apply W.aD (aF _ _);case hc=>((apply ab.aj;simp only[go_sem,j,h0,g,R,T,bne,A,U]);exact ab.nil));apply bl;simp only[go_sem];refine wY ?_;simp only[go_sem,h0,g,j,w,M,N];refine .inv ⟨(y,_),⟨r,X⟩,by simp only;omega,?_⟩;exact wV
  ·have A:(x.k==1)=false:=by simp[p]
   cases D with
   |stop c=>
    apply bl;simp only[go_sem];(apply W.aD (aF _ _);case hc=>((apply ab.aj;simp only[go_sem,A]);exact ab.nil));apply bl;simp only[go_sem];refine wN ?_;simp only[go_sem];exact wF E
   |go c r=>exact absurd (fk c) p
 ·have A:(t.k==1)=false:=by simp[p]
  cases D with
  |stop c=>
   clear Q;apply bl;simp only[go_sem,Fw];refine W.aY (α:=Unit) (fun _=>True) (fun _=>⟨(((base.put (some 0) (y)).put (some 3) (.ptr σ.length 0)).put (some 4) (.ptr (σ.length+1) 0)),σ++[.cells t.v.af,.cells [I 0,S [],I 0,.ae []]]⟩) (fun _=>0) () trivial ?_ (fun _ _=>?_)
   ·exact wV
   apply bl;simp only[go_sem];(apply W.aD (aF _ _);case hc=>((apply ab.aj;simp only[go_sem,A]);exact ab.nil));apply bl;simp only[go_sem];refine wN ?_;simp only[go_sem];exact wF E
  |go c r=>exact absurd (fk c) p

end
end Go.Proofs.YtdlkenpilhakfaaGreatDoor
namespace Go.Lamb
open Go Go.RowKit
def iz(n:Nat)(b:List Int):List C:=(List.range n).map fun i:Nat=>.bool (b.contains (i:Int))
def tH(n:Nat)(b:List Int):(iz n b).length=n:=by unfold iz;simp
def FB{n i:Nat}(c:i<n)(b:List Int):(iz n b)[i]?=some (.bool (b.contains (i:Int))):=by
 unfold iz;rw[List.getElem?_map,List.getElem?_range c];rfl
def aax{n i:Nat}(j:i<n)(b:List Int):(iz n b).set i (.bool true)=iz n (b++[(i:Int)]):=by
 apply tU
 ·rw[bz,tH,tH]
 ·intro k p c;rw[tH]at c;have e:=FB c b;have g:=FB c (b++[(i:Int)]);rw[aN (by rw[tH];exact c)]at e g;rw[List.getElem_set];injection g with g;injection e with e;rw[g];by_cases h:i=k
  ·subst h;simp
  ·rw[if_neg h,e];have:¬((k:Int)=i):=by omega
   simp[List.contains_eq_mem,this]
def aay{n i:Nat}(c:i<n)(b:List Int):List.take i (iz n b)++ .bool true::List.drop (i+1) (iz n b)=iz n (b++[(i:Int)]):=by
 rw[<-aax c,List.set_eq_take_append_cons_drop,if_pos (by rw[tH];exact c)]
def aaz(n:Nat):List.replicate n (C.bool false)=iz n []:=by
 unfold iz;apply tU<;>simp
end Go.Lamb
namespace Go.Proofs.YtdlkenpilhakfaaGreatDoor
open Go.RowKit Go.Lamb
section
attribute [local go_sem] aa.v aa.aG aO aQ aL aH aM
structure lZ (n0:Nat) (s:List aa) (y:V) (bm m:Nat) (U:List Int->H):Prop where
 len:∀a,(U a).length=m
 ok:∀a c X,H.ok (U a++X)->H.ok (U c++X)
 sub:∀a,eF n0 (U a) y s
 mp:∀a,(U a)[bm]?=some (.vec 4 1 (iz s.length a))
 set:∀a c,(U a).set bm (.vec 4 1 (iz s.length c))=U c
def eF.ext{n0:Nat}{σ:H}{y:V}{s:List aa}(h:eF n0 σ y s)(L:H):eF n0 (σ++L) y s:=h.mono fun _ _ _ b=>hG b L
def lZ.ext{n0:Nat}{s:List aa}{y:V}{bm m:Nat}{U:List Int->H}(h:lZ n0 s y bm m U)(L:H):lZ n0 s y bm (m+L.length) (fun a=>U a++L) where
 len:=fun a=>by rw[bC,h.len]
 ok:=fun a c X b=>by rw[List.append_assoc]at b⊢;exact h.ok a c _ b
 sub:=fun a=>(h.sub a).ext L
 mp:=fun a=>hG (h.mp a) L
 set:=fun a c=>by rw[hS (h.mp a),h.set]
def FC(w0:World){n0:Nat}{s:List aa}{y:V}{bm m:Nat}{U:List Int->H}(hs:∀t∈s,ay s.length t)(F:lZ n0 s y bm m U)(v:Int)(E J:List Int)(r:Bool)(t:aa)(ht:ay s.length t)(hk:t.k=1)
  (h:(bJ s t=false/\r=(t.n==v)/\J=E)\/(bJ s t=true/\E.contains t.n=true/\r=false/\J=E)\/
    (bJ s t=true/\E.contains t.n=false/\∀L,DC prog w0 263 [y,I v,(cq s t.n).v,.vec bm s.length] (U (E++[t.n])++L) (Same (B r) (U J++L)))):
  DC prog w0 263 [y,I v,t.v,.vec bm s.length] (U E) (Same (B r) (U J)):=by
 obtain⟨h0,A,R,hl⟩:=ht.var hk;obtain⟨k,nm,n',l⟩:=t;simp only[aO,aQ,aL,aH]at hk h0 A R hl h;subst hk R hl;obtain⟨i,rfl⟩:=oY h0;have P:i<s.length:=by omega
 obtain⟨b,hb0,rfl,_⟩:=(F.sub E).vec (by omega);have hb:∀a,(U a)[b]?=some (.vec 34 4 (aK s)):=fun a=>by
  obtain⟨b',_,hv,hx⟩:=(F.sub a).vec (by omega);injection hv with hv;subst hv;exact hx
 have e:bJ s (.mk 1 [] (i:Int) [])=!(s[i].k==1&&s[i].n==(i:Int)):=by
  unfold bJ;simp only[aO,aL,nc P];rfl
 have O:=ob P;have T:i*4+4<=s.length*4:=by omega
 have X:=gC s;obtain⟨Y,Z⟩:=vG P;have M:=fun a=>FB P a;have N:=tH s.length;have hms:=fun a=>aay P a;have hi1:i+1<=s.length:=P;rw[e]at h;rw[nc P]at h;refine ON.go rfl (fun hok hsz=>?_);have g:=F.len;have G:=fun c=>by have:=F.ok E c [];simp only[cd]at this;exact this hok
 have j:=fun a L=>hG (hb a) L;have p:=fun a L=>hG (F.mp a) L;have cR:=fun a c L=>by have:=hS (F.mp a) (.vec 4 1 (iz s.length c)) L;rw[F.set]at this;exact this
 have u:∀a x L,(U a++x::L)[m]?=some x:=fun a=>jq (g a);have tg:∀a k L,(U a++L)[m+k]?=L[k]?:=fun a=>il (g a);have w:∀a x L,(U a++L).set m x=U a++L.set 0 x:=fun a=>lf (g a);have D:∀a k x L,(U a++L).set (m+k) x=U a++L.set k x:=fun a=>lg (g a);generalize s[i]=y at*
 generalize aK s=F' at*
 clear e ht hs;rcases h with⟨h,rfl,rfl⟩|⟨h,hc,rfl,rfl⟩|⟨h,hc,hE⟩
 ·have Q:(y.k==1)=true:=by cases h:(y.k==1)<;>simp_all
  have kn:(y.n==(i:Int))=true:=by cases h:(y.n==(i:Int))<;>simp_all
  apply bl;simp only[go_sem,rD,g,u,tg,w,D,j,p];refine wY ?_;simp only[go_sem];(apply W.aD (aF _ _);case hc=>((apply ab.aj;simp only[go_sem,g,u,tg,w,D,j,p,h0,A,Y,Z,Q,kn]);exact ab.nil));apply bl;simp only[go_sem];refine wY ?_;simp only[go_sem,g,u,tg,w,D,j,p];(refine W.fg (G _) (d:=B ((i:Int)==v)) (by simp only[pR,go_sem];rfl) (by simp only[aT,go_sem];exact aR) ?_ (hn:=(g _)));exact⟨rfl,rfl⟩
 ·cases Q:(y.k==1)
  ·apply bl;simp only[go_sem,rD,g,u,tg,w,D,j,p];refine wY ?_;simp only[go_sem];(apply W.aD (aF _ _);case hc=>((apply ab.aj;simp only[go_sem,g,u,tg,w,D,j,p,h0,A,Y,Z,Q]);exact ab.nil));apply bl;simp only[go_sem];refine wN ?_;simp only[go_sem,g,u,tg,w,D,j,p,h0,A,M,N,hc,eK];refine wY ?_;simp only[go_sem,g,u,tg,w,D,j,p];(refine W.fg (G _) (d:=B false) (by simp only[pR,go_sem];rfl) (by simp only[aT,go_sem];exact aR) ?_ (hn:=(g _)))
   exact⟨rfl,rfl⟩
  ·have kn:(y.n==(i:Int))=false:=by cases h:(y.n==(i:Int))<;>simp_all
   apply bl;simp only[go_sem,rD,g,u,tg,w,D,j,p];refine wY ?_;simp only[go_sem];(apply W.aD (aF _ _);case hc=>((apply ab.aj;simp only[go_sem,g,u,tg,w,D,j,p,h0,A,Y,Z,Q,kn]);exact ab.nil));apply bl;simp only[go_sem];refine wN ?_;simp only[go_sem,g,u,tg,w,D,j,p,h0,A,M,N,hc,eK];refine wY ?_;simp only[go_sem,g,u,tg,w,D,j,p];(refine W.fg (G _) (d:=B false) (by simp only[pR,go_sem];rfl) (by simp only[aT,go_sem];exact aR) ?_ (hn:=(g _)))
   exact⟨rfl,rfl⟩
 ·cases Q:(y.k==1)
  ·apply bl;simp only[go_sem,rD,g,u,tg,w,D,j,p];refine wY ?_;simp only[go_sem];(apply W.aD (aF _ _);case hc=>((apply ab.aj;simp only[go_sem,g,u,tg,w,D,j,p,h0,A,Y,Z,Q]);exact ab.nil));apply bl;simp only[go_sem];refine wN ?_;simp only[go_sem,g,u,tg,w,D,j,p,h0,A,M,N,hc,eK];refine wN ?_;simp only[go_sem,g,u,tg,w,D,j,p,h0,A,M,N,hms,hi1,cR,O,T,X,eK];(refine db (hE _) ?_;simp only[go_sem,g,u,tg,w,D,j,p]);(refine W.fg (G _) (d:=B r) (by simp only[pR,go_sem];rfl) (by simp only[aT,go_sem];exact aR) ?_ (hn:=(g _)))
   exact⟨rfl,rfl⟩
  ·have kn:(y.n==(i:Int))=false:=by cases h:(y.n==(i:Int))<;>simp_all
   apply bl;simp only[go_sem,rD,g,u,tg,w,D,j,p];refine wY ?_;simp only[go_sem];(apply W.aD (aF _ _);case hc=>((apply ab.aj;simp only[go_sem,g,u,tg,w,D,j,p,h0,A,Y,Z,Q,kn]);exact ab.nil));apply bl;simp only[go_sem];refine wN ?_;simp only[go_sem,g,u,tg,w,D,j,p,h0,A,M,N,hc,eK];refine wN ?_;simp only[go_sem,g,u,tg,w,D,j,p,h0,A,M,N,hms,hi1,cR,O,T,X,eK];(refine db (hE _) ?_;simp only[go_sem,g,u,tg,w,D,j,p])
   (refine W.fg (G _) (d:=B r) (by simp only[pR,go_sem];rfl) (by simp only[aT,go_sem];exact aR) ?_ (hn:=(g _)));exact⟨rfl,rfl⟩
def aaA(w0:World){n0:Nat}{s:List aa}{y:V}{bm m:Nat}{U:List Int->H}(F:lZ n0 s y bm m U)(v:Int)(t:aa)(M:t.k≠1)(hl:t.l.length<=1000000)(h:Nat->List Int)(k:Nat)(P:k<=t.l.length)
  (E:∀i (N:i<t.l.length),i<k->∀L,DC prog w0 263 [y,I v,t.l[i].v,.vec bm s.length] (U (h i)++L) (Same (B false) (U (h (i+1))++L)))
  (A:∀(N:k<t.l.length),∀L,DC prog w0 263 [y,I v,t.l[k].v,.vec bm s.length] (U (h k)++L) (Same (B true) (U (h (k+1))++L))):
  DC prog w0 263 [y,I v,t.v,.vec bm s.length] (U (h 0)) (Same (B (decide (k<t.l.length))) (U (if k<t.l.length then h (k+1)else h k))):=by
 refine ON.go rfl (fun G Q=>?_);have b:=F.len;have r:=fun c=>by have:=F.ok (h 0) c [];simp only[cd]at this;exact this G
 have e:∀a x L,(U a++x::L)[m]?=some x:=fun a=>jq (b a);have tg:∀a k L,(U a++L)[m+k]?=L[k]?:=fun a=>il (b a);have g:∀a x L,(U a++L).set m x=U a++L.set 0 x:=fun a=>lf (b a);have p:∀a k x L,(U a++L).set (m+k) x=U a++L.set k x:=fun a=>lg (b a);have R:(t.k==1)=false:=by simp[M]
 clear M;apply bl;simp only[go_sem,rD,b,e,tg,g,p,R];refine wN ?_;simp only[go_sem,b,e,tg,g,p];refine W.aY (fun i=>i<=k) (fun i=>⟨((((((base.put (some 0) (y)).put (some 1) (I v)).put (some 3) (.vec bm s.length)).put (some 6) (.ptr m 0)).put (some 8) (B false)).put (some 9) (I (i:Nat))),U (h i)++[.cells t.v.af]⟩) (fun i=>k-i) 0 (be _) ?_ (fun i N=>?_)
 ·exact wV
 by_cases j:i<t.l.length
 ·have w:((i:Int)<(t.l.length:Int)):=by omega
  have O:t.l[i]?=some t.l[i]:=aN j;have hw:aE.wrap ((i:Int)+1)=((i+1:Nat):Int):=cF j (by omega);by_cases D:i<k
  ·have J:=E i j D;generalize t.l[i]=u at*
   apply bl;simp only[go_sem,w,e,tg,g,p];refine wY ?_;simp only[go_sem,w,bu,O,e,tg,g,p];(refine db (J _) ?_;simp only[go_sem,e,tg,g,p]);refine wN ?_;simp only[go_sem,hw,e,tg,g,p];refine .inv ⟨i+1,D,by omega,?_⟩;exact wV
  ·obtain rfl:i=k:=by omega
   have J:=A j;rw[decide_eq_true j,if_pos j];generalize t.l[i]=u at*
   apply bl;simp only[go_sem,w,e,tg,g,p];refine wY ?_;simp only[go_sem,w,bu,O,e,tg,g,p];(refine db (J _) ?_;simp only[go_sem,e,tg,g,p]);refine wY ?_;simp only[go_sem,e,tg,g,p];(refine W.fg (r _) (d:=B true) (by simp only[pR,go_sem];rfl) (by simp only[aT,go_sem];exact aR) ?_ (hn:=(b _)));exact⟨rfl,rfl⟩
 ·obtain rfl:i=k:=by omega
  have w:¬((i:Int)<(t.l.length:Int)):=by omega
  rw[decide_eq_false j,if_neg j];apply bl;simp only[go_sem,w,e,tg,g,p];refine wN ?_;simp only[go_sem,e,tg,g,p];(refine W.fg (r _) (d:=B false) (by simp only[pR,go_sem];rfl) (by simp only[aT,go_sem];exact aR) ?_ (hn:=(b _)));exact⟨rfl,rfl⟩
mutual
def AI(w0:World){n0:Nat}{s:List aa}{y:V}(g:∀t∈s,ay s.length t)(p:∀x∈s,aw x<=1000000){bm:Nat}{v:Int}:∀{met b:List Int} {t:aa} {r:Bool},gv s v met t r b->ay s.length t->aw t<=1000000->∀{m:Nat} {U:List Int->H},lZ n0 s y bm m U->DC prog w0 263 [y,I v,t.v,.vec bm s.length] (U met) (Same (B r) (U b))
 |met,_,t,_,.seen h w,c,hn,m,U,F=>FC w0 g F v met met false t c (fk h) (.inr (.inl ⟨h,w,rfl,rfl⟩))
 |met,b,t,O,.go h w r,c,hn,m,U,F=>by
  have e:=fk h;obtain⟨h0,A,_⟩:=c.var e;have P:=iN h0 A;exact FC w0 g F v met b O t c e (.inr (.inr ⟨h,w,fun L=>AI w0 g p r (g _ P) (p _ P) (F.ext L)⟩))
 |met,_,t,_,.var h e,c,hn,m,U,F=>FC w0 g F v met met _ t c e (.inl ⟨h,rfl,rfl⟩)
 |met,b,t,O,.gK e r,c,hn,m,U,F=>by
  obtain⟨D,k,E,Q,R,T,G,j⟩:=OR w0 g p r (fun u J=>c.dA e J) (fun u J=>by have:=jm J;rw[ct]at hn;omega) (y:=y) (bm:=bm) (n0:=n0);have hl:t.l.length<=1000000:=by rw[ct]at hn;have:=lj t.l;omega
  have h:=aaA w0 F v t e hl D k E (fun i M N L=>G i M N (F.ext L)) (fun M L=>j M (F.ext L));rw[Q,<-R,<-T]at h;exact h
def OR(w0:World){n0:Nat}{s:List aa}{y:V}(p:∀t∈s,ay s.length t)(w:∀x∈s,aw x<=1000000){bm:Nat}{v:Int}:∀{met c:List Int} {l:List aa} {r:Bool},nQ s v met l r c->(∀u∈l,ay s.length u)->(∀u∈l,aw u<=1000000)->∃(b:Nat->List Int) (k:Nat),k<=l.length/\b 0=met/\r=decide (k<l.length)/\c=(if k<l.length then b (k+1)else b k)/\
  (∀i (e:i<l.length),i<k->∀{m:Nat} {U:List Int->H},lZ n0 s y bm m U->DC prog w0 263 [y,I v,l[i].v,.vec bm s.length] (U (b i)) (Same (B false) (U (b (i+1)))))/\
  (∀(e:k<l.length),∀{m:Nat} {U:List Int->H},lZ n0 s y bm m U->DC prog w0 263 [y,I v,l[k].v,.vec bm s.length] (U (b k)) (Same (B true) (U (b (k+1)))))
 |met,_,_,_,.nil,_,_=>⟨fun _=>met,0,aA _,rfl,rfl,rfl,fun i e=>absurd e (fe _),fun e=>absurd e (fe _)⟩
 |met,c,_,_,.yes (t:=t) (l:=l) r,j,hn=>by
  have A:=fun(m:Nat) (U:List Int->H) (F:lZ n0 s y bm m U)=>AI w0 p w r (j t (aZ ..)) (hn t (aZ ..)) F;exact⟨fun i=>match i with|0=>met|_+1=>c,0,be _,rfl,by simp,by simp,fun i _ e=>absurd e (fe _),fun e m U F=>A _ _ F⟩
 |met,c,_,_,.no (m1:=m1) (t:=t) (l:=l) r rs,j,hn=>by
  have A:=fun(m:Nat) (U:List Int->H) (F:lZ n0 s y bm m U)=>AI w0 p w r (j t (aZ ..)) (hn t (aZ ..)) F;obtain⟨b,k,G,J,L,M,D,g⟩:=OR w0 p w rs (fun u E=>j u (bH _ E)) (fun u E=>hn u (bH _ E)) (y:=y) (bm:=bm) (n0:=n0);refine⟨fun i=>match i with|0=>met|i+1=>b i,k+1,by rw[bG];omega,rfl,by rw[L,bG];simp,?_,fun i e N m U F=>?_,fun e m U F=>?_⟩
  ·rw[M,bG];by_cases h:k<l.length
   ·rw[if_pos h,if_pos (by omega)]
   ·rw[if_neg h,if_neg (by omega)]
  ·cases i with
   |zero=>have:=A _ _ F;rw[<-J]at this;exact this
   |succ i=>exact D i (by rw[bG]at e;omega) (by omega) F
  ·exact g (by rw[bG]at e;omega) F
end
def aaB(w0:World){n0:Nat}{s:List aa}{y:V}(G:∀t∈s,ay s.length t)(J:∀x∈s,aw x<=1000000)(hl:s.length<=1000000){v:Int}{t:aa}{r:Bool}{w:List Int}(h:gv s v [] t r w)(L:ay s.length t)(hn:aw t<=1000000){σ:H}(A:eF n0 σ y s):
  DC prog w0 239 [y,I v,t.v] σ (Same (B r) σ):=by
 have F:lZ n0 s y (σ.length+1) (σ.length+2) (fun a=>σ++[.cells t.v.af,.vec 4 1 (iz s.length a)]):={
  len:=fun a=>by simp
  ok:=fun a c X h B i cs tg hc x M=>by
   have hl:((σ++[ad.cells t.v.af,.vec 4 1 (iz s.length c)])++X).length=((σ++[ad.cells t.v.af,.vec 4 1 (iz s.length a)])++X).length:=by simp
   rw[hl];refine h B ?_ cs tg hc x M;subst hc;simp only[List.mem_append,List.mem_cons,List.not_mem_nil,or_false]at i⊢;rcases i with(i|i|i)|i
   ·exact .inl (.inl i)
   ·exact .inl (.inr (.inl i))
   ·cases i
   ·exact .inr i
  sub:=fun a=>A.ext _
  mp:=fun a=>bx _ _ 1
  set:=fun a c=>by rw[cR];rfl}
 have D:=AI w0 G J h L hn F;have g:=aaz s.length;have j:y= .ae []/\s.length=0\/∃b,y= .vec b s.length:=by
  rcases A with⟨E,p⟩|⟨b,_,p,_⟩
  ·exact .inl ⟨p,by rw[E];rfl⟩
  ·exact .inr ⟨b,p⟩
 have E:(0:Int)<=(s.length:Int):=by omega
 have p:(1:Int)*(s.length:Int)<=140737488355328:=by omega
 have N:(s.length:Int)<=140737488355328:=by omega
 refine aau.go rfl (fun u O=>?_);clear F G J L h A;rcases j with⟨rfl,e⟩|⟨b,rfl⟩
 ·rw[e]at D g;apply bl;simp only[go_sem,Fx];apply W.aD (aF _ _)
  case hc=>
   (apply ab.aj;simp only[go_sem,g]);(apply ab.call (D)<;>try rfl);(apply ab.aj;simp only[go_sem]);exact ab.nil
  apply bl;simp only[go_sem];exact wF u
 ·apply bl;simp only[go_sem,Fx];apply W.aD (aF _ _)
  case hc=>
   (apply ab.aj;simp only[go_sem,E,p,N,g]);(apply ab.call (D)<;>try rfl);(apply ab.aj;simp only[go_sem]);exact ab.nil
  apply bl;simp only[go_sem];exact wF u
end
end Go.Proofs.YtdlkenpilhakfaaGreatDoor
namespace Go.Lamb
open Go Go.RowKit
mutual
inductive pT:Nat->List aa->aa×aa->Int->List aa->Nat->Prop where
 |out {s:List aa} {p:aa×aa}:pT 0 s p 62 s 0
 |bad {n:Nat} {s s':List aa} {p:aa×aa} {l:List (aa×aa)} {e:Int} (h:kp s p.1 p.2 l e s') (he:e≠0):pT (n+1) s p e s' n
 |go {n m:Nat} {s s1 s':List aa} {p:aa×aa} {l:List (aa×aa)} {e:Int} (h:kp s p.1 p.2 l 0 s1) (r:jv n s1 l e s' m):pT (n+1) s p e s' m
inductive jv:Nat->List aa->List (aa×aa)->Int->List aa->Nat->Prop where
 |nil {n:Nat} {s:List aa}:jv n s [] 0 s n
 |fail {n m:Nat} {s s':List aa} {p:aa×aa} {l:List (aa×aa)} {e:Int} (h:pT n s p e s' m) (he:e≠0):jv n s (p::l) e s' m
 |cons {n k m:Nat} {s s1 s':List aa} {p:aa×aa} {l:List (aa×aa)} {e:Int} (h:pT n s p 0 s1 k) (r:jv k s1 l e s' m):jv n s (p::l) e s' m
end
def jv.split:∀(l:List (aa×aa)) {r:List (aa×aa)} {n m:Nat} {s s':List aa} {e:Int},jv n s (l++r) e s' m->(e≠0/\jv n s l e s' m)\/∃k s1,jv n s l 0 s1 k/\jv k s1 r e s' m
 |[],_,n,_,s,_,_,h=>.inr ⟨n,s,.nil,h⟩
 |_::l,_,_,_,_,_,_,.fail h he=>.inl ⟨he,.fail h he⟩
 |_::l,_,_,_,_,_,_,.cons h r=>by
  rcases jv.split l r with⟨he,b⟩|⟨k,s1,b,c⟩
  ·exact .inl ⟨he,.cons h b⟩
  ·exact .inr ⟨k,s1,.cons h b,c⟩
def ee.uni{n:Nat}{s s':List aa}{st:List (aa×aa)}{e:Int}(h:ee n s st e s'):∃b m,jv n s st.reverse e b m/\(e=0->b=s'):=by
 induction h with
 |done=>exact⟨_,_,.nil,fun _=>rfl⟩
 |@out s st h=>
  obtain⟨p,l,hl⟩:=List.exists_cons_of_ne_nil (show st.reverse≠[] by simpa using h);rw[hl];exact⟨_,_,.fail .out (by decide),fun h=>absurd h (by decide)⟩
 |fail h he=>
  rw[QG];exact⟨_,_,.fail (.bad h he) he,fun h=>absurd h he⟩
 |go h r i=>
  obtain⟨b,m,g,j⟩:=i;rw[QG,List.reverse_reverse]at g;rw[QG];rcases jv.split _ g with⟨he,c⟩|⟨k,s1,c,t⟩
  ·exact⟨_,_,.fail (.go h c) he,fun h=>absurd h he⟩
  ·exact⟨_,_,.cons (.go h c) t,j⟩
def ee.aaD{n:Nat}{s s':List aa}{p:aa×aa}{e:Int}(h:ee n s [p] e s'):∃b m,pT n s p e b m/\(e=0->b=s'):=by
 obtain⟨b,m,g,c⟩:=h.uni;cases g with
 |fail h he=>exact⟨_,_,h,c⟩
 |cons h r=>cases r;exact⟨_,_,h,c⟩
end Go.Lamb
namespace Go.Proofs.YtdlkenpilhakfaaGreatDoor
open Go.RowKit Go.Lamb
section
attribute [local go_sem] aa.v aa.aG aO aQ aL aH aM
mutual
def FD{N:Nat}(i:1<=N):∀{n m:Nat} {s s':List aa} {p:aa×aa} {e:Int},pT n s p e s' m->bO N s->s.length<=1000000->de s.length N p->bO N s'/\s'.length=s.length/\m<=n
 |_,_,_,_,_,_,.out,g,_,_=>⟨g,rfl,aA _⟩
 |_,_,_,_,_,_,.bad h he,g,j,hp=>by
  obtain⟨a,b,_⟩:=z8 g i j hp h;exact⟨a,b,Nat.le_succ _⟩
 |_,_,_,_,_,_,.go h r,g,j,hp=>by
  obtain⟨a,b,c,_⟩:=z8 g i j hp h;obtain⟨x,y,z⟩:=OS i r a (by omega) (fun q t=>by rw[b];exact c q t);exact⟨x,by omega,by omega⟩
def OS{N:Nat}(i:1<=N):∀{n m:Nat} {s s':List aa} {l:List (aa×aa)} {e:Int},jv n s l e s' m->bO N s->s.length<=1000000->(∀p∈l,de s.length N p)->bO N s'/\s'.length=s.length/\m<=n
 |_,_,_,_,_,_,.nil,g,_,_=>⟨g,rfl,aA _⟩
 |_,_,_,_,_,_,.fail h he,g,j,hp=>FD i h g j (hp _ (aZ ..))
 |_,_,_,_,_,_,.cons h r,g,j,hp=>by
  obtain⟨a,b,c⟩:=FD i h g j (hp _ (aZ ..));obtain⟨x,y,z⟩:=OS i r a (by omega) (fun q t=>by rw[b];exact hp q (bH _ t));exact⟨x,by omega,by omega⟩
end
structure df (n0:Nat) (σ τ:H):Prop where
 low:∀b,b<n0->τ[b]?=σ[b]?
 cg:∀(b:Nat) (B:ad),(∀c,B≠ .vec 34 4 c)->σ[b]?=some B->τ[b]?=some B
 len:σ.length<=τ.length
def df.refl(n0:Nat)(σ:H):df n0 σ σ:=⟨fun _ _=>rfl,fun _ _ _ h=>h,aA _⟩
def df.trans{n0:Nat}{a b c:H}(h:df n0 a b)(k:df n0 b c):df n0 a c:=⟨fun x e=>(k.low x e).trans (h.low x e),fun x B g e=>k.cg x B g (h.cg x B g e),bf h.len k.len⟩
def df.app{n0:Nat}{σ τ:H}(h:df n0 σ τ)(h0:n0<=σ.length)(L:H):df n0 σ (τ++L):=
 ⟨fun x b=>by rw[cr (by have:=h.len;omega)];exact h.low x b,fun x B c b=>by
   have:=h.cg x B c b;rw[cr (aI.1 this).1];exact this,by rw[bC];have:=h.len;omega⟩
def df.set{n0:Nat}{σ τ:H}(h:df n0 σ τ){a:Nat}(x:ad)(h0:n0<=a)(ha:∀B,(∀c,B≠ .vec 34 4 c)->σ[a]?≠some B):df n0 σ (τ.set a x):=
 ⟨fun y b=>by rw[bA (by omega)];exact h.low y b,fun y B g b=>by
   have e:a≠y:=by rintro rfl;exact ha _ g b
   rw[bA e];exact h.cg y B g b,by rw[bz];exact h.len⟩
def df.cells{n0:Nat}{σ τ:H}(h:df n0 σ τ){b:Nat}{cs:List V}{tg:Option TypeId}(c:σ[b]?=some (.cells cs tg)):τ[b]?=some (.cells cs tg):=h.cg b _ (fun _ e=>by cases e) c
def df.kept{n0:Nat}{σ τ:H}(h:df n0 σ τ)(p:Nat):Kept n0 p σ τ:=⟨h.low,fun _ _ _ _ b=>h.cells b,h.len⟩
def aaE(w0:World){n0:Nat}{N:Nat}{s:List aa}(R:bO N s)(hN:N<=1000000)(hl:s.length<=1000000){v:Int}{t:aa}(Y:ay s.length t)(hn:aw t<=N)(h0:0<=v)(A:v<s.length){e:Int}{s':List aa}(D:jK s v t e s'){y:V}{σ:H}(T:eF n0 σ y s):
  ∃τ U,DC prog w0 193 [y,I v,t.v] σ (Same (.au [U,I e]) τ)/\(e=0->eF n0 τ U s')/\df n0 σ τ:=by
 have X:=fun r E (h:gv s v [] t r E) L=>aaB w0 R.right.holds (fun x j=>by have:=R.size x j;omega) hl h Y (by omega) (T.ext L);obtain⟨b,F,rfl,w⟩:=T.vec (by omega);have g:=(aI.1 w).1;cases D with
 |yes h=>
  have G:=X _ _ h;refine⟨σ,.vec b s.length,?_,fun h=>absurd h (by decide),df.refl _ _⟩;refine OO.go rfl (fun p J=>?_);apply bl;simp only[go_sem,c193];(refine db (G _) ?_;simp only[go_sem]);refine wY ?_;simp only[go_sem];(refine W.fs (p) (by simp only[Fy,go_sem,B5,g];rfl) ?_ (hl:=by(first|exact .c _|(simp only[go_sem,B5,g];done)));simp only[aT,B5,g];try exact V.wk.rfl _)
  all_goals (all_goals exact aR)
 |no h=>
  have G:=X _ _ h;obtain⟨i,rfl⟩:=oY h0;have u:i<s.length:=by omega
  refine⟨σ.set b .gone++[.cells t.v.af,.vec 34 4 (aK (s.set i t))],.vec (σ.length+1) s.length,?_,fun _=>.inr ⟨σ.length+1,by omega,by rw[bz],by rw[yc];rfl,by intro h;rw[<-List.length_eq_zero_iff,bz]at h;omega⟩,((df.refl n0 σ).set _ F (fun B D j=>by rw[w]at j;injection j with j;exact D _ j.symm)).app (by omega) _⟩;have cR:=vH u t;have M:i*4+4<=s.length*4:=by omega
  have O:=gC s;refine OO.cl rfl (fun p J=>?_);apply bl;simp only[go_sem,c193];(refine db (G _) ?_;simp only[go_sem]);refine wN ?_;simp only[go_sem];refine W.jj (b:=b) (e:=34) (size:=4) (k:=s.length) (cs:=aK s) 17 rfl (hG w _) (Nat.le_of_eq (gC s).symm) ?_;rw[Aj,hS w];refine W.nN (olds:=[]) (news:=s.map aa.cs) rfl rfl rfl rfl ⟨by simp;intro h;subst h;simp at u,(fun r Z=>by cases Z),fX s,by simp;omega,by simp;omega⟩ ?_;have P:(s.map aa.cs).flatten=aK s:=rfl;have Q:(s.map aa.cs).length=s.length:=List.length_map _
  apply bl;simp only[go_sem,List.nil_append,P,Q,h0,A,M,O,cR];exact W.ret ⟨_,_,(by simp only[aX,Fy,go_sem];rfl),.rfl _,rfl,rfl⟩
def pU(w0:World)(n0 n:Nat)(s:List aa)(p:aa×aa)(e:Int)(s':List aa)(m:Nat):Prop:=∀(σ:H) (u:V),eF n0 σ u s->n0<=σ.length->
 ∃τ b,DC prog w0 137 [u,p.1.v,p.2.v,I (n:Nat)] σ (Same (.au [b,I (m:Nat),I e]) τ)/\(e=0->eF n0 τ b s')/\df n0 σ τ
def aaF(w0:World)(n0:Nat)(s:List aa)(p:aa×aa):pU w0 n0 0 s p 62 s 0:=by
 intro σ u g hn;refine⟨σ++[.cells p.1.v.af,.cells p.2.v.af],u,?_,fun h=>absurd h (by decide),(df.refl n0 σ).app hn _⟩;obtain⟨a,b⟩:=p;refine rE.cl rfl (fun c e=>?_);apply bl;simp only[go_sem,pS];refine wY ?_;simp only[go_sem];exact W.ret ⟨_,_,(by simp only[aX,lY,go_sem];rfl),.rfl _,rfl,rfl⟩
def wv(w0:World){n0 n:Nat}(hn':n<=1000000){N:Nat}{s:List aa}(D:bO N s)(hN:1<=N)(hN':N<=1000000)(hs:s.length<=1000000){a b:aa}(hp:de s.length N (a,b)){e:Int}{s':List aa}{x z:aa}{m k:Nat}(r1:eP s a x m)(r2:eP s b z k)
  (h:(x.k=1/\z.k=1/\x.n=z.n/\e=0/\s'=s)\/(x.k=1/\z.k=1/\x.n≠z.n/\jK s (max x.n z.n) (aJ (min x.n z.n)) e s')\/(x.k=1/\z.k≠1/\jK s x.n z e s')\/(x.k≠1/\z.k=1/\jK s z.n x e s')
    \/(x.k≠1/\z.k≠1/\¬(x.k=z.k/\x.name=z.name/\x.l.length=z.l.length)/\e=60/\s'=s)):pU w0 n0 (n+1) s (a,b) e s' n:=by
 intro σ u hu hn;obtain⟨ha,Q,na,nb⟩:=hp;simp only at ha Q na nb;have G:=(oc D.right.holds r1 ha).1;have J:=(oc D.right.holds r2 Q).1;have nx:=kX D.size r1 (qY D) ha na;have nz:=kX D.size r2 (qY D) Q nb;have R:=fun L=>rF w0 D.right.holds r1 ha (hu.ext L);have T:=fun L=>rF w0 D.right.holds r2 Q (hu.ext L);have h0:¬(((n+1:Nat):Int)<=0):=by omega
 have hw:aE.wrap (((n+1:Nat):Int)-1)=((n:Nat):Int):=by rw[a7]<;>omega
 have U:∀L,df n0 σ (σ++L):=fun L=>(df.refl n0 σ).app hn L;have A:=fun(v:Int) (t:aa) (e:Int) (s':List aa) (A:jK s v t e s') (ht:ay s.length t) (nt:aw t<=N) (h1:0<=v) (h2:v<s.length) (L:H)=>aaE w0 D hN' hs ht nt h1 h2 A (hu.ext L);clear r1 r2 ha Q na nb;rcases h with⟨g,i,O,rfl,rfl⟩|⟨g,i,O,M⟩|⟨g,i,M⟩|⟨g,i,M⟩|⟨g,i,X,rfl,rfl⟩
 ·refine⟨σ++[.cells a.v.af,.cells b.v.af,.cells x.v.af,.cells z.v.af],u,?_,fun _=>hu.ext _,U _⟩;have c:(x.k==1)=true:=by simp[g]
  have j:(z.k==1)=true:=by simp[i]
  have Y:(x.n==z.n)=true:=by simp[O]
  clear G J A;refine rE.cl rfl (fun E F=>?_);apply bl;simp only[go_sem,pS,h0];refine wN ?_;simp only[go_sem,hw];(refine db (R _) ?_;simp only[go_sem]);(refine db (T _) ?_;simp only[go_sem,c,j,Y]);refine wY ?_;simp only[go_sem,Y];refine wY ?_;simp only[go_sem];exact W.ret ⟨_,_,(by simp only[aX,lY,go_sem];rfl),.rfl _,rfl,rfl⟩
 ·obtain⟨x1,x2,_⟩:=G.var g;obtain⟨z1,z2,_⟩:=J.var i;obtain⟨τ,Z,hD,hS,p⟩:=A _ _ _ _ M (ij (by omega) (by omega) (by omega)) (by rw[aJ,ct,aH,bE];omega) (by omega) (by omega) [.cells a.v.af,.cells b.v.af,.cells x.v.af,.cells z.v.af];refine⟨τ,Z,?_,hS,(U _).trans p⟩;have hF:=fun σ=>aaw w0 (min x.n z.n) σ;have hmx:(if z.n>x.n then z.n else x.n)=max x.n z.n:=by split<;>omega
  have hmn:(if z.n<x.n then z.n else x.n)=min x.n z.n:=by split<;>omega
  generalize max x.n z.n=q at*;generalize aJ (min x.n z.n)=w at*;generalize min x.n z.n=r at*
  have c:(x.k==1)=true:=by simp[g]
  have j:(z.k==1)=true:=by simp[i]
  have Y:(x.n==z.n)=false:=by simp[O]
  clear G J A M;refine rE.cl rfl (fun E F=>?_);apply bl;simp only[go_sem,pS,h0];refine wN ?_;simp only[go_sem,hw];(refine db (R _) ?_;simp only[go_sem]);(refine db (T _) ?_;simp only[go_sem,c,j,Y]);refine wY ?_;simp only[go_sem,Y];refine wN ?_;simp only[go_sem];apply W.aD (aF _ _)
  case hc=>
   (apply ab.aj;simp only[go_sem,hmn]);(apply ab.call (hF _)<;>try rfl);(apply ab.aj;simp only[go_sem,hmx]);(apply ab.call (hD)<;>try rfl);(apply ab.aj;simp only[go_sem]);exact ab.nil
  apply bl;simp only[go_sem];exact W.ret ⟨_,_,(by simp only[aX,lY,go_sem];rfl),.rfl _,rfl,rfl⟩
 ·obtain⟨x1,x2,_⟩:=G.var g;obtain⟨τ,Z,hD,hS,p⟩:=A _ _ _ _ M J nz x1 x2 [.cells a.v.af,.cells b.v.af,.cells x.v.af,.cells z.v.af];refine⟨τ,Z,?_,hS,(U _).trans p⟩;have c:(x.k==1)=true:=by simp[g]
  have j:(z.k==1)=false:=by simp[i]
  clear G J A M;refine rE.cl rfl (fun E F=>?_);apply bl;simp only[go_sem,pS,h0];refine wN ?_;simp only[go_sem,hw];(refine db (R _) ?_;simp only[go_sem]);(refine db (T _) ?_;simp only[go_sem,c,j]);refine wN ?_;simp only[go_sem,c];refine wY ?_;simp only[go_sem];(refine db (hD) ?_;simp only[go_sem]);exact W.ret ⟨_,_,(by simp only[aX,lY,go_sem];rfl),.rfl _,rfl,rfl⟩
 ·obtain⟨z1,z2,_⟩:=J.var i;obtain⟨τ,Z,hD,hS,p⟩:=A _ _ _ _ M G nx z1 z2 [.cells a.v.af,.cells b.v.af,.cells x.v.af,.cells z.v.af];refine⟨τ,Z,?_,hS,(U _).trans p⟩;have c:(x.k==1)=false:=by simp[g]
  have j:(z.k==1)=true:=by simp[i]
  clear G J A M;refine rE.cl rfl (fun E F=>?_);apply bl;simp only[go_sem,pS,h0];refine wN ?_;simp only[go_sem,hw];(refine db (R _) ?_;simp only[go_sem]);(refine db (T _) ?_;simp only[go_sem,c,j]);refine wN ?_;simp only[go_sem,c];refine wN ?_;simp only[go_sem,j];refine wY ?_;simp only[go_sem];(refine db (hD) ?_;simp only[go_sem]);exact W.ret ⟨_,_,(by simp only[aX,lY,go_sem];rfl),.rfl _,rfl,rfl⟩
 ·refine⟨σ++[.cells a.v.af,.cells b.v.af,.cells x.v.af,.cells z.v.af],u,?_,fun h=>absurd h (by decide),U _⟩;have c:(x.k==1)=false:=by simp[g]
  have j:(z.k==1)=false:=by simp[i]
  have P:(x.k==z.k)=false\/((x.k==z.k)=true/\(x.name==z.name)=false)\/((x.k==z.k)=true/\(x.name==z.name)=true/\((x.l.length:Int)==(z.l.length:Int))=false):=by
   by_cases q1:x.k=z.k
   ·by_cases q2:x.name=z.name
    ·refine .inr (.inr ⟨by simp[q1],by simp[q2],?_⟩);have:¬x.l.length=z.l.length:=fun h=>X ⟨q1,q2,h⟩;simp;omega
    ·exact .inr (.inl ⟨by simp[q1],by simp[q2]⟩)
   ·exact .inl (by simp[q1])
  clear G J A X;refine rE.cl rfl (fun E F=>?_);apply bl;simp only[go_sem,pS,h0];refine wN ?_;simp only[go_sem,hw];(refine db (R _) ?_;simp only[go_sem]);(refine db (T _) ?_;simp only[go_sem,c,j]);refine wN ?_;simp only[go_sem,c];refine wN ?_;simp only[go_sem,j];refine W.no rfl ?_;rcases P with P|⟨P,e5⟩|⟨P,e5,e6⟩
  ·apply bl;simp only[go_sem,bne,P];refine wY ?_;simp only[go_sem];exact W.ret ⟨_,_,(by simp only[aX,lY,go_sem];rfl),.rfl _,rfl,rfl⟩
  ·apply bl;simp only[go_sem,bne,P,e5];refine wY ?_;simp only[go_sem];exact W.ret ⟨_,_,(by simp only[aX,lY,go_sem];rfl),.rfl _,rfl,rfl⟩
  ·apply bl;simp only[go_sem,bne,P,e5,e6];refine wY ?_;simp only[go_sem];exact W.ret ⟨_,_,(by simp only[aX,lY,go_sem];rfl),.rfl _,rfl,rfl⟩
def OT{α:Type}(G:Nat->α->Prop)(S:Nat->α->α->Prop)(K:Nat)(a0:α)(h0:G 0 a0)(g:∀i a,i<K->G i a->∃b,S i a b/\G (i+1) b):∃f:Nat->α,f 0=a0/\(∀i,i<=K->G i (f i))/\∀i,i<K->S i (f i) (f (i+1)):=by
 classical
 let f:Nat->α:=fun n=>Nat.rec a0 (fun i a=>if h:i<K/\G i a then xw (g i a h.1 h.2)else a) n
 have hf:∀i,i<K->G i (f i)->S i (f i) (f (i+1))/\G (i+1) (f (i+1)):=fun i c hg=>by
  have e:f (i+1)=xw (g i (f i) c hg):=dif_pos ⟨c,hg⟩;rw[e];exact Bm (g i (f i) c hg)
 have hG:∀i,i<=K->G i (f i):=fun i=>by
  induction i with
  |zero=>exact fun _=>h0
  |succ i j=>exact fun c=>(hf i c (j (by omega))).2
 exact⟨f,rfl,hG,fun i c=>(hf i c (hG i (by omega))).1⟩
def aaG(w0:World){n0 n:Nat}(hn':n<=1000000){N:Nat}{s:List aa}(M:bO N s)(hN':N<=1000000){a b:aa}(hp:de s.length N (a,b)){x z:aa}{m k:Nat}(r1:eP s a x m)(r2:eP s b z k)(k1:x.k≠1)(k2:z.k≠1)(k3:x.k=z.k)(k4:x.name=z.name)(k5:x.l.length=z.l.length)
  (G:Nat->List aa) (ns:Nat->Nat) (K:Nat) (hK:K<=x.l.length) (h0:G 0=s) (h1:ns 0=n) (D:∀i (h:i<x.l.length) (h':i<z.l.length),i<K->pU w0 n0 (ns i) (G i) (x.l[i],z.l[i]) 0 (G (i+1)) (ns (i+1))) {e:Int} {s':List aa} {O:Nat}
  (w:(K=x.l.length/\e=0/\s'=G K/\O=ns K)\/∃(h:K<x.l.length) (h':K<z.l.length),e≠0/\pU w0 n0 (ns K) (G K) (x.l[K],z.l[K]) e s' O):pU w0 n0 (n+1) s (a,b) e s' O:=by
 intro σ u hu hn;obtain⟨ha,hb,na,nb⟩:=hp;simp only at ha hb na nb;have nx:=kX M.size r1 (qY M) ha na;have hxl:x.l.length<=1000000:=by have:=lj x.l;rw[ct]at nx;omega
 have hX:=fun L=>rF w0 M.right.holds r1 ha (hu.ext L);have hY:=fun L=>rF w0 M.right.holds r2 hb (hu.ext L);have h2:¬(((n+1:Nat):Int)<=0):=by omega
 have hw:aE.wrap (((n+1:Nat):Int)-1)=((n:Nat):Int):=by rw[a7]<;>omega
 have e1:(x.k==1)=false:=by simp[k1]
 have e2:(z.k==1)=false:=by simp[k2]
 have e3:(x.k==z.k)=true:=by simp[k3]
 have e4:(x.name==z.name)=true:=by simp[k4]
 have e5:((x.l.length:Int)==(z.l.length:Int))=true:=by simp[k5]
 obtain⟨A,P⟩:∃A,σ++[.cells a.v.af,.cells b.v.af,.cells x.v.af,.cells z.v.af]=A:=⟨_,rfl⟩;have Q:df n0 σ A:=by rw[<-P];exact(df.refl n0 σ).app hn _
 have R:A[σ.length+2]?=some (.cells x.v.af):=by rw[<-P];exact bx _ _ 2
 have T:A[σ.length+3]?=some (.cells z.v.af):=by rw[<-P];exact bx _ _ 3
 obtain⟨f,f0,fG,fS⟩:=OT (α:=H×V) (fun i q=>eF n0 q.1 q.2 (G i)/\n0<=q.1.length/\df n0 A q.1)
  (fun i q r=>∀(h:i<x.l.length) (h':i<z.l.length),DC prog w0 137 [q.2,x.l[i].v,z.l[i].v,I (ns i:Nat)] q.1 (Same (.au [r.2,I (ns (i+1):Nat),I 0]) r.1)) K (A,u)
  ⟨by rw[h0,<-P];exact hu.ext _,bf hn Q.len,df.refl _ _⟩ (fun i q hi hq=>by
    obtain⟨τ,E,g1,g2,g3⟩:=D i (by omega) (by omega) hi _ _ hq.1 hq.2.1;exact⟨(τ,E),fun _ _=>g1,g2 rfl,bf hq.2.1 g3.len,hq.2.2.trans g3⟩)
 have F:∃τ E,(K<x.l.length->∀(h:K<x.l.length) (h':K<z.l.length),e≠0/\∃u2,DC prog w0 137 [(f K).2,x.l[K].v,z.l[K].v,I (ns K:Nat)] (f K).1 (Same (.au [u2,I (O:Nat),I e]) τ))/\(K=x.l.length->e=0/\O=ns K/\τ=(f K).1/\E=(f K).2)/\(K<x.l.length->E=u)/\(e=0->eF n0 τ E s')/\df n0 A τ:=by
  obtain⟨g1,g2,g3⟩:=fG K (aA _);rcases w with⟨c1,c2,c3,c4⟩|⟨c1,c2,c3,c4⟩
  ·exact⟨(f K).1,(f K).2,fun h=>absurd h (by omega),fun _=>⟨c2,c4,rfl,rfl⟩,fun h=>absurd h (by omega),fun _=>by rw[c3];exact g1,g3⟩
  ·obtain⟨τ,u2,d1,d2,d3⟩:=c4 _ _ g1 g2;exact⟨τ,u,fun _ _ _=>⟨c3,u2,d1⟩,fun h=>absurd h (by omega),fun _=>rfl,fun h=>absurd h c3,g3.trans d3⟩
 obtain⟨τ,E,l1,l2,l3,l4,l5⟩:=F;refine⟨τ,E,?_,l4,Q.trans l5⟩;have hX0:=hX [.cells a.v.af,.cells b.v.af];have hY0:=hY [.cells a.v.af,.cells b.v.af,.cells x.v.af];clear w D l4 l5 r1 r2 ha hb na nb nx hX hY M hu;refine rE.cl rfl (fun D hsz=>?_);apply bl;simp only[go_sem,pS,h2];refine wN ?_;simp only[go_sem,hw];(refine db (hX0) ?_;simp only[go_sem]);(refine db (hY0) ?_;simp only[go_sem,e1,e2]);refine wN ?_;simp only[go_sem,e1];refine wN ?_;simp only[go_sem,e2];refine wN ?_;simp only[go_sem,bne,e3,e4,e5]
 refine wN ?_;simp only[go_sem];refine W.heap P ?_;refine W.aY (fun i=>i<=K) (fun i=>⟨((((((base.put (some 0) (u)).put (some 3) (I (ns i:Nat))).put (some 11) (.ptr (σ.length+2) 0)).put (some 12) (.ptr (σ.length+3) 0)).put (some 19) ((f i).2)).put (some 20) (I (i:Nat))),(f i).1⟩) (fun i=>K-i) 0 (be _) ?_ (fun i hi=>?_)
 ·simp only[f0,h1];exact wV
 obtain⟨_,hle,t⟩:=fG i hi;have gx:∀L,((f i).1++L)[σ.length+2]?=some (.cells x.v.af):=fun L=>hG (t.cells R) L;have gz:∀L,((f i).1++L)[σ.length+3]?=some (.cells z.v.af):=fun L=>hG (t.cells T) L;have j:(f i).1[σ.length+2]?=some (.cells x.v.af):=t.cells R;have U:(f i).1[σ.length+3]?=some (.cells z.v.af):=t.cells T;by_cases g:i<x.l.length
 ·have p:i<z.l.length:=by omega
  have J:((i:Int)<(x.l.length:Int)):=by omega
  have X:((i:Int)<(z.l.length:Int)):=by omega
  have gi:x.l[i]?=some x.l[i]:=aN g;have Y:z.l[i]?=some z.l[i]:=aN p;have hwi:aE.wrap ((i:Int)+1)=((i+1:Nat):Int):=cF g (by omega);by_cases Z:i<K
  ·have hD:=fS i Z g p;generalize x.l[i]=c at*;generalize z.l[i]=d at*
   apply bl;simp only[go_sem,j,J];refine wY ?_;simp only[go_sem];apply W.aD (aF _ _)
   case hc=>
    (apply ab.aj;simp only[go_sem,j,U,J,X,bu,gi,Y]);(apply ab.call (hD)<;>try rfl);(apply ab.aj;simp only[go_sem]);exact ab.nil
   apply bl;simp only[go_sem];refine wN ?_;simp only[go_sem,hwi];refine .inv ⟨i+1,Z,by omega,?_⟩;exact wV
  ·obtain rfl:i=K:=by omega
   obtain⟨he,u2,hD⟩:=l1 g g p;have hu':=l3 g;subst hu';have he':(e==0)=false:=by simp[he]
   generalize x.l[i]=c at*;generalize z.l[i]=d at*
   apply bl;simp only[go_sem,j,J];refine wY ?_;simp only[go_sem];apply W.aD (aF _ _)
   case hc=>
    (apply ab.aj;simp only[go_sem,j,U,J,X,bu,gi,Y]);(apply ab.call (hD)<;>try rfl);(apply ab.aj;simp only[go_sem]);exact ab.nil
   apply bl;simp only[go_sem,bne,he'];refine wY ?_;simp only[go_sem];exact W.ret ⟨_,_,(by simp only[aX,lY,go_sem];rfl),.rfl _,rfl,rfl⟩
 ·obtain rfl:i=K:=by omega
  obtain⟨rfl,rfl,rfl,rfl⟩:=l2 (by omega);have J:¬((i:Int)<(x.l.length:Int)):=by omega
  apply bl;simp only[go_sem,j,J];refine wN ?_;simp only[go_sem];exact W.ret ⟨_,_,(by simp only[aX,lY,go_sem];rfl),.rfl _,rfl,rfl⟩
mutual
def FE(w0:World){n0:Nat}{N:Nat}(A:1<=N)(j:N<=1000000):∀{n m:Nat} {s s':List aa} {p:aa×aa} {e:Int},pT n s p e s' m->n<=1000000->bO N s->s.length<=1000000->de s.length N p->pU w0 n0 n s p e s' m
 |_,_,s,_,p,_,.out,_,_,_,_=>aaF w0 n0 s p
 |_,m,s,s',(a,b),e,.bad h he,hn,w,D,hp=>by
  cases h with
  |mk E F h=>
   refine wv w0 (by omega) w A j D hp E F ?_;rcases h with⟨_,_,_,_,h,_⟩|⟨c,g,u,_,t⟩|⟨c,g,_,t⟩|⟨c,g,_,t⟩|⟨c,g,u,_,t,G⟩|⟨_,_,_,_,h,_⟩
   ·exact absurd h he
   ·exact .inr (.inl ⟨c,g,u,t⟩)
   ·exact .inr (.inr (.inl ⟨c,g,t⟩))
   ·exact .inr (.inr (.inr (.inl ⟨c,g,t⟩)))
   ·exact .inr (.inr (.inr (.inr ⟨c,g,u,t,G⟩)))
   ·exact absurd h he
 |_,m,s,s',(a,b),e,.go (s1:=s1) (l:=l) h r,hn,w,D,hp=>by
  obtain⟨Q,R,T,_⟩:=z8 w A D hp h;obtain⟨U,ns,K,hK,X,Y,L,J⟩:=OU w0 A j r (n0:=n0) (by omega) Q (by omega) (fun p hp=>by rw[R];exact T p hp);cases h with
  |mk E F h=>
   rcases h with⟨c,g,u,hl,_,G⟩|⟨c,g,u,hl,t⟩|⟨c,g,hl,t⟩|⟨c,g,hl,t⟩|⟨_,_,_,_,h,_⟩|⟨c,g,u,hl,_,G⟩
   ·subst hl;cases r;exact wv w0 (by omega) w A j D hp E F (.inl ⟨c,g,u,rfl,G⟩)
   ·subst hl;cases r;exact wv w0 (by omega) w A j D hp E F (.inr (.inl ⟨c,g,u,t⟩))
   ·subst hl;cases r;exact wv w0 (by omega) w A j D hp E F (.inr (.inr (.inl ⟨c,g,t⟩)))
   ·subst hl;cases r;exact wv w0 (by omega) w A j D hp E F (.inr (.inr (.inr (.inl ⟨c,g,t⟩))))
   ·exact absurd h (by decide)
   ·subst G hl;have hz:=tf _ _ u.2.2;refine aaG w0 (by omega) w j hp E F c g u.1 u.2.1 u.2.2 U ns K (by omega) X Y (fun i Z M O=>?_) ?_
    ·have:=L i (by omega) O;rwa [vM _ _ i (by omega) Z M]at this
    ·rcases J with⟨a1,P,a3,a4⟩|⟨a1,P,a3⟩
     ·exact .inl ⟨by omega,P,a3,a4⟩
     ·refine .inr ⟨by omega,by omega,P,?_⟩;rwa [vM _ _ K (by omega) (by omega) (by omega)]at a3
def OU(w0:World){n0:Nat}{N:Nat}(u:1<=N)(g:N<=1000000):∀{n m:Nat} {s s':List aa} {l:List (aa×aa)} {e:Int},jv n s l e s' m->n<=1000000->bO N s->s.length<=1000000->(∀p∈l,de s.length N p)->
  ∃(j:Nat->List aa) (ns:Nat->Nat) (K:Nat),K<=l.length/\j 0=s/\ns 0=n/\(∀i (h:i<l.length),i<K->pU w0 n0 (ns i) (j i) l[i] 0 (j (i+1)) (ns (i+1)))/\((K=l.length/\e=0/\s'=j K/\m=ns K)\/∃(h:K<l.length),e≠0/\pU w0 n0 (ns K) (j K) l[K] e s' m)
 |n,_,s,_,_,_,.nil,_,_,_,_=>⟨fun _=>s,fun _=>n,0,aA _,rfl,rfl,fun i h=>absurd h (fe _),.inl ⟨rfl,rfl,rfl,rfl⟩⟩
 |n,m,s,s',_,e,.fail (p:=p) (l:=l) h he,hn,w,A,hp=>⟨fun _=>s,fun _=>n,0,be _,rfl,rfl,fun i _ h=>absurd h (fe _),.inr ⟨by simp,he,FE w0 u g h hn w A (hp _ (aZ ..))⟩⟩
 |n,m,s,s',_,e,.cons (k:=k) (s1:=s1) (p:=p) (l:=l) h r,hn,w,A,hp=>by
  have G:=FE w0 u g h hn w A (hp _ (aZ ..)) (n0:=n0);obtain⟨a,b,c⟩:=FD u h w A (hp _ (aZ ..));obtain⟨j,ns,K,Q,J,L,D,t⟩:=OU w0 u g r (n0:=n0) (by omega) a (by omega) (fun q M=>by rw[b];exact hp q (bH _ M));refine⟨fun i=>match i with|0=>s|i+1=>j i,fun i=>match i with|0=>n|i+1=>ns i,K+1,by rw[bG];omega,rfl,rfl,fun i O P=>?_,?_⟩
  ·cases i with
   |zero=>simp only[J,L];exact G
   |succ i=>exact D i (by rw[bG]at O;omega) (by omega)
  ·rcases t with⟨F,E,a3,a4⟩|⟨F,E,a3⟩
   ·exact .inl ⟨by rw[bG,F],E,a3,a4⟩
   ·exact .inr ⟨by rw[bG];omega,E,a3⟩
end
def aaH(w0:World){n0:Nat}{N:Nat}{s:List aa}(A:bO N s)(D:1<=N)(i:N<=1000000)(E:s.length<=1000000){a b:aa}(hp:de s.length N (a,b)){e:Int}{s':List aa}(h:ee 4096 s [(a,b)] e s'){σ:H}{u:V}(F:eF n0 σ u s)(hn:n0<=σ.length):
  ∃τ g,DC prog w0 87 [u,a.v,b.v] σ (Same (.au [g,I e]) τ)/\(e=0->eF n0 τ g s')/\df n0 σ τ:=by
 obtain⟨M,m,G,J⟩:=h.aaD;obtain⟨τ,g,j,L,w⟩:=FE w0 D i G (by omega) A E hp _ _ (F.ext [.cells a.v.af,.cells b.v.af]) (by rw[bC];omega);have c:df n0 σ (σ++[.cells a.v.af,.cells b.v.af]):=(df.refl n0 σ).app hn _;simp only at j;by_cases he:e=0
 ·refine⟨τ,g,?_,fun _=>by rw[<-J he];exact L he,c.trans w⟩;subst he;refine OP.cl rfl (fun p r=>?_);apply bl;simp only[go_sem,c87];(refine db (j) ?_;simp only[go_sem]);refine wN ?_;simp only[go_sem];exact W.ret ⟨_,_,(by simp only[aX,Fz,go_sem];rfl),.rfl _,rfl,rfl⟩
 ·refine⟨τ,u,?_,fun h=>absurd h he,c.trans w⟩;have t:(e==0)=false:=by simp[he]
  refine OP.cl rfl (fun p r=>?_);apply bl;simp only[go_sem,c87];(refine db (j) ?_;simp only[go_sem,bne,t]);refine wY ?_;simp only[go_sem];exact W.ret ⟨_,_,(by simp only[aX,Fz,go_sem];rfl),.rfl _,rfl,rfl⟩
def OV(w0:World){y:V}{σ:H}{t u:aa}(hd:∀L,DC prog w0 94 [y,t.v] (σ++L) (Same u.v (σ++L))):
  (u.k=1->DC prog w0 45 [y,t.v] σ (Same u.v σ))/\(u.k≠1->∀w:List aa,w.length=u.l.length->u.l.length<=1000000->
    (∀i (M:i<u.l.length) (N:i<w.length) L,DC prog w0 45 [y,u.l[i].v] (σ++L) (Same w[i].v (σ++L)))->DC prog w0 45 [y,t.v] σ (Same (aa.mk u.k u.name 0 w).v σ)):=by
 refine⟨fun A=>?_,fun A w hw hn h=>?_⟩
 ·have D:(u.k==1)=true:=by simp[A]
  refine OQ.go rfl (fun e E=>?_);apply bl;simp only[go_sem,FA];(refine db (hd _) ?_;simp only[go_sem,D]);refine wY ?_;simp only[go_sem];exact wF e
 ·have D:(u.k==1)=false:=by simp[A]
  refine OQ.go rfl (fun e E=>?_);apply bl;simp only[go_sem,FA];(refine db (hd _) ?_;simp only[go_sem,D]);refine wN ?_;simp only[go_sem];refine W.aY (α:=Option Nat) (fun o=>match o with|none=>True|some i=>1<=i/\i<=u.l.length) (fun o=>match o with
   |none=>⟨(((((base.put (some 0) (y)).put (some 3) (.ptr σ.length 0)).put (some 4) (.ptr (σ.length+1) 0)).put (some 5) (.ptr (σ.length+2) 0)).put (some 6) (I 0)),σ++[.cells [I u.k,S u.name,I u.n,.c (.sl (u.l.map aa.cs))],.cells [I 0,S [],I 0,.ae []],.cells [I u.k,S u.name,I 0,.ae []]]⟩
   |some i=>⟨(((((base.put (some 0) (y)).put (some 3) (.ptr σ.length 0)).put (some 4) (.ptr (σ.length+1) 0)).put (some 5) (.ptr (σ.length+2) 0)).put (some 6) (I (i:Int))),σ++[.cells [I u.k,S u.name,I u.n,.c (.sl (u.l.map aa.cs))],.cells [I 0,S [],I 0,.ae []],.cells [I u.k,S u.name,I 0,.aC (σ.length+3) ((w.take i).map aa.cs)],.spare 34 4 i]⟩) (fun o=>match o with|none=>u.l.length+1|some i=>u.l.length-i) none trivial ?_ (fun o O=>?_)
  ·dsimp only
   exact wV
  cases o with
  |none=>
   dsimp only
   by_cases h0:0<u.l.length
   ·have g:(0:Int)<(u.l.length:Int):=by omega
    have j:u.l[0]?=some u.l[0]:=aN h0;have F:=h 0 h0 (by omega);have b:w.take 1=[w[0]]:=by
     cases w with
     |nil=>simp at hw;omega
     |cons x w=>rfl
    have p:aE.wrap (0+1)=((1:Nat):Int):=by decide
    generalize u.l[0]=x at*;generalize w[0]=z at*
    apply bl;simp only[go_sem,g];refine wY ?_;simp only[go_sem];apply W.aD (aF _ _)
    case hc=>
     (apply ab.aj;simp only[go_sem,g,j]);(apply ab.call (F _)<;>try rfl);(apply ab.aj;simp only[go_sem,true_or]);exact ab.nil
    apply bl;simp only[go_sem,p];refine .inv ⟨some 1,⟨aA _,h0⟩,by dsimp only;omega,?_⟩;dsimp only
    rw[b];simp only[List.map_cons,List.map_nil,aa.aG];exact wV
   ·have G:w=[]:=List.eq_nil_of_length_eq_zero (by omega);subst G;have g:¬(0:Int)<(u.l.length:Int):=by omega
    apply bl;simp only[go_sem,g];refine wN ?_;simp only[go_sem];exact wF e
  |some i=>
   obtain⟨P,M⟩:=O;dsimp only
   by_cases r:i<u.l.length
   ·have g:(i:Int)<(u.l.length:Int):=by omega
    have z0:(0:Int)<=(i:Int):=by omega
    have j:u.l[i]?=some u.l[i]:=aN r;have F:=h i r (by omega);have b:(w.take (i+1)).map aa.cs=(w.take i).map aa.cs++[(w[i]).cs]:=by
     rw[eW (by omega),List.map_append];rfl
    have p:aE.wrap ((i:Int)+1)=((i+1:Nat):Int):=by rw[a7]<;>omega
    have J:(w.take i).length=i:=by rw[List.length_take];omega
    have Q:(i+1)*56<=140737488355328:=by omega
    have R:i+1<=140737488355328:=by omega
    generalize u.l[i]=x at*;generalize w[i]=z at*;rw[aa.aG]at b;apply bl;simp only[go_sem,g];refine wY ?_;simp only[go_sem];apply W.aD (aF _ _)
    case hc=>
     (apply ab.aj;simp only[go_sem,g,z0,j]);(apply ab.call (F _)<;>try rfl);(apply ab.aj;simp only[go_sem,J,Q,R,true_or]);exact ab.nil
    apply bl;simp only[go_sem,p];refine .inv ⟨some (i+1),⟨by omega,r⟩,by dsimp only;omega,?_⟩;dsimp only
    rw[b];exact wV
   ·obtain rfl:i=u.l.length:=by omega
    have g:¬((u.l.length:Nat):Int)<((u.l.length:Nat):Int):=by omega
    have b:w.take u.l.length=w:=by rw[<-hw,List.take_length]
    rw[b];apply bl;simp only[go_sem,g];refine wN ?_;simp only[go_sem];exact wF e
mutual
def aaI(w0:World){n0 N:Nat}{s:List aa}(b:bO N s)(E:N<=1000000){y:V}:∀{t u:aa},lT s t u->ay s.length t->aw t<=N->∀(σ:H),eF n0 σ y s->DC prog w0 45 [y,t.v] σ (Same u.v σ)
 |t,_,.var (n:=n) h e,c,hn,σ,g=>(OV w0 (fun L=>rF w0 b.right.holds h c (g.ext L))).1 e
 |t,_,.gK (u:=u) (n:=n) (w:=w) h e r,c,hn,σ,g=>by
  have F:=(oc b.right.holds h c).1;have A:=kX b.size h (qY b) c hn;have hl:=lj u.l;have j:∀x∈u.l,ay s.length x/\aw x<=N:=fun x D=>⟨F.dA e D,by have:=jm D;rw[ct]at A;omega⟩;exact(OV w0 (fun L=>rF w0 b.right.holds h c (g.ext L))).2 e w r.len (by rw[ct]at A;omega) (fun i G p L=>FF w0 b E r j i G p _ (g.ext L))
def FF(w0:World){n0 N:Nat}{s:List aa}(g:bO N s)(j:N<=1000000){y:V}:∀{l w:List aa},fY s l w->(∀x∈l,ay s.length x/\aw x<=N)->∀i (c:i<l.length) (b:i<w.length) (σ:H),eF n0 σ y s->DC prog w0 45 [y,l[i].v] σ (Same w[i].v σ)
 |_,_,.nil,_,i,c,_,_,_=>absurd c (fe _)
 |_,_,.cons r rs,h,0,_,_,σ,e=>aaI w0 g j r (h _ (aZ ..)).1 (h _ (aZ ..)).2 σ e
 |_,_,.cons r rs,h,i+1,c,b,σ,e=>FF w0 g j rs (fun x p=>h x (bH _ p)) i (mm c) (mm b) σ e
end
end
def c40:AC:=rif [.m 6 0,.n 7 6,.f 8 6 7,.l 9 8,oI 10 .eql 9 (zK 0)] 10 (rsq [.m 11 0,.m 12 1,.n 13 11,.f 14 6 13,.s 1 14 12] (.ax [.m 15 0,.m 16 2,.n 17 15,.f 18 7 17,.s 1 18 16])) .skip
abbrev r40:List ak:=[]
def k40:aq prog 40 3 Tryz.f40 c40 r40:=.auto func40
def c84:AC:=rsq [oA 2 zS4] (rsq [.m 4 0,.n 5 4,.f 6 3 5,.l 7 6,oL 8 7,oD 9 zS4 [(0,1,(zK 1)),(2,1,8)],oA 3 zS4,.s 4 3 9] (.seq (drg [.m 10 0,.n 11 10,.f 12 3 11,.l 13 12,.d 14 4 3,oL 15 13,oS 16 4 [(.k (.agg zS4))],oQ 17 34 4 56 13 16,oJ 18 4 17 15,.s 4 18 14,.n 19 10,.f 20 3 19,.s 1 20 17] []) (rsq [.d 21 4 3,.s 4 2 21] .ret)))
abbrev r84:List ak:=[.aW 4 2]
def FG:aq prog 84 1 Tryz.f84 c84 r84:=.auto func84
def OW:AC:=rsq [oB 3 1,oA 4 zS4] (rsq [.d 8 4 3,.k 9 47 [8],oA 5 zS4,.s 4 5 9] (rsq [.m 10 0,.n 11 10,.f 12 3 11,.l 13 12,oL 14 13,.m 6 14] (.seq (rsq [oK 7 0] (forL 0 1 [.m 15 7,.d 16 4 5,.k 17 88 [16],oI 18 .lss 15 17] 18 (drg [.m 21 0,.n 22 21,.f 23 3 22,.l 24 23,.m 25 6,.m 26 7,oI 27 .add 25 26,oD 28 zS4 [(0,1,(zK 1)),(2,1,27)],oL 29 24,oS 30 4 [(.k (.agg zS4))],oQ 31 34 4 56 24 30,oJ 32 4 31 29,.s 4 32 28,.n 33 21,.f 34 3 33,.s 1 34 31] []) [.m 19 7,oI 20 .add 19 (zK 1),.m 7 20])) (rsq [.d 35 4 5,.m 36 6,.k 37 89 [35,36],.s 4 4 37] .ret))))
abbrev OX:List ak:=[.aW 4 4]
def k39:aq prog 39 2 Tryz.f39 OW OX:=.auto func39
def FH:AC:=rsq [oB 4 1,oB 5 2,oF 6] (.seq (drg [.m 10 0,.n 11 10,.f 12 3 11,.l 13 12,.d 14 4 4,.d 15 4 5,.k 16 87 [13,14,15],.m 9 16,.x 17 9 0,.x 18 9 1,.m 7 17,.m 8 18] [0,1,2,3,4,5,106,207,208,209,210,211]) (.seq (rif [.m 19 8,oI 20 .neq 19 (zK 0)] 20 (rsq [oF 6] .ret) .skip) (rsq [.m 21 0,.m 22 7,.n 23 21,.f 24 3 23,.s 1 24 22] (rsq [oV 6] .ret))))
abbrev FI:List ak:=[.tmp 6]
def OY:aq prog 38 3 Tryz.f38 FH FI:=.auto func38
def ov:AC:=rsq [oB 1 0,oF 2] (rsq [oK 3 0] (.seq (rif [.f 6 0 1,.l 7 6,oI 8 .eql 7 (zK 3)] 8 (.ax [oK 3 2]) .skip) (.seq (rif [.f 9 0 1,.l 10 9,oI 11 .eql 10 (zK 4)] 11 (.ax [oK 3 1]) .skip) (.seq (rif [.f 12 0 1,.l 13 12,oI 14 .lss 13 (zK 0),.m 15 14,yX 16 0 1 15,yT 17 16 15,yB 18 .gtr 17 (zK 4) 15,oP 19 15 zT 18,.m 20 19,yX 21 3 1 20,yT 22 21 20,.z 23 (.eM 22) 20,yW 24 3 20,yB 25 .lss 23 24 20,oP 26 20 zT 25] 26 (rsq [oF 2] .ret) .skip) (.seq (rif [.m 27 3,oI 28 .gtr 27 (zK 0),.m 29 28,yF 30 3 1 29,yL 31 30 29,yM 32 31 29,yV 33 3 29,yI 34 .neq 32 33 29,oP 35 29 34 zF] 35 (rsq [oF 2] .ret) .skip) (.seq (rsq [oK 4 0] (forL 0 1 [.m 36 4,.m 37 3,oI 38 .lss 36 37] 38 (rsq [.f 41 3 1,.l 42 41,.m 43 4,oJ 44 5 42 43,.d 45 5 44,.k 46 34 [45],.m 5 46] (rif [.m 47 5,oU 48 .not 47] 48 (rsq [oF 2] .ret) .skip)) [.m 39 4,oI 40 .add 39 (zK 1),.m 4 40])) (rsq [oV 2] .ret)))))))
abbrev r34:List ak:=[.tmp 2]
def k34:aq prog 34 1 Tryz.f34 ov r34:=.auto func34
def AJ:AC:=rsq [oB 1 0,oK 2 0] (rsq [oK 3 1] (.seq (rif [.f 5 0 1,.l 6 5,oI 7 .neq 6 (zK 3),.m 8 7,yF 9 0 1 8,yL 10 9 8,yI 11 .neq 10 (zK 4) 8,oP 12 8 11 zF] 12 (rsq [.m 13 3,.m 2 13] .ret) .skip) (.seq (rsq [oK 4 0] (forL 0 1 [.m 14 4,.f 15 3 1,.l 16 15,oL 17 16,oI 18 .lss 14 17] 18 (.ax [.m 21 3,.f 22 3 1,.l 23 22,.m 24 4,oJ 25 5 23 24,.d 26 5 25,.k 27 36 [26],oI 28 .add 21 27,.m 3 28]) [.m 19 4,oI 20 .add 19 (zK 1),.m 4 20])) (rsq [.m 29 3,.m 2 29] .ret))))
abbrev r36:List ak:=[.tmp 2]
def k36:aq prog 36 1 Tryz.f36 AJ r36:=.auto func36
def ow:AC:=rsq [oB 3 1,oA 4 zS4,oA 5 zS4] (.seq (rsq [.m 12 0,.n 13 12,.f 14 4 13,.l 15 14,oL 16 15,oI 17 .sub 16 (zK 1),.m 6 17] (forL 0 1 [.m 18 6,oI 19 .geq 18 (zK 0)] 19 (.seq (drg [.m 22 0,.n 23 22,.f 24 4 23,.l 25 24,.m 26 6,oJ 27 5 25 26,.f 28 0 27,.l 29 28,.f 30 1 3,.l 31 30,oI 32 .eql 29 31] [0,1,2,3,4,5,6,7,8,9,10]) (.cond 32 (.seq (drg [.m 33 0,.n 34 33,.f 35 4 34,.l 36 35,oL 37 36,oI 38 .sub 37 (zK 1),.m 39 6,oI 40 .sub 38 39,oD 41 zS4 [(0,1,(zK 3)),(2,1,40)],.m 42 0,.n 43 42,.f 44 4 43,.l 45 44,.m 46 6,oJ 47 5 45 46,.f 48 1 47,.d 49 4 48,.s 4 4 41,.s 4 5 49] [0,1,2,3,4,5,6,7,8,117,9,10,11,12,13,14,15,16,318]) .ret) .skip)) [.m 20 6,oI 21 .sub 20 (zK 1),.m 6 21])) (.seq (rif [.f 50 0 3,.l 51 50,oI 52 .eql 51 (zK 1)] 52 (.seq (rsq [oK 7 0] (forL 2 3 [.m 53 7,.m 54 0,.n 55 54,.f 56 5 55,.l 57 56,oL 58 57,oI 59 .lss 53 58] 59 (.seq (drg [.m 62 0,.n 63 62,.f 64 5 63,.l 65 64,.m 66 7,oJ 67 5 65 66,.f 68 0 67,.l 69 68,.f 70 1 3,.l 71 70,oI 72 .eql 69 71] [0,1,2,3,4,5,6,7,8,9,10]) (.cond 72 (.seq (drg [.m 73 7,oD 74 zS4 [(0,1,(zK 4)),(2,1,73)],.m 75 0,.n 76 75,.f 77 5 76,.l 78 77,.m 79 7,oJ 80 5 78 79,.f 81 1 80,.d 82 4 81,.s 4 4 74,.s 4 5 82] [0,1,110,2,3,4,5,6,7,8,9,311]) .ret) .skip)) [.m 60 7,oI 61 .add 60 (zK 1),.m 7 61])) (rsq [.m 83 0,.k 84 84 [83],oA 8 zS4,.s 4 8 84] (.seq (drg [.m 85 0,.m 86 0,.n 87 86,.f 88 5 87,.l 89 88,.f 90 1 3,.l 91 90,.d 92 4 8,oD 93 [zC,zI,zC,zI,.ae []] [(0,1,91),(1,4,92)],oS 94 5 [93],oQ 95 50 5 72 89 94,.n 96 85,.f 97 5 96,.s 1 97 95] [1,2,3,4,5,6,7,8,9,110,0,211,212,313]) (.seq (drg [.m 98 0,.n 99 98,.f 100 5 99,.l 101 100,oL 102 101,oI 103 .sub 102 (zK 1),oD 104 zS4 [(0,1,(zK 4)),(2,1,103)],.d 105 4 8,.s 4 4 104,.s 4 5 105] [0,1,2,3,4,5,6,108,7,309]) .ret)))) .skip) (.seq (drg [.m 107 0,.n 108 107,.f 109 0 108,.d 110 3 109,.f 111 1 3,.l 112 111,.k 113 136 [110,112],.m 106 113,.x 114 106 0,.x 115 106 1,oA 9 zS4,.s 4 9 114,.m 10 115] [110,0,1,2,3,4,5,6,7,8,311,9,412]) (rsq [.d 116 4 9,.k 117 35 [116],.m 11 117] (.seq (rif [.m 118 10,oU 119 .not 118,.m 120 119,yW 121 11 120,.z 122 (.un .not 121) 120,oP 123 120 zT 122] 123 (rsq [.m 124 0,.f 125 4 3,.l 126 125,.k 127 40 [124,(zK 120),126]] (rsq [oD 128 zS4 [],oD 129 zS4 [],.s 4 4 128,.s 4 5 129] .ret)) .skip) (.seq (drg [.f 130 1 3,.l 131 130,oD 132 zS4 [(1,1,131)],.m 133 0,.d 134 4 9,.k 135 39 [133,134],.s 4 4 132,.s 4 5 135] [3,4,105,0,1,2,306,507]) .ret))))))
abbrev ox:List ak:=[.aW 4 4,.aW 4 5]
def k83:aq prog 83 2 Tryz.f83 ow ox:=.auto func83
def c37:AC:=rsq [oB 3 1,oA 4 zS4,oA 5 zS4] (.seq (rif [.m 15 0,.n 16 15,.f 17 6 16,.l 18 17,oI 19 .neq 18 (zK 0)] 19 (rsq [oD 20 zS4 [],oD 21 zS4 [],.s 4 4 20,.s 4 5 21] .ret) .skip) (.seq (rsq [.f 22 0 3,.l 23 22] (.block 0 (rif [oI 25 .eql 23 (zK 2),.m 24 25] 24 (rsq [.f 26 2 3,.l 27 26,oD 28 zS4 [(0,1,(zK 2)),(2,1,27)],oD 29 zS4 [(1,1,(.k (.c (.str [105,110,116]))))],.s 4 4 28,.s 4 5 29] .ret) (.seq (rif [oI 31 .eql 23 (zK 0),.m 30 31] 30 .skip (.ax [oI 32 .eql 23 (zK 1),.m 30 32])) (.cond 30 (rsq [.m 33 0,.d 34 5 3,.k 35 83 [33,34],.x 36 35 0,.x 37 35 1,.s 4 4 36,.s 4 5 37] .ret) (rif [oI 39 .eql 23 (zK 4),.m 38 39] 38 (rsq [.m 40 0,.k 41 84 [40],oA 6 zS4,.s 4 6 41] (.seq (drg [.m 42 0,.m 43 0,.n 44 43,.f 45 4 44,.l 46 45,.f 47 1 3,.l 48 47,.d 49 4 6,oD 50 [zC,zI,zC,zI,.ae []] [(0,1,48),(1,4,49)],oS 51 5 [50],oQ 52 50 5 72 46 51,.n 53 42,.f 54 4 53,.s 1 54 52] [1,2,3,4,5,6,7,8,9,110,0,211,212,313]) (rsq [.m 56 0,.f 57 3 3,.l 58 57,oJ 59 5 58 (zK 0),.d 60 5 59,.k 61 37 [56,60],.m 55 61,.x 62 55 0,.x 63 55 1,oA 7 zS4,oA 8 zS4,.s 4 7 62,.s 4 8 63] (.seq (drg [.m 64 0,.m 65 0,.n 66 65,.f 67 4 66,.l 68 67,.m 69 0,.n 70 69,.f 71 4 70,.l 72 71,oL 73 72,oI 74 .sub 73 (zK 1),.o 75 (.gk 5 68 none (some 74) none),.n 76 64,.f 77 4 76,.s 1 77 75] [0,1,2,3,4,5,6,7,8,9,10,11,12,13,114]) (.seq (drg [.d 78 4 7,.k 79 85 [(zK 1),78],.d 80 4 6,.d 81 4 8,oS 82 4 [80,81],oD 83 zS4 [(0,1,(zK 2)),(3,1,82)],.s 4 4 79,.s 4 5 83] [0,101,306,2,3,4,5,507]) .ret))))) .skip)))))) (rsq [.m 85 0,.f 86 3 3,.l 87 86,oJ 88 5 87 (zK 0),.d 89 5 88,.k 90 37 [85,89],.m 84 90,.x 91 84 0,.x 92 84 1,oA 9 zS4,oA 10 zS4,.s 4 9 91,.s 4 10 92] (rsq [.m 94 0,.f 95 3 3,.l 96 95,oJ 97 5 96 (zK 1),.d 98 5 97,.k 99 37 [94,98],.m 93 99,.x 100 93 0,.x 101 93 1,oA 11 zS4,oA 12 zS4,.s 4 11 100,.s 4 12 101] (.seq (rif [.m 102 0,.n 103 102,.f 104 6 103,.l 105 104,oI 106 .neq 105 (zK 0)] 106 (rsq [oD 107 zS4 [],oD 108 zS4 [],.s 4 4 107,.s 4 5 108] .ret) .skip) (rsq [.m 109 0,.k 110 84 [109],oA 13 zS4,.s 4 13 110] (rsq [.m 111 0,.d 112 4 10,.d 113 4 12,.d 114 4 13,oS 115 4 [113,114],oD 116 zS4 [(0,1,(zK 2)),(3,1,115)],.k 117 38 [111,112,116],.m 14 117] (.seq (rif [.m 118 14,oU 119 .not 118] 119 (rsq [.m 120 0,.f 121 4 3,.l 122 121,.k 123 40 [120,(zK 121),122]] (rsq [oD 124 zS4 [],oD 125 zS4 [],.s 4 4 124,.s 4 5 125] .ret)) .skip) (.seq (drg [.d 126 4 9,.d 127 4 11,oS 128 4 [127],.k 129 86 [126,128],.d 130 4 13,.s 4 4 129,.s 4 5 130] [0,1,2,103,305,4,506]) .ret)))))))))
abbrev pV:List ak:=[.aW 4 4,.aW 4 5]
def wx:aq prog 37 2 Tryz.f37 c37 pV:=.auto func37
def kH:AC:=rsq [oB 3 0,oB 4 1,oB 5 2,oA 6 zS4,oN 7,oK 8 0,oK 9 0] (rsq [.d 28 5 4,.k 29 34 [28],.m 10 29] (rsq [.d 30 4 5,.k 31 35 [30],.m 11 31] (.seq (rif [.m 32 10,oU 33 .not 32,.m 34 33,yW 35 11 34,.z 36 (.un .not 35) 34,oP 37 34 zT 36,.m 38 37,.z 39 (.ez 5 4) 38,.z 40 (.call (.k (.fn 36 [])) [39]) 38,yB 41 .gtr 40 (zK 4096) 38,oP 42 38 zT 41] 42 (rsq [oD 43 zS4 [],.s 4 6 43,oN 7,oK 8 1,oK 9 0] .ret) .skip) (rsq [.d 44 3 3,oD 45 [.ae [],.ae [],.ae [],.ae [],.ae [],.ae [],zI,zI] [(0,3,44)],oB 46 45,.m 12 46] (rsq [.m 48 12,.d 49 5 4,.k 50 37 [48,49],.m 47 50,.x 51 47 0,.x 52 47 1,oA 13 zS4,oA 14 zS4,.s 4 13 51,.s 4 14 52] (.seq (rif [.m 53 12,.n 54 53,.f 55 6 54,.l 56 55,oI 57 .eql 56 (zK 0)] 57 (.seq (drg [.m 58 12,.d 59 4 14,.m 60 12,.d 61 4 5,.k 62 39 [60,61],.k 63 38 [58,59,62],.m 15 63] [2,3,104,0,1,305,406]) (rif [.m 64 15,oU 65 .not 64] 65 (.ax [.m 66 12,.f 67 4 4,.l 68 67,.k 69 40 [66,(zK 121),68]]) .skip)) .skip) (.seq (rif [.m 70 12,.n 71 70,.f 72 6 71,.l 73 72,oI 74 .neq 73 (zK 0)] 74 (.seq (drg [oD 75 zS4 [],.m 76 12,.n 77 76,.f 78 6 77,.l 79 78,.m 80 12,.n 81 80,.f 82 7 81,.l 83 82,.s 4 6 75,oN 7,.m 8 79,.m 9 83] [0,109,1,2,3,4,5,6,7,8,210,211,212]) .ret) .skip) (rsq [.d 84 4 13,.k 85 41 [84],.m 16 85] (.seq (rif [.m 86 16,oU 87 .not 86] 87 (rsq [oD 88 zS4 [],.s 4 6 88,oN 7,oK 8 122,oK 9 0] .ret) .skip) (rsq [.d 90 4 13,.k 91 42 [90,(zK 1000)],.m 89 91,.x 92 89 0,.x 93 89 1,.x 94 89 2,oA 17 zS4,.s 4 17 92,.m 18 93,.m 19 94] (.seq (rif [.m 95 19,oI 96 .neq 95 (zK 0),.m 97 96,.z 98 (.ez 4 17) 97,.z 99 (.call (.k (.fn 43 [])) [98]) 97,yB 100 .gtr 99 (zK 4096) 97,oP 101 97 zT 100] 101 (rsq [oD 102 zS4 [],.s 4 6 102,oN 7,oK 8 122,oK 9 0] .ret) .skip) (rsq [oK 20 4096] (.seq (rsq [oK 21 0] (forL 0 1 [.m 103 21,.m 104 12,.n 105 104,.f 106 5 105,.l 107 106,oL 108 107,oI 109 .lss 103 108] 109 (drg [.m 112 12,.n 113 112,.f 114 3 113,.l 115 114,.m 116 12,.n 117 116,.f 118 5 117,.l 119 118,.m 120 21,oJ 121 5 119 120,.f 122 1 121,.d 123 4 122,.m 124 20,.k 125 44 [115,123,124],.m 20 125] [0,1,2,3,4,5,6,7,8,9,10,11,12,113,214]) [.m 110 21,oI 111 .add 110 (zK 1),.m 21 111])) (.seq (rif [.m 126 20,oI 127 .lss 126 (zK 0)] 127 (rsq [oD 128 zS4 [],.s 4 6 128,oN 7,oK 8 122,oK 9 0] .ret) .skip) (rsq [oN 22] (.seq (rsq [oK 23 0] (forL 2 3 [.m 129 23,.m 130 12,.n 131 130,.f 132 5 131,.l 133 132,oL 134 133,oI 135 .lss 129 134] 135 (drg [.m 138 22,.m 139 12,.n 140 139,.f 141 3 140,.l 142 141,.m 143 12,.n 144 143,.f 145 5 144,.l 146 145,.m 147 23,oJ 148 5 146 147,.f 149 1 148,.d 150 4 149,.k 151 45 [142,150],oS 152 4 [151],oQ 153 34 4 56 138 152,.m 22 153] [1,2,3,4,5,6,7,8,9,10,11,12,113,0,214,315,416]) [.m 136 23,oI 137 .add 136 (zK 1),.m 23 137])) (rsq [.m 155 22,oD 156 zS4 [(1,1,(.k (.c (.str [111]))))],.k 157 48 [155,156],.k 158 47 [157],.k 159 46 [158],.m 154 159,.x 160 154 0,.x 161 154 1,oA 25 zS4,.m 24 160,.s 4 25 161] (rsq [oN 26] (.seq (rsq [oK 27 0] (forL 4 5 [.m 162 27,.m 163 12,.n 164 163,.f 165 5 164,.l 166 165,oL 167 166,oI 168 .lss 162 167] 168 (drg [.m 171 26,.m 172 12,.n 173 172,.f 174 5 173,.l 175 174,.m 176 27,oJ 177 5 175 176,.f 178 0 177,.l 179 178,.m 180 24,.m 181 27,oJ 182 4 180 181,.d 183 4 182,oD 184 [zC,zI,zC,zI,.ae []] [(0,1,179),(1,4,183)],oS 185 5 [184],oQ 186 50 5 72 171 185,.m 26 186] [0,1,2,3,4,5,6,7,8,9,10,11,12,13,14,115,216]) [.m 169 27,oI 170 .add 169 (zK 1),.m 27 170])) (rsq [.d 187 4 17,.m 188 26,.s 4 6 187,.m 7 188,oK 8 0,oK 9 0] .ret))))))))))))))))))))
abbrev oy:List ak:=[.aW 4 6,.tmp 7,.tmp 8,.tmp 9]
def OZ:aq prog 10 3 Tryz.f10 kH oy:=.auto func10
def AK:AC:=rsq [oB 4 1,oK 6 0] (.seq (rif [.m 9 2,oI 10 .lss 9 (zK 0)] 10 (rsq [.m 11 2,.m 6 11] .ret) .skip) (rsq [.m 12 0,.d 13 4 4,.k 14 94 [12,13],oA 7 zS4,.s 4 7 14] (rsq [.m 15 2,oI 16 .sub 15 (zK 1),.m 2 16] (.seq (rsq [oK 8 0] (forL 0 1 [.m 17 8,.f 18 3 7,.l 19 18,oL 20 19,oI 21 .lss 17 20] 21 (.ax [.m 24 0,.f 25 3 7,.l 26 25,.m 27 8,oJ 28 4 26 27,.d 29 4 28,.m 30 2,.k 31 44 [24,29,30],.m 2 31]) [.m 22 8,oI 23 .add 22 (zK 1),.m 8 23])) (rsq [.m 32 2,.m 6 32] .ret)))))
abbrev r44:List ak:=[.tmp 6]
def FJ:aq prog 44 3 Tryz.f44 AK r44:=.auto func44
def FK:AC:=rsq [oB 1 0,oK 2 0] (.seq (rif [.f 5 0 1,.l 6 5,oI 7 .eql 6 (zK 1)] 7 (rsq [.f 8 2 1,.l 9 8,.o 10 (.mx 9 (zK (-1))),oI 11 .add 10 (zK 1),.o 12 (.mx 11 (zK 0)),.m 2 12] .ret) .skip) (rsq [oK 3 0] (.seq (rsq [oK 4 0] (forL 0 1 [.m 13 4,.f 14 3 1,.l 15 14,oL 16 15,oI 17 .lss 13 16] 17 (.ax [.m 20 3,.f 21 3 1,.l 22 21,.m 23 4,oJ 24 4 22 23,.d 25 4 24,.k 26 88 [25],.o 27 (.mx 20 26),.m 3 27]) [.m 18 4,oI 19 .add 18 (zK 1),.m 4 19])) (rsq [.m 28 3,.m 2 28] .ret))))
abbrev r88:List ak:=[.tmp 2]
def k88:aq prog 88 1 Tryz.f88 FK r88:=.auto func88
def O0:AC:=rsq [oB 3 1,oA 4 zS4] (rsq [.d 7 4 3,oA 5 zS4,.s 4 5 7] (.seq (rsq [.m 8 0,oL 9 8,oI 10 .sub 9 (zK 1),.m 6 10] (forL 0 1 [.m 11 6,oI 12 .geq 11 (zK 0)] 12 (drg [.m 15 0,.m 16 6,oJ 17 4 15 16,.d 18 4 17,.d 19 4 5,oS 20 4 [18,19],oD 21 zS4 [(0,1,(zK 2)),(3,1,20)],.s 4 5 21] [0,1,2,3,4,5,6,107]) [.m 13 6,oI 14 .sub 13 (zK 1),.m 6 14])) (rsq [.d 22 4 5,.s 4 4 22] .ret)))
abbrev r48:List ak:=[.aW 4 4]
def k48:aq prog 48 2 Tryz.f48 O0 r48:=.auto func48
end Go.Proofs.YtdlkenpilhakfaaGreatDoor
namespace Go.Lamb
open Go Go.RowKit
def aaY(m n:Int)(b:0<=m):jJ m n=max m (jJ 0 n):=by
 unfold jJ;generalize aE.wrap ((if-1>n then-1 else n)+1)=w;split<;>split<;>omega
mutual
def FL:∀(p:aa) (m:Int),0<=m->bS m p=max m (bS 0 p)
 | .mk k s n l,m,b=>by
   rw[bS,bS];split
   ·exact aaY m n b
   ·exact AL l m b
def AL:∀(l:List aa) (m:Int),0<=m->cc m l=max m (cc 0 l)
 |[],m,b=>by rw[cc,cc];omega
 |x::l,m,b=>by
  rw[cc,cc];have c:=FL x m b;have e:=FL x 0 (ei _);rw[AL l (bS m x) (by omega),AL l (bS 0 x) (by omega)];omega
end
def aaZ{l:List aa}{i:Nat}(b:i<l.length):cc 0 (l.take (i+1))=max (cc 0 (l.take i)) (bS 0 l[i]):=by
 rw[eW b,yq,cc,cc];exact FL _ _ (by have:=AL (l.take i) 0 (ei _);omega)
def aa0{l:List aa}{i:Nat}(b:i<l.length)(u:aa):du (l.drop i) u=aa.arr l[i] (du (l.drop (i+1)) u):=by rw[gg b];rfl
end Go.Lamb
namespace Go.Proofs.YtdlkenpilhakfaaGreatDoor
open Go.RowKit Go.Lamb
section
attribute [local go_sem] aa.v aa.aG aO aQ aL aH aM
def FM:∀(l:List al) (n:Int),1<=n->(∀q∈l,0<=ba q)->0<=cv n l
 |[],n,hn,_=>by rw[cv];omega
 |x::l,n,hn,h=>by
  have c:=h x (aZ ..);rw[cv,if_neg (by omega)];exact FM l _ (by omega) (fun q b=>h q (bH _ b))
def O1(t:al):t.l.length<=bn t:=by
 have h:∀l:List al,l.length<=cz l:=by
  intro l;induction l with
  |nil=>exact be _
  |cons x l b=>rw[bG,cz,nV];omega
 rw[nV];have:=h t.l;omega
def aa1(w0:World)(p:aa):∀σ:H,DC prog w0 88 [p.v] σ (Same (I (bS 0 p)) σ):=by
 refine aa.ind (P:=fun p=>∀σ:H,DC prog w0 88 [p.v] σ (Same (I (bS 0 p)) σ)) (fun p u σ=>?_) p;refine k88.go rfl (fun g r=>?_);have h:=mX r (aZ ..);rw[yp];by_cases c:p.k=1
 ·rw[if_pos c];have t:(p.k==1)=true:=by simp[c]
  have e:jJ 0 p.n=(if 0>aE.wrap ((if-1>p.n then-1 else p.n)+1)then 0 else aE.wrap ((if-1>p.n then-1 else p.n)+1)):=by
   unfold jJ;generalize aE.wrap ((if-1>p.n then-1 else p.n)+1)=w;split<;>split<;>omega
  rw[e];clear e c u;apply bl;simp only[go_sem,FK,t];refine wY ?_;simp only[go_sem];exact wF g
 ·rw[if_neg c];have t:(p.k==1)=false:=by simp[c]
  clear c;apply bl;simp only[go_sem,FK,t];refine wN ?_;simp only[go_sem];refine W.aY (fun i=>i<=p.l.length) (fun i=>⟨((((base.put (some 1) (.ptr σ.length 0)).put (some 2) (I 0)).put (some 3) (I (cc 0 (p.l.take i)))).put (some 4) (I (i:Int))),σ++[.cells p.v.af]⟩) (fun i=>p.l.length-i) 0 (be _) ?_ (fun i F=>?_)
  ·simp only[List.take_zero,cc];exact wV
  by_cases b:i<p.l.length
  ·have j:(i:Int)<(p.l.length:Int):=by omega
   have A:p.l[i]?=some p.l[i]:=aN b;have hw:=cF b h;have D:=fun σ=>u _ (bg b) σ;have e:=aaZ b;have E:(if bS 0 p.l[i]>cc 0 (p.l.take i)then bS 0 p.l[i]else cc 0 (p.l.take i))=cc 0 (p.l.take (i+1)):=by rw[e];split<;>omega
   generalize p.l[i]=x at*
   apply bl;simp only[go_sem,j];refine wY ?_;simp only[go_sem,j,bu,A];(refine db (D _) ?_;simp only[go_sem,E,hw]);refine .inv ⟨i+1,b,by omega,?_⟩;exact wV
  ·have j:¬(i:Int)<(p.l.length:Int):=by omega
   have e:p.l.take i=p.l:=List.take_of_length_le (by omega);apply bl;simp only[go_sem,j];refine wN ?_;simp only[go_sem];rw[e];exact wF g
def aa2(w0:World)(e:aa)(fs:List aa)(hl:fs.length<=1000000)(σ:H):DC prog w0 48 [.c (aM fs),e.v] σ (Same (du fs e).v σ):=by
 refine k48.go rfl (fun g r=>?_);have i:aE.wrap ((fs.length:Int)-1)=(fs.length:Int)-1:=by rw[a7]<;>omega
 apply bl;simp only[go_sem,O0,i];refine W.aY (fun k=>k<=fs.length) (fun k=>⟨((((base.put (some 0) (.c (.sl (fs.map aa.cs)))).put (some 4) (.ptr (σ.length+1) 0)).put (some 5) (.ptr (σ.length+2) 0)).put (some 6) (I ((k:Int)-1))),σ++[.cells e.v.af,.cells [I 0,S [],I 0,.ae []],.cells (du (fs.drop k) e).v.af]⟩) (fun k=>k) fs.length (aA _) ?_ (fun k t=>?_)
 ·rw[xx];exact wV
 cases k with
 |zero=>
  have j:¬((((0:Nat):Int))-1>=0):=by omega
  rw[iY];apply bl;simp only[go_sem,j];refine wN ?_;simp only[go_sem];exact wF g
 |succ k=>
  have u:(((k+1:Nat):Int))-1=(k:Int):=by omega
  have h:k<fs.length:=t;have j:(k:Int)>=0:=by omega
  have h0:(0:Int)<=(k:Int):=by omega
  have w:(k:Int)<(fs.length:Int):=by omega
  have A:fs[k]?=some fs[k]:=aN h;have hw:aE.wrap ((k:Int)-1)=(k:Int)-1:=by rw[a7]<;>omega
  have p:=aa0 h e;have D:∀a b:aa,(aa.arr a b).v= .agg [I 2,S [],I 0,.c (.sl [a.cs,b.cs])]:=fun _ _=>rfl;rw[u];generalize fs[k]=x at*;generalize du (fs.drop (k+1)) e=a at*
  apply bl;simp only[go_sem,j];refine wY ?_;simp only[go_sem];apply W.aD (aF _ _)
  case hc=>
   (apply ab.aj;simp only[go_sem,h0,w,A]);exact ab.nil
  apply bl;simp only[go_sem,hw];refine .inv ⟨k,by omega,by omega,?_⟩;rw[p];simp only[go_sem,aa.arr];exact wQ g
def O2(w0:World)(t:al):bn t<=1000000->∀(σ:H),DC prog w0 34 [t.v] σ (Same (B (decide (0<=ba t))) σ):=by
 refine al.ind (P:=fun t=>bn t<=1000000->∀(σ:H),DC prog w0 34 [t.v] σ (Same (B (decide (0<=ba t))) σ)) (fun t ih hn σ=>?_) t;refine k34.go rfl (fun c hsz=>?_);have hS:ba t=if t.k=0\/t.k=1\/t.k=2 then 1 else if(t.k=4/\t.l.length=1)\/(t.k=3/\t.l.length=2)then cv 1 t.l else-1:=by
  obtain⟨k,nm,n,l,pos⟩:=t;rw[ba];rfl
 have hnl:=nV t;have L:∀q∈t.l,∀σ,DC prog w0 34 [q.v] σ (Same (B (decide (0<=ba q))) σ):=fun q Q σ=>ih q Q (by have:=AD Q;omega) σ;clear ih;by_cases Z:t.k=0\/t.k=1\/t.k=2
 ·rw[hS,if_pos Z];have g3:(t.k==3)=false:=by simp;omega
  have g4:(t.k==4)=false:=by simp;omega
  have p:¬t.k<0:=by omega
  have u:¬t.k>4:=by omega
  have w:¬((t.l.length:Int)<0):=by omega
  have z:¬(0:Int)<0:=by decide
  have z':¬(0:Int)>0:=by decide
  clear Z hS;apply bl;simp only[go_sem,ov,g3,g4];refine wN ?_;simp only[go_sem,g4];refine wN ?_;simp only[go_sem,p,u,w];refine wN ?_;simp only[go_sem,z'];refine wN ?_;simp only[go_sem];refine W.aY (α:=Unit) (fun _=>True) (fun _=>⟨((((base.put (some 1) (.ptr σ.length 0)).put (some 2) (B false)).put (some 3) (I 0)).put (some 4) (I 0)),σ++[.cells t.v.af]⟩) (fun _=>0) () trivial ?_ (fun _ _=>?_)
  ·exact wV
  apply bl;simp only[go_sem,z];refine wN ?_;simp only[go_sem];exact wF c
 by_cases R:t.k=4
 ·have g3:(t.k==3)=false:=by simp[R]
  have g4:(t.k==4)=true:=by simp[R]
  have p:¬t.k<0:=by omega
  have u:¬t.k>4:=by omega
  have T:decide (0<=ba t)=(decide (t.l.length=1)&&decide (0<=cv 1 t.l)):=by
   rw[hS,if_neg (by omega)];by_cases hl:t.l.length=1
   ·rw[if_pos (by omega),decide_eq_true hl,jz]
   ·rw[if_neg (by omega),decide_eq_false hl,nF];rfl
  rw[T];clear T hS R;by_cases hlt:t.l.length<1
  ·have w:((t.l.length:Int)<1):=by omega
   rw[decide_eq_false (by omega),nF];apply bl;simp only[go_sem,ov,g3,g4];refine wN ?_;simp only[go_sem,g4];refine wY ?_;simp only[go_sem,p,u,w];refine wY ?_;simp only[go_sem];exact wF c
  have w:¬((t.l.length:Int)<1):=by omega
  by_cases hl:t.l.length=1
  ·have M:((t.l.length:Int)==1)=true:=by simp;omega
   have q3:((0:Int)<1):=by decide
   rw[decide_eq_true hl,jz];apply bl;simp only[go_sem,ov,g3,g4];refine wN ?_;simp only[go_sem,g4];refine wY ?_;simp only[go_sem,p,u,w];refine wN ?_;simp only[go_sem,bne,M,q3];refine wN ?_;simp only[go_sem];refine W.aY (fun i=>i<=1/\∀j (A:j<t.l.length),j<i->0<=ba t.l[j]) (fun i=>⟨((((base.put (some 1) (.ptr σ.length 0)).put (some 2) (B false)).put (some 3) (I 1)).put (some 4) (I (i:Int))),σ++[.cells t.v.af]⟩) (fun i=>1-i) 0 ⟨be _,fun j _ h=>absurd h (fe _)⟩ ?_ (fun i U=>?_)
   ·exact wV
   obtain⟨U,F⟩:=U;by_cases hin:i<1
   ·have G:(i:Int)<1:=by omega
    have b:i<t.l.length:=by omega
    have D:(i:Int)<(t.l.length:Int):=by omega
    have X:t.l[i]?=some t.l[i]:=aN b;have hw:=cF b (by omega:t.l.length<=9223372036854775807);have J:=fun σ=>L _ (bg b) σ;by_cases r:0<=ba t.l[i]
    ·rw[decide_eq_true r]at J;have N:∀j (A:j<t.l.length),j<i+1->0<=ba t.l[j]:=fun j A h=>by
      by_cases O:j=i
      ·subst O;exact r
      ·exact F j A (by omega)
     clear r F;generalize t.l[i]=x at*
     apply bl;simp only[go_sem,G];refine wY ?_;simp only[go_sem,D,bu,X];(refine db (J _) ?_;simp only[go_sem]);refine wN ?_;simp only[go_sem,hw];refine .inv ⟨i+1,⟨by omega,N⟩,by omega,?_⟩;exact wV
    ·rw[decide_eq_false r]at J;have g:¬0<=cv 1 t.l:=fun h=>r (tC t.l 1 (by omega) h _ (bg b));rw[decide_eq_false g];clear r F g;generalize t.l[i]=x at*
     apply bl;simp only[go_sem,G];refine wY ?_;simp only[go_sem,D,bu,X];(refine db (J _) ?_;simp only[go_sem]);refine wY ?_;simp only[go_sem];exact wF c
   ·have G:¬(i:Int)<1:=by omega
    have E:0<=cv 1 t.l:=FM t.l 1 (by omega) (fun q Q=>by
     obtain⟨j,A,e⟩:=eH Q;rw[<-e];exact F j A (by omega))
    rw[decide_eq_true E];apply bl;simp only[go_sem,G];refine wN ?_;simp only[go_sem];exact wF c
  ·have M:((t.l.length:Int)==1)=false:=by simp;omega
   rw[decide_eq_false hl,nF];apply bl;simp only[go_sem,ov,g3,g4];refine wN ?_;simp only[go_sem,g4];refine wY ?_;simp only[go_sem,p,u,w];refine wN ?_;simp only[go_sem,bne,M];refine wY ?_;simp only[go_sem];exact wF c
 by_cases Y:t.k=3
 ·have g3:(t.k==3)=true:=by simp[Y]
  have g4:(t.k==4)=false:=by simp[Y]
  have p:¬t.k<0:=by omega
  have u:¬t.k>4:=by omega
  have T:decide (0<=ba t)=(decide (t.l.length=2)&&decide (0<=cv 1 t.l)):=by
   rw[hS,if_neg (by omega)];by_cases hl:t.l.length=2
   ·rw[if_pos (by omega),decide_eq_true hl,jz]
   ·rw[if_neg (by omega),decide_eq_false hl,nF];rfl
  rw[T];clear T hS Y;by_cases hlt:t.l.length<2
  ·have w:((t.l.length:Int)<2):=by omega
   rw[decide_eq_false (by omega),nF];apply bl;simp only[go_sem,ov,g3,g4];refine wY ?_;simp only[go_sem,g4];refine wN ?_;simp only[go_sem,p,u,w];refine wY ?_;simp only[go_sem];exact wF c
  have w:¬((t.l.length:Int)<2):=by omega
  by_cases hl:t.l.length=2
  ·have M:((t.l.length:Int)==2)=true:=by simp;omega
   have q3:((0:Int)<2):=by decide
   rw[decide_eq_true hl,jz];apply bl;simp only[go_sem,ov,g3,g4];refine wY ?_;simp only[go_sem,g4];refine wN ?_;simp only[go_sem,p,u,w];refine wN ?_;simp only[go_sem,bne,M,q3];refine wN ?_;simp only[go_sem];refine W.aY (fun i=>i<=2/\∀j (A:j<t.l.length),j<i->0<=ba t.l[j]) (fun i=>⟨((((base.put (some 1) (.ptr σ.length 0)).put (some 2) (B false)).put (some 3) (I 2)).put (some 4) (I (i:Int))),σ++[.cells t.v.af]⟩) (fun i=>2-i) 0 ⟨be _,fun j _ h=>absurd h (fe _)⟩ ?_ (fun i U=>?_)
   ·exact wV
   obtain⟨U,F⟩:=U;by_cases hin:i<2
   ·have G:(i:Int)<2:=by omega
    have b:i<t.l.length:=by omega
    have D:(i:Int)<(t.l.length:Int):=by omega
    have X:t.l[i]?=some t.l[i]:=aN b;have hw:=cF b (by omega:t.l.length<=9223372036854775807);have J:=fun σ=>L _ (bg b) σ;by_cases r:0<=ba t.l[i]
    ·rw[decide_eq_true r]at J;have N:∀j (A:j<t.l.length),j<i+1->0<=ba t.l[j]:=fun j A h=>by
      by_cases O:j=i
      ·subst O;exact r
      ·exact F j A (by omega)
     clear r F;generalize t.l[i]=x at*
     apply bl;simp only[go_sem,G];refine wY ?_;simp only[go_sem,D,bu,X];(refine db (J _) ?_;simp only[go_sem]);refine wN ?_;simp only[go_sem,hw];refine .inv ⟨i+1,⟨by omega,N⟩,by omega,?_⟩;exact wV
    ·rw[decide_eq_false r]at J;have g:¬0<=cv 1 t.l:=fun h=>r (tC t.l 1 (by omega) h _ (bg b));rw[decide_eq_false g];clear r F g;generalize t.l[i]=x at*
     apply bl;simp only[go_sem,G];refine wY ?_;simp only[go_sem,D,bu,X];(refine db (J _) ?_;simp only[go_sem]);refine wY ?_;simp only[go_sem];exact wF c
   ·have G:¬(i:Int)<2:=by omega
    have E:0<=cv 1 t.l:=FM t.l 1 (by omega) (fun q Q=>by
     obtain⟨j,A,e⟩:=eH Q;rw[<-e];exact F j A (by omega))
    rw[decide_eq_true E];apply bl;simp only[go_sem,G];refine wN ?_;simp only[go_sem];exact wF c
  ·have M:((t.l.length:Int)==2)=false:=by simp;omega
   rw[decide_eq_false hl,nF];apply bl;simp only[go_sem,ov,g3,g4];refine wY ?_;simp only[go_sem,g4];refine wN ?_;simp only[go_sem,p,u,w];refine wN ?_;simp only[go_sem,bne,M];refine wY ?_;simp only[go_sem];exact wF c
 have g3:(t.k==3)=false:=by simp[Y]
 have g4:(t.k==4)=false:=by simp[R]
 rw[hS,if_neg Z,if_neg (by omega)];have hc:t.k<0\/(¬t.k<0/\t.k>4):=by omega
 clear hS Z Y R;rcases hc with p|⟨p,u⟩
 all_goals
  apply bl;simp only[go_sem,ov,g3,g4];refine wN ?_;simp only[go_sem,g4];refine W.no rfl ?_
  first|(apply bl;simp only[go_sem,p,u])|(apply bl;simp only[go_sem,p])
  refine wY ?_;simp only[go_sem];exact wF c
def O3(w0:World)(t:al):bn t<=1000000->0<=ba t->∀(σ:H),DC prog w0 36 [t.v] σ (Same (I (ba t)) σ):=by
 refine al.ind (P:=fun t=>bn t<=1000000->0<=ba t->∀(σ:H),DC prog w0 36 [t.v] σ (Same (I (ba t)) σ)) (fun t N hn hp σ=>?_) t;refine k36.go rfl (fun p Q=>?_);have hS:ba t=if t.k=0\/t.k=1\/t.k=2 then 1 else if(t.k=4/\t.l.length=1)\/(t.k=3/\t.l.length=2)then cv 1 t.l else-1:=by
  obtain⟨k,T,n,l,pos⟩:=t;rw[ba];rfl
 have R:=nV t;have j:∀q∈t.l,0<=ba q->∀σ,DC prog w0 36 [q.v] σ (Same (I (ba q)) σ):=fun q w hp σ=>N q w (by have:=AD w;omega) hp σ;clear N;by_cases A:t.k=3
 ·have g3:(t.k==3)=true:=by simp[A]
  have g4:(t.k==4)=false:=by simp[A]
  have D:ba t=cv 1 t.l:=by
   rw[hS,if_neg (by omega)]at hp⊢;split at hp
   ·rename_i h;rw[if_pos h]
   ·omega
  rw[D]at hp⊢;clear D hS A;apply bl;simp only[go_sem,AJ,bne,g3,g4];refine wN ?_;simp only[go_sem];refine W.aY (α:=Nat×Int) (fun x=>x.1<=t.l.length/\1<=x.2/\x.2+cz (t.l.drop x.1)<=1000000/\cv 1 t.l=cv x.2 (t.l.drop x.1)) (fun x=>⟨((((base.put (some 1) (.ptr σ.length 0)).put (some 2) (I 0)).put (some 3) (I x.2)).put (some 4) (I (x.1:Int))),σ++[.cells t.v.af]⟩) (fun x=>t.l.length-x.1) (0,1) ⟨be _,by decide,by dsimp only;rw[iY];omega,by rw[iY]⟩ ?_ (fun x r=>?_)
  ·exact wV
  obtain⟨i,m⟩:=x;obtain⟨G,J,E,c⟩:=r;dsimp only at G J E c⊢;by_cases b:i<t.l.length
  ·have g:(i:Int)<(t.l.length:Int):=by omega
   have r:t.l[i]?=some t.l[i]:=aN b;have hw:=cF b (by have:=O1 t;omega:t.l.length<=9223372036854775807);have w:=tC t.l 1 (by omega) hp _ (bg b);have L:=fun σ=>j _ (bg b) w σ;have M:=(AE t.l[i]).2;rw[gg b,cv,if_neg (by omega)]at c;rw[gg b,cz]at E;have u:aE.wrap (m+ba t.l[i])=m+ba t.l[i]:=by rw[a7]<;>omega
   clear hp;generalize t.l[i]=x at*
   apply bl;simp only[go_sem,g];refine wY ?_;simp only[go_sem,g,bu,r];(refine db (L _) ?_;simp only[go_sem,u,hw]);refine .inv ⟨(i+1,m+ba x),⟨b,by dsimp only;omega,by dsimp only;omega,c⟩,by dsimp only;omega,?_⟩;exact wV
  ·have g:¬(i:Int)<(t.l.length:Int):=by omega
   rw[c,p7 (by omega),cv];apply bl;simp only[go_sem,g];refine wN ?_;simp only[go_sem];exact wF p
 by_cases F:t.k=4
 ·have g3:(t.k==3)=false:=by simp[F]
  have g4:(t.k==4)=true:=by simp[F]
  have D:ba t=cv 1 t.l:=by
   rw[hS,if_neg (by omega)]at hp⊢;split at hp
   ·rename_i h;rw[if_pos h]
   ·omega
  rw[D]at hp⊢;clear D hS F;apply bl;simp only[go_sem,AJ,bne,g3,g4];refine wN ?_;simp only[go_sem];refine W.aY (α:=Nat×Int) (fun x=>x.1<=t.l.length/\1<=x.2/\x.2+cz (t.l.drop x.1)<=1000000/\cv 1 t.l=cv x.2 (t.l.drop x.1)) (fun x=>⟨((((base.put (some 1) (.ptr σ.length 0)).put (some 2) (I 0)).put (some 3) (I x.2)).put (some 4) (I (x.1:Int))),σ++[.cells t.v.af]⟩) (fun x=>t.l.length-x.1) (0,1) ⟨be _,by decide,by dsimp only;rw[iY];omega,by rw[iY]⟩ ?_ (fun x r=>?_)
  ·exact wV
  obtain⟨i,m⟩:=x;obtain⟨G,J,E,c⟩:=r;dsimp only at G J E c⊢;by_cases b:i<t.l.length
  ·have g:(i:Int)<(t.l.length:Int):=by omega
   have r:t.l[i]?=some t.l[i]:=aN b;have hw:=cF b (by have:=O1 t;omega:t.l.length<=9223372036854775807);have w:=tC t.l 1 (by omega) hp _ (bg b);have L:=fun σ=>j _ (bg b) w σ;have M:=(AE t.l[i]).2;rw[gg b,cv,if_neg (by omega)]at c;rw[gg b,cz]at E;have u:aE.wrap (m+ba t.l[i])=m+ba t.l[i]:=by rw[a7]<;>omega
   clear hp;generalize t.l[i]=x at*
   apply bl;simp only[go_sem,g];refine wY ?_;simp only[go_sem,g,bu,r];(refine db (L _) ?_;simp only[go_sem,u,hw]);refine .inv ⟨(i+1,m+ba x),⟨b,by dsimp only;omega,by dsimp only;omega,c⟩,by dsimp only;omega,?_⟩;exact wV
  ·have g:¬(i:Int)<(t.l.length:Int):=by omega
   rw[c,p7 (by omega),cv];apply bl;simp only[go_sem,g];refine wN ?_;simp only[go_sem];exact wF p
 have g3:(t.k==3)=false:=by simp[A]
 have g4:(t.k==4)=false:=by simp[F]
 have e:ba t=1:=by
  rw[hS]at hp⊢;by_cases O:t.k=0\/t.k=1\/t.k=2
  ·rw[if_pos O]
  ·rw[if_neg O,if_neg (by omega)]at hp;omega
 rw[e];clear hS e A F;apply bl;simp only[go_sem,AJ,bne,g3,g4];refine wY ?_;simp only[go_sem];exact wF p
def aa3(w0:World){s:List aa}{y:V}{σ:H}{t u:aa}{n r:Int}(h0:0<=n)(G:n<=1000000)(hd:∀L,DC prog w0 94 [y,t.v] (σ++L) (Same u.v (σ++L)))(hl:u.l.length<=1000000)(a:gD s u.l (n-1) r)
  (e:∀(x:aa) (m c:Int),x∈u.l->m<=n-1->-1<=m->ll s x m c->∀L,DC prog w0 44 [y,x.v,I m] (σ++L) (Same (I c) (σ++L))):DC prog w0 44 [y,t.v,I n] σ (Same (I r) σ):=by
 refine FJ.go rfl (fun j J=>?_);have g:¬n<0:=by omega
 have p:aE.wrap (n-1)=n-1:=by rw[a7]<;>omega
 apply bl;simp only[go_sem,AK,g];refine wN ?_;simp only[go_sem];(refine db (hd _) ?_;simp only[go_sem,p]);refine W.aY (α:=Nat×Int) (fun x=>x.1<=u.l.length/\x.2<=n-1/\-1<=x.2/\gD s (u.l.drop x.1) x.2 r) (fun x=>⟨((((((base.put (some 0) (y)).put (some 2) (I x.2)).put (some 4) (.ptr σ.length 0)).put (some 6) (I 0)).put (some 7) (.ptr (σ.length+1) 0)).put (some 8) (I (x.1:Int))),σ++[.cells t.v.af,.cells u.v.af]⟩) (fun x=>u.l.length-x.1) (0,n-1) ⟨be _,ei _,by show-1<=n-1;omega,a⟩ ?_ (fun x M=>?_)
 ·dsimp only
  exact wV
 clear a;obtain⟨i,m⟩:=x;obtain⟨N,F,w,h⟩:=M;dsimp only at N F w h⊢;by_cases b:i<u.l.length
 ·have z:(i:Int)<(u.l.length:Int):=by omega
  have A:u.l[i]?=some u.l[i]:=aN b;have hw:=cF b (by omega:u.l.length<=9223372036854775807);rw[gg b]at h;cases h with
  |@cons _ _ _ c _ D O=>
   have P:=fun L=>e u.l[i] m c (bg b) F w D L;have Q:=wc D;have E:=we D w;generalize u.l[i]=x at*
   apply bl;simp only[go_sem,z];refine wY ?_;simp only[go_sem,z,bu,A];(refine db (P _) ?_;simp only[go_sem,hw]);refine .inv ⟨(i+1,c),⟨b,by show c<=n-1;omega,E,O⟩,by show u.l.length-(i+1)<u.l.length-i;omega,?_⟩;dsimp only
   exact wV
 ·obtain rfl:i=u.l.length:=by omega
  rw[xx]at h;cases h;have z:¬((u.l.length:Nat):Int)<((u.l.length:Nat):Int):=by omega
  apply bl;simp only[go_sem,z];refine wN ?_;simp only[go_sem];exact wF j
def aa4(w0:World){n0 N:Nat}{s:List aa}(g:bO N s)(U:N<=1000000){y:V}:∀(d:Nat) (t:aa) (n r:Int),n<=(d:Int)-1->-1<=n->n<=1000000->ll s t n r->ay s.length t->aw t<=N->∀{σ:H},eF n0 σ y s->DC prog w0 44 [y,t.v,I n] σ (Same (I r) σ):=by
 intro d;induction d with
 |zero=>
  intro t n r hn _ _ h _ _ σ i;cases h with
  |neg h=>
   refine FJ.go rfl (fun c j=>?_);apply bl;simp only[go_sem,AK,h];refine wY ?_;simp only[go_sem];exact wF c
  |go h _ _=>omega
 |succ d p=>
  intro t n r hn Q w h A D σ i;cases h with
  |neg h=>
   refine FJ.go rfl (fun c j=>?_);apply bl;simp only[go_sem,AK,h];refine wY ?_;simp only[go_sem];exact wF c
  |@go _ u _ _ k h E a=>
   have M:=(oc g.right.holds E A).1;have O:=kX g.size E (qY g) A D;have R:=lj u.l;have b:∀x∈u.l,ay s.length x/\aw x<=N:=fun x e=>by
    refine⟨?_,by have:=jm e;rw[ct]at O;omega⟩;by_cases P:u.k=1
    ·obtain⟨_,_,_,F⟩:=M.var P;rw[F]at e;cases e
    ·exact M.dA P e
   exact aa3 w0 (by omega) w (fun L=>rF w0 g.right.holds E A (i.ext L)) (by rw[ct]at O;omega) a (fun x m T e X G J L=>p x m T (by omega) G (by omega) J (b x e).1 (b x e).2 (i.ext L))
end
section
variable {n0 p:Nat} {σ τ:H} {g:Sg} {f:az} {y3 y4 y5:V}
def aS.gB(h:aS n0 σ p g f y3 y4 y5)(k:df n0 σ τ){f':az}{u:V}(i:f'.bound=f.bound)(t:f'.vars=f.vars)(w:f'.live=true->eF n0 τ u f'.sub):aS n0 (τ.set p (bh g f' u y4 y5)) p g f' u y4 y5:=by
 have hp:=k.cells h.here;have j:=(aI.1 hp).1;have r:∀(b:Nat) (B:ad),(∀cs tg,B≠ .cells cs tg)->τ[b]?=some B->(τ.set p (bh g f' u y4 y5))[b]?=some B:=fun b B A i=>oe i (fun e=>by
  rw[hp]at e;injection e with e;exact A _ _ e.symm)
 refine⟨bW j,h.le,fun hl=>(w hl).mono fun b c _ i=>r b _ (fun _ _ e=>by cases e) i,?_,?_⟩
 ·rw[i];exact h.dn.mono fun b c _ i=>r b _ (fun _ _ e=>by cases e) (k.cg b _ (fun _ e=>by cases e) i)
 ·rw[t];exact h.var.mono fun b c _ i=>r b _ (fun _ _ e=>by cases e) (k.cg b _ (fun _ e=>by cases e) i)
def aS.dead(h:aS n0 σ p g f y3 y4 y5)(k:df n0 σ τ){f':az}(he:f'.e=f.e)(j:f'.pos=f.pos)(i:f'.bound=f.bound)(r:f'.vars=f.vars)(t:f'.live=false):aS n0 τ p g f' y3 y4 y5:=by
 refine⟨?_,h.le,fun e=>(by rw[t]at e;cases e),?_,?_⟩
 ·have:=k.cells h.here;unfold bh;rw[he,j];exact this
 ·rw[i];exact h.dn.mono fun b c _ i=>k.cg b _ (fun _ e=>by cases e) i
 ·rw[r];exact h.var.mono fun b c _ i=>k.cg b _ (fun _ e=>by cases e) i
attribute [local go_sem] aa.v aa.aG aO aQ aL aH aM
def FN(w0:World)(h:aS n0 σ p g f y3 y4 y5)(e pos:Int):DC prog w0 40 [.ptr p 0,I e,I pos] σ (fun d τ=>d= .au []/\aS n0 τ p g (f.fail e pos) y3 y4 y5/\Kept n0 p σ τ):=by
 refine k40.cl rfl (fun c i=>?_);have hp:=h.here;unfold bh at hp;have b:=h.lt;by_cases he:f.e=0
 ·have k0:(f.e==0)=true:=by simp[he]
  have hf:f.fail e pos={f with e:=e,pos:=pos}:=by unfold az.fail;rw[if_pos he]
  rw[hf];have j:=h.put (f':={f with e:=e,pos:=pos}) h.sub h.dn h.var;have s1:∀B,(σ.set p B)[p]?=some B:=fun B=>bW b;clear he;apply bl;simp only[go_sem,c40,hp,k0];refine wY ?_;simp only[go_sem,hp,s1,List.set_set];exact W.done ⟨_,_,rfl,.rfl _,rfl,j⟩
 ·have k0:(f.e==0)=false:=by simp[he]
  have hf:f.fail e pos=f:=by unfold az.fail;rw[if_neg he]
  rw[hf];clear he;apply bl;simp only[go_sem,c40,hp,k0];refine wN ?_;simp only[go_sem];exact W.done ⟨_,_,rfl,.rfl _,rfl,h,Kept.refl _ _ _⟩
def O4(w0:World)(h:aS n0 σ p g f y3 y4 y5)(hn:n0<=σ.length)(hl:f.live=true)(N:f.sub.length<=1000000)(O:bO 100000 f.sub){a b:aa}(hp:de f.sub.length 100000 (a,b)):
  ∃τ D,DC prog w0 38 [.ptr p 0,a.v,b.v] σ (Same (B (f.ix a b)) τ)/\aS n0 τ p g (f.one a b) D y4 y5/\Kept n0 p σ τ:=by
 obtain⟨E,P,Q⟩:=rf O N hp;have w:=h.app [.cells a.v.af,.cells b.v.af];have c:=(df.refl n0 σ).app hn [.cells a.v.af,.cells b.v.af];obtain⟨τ,i,F,hS,j⟩:=aaH w0 O (by decide) (by decide) N hp E (w.sub hl) (bf hn c.len);have h0:=j.cells w.here;have R:=fun L=>hG h.here L;have hf:bh g (f.one a b) i y4 y5=bh g f i y4 y5:=rfl;by_cases he:(dw f.sub a b).1=0
 ·have r:f.ix a b=true:=by unfold az.ix;simp[he]
  refine⟨_,i,?_,w.gB j (f':=f.one a b) (u:=i) rfl rfl (fun _=>hS he),((c.trans j).kept p).set _ h.le (.inl rfl)⟩;rw[r,hf];rw[he]at F;have T:i= .ae []\/∃A,i= .vec A (f.one a b).sub.length:=(hS he).imp (fun h=>h.2) (fun⟨A,_,h,_⟩=>⟨A,h⟩);clear hS he r hf E P Q;unfold bh at*;rcases T with rfl|⟨A,rfl⟩
  all_goals
   refine OY.cl rfl (fun G J=>?_);apply bl;simp only[go_sem,FH];apply W.aD (aF _ _)
   case hc=>
    (apply ab.aj;simp only[go_sem,R]);(apply ab.call (F)<;>try rfl);(apply ab.aj;simp only[go_sem]);exact ab.nil
   apply bl;simp only[go_sem,bne];refine wN ?_;simp only[go_sem,h0];exact W.ret ⟨_,_,(by simp only[aX,FI,go_sem];rfl),.rfl _,rfl,rfl⟩
 ·have r:f.ix a b=false:=by unfold az.ix;simp[he]
  have t:(f.one a b).live=false:=by unfold az.one;simp[he]
  refine⟨τ,y3,?_,w.dead j (f':=f.one a b) rfl rfl rfl rfl t,(c.trans j).kept p⟩;have M:((dw f.sub a b).1==0)=false:=by simp[he]
  rw[r];generalize (dw f.sub a b).1=e at*;clear hS he r hf E P Q t;unfold bh at*;refine OY.cl rfl (fun G J=>?_);apply bl;simp only[go_sem,FH];apply W.aD (aF _ _)
  case hc=>
   (apply ab.aj;simp only[go_sem,R]);(apply ab.call (F)<;>try rfl);(apply ab.aj;simp only[go_sem]);exact ab.nil
  apply bl;simp only[go_sem,bne,M];refine wY ?_;simp only[go_sem];exact W.ret ⟨_,_,(by simp only[aX,FI,go_sem];rfl),.rfl _,rfl,rfl⟩
end
section
variable {P:Program} {w0:World}
def AM:List ai:=[.m 21 0,.n 22 21,.f 23 3 22,.l 24 23,.m 25 6,.m 26 7,.o 27 (.bin .add (.t 25) (.t 26)),.o 28 (.build [.c (.int .i64 0),.c (.str []),.c (.int .i64 0),.ae []] [(0,1,(.k (.c (.int .i64 1)))),(2,1,(.t 27))]),.o 29 (.eM (.t 24)),.o 30 (.o6 4 [(.k (.agg [.c (.int .i64 0),.c (.str []),.c (.int .i64 0),.ae []]))]),.o 31 (.app 34 4 56 (.t 24) (.t 30)),.o 32 (.dm 4 (.t 31) (.t 29)),.s 4 32 28,.n 33 21,.f 34 3 33,.s 1 34 31]
def wy(b:Env)(p:Nat)(m i:Int)(N n:Nat)(y:V):Env:=((((((((((((((((b.put (some 21) (.ptr p 0)).put (some 22) (.ptr p 0)).put (some 23) (.ptr p 3)).put (some 24) y).put (some 25) (I m)).put (some 26) (I i)).put (some 27) (I n)).put (some 28) (.agg (cL n))).put (some 29) (I n)).put (some 30) (.ae [cO])).put (some 31) (.vec N (n+1))).put (some 32) (.ptr N (n*4))).put none .void).put (some 33) (.ptr p 0)).put (some 34) (.ptr p 3)).put none .void)
def er(e:Nat)(σ σ1:H)(p:Nat)(cs:List V)(tg:Option TypeId)(n:Nat)(pre:List C)(a s c:Bool):H:=
 (bif c then σ1.set p (.cells (cs.take 3++[.vec σ.length (n+1)]++cs.drop 4) tg)else bif a then σ1 else σ)++(bif a then[.vec e 4 (pre++bif s then jr n else cO)]else[])
def aa5{e:Nat}{σ σ1:H}{p:Nat}{cs:List V}{tg:Option TypeId}{n:Nat}{pre:List C}{a s c:Bool}(b:σ1.length=σ.length):∃X,er e σ σ1 p cs tg n pre a s c=X++(bif a then[.vec e 4 (pre++bif s then jr n else cO)]else[])/\X.length=σ.length:=by
 refine⟨_,rfl,?_⟩;cases c<;>cases a<;>simp[b]
def O5(σ σ1:H)(p n:Nat)(hn:n<=1000000)(cs:List V)(tg:Option TypeId)(Y:σ[p]?=some (.cells cs tg))(N:σ1[p]?=some (.cells cs tg))(D:σ1.length=σ.length)(y:V)(Z:cs[3]?=some y)(pre:List C)(E:pre.length=n*4)(m i:Int)(G:aE.wrap (m+i)=(n:Int))
  (J:∀(b:Env) (τ:H),b 24=y->Lamb.step b τ (.eM (.t 24))=some (.c (.int .i64 n),τ))
  (M:∀(b:Env) (o:ai),o.guard=none->o.ins= .app 34 4 56 (.t 24) (.t 30)->b 24=y->b 30= .ae [cO]->dt P w0 (fun x=>x=σ) (fun x=>x=σ1++[.vec 34 4 (pre++cO)]) o b (.vec σ.length (n+1)))
  (b:Env) (h0:b 0= .ptr p 0) (h6:b 6=I m) (h7:b 7=I i):
  nM P w0 AM (fun L x=>x=er 34 σ σ1 p cs tg n pre (L 10) (L 12) (L 15)) 0 AM b (wy b p m i σ.length n y):=by
 have hlt:p<σ.length:=(aI.1 Y).1;unfold wy;refine .cons (v:=.ptr p 0) (YG.pure rfl (fun τ=>by simp only[Lamb.step,ah.ev,h0]) (fun L x h=>h)) ?_;refine .cons (v:=.ptr p 0) (YG.pure rfl (fun τ=>by simp[Lamb.step,ah.ev,Env.put]) (fun L x h=>h)) ?_;refine .cons (v:=.ptr p 3) (YG.pure rfl (fun τ=>by simp[Lamb.step,ah.ev,Env.put]) (fun L x h=>h)) ?_;refine .cons (v:=y) ?_ ?_
 ·intro L g u j;have r:L 10=false:=ng g 10 3 (by decide) (by decide) u;have w:L 15=false:=ng g 15 10 (by decide) (by decide) r;refine .step rfl fun x A=>⟨x,?_,A⟩;subst A;rw[r,w];have:(er 34 σ σ1 p cs tg n pre false (L 12) false)[p]?=some (.cells cs tg):=by
   unfold er;simp only[cond_false,cd];exact Y
  simp[Lamb.step,ah.ev,Env.put,je,this,Z]
 refine .cons (v:=I m) (YG.pure rfl (fun τ=>by simp[Lamb.step,ah.ev,Env.put,h6]) (fun L x h=>h)) ?_;refine .cons (v:=I i) (YG.pure rfl (fun τ=>by simp[Lamb.step,ah.ev,Env.put,h7]) (fun L x h=>h)) ?_;refine .cons (v:=I n) (YG.pure rfl (fun τ=>by simp[Lamb.step,ah.ev,Env.put,I,uh,xB,G]) (fun L x h=>h)) ?_;refine .cons (v:=.agg (cL n)) (YG.pure rfl (fun τ=>by simp[Lamb.step,ah.ev,Env.put,I];rfl) (fun L x h=>h)) ?_;refine .cons (v:=I n) (YG.pure rfl (fun τ=>J _ _ (by simp[Env.put])) (fun L x h=>h)) ?_
 refine .cons (v:=.ae [cO]) (YG.pure rfl (fun τ=>rfl) (fun L x h=>h)) ?_;refine .cons (v:=.vec σ.length (n+1)) ?_ ?_
 ·intro L g u j;have F:L 11=false:=ng g 11 10 (by decide) (by decide) u;have O:L 12=false:=ng g 12 11 (by decide) (by decide) F;have w:L 15=false:=ng g 15 10 (by decide) (by decide) u;have e1:(fun x=>x=er 34 σ σ1 p cs tg n pre (L 10) (L 12) (L 15))=(fun x=>x=σ):=by
   rw[u,w];funext x;simp[er]
  have e2:(fun x=>x=er 34 σ σ1 p cs tg n pre (fi L 10 10) (fi L 10 12) (fi L 10 15))=(fun x=>x=σ1++[.vec 34 4 (pre++cO)]):=by
   have a1:fi L 10 10=true:=rfl;have a2:fi L 10 12=L 12:=rfl;have a3:fi L 10 15=L 15:=rfl;rw[a1,a2,a3,O,w];rfl
  show dt P w0 (fun x=>x=er 34 σ σ1 p cs tg n pre (L 10) (L 12) (L 15)) (fun x=>x=er 34 σ σ1 p cs tg n pre (fi L 10 10) (fi L 10 12) (fi L 10 15)) _ _ _;rw[e1,e2];exact M _ _ rfl rfl (by simp[Env.put]) (by simp[Env.put])
 refine .cons (v:=.ptr σ.length (n*4)) (YG.pure rfl (fun τ=>?_) (fun L x h=>h)) ?_
 ·simp only[Lamb.step,ah.ev,Env.put,I];simp;omega
 refine .cons (v:=.void) ?_ ?_
 ·intro L g u j;have F:L 11=true:=j 11 (by decide);have r:L 10=true:=g 11 (by decide) F 10 (by decide);refine .step rfl fun x A=>⟨x.set σ.length (.vec 34 4 (pre++jr n)),?_,?_⟩
  ·subst A;obtain⟨X,hX,Q⟩:=aa5 (e:=34) (p:=p) (cs:=cs) (tg:=tg) (n:=n) (pre:=pre) (a:=true) (s:=L 12) (c:=L 15) D;have:(er 34 σ σ1 p cs tg n pre true (L 12) (L 15))[σ.length]?=some (.vec 34 4 (pre++cO)):=by
    rw[hX,List.getElem?_append_right (by omega),Q,Nat.sub_self,u];rfl
   have t4:fx (cL n)=some (jr n):=rfl;have q1:(pre++cO).take (n*4)=pre:=by rw[<-E];exact List.take_left
   have q2:(pre++cO).drop (n*4+4)=[]:=by rw[List.drop_eq_nil_iff];simp[E,cO]
   rw[r];have R:∀b:Env,b 32= .ptr σ.length (n*4)->b 28= .agg (cL n)->Lamb.step b (er 34 σ σ1 p cs tg n pre true (L 12) (L 15)) (.store 4 (.t 32) (.t 28))=some (.void,(er 34 σ σ1 p cs tg n pre true (L 12) (L 15)).set σ.length (.vec 34 4 (pre++jr n))):=fun b T U=>by
    simp only[Lamb.step,ah.ev,T,U,this,V.af,t4];rw[if_pos ⟨rfl,by simp[E,cO]⟩,q1,q2,cd]
   exact R _ (by simp[Env.put]) (by simp[Env.put])
  ·subst A;show(er 34 σ σ1 p cs tg n pre (L 10) (L 12) (L 15)).set _ _=er 34 σ σ1 p cs tg n pre (L 10) true (L 15);rw[r,u];unfold er;rw[List.set_append_right _ _ (by cases L 15<;>simp[D])];congr 1;have:σ.length-(bif L 15 then σ1.set p (.cells (cs.take 3++[.vec σ.length (n+1)]++cs.drop 4) tg)else bif true then σ1 else σ).length=0:=by cases L 15<;>simp[D]
   rw[this];rfl
 refine .cons (v:=.ptr p 0) (YG.pure rfl (fun τ=>by simp[Lamb.step,ah.ev,Env.put]) (fun L x h=>h)) ?_;refine .cons (v:=.ptr p 3) (YG.pure rfl (fun τ=>by simp[Lamb.step,ah.ev,Env.put]) (fun L x h=>h)) ?_;refine .cons (v:=.void) ?_ .nil;intro L g u j;have r:L 10=true:=j 10 (by decide);refine .step rfl fun x A=>⟨x.set p (.cells (cs.take 3++[.vec σ.length (n+1)]++cs.drop 4) tg),?_,?_⟩
 ·subst A;rw[r,u];have:(er 34 σ σ1 p cs tg n pre true (L 12) false)[p]?=some (.cells cs tg):=by
   unfold er;simp only[cond_false,cond_true];rw[cr (by omega)];exact N
  have ho:3<cs.length:=(aI.1 Z).1;have R:∀b:Env,b 34= .ptr p 3->b 31= .vec σ.length (n+1)->Lamb.step b (er 34 σ σ1 p cs tg n pre true (L 12) false) (.store 1 (.t 34) (.t 31))=some (.void,(er 34 σ σ1 p cs tg n pre true (L 12) false).set p (.cells (cs.take 3++[.vec σ.length (n+1)]++cs.drop 4) tg)):=fun b T U=>by
   simp only[Lamb.step,ah.ev,T,U,this,V.af];rw[if_pos ⟨rfl,by omega,rfl⟩]
  exact R _ (by simp[Env.put]) (by simp[Env.put])
 ·subst A;show(er 34 σ σ1 p cs tg n pre (L 10) (L 12) (L 15)).set _ _=er 34 σ σ1 p cs tg n pre (L 10) (L 12) true;rw[r,u];unfold er;simp only[cond_false,cond_true];rw[List.set_append_left _ _ (by omega)]
