/- . -/
import Derived.Test.YtdlkenpilhakfaaGreatDoorQJ42
import Derived.Test.YtdlkenpilhakfaaGreatDoorChecked
import Derived.Test.YtdlkenpilhakfaaGreatDoorQJ17
import Derived.Test.YtdlkenpilhakfaaGreatDoorQJ38
import Derived.Test.YtdlkenpilhakfaaGreatDoorQJ14
set_option linter.unusedSimpArgs false
set_option linter.unusedVariables false
set_option maxHeartbeats 8000000
set_option maxRecDepth 20000
open And renaming intro->fb
open Go.IntKind renaming i64->aW
open List renaming append_assoc->dc,append_nil->cq,cons_ne_nil->aS,drop->fV,drop_left'->Fl,eq_nil_of_length_eq_zero->fA,flatten_cons->dU,flatten_nil->lN,getElem?_append_left->cF,getElem?_append_right->cY,getElem?_eq_getElem->aR,getElem?_eq_some_iff->aK,getElem?_set_self->ct,getElem_append_left->cC,getElem_append_right->dJ,getElem_eq_iff->mW,getElem_set->Fk,length_append->bt,length_cons->bo,length_map->cd,length_nil->cM,length_pos_iff->jV,length_reverse->zY,length_set->bC,length_take->eu,map->il,map_append->dX,map_cons->cE,map_nil->dT,mem_append->cH,mem_append_left->jY,mem_cons_of_mem->bW,mem_cons_self->bp,mem_or_eq_of_mem_set->lK,nil_append->er,set_append_left->qx,take->dM,take_length->oZ,take_succ_cons->ey,take_succ_eq_append_getElem->jZ,take_zero->dj
open Nat renaming le_of_eq->sN,le_refl->aA,lt_of_succ_lt_succ->nQ,reduceAdd->dL,sub_self->ck,zero_le->bx
open Go.Proofs.Tryz
namespace Go.Lamb
open Go Go.RowKit
theorem Lx{s s':List aa}{a b:aa}{l:List (aa×aa)}{e:Int}(h:lk s a b l e s')(he:e≠0):l=[]:=by
 cases h with
 |mk hx hy h=>
  rcases h with⟨_,_,_,rfl,_⟩|⟨_,_,_,rfl,_⟩|⟨_,_,rfl,_⟩|⟨_,_,rfl,_⟩|⟨_,_,_,rfl,_⟩|⟨_,_,_,_,rfl,_⟩<;>first|rfl|exact absurd rfl he
section
variable {P:Program} {w0:World} {f:FuncId} {args:List V} {σ:H}
theorem DC.U0{v:V}{τ0:H}{q:Nat}(hd:DC P w0 f args τ0 (fun v' τ=>v'=v/\∃Y,τ=σ.set q Y)):DC P w0 f args τ0 (Same v (σ.set q .gone)):=by
 refine⟨hd.enters,fun κ w vs hrep hfit=>(hd.run κ w vs hrep hfit).mono ?_⟩;rintro e' w' ⟨v,d0,σ0,κ',rfl,⟨rfl,Y,rfl⟩,h3,h4,h5⟩;refine⟨v,d0,_,κ',rfl,⟨rfl,rfl⟩,h3,h4.tu ⟨by simp,fun b hb hb'=>?_⟩,h5⟩;rw[Fk,Fk];split
 ·exact .gone _
 ·exact .rfl _
end
theorem rZ(l:List (aa×aa))(p:aa×aa)(X:List C):aP (l++[p])++X=aP l++(.int .i64 p.1.k:: .str p.1.name:: .int .i64 p.1.n:: .sl (p.1.l.map aa.cs):: .int .i64 p.2.k:: .str p.2.name:: .int .i64 p.2.n:: .sl (p.2.l.map aa.cs)::X):=by
 rw[uM,dc];rfl
theorem Ly(l:List (aa×aa)):rowsOf 8 l.length (aP l)=l.map bV:=by
 have:=ph (rX l);rw[cd]at this;exact this
end Go.Lamb
namespace Go.Proofs.YtdlkenpilhakfaaGreatDoor
open Go.RowKit Go.Lamb
attribute [local go_sem] aa.v aa.aM aY a7 aV aL aT
theorem Dd{s:List aa}{N:Nat}(hR:cl N s){v:Int}(h0:0<=v)(h:v<s.length)(hv:bH s (aN v)=false){t:aa}(ht:aD s.length t)(hn:aC t<=N){e:Int}{s':List aa}(hB:nj s v t e s'):cl N s'/\s'.length=s.length:=by
 cases hB with
 |yes r=>exact⟨hR,rfl⟩
 |no r=>
  refine⟨⟨G9 hR.right h0 h hv ht r,fun u hu=>?_⟩,bC ..⟩;rcases lK hu with hu|rfl
  ·exact hR.size u hu
  ·exact hn
theorem U1{s:List aa}{N:Nat}(hR:cl N s)(hN:1<=N)(hs:s.length<=1000000){a b:aa}(hp:ee s.length N (a,b)){l:List (aa×aa)}{e:Int}{s':List aa}(h:lk s a b l e s'):cl N s'/\s'.length=s.length/\(∀p∈l,ee s.length N p)/\l.length<=N:=by
 obtain⟨ha,hb,na,nb⟩:=hp;have hmem:∀x,aD s.length x->bH s x=true->cf s x.n∈s/\aD s.length (cf s x.n):=fun x hx hs=>by
  obtain⟨h0,h1,_⟩:=hx.var (gb hs);exact⟨iE h0 h1,hR.right.holds _ (iE h0 h1)⟩
 cases h with
 |@mk x y n m l e s' r1 r2 h=>
  obtain⟨hx,sx⟩:=uO hR.right.holds r1 ha;obtain⟨hy,sy⟩:=uO hR.right.holds r2 hb;have nx:=py hR.size r1 hmem ha na;have ny:=py hR.size r2 hmem hb nb;rcases h with⟨kx,ky,he,rfl,rfl,rfl⟩|⟨kx,ky,he,rfl,hB⟩|⟨kx,ky,rfl,hB⟩|⟨kx,ky,rfl,hB⟩|⟨kx,ky,hc,rfl,rfl,rfl⟩|⟨kx,ky,⟨c1,c2,c3⟩,rfl,rfl,rfl⟩
  ·exact⟨hR,rfl,(fun p hp=>by cases hp),bx _⟩
  ·obtain⟨x0,x1,_⟩:=hx.var kx;obtain⟨y0,y1,_⟩:=hy.var ky;have sx':bH s (aN x.n)=false:=by rw[<-lj kx];exact sx
   have sy':bH s (aN y.n)=false:=by rw[<-lj ky];exact sy
   have sm:bH s (aN (max x.n y.n))=false:=by
    rcases Int.le_total x.n y.n with h|h
    ·rw[Int.max_eq_right h];exact sy'
    ·rw[Int.max_eq_left h];exact sx'
   have:=Dd hR (v:=max x.n y.n) (by omega) (by omega) sm (iF (v:=min x.n y.n) (by omega) (by omega) hs) (by rw[cW];simp[aN,aa.l,bS];exact hN) hB;exact⟨this.1,this.2,(fun p hp=>by cases hp),bx _⟩
  ·obtain⟨x0,x1,_⟩:=hx.var kx;have sx':bH s (aN x.n)=false:=by rw[<-lj kx];exact sx
   have:=Dd hR x0 x1 sx' hy ny hB;exact⟨this.1,this.2,(fun p hp=>by cases hp),bx _⟩
  ·obtain⟨y0,y1,_⟩:=hy.var ky;have sy':bH s (aN y.n)=false:=by rw[<-lj ky];exact sy
   have:=Dd hR y0 y1 sy' hx nx hB;exact⟨this.1,this.2,(fun p hp=>by cases hp),bx _⟩
  ·exact⟨hR,rfl,(fun p hp=>by cases hp),bx _⟩
  ·refine⟨hR,rfl,xr _ _ (fun u hu=>⟨hx.dO kx hu,?_⟩) (fun u hu=>⟨hy.dO ky hu,?_⟩),?_⟩
   ·have:=kl hu;rw[cW]at nx;omega
   ·have:=kl hu;rw[cW]at ny;omega
   ·rw[uN _ _ c3];have:=oE x.l;rw[cW]at nx;omega
theorem Lz(w0:World)(σ:H):DC prog w0 180 [.ab []] σ (Same (.av []) σ):=by
 refine CU.go rfl (fun hok hsz=>?_);have e1:aW.wrap (0-1)=-1:=by decide
 (refine W.a ?_;simp only[go_sem,yD,e1]);refine W.bA (α:=Unit) (fun _=>True) (fun _=>⟨(((base.put (some 0) (.ab [])).put (some 2) (I 0)).put (some 3) (I (-1))),σ⟩) (fun _=>0) () trivial ?_ (fun _ _=>?_)
 ·(refine aq.env ?_;exact aE)
 have z1:¬(0:Int)< -1:=by decide
 (refine W.a ?_;simp only[go_sem,z1]);refine W.no rfl (W.a ?_);simp only[go_sem];exact .done (Fin.lW (vs:=[]) hok rfl rfl (.rfl _) (by simp[ak,AO]) (cq _).symm)
structure U2 (L:Nat) (N:Nat) (e:Int) (s':List aa) (n:Nat) (s:List aa) (st:List (aa×aa)) (Bs:List aa->ad->H) (Y:ad) (J:H) (q:Nat) (X:List C):Prop where
 run:eU n s st e s'
 right:cl N s
 len:s.length=L
 holds:∀p∈st,ee L N p
 U3:st.length+n*1000000<=4097000000
 at_:∀s,(Bs s Y++J)[q]?=some (.vec 235 8 (aP st++X))
 off:∃Y' J',(∀s,(Bs s Y++J).set q .gone=Bs s Y'++J')/\J'.length=J.length/\(∀cs tg,Y'≠ .cells cs tg)
 top:∀cs tg,Y≠ .cells cs tg
structure U4 where
 n:Nat
 s:List aa
 st:List (aa×aa)
 Y:ad
 J:H
 q:Nat
 X:List C
theorem LA(w0:World){N:Nat}{s0:List aa}(hR:cl N s0)(hN1:1<=N)(hN:N<=1000000)(hs:s0.length<=1000000){st0:List (aa×aa)}(hst:∀p∈st0,ee s0.length N p)(hfew:st0.length<=1000000){e:Int}{s':List aa}(h:eU 4096 s0 st0 e s')
  (bs q0:Nat) (hne:bs≠q0) (σ:H) (hb:σ[bs]?=some (.vec 34 4 (aJ s0))) (hq0:σ[q0]?=some (.vec 235 8 (aP st0))):
  DC prog w0 182 [.vec bs s0.length,.vec q0 st0.length] σ (Same (I e) ((σ.set bs (.vec 34 4 (aJ s'))).set q0 .gone)):=by
 refine DC.U0 ?_;refine CV.go rfl (fun hok0 hsz=>?_);obtain⟨L,hL⟩:∃L,L=s0.length:=⟨_,rfl⟩;rw[<-hL]at hst hs⊢;have hbl:=(aK.1 hb).1;have hql:=(aK.1 hq0).1;obtain⟨Bs,hBs,hln,hBq,hBb,hBsq,hBsb⟩:∃Bs:List aa->ad->H,(∀s Y,Bs s Y=(σ.set bs (.vec 34 4 (aJ s))).set q0 Y)/\(∀s Y,(Bs s Y).length=σ.length)/\(∀s Y (J:H),(Bs s Y++J)[q0]?=some Y)/\(∀s Y (J:H),(Bs s Y++J)[bs]?=some (.vec 34 4 (aJ s)))
   /\(∀s Y Z (J:H),(Bs s Y++J).set q0 Z=Bs s Z++J)/\(∀s s1 Y (J:H),(Bs s Y++J).set bs (.vec 34 4 (aJ s1))=Bs s1 Y++J):=by
  refine⟨fun s Y=>(σ.set bs (.vec 34 4 (aJ s))).set q0 Y,fun s Y=>rfl,fun s Y=>by simp,fun s Y J=>?_,fun s Y J=>?_,fun s Y Z J=>?_,fun s s1 Y J=>?_⟩
  ·rw[cF (by simpa using hql),ct (by simpa using hql)]
  ·rw[cF (by simpa using hbl),List.getElem?_set_ne (by omega),ct hbl]
  ·rw[qx _ _ (by simpa using hql),List.set_set]
  ·rw[qx _ _ (by simpa using hbl),List.set_comm _ _ (by omega),List.set_set]
 have hg':∀s Y (J:H) k,(Bs s Y++J)[σ.length+k]?=J[k]?:=fun s Y J k=>by
  have:=bY (Bs s Y) J k;rwa [hln]at this
 have hg0:∀s Y (J:H),(Bs s Y++J)[σ.length]?=J[0]?:=fun s Y J=>hg' s Y J 0;have hst':∀s Y (J:H) k x,(Bs s Y++J).set (σ.length+k) x=Bs s Y++J.set k x:=fun s Y J k x=>by
  have:=de (Bs s Y) J k x;rwa [hln]at this
 have hstep:∀(s:List aa) (p:aa×aa) (l:List (aa×aa)) (e:Int) (s1:List aa) (r:cl N s) (hl:s.length=L) (hp:ee L N p) (h:lk s p.1 p.2 l e s1) (Y:ad) (J:H),DC prog w0 227 [.vec bs L,p.1.v,p.2.v] (Bs s Y++J) (Same (.av [gI (σ.length+J.length) l,I e]) (gJ (Bs s1 Y++J) l)):=fun s p l e s1 r hl hp h Y J=>by
  subst hl;have:=UW w0 r hN1 hN hs hp h bs (Bs s Y++J) (hBb s Y J);rwa [hBsb,bt,hln]at this
 have hfin:∀(s2:List aa) (Y:ad),(∀cs tg,Y≠ .cells cs tg)->H.ok (Bs s2 Y):=fun s2 Y hY B hB cs tg hc x hx=>by
  rw[hBs]at hB;rw[hln];rcases lK hB with hB|rfl
  ·rcases lK hB with hB|rfl
   ·exact hok0 B hB cs tg hc x hx
   ·cases hc
  ·exact absurd hc (hY cs tg)
 (refine W.a ?_;simp only[go_sem,c182]);refine W.bA (α:=U4) (fun x=>U2 L N e s' x.n x.s x.st Bs x.Y x.J x.q x.X) (fun x=>⟨((((base.put (some 0) (.vec bs L)).put (some 1) (.vec x.q x.st.length)).put (some 4) (I 0)).put (some 5) (I (x.n:Int))),Bs x.s x.Y++x.J⟩) (fun x=>x.n) ⟨4096,s0,st0,.vec 235 8 (aP st0),[],q0,[]⟩ ⟨h,hR,hL.symm,hst,(by dsimp only;omega),(fun s=>by dsimp only;rw[hBq,cq]),⟨.gone,[],fun s=>hBsq _ _ _ _,rfl,fun _ _ h=>by cases h⟩,fun _ _ h=>by cases h⟩ ?_ (fun x hx=>?_)
 ·dsimp only
  rw[cq,hBs,pj hb,pj hq0];(refine aq.env ?_;exact aE)
 obtain⟨n,s,st,Y,J,q,X⟩:=x;obtain⟨h1,h2,h3,h4,h5,h6,⟨Y',J',h8,h9,h10⟩,h7⟩:=hx;dsimp only at h1 h2 h3 h4 h5 h6 h7 h8 h9 h10⊢;have hq2:∀s L,(Bs s Y++(J++L))[q]?=some (.vec 235 8 (aP st++X)):=fun s L=>by
  have:=hG (h6 s) L;rwa [dc]at this
 have hs2:∀s L,(Bs s Y++(J++L)).set q .gone=Bs s Y'++(J'++L):=fun s L=>by
  have:=hS (h6 s) .gone L;rwa [dc,h8 s,dc]at this
 have ok1:=fun s2=>hfin s2 Y h7;cases h1 with
 |done=>
  have z1:¬((0:Int)<0):=by decide
  (refine W.a ?_;simp only[go_sem,z1]);refine W.no rfl (W.a ?_);simp only[go_sem];refine W.ret (Fin.gen (ok1 s') ?_ (by simp only[br,oD,go_sem];rfl) (.rfl _) (.c _) rfl ?_)
  ·exact hln _ _
  ·exact⟨rfl,Y,hBs _ _⟩
 |out hne=>
  have hpos:0<st.length:=jV.2 hne;have z1:((0:Int)<(st.length:Int)):=by omega
  (refine W.a ?_;simp only[go_sem,z1]);refine W.yes rfl (W.a ?_);simp only[go_sem];refine W.yes rfl (W.a ?_);simp only[go_sem];refine W.ret (Fin.gen (ok1 s') ?_ (by simp only[br,oD,go_sem];rfl) (.rfl _) (.c _) rfl ?_)
  ·exact hln _ _
  ·exact⟨rfl,Y,hBs _ _⟩
 |@fail n _ _ st l p _ hS he=>
  have hlnil:=Lx hS he;subst hlnil;have hcall:=fun J=>hstep s p [] e s' h2 h3 (h4 p (by simp)) hS Y J;have stV:∀m,gI m []= .ab []:=fun m=>rfl;have stH:∀τ:H,gJ τ []=τ:=fun τ=>rfl;simp only[stV,stH]at hcall;have e0:((st++[p]).length:Int)-1=(st.length:Int):=by simp
  have zn:(((n+1:Nat):Int)==0)=false:=by simp;try omega
  have ew:aW.wrap ((st.length:Int))=(st.length:Int):=by rw[bD]<;>omega
  have hpl:((st++[p]).length:Int)=(st.length:Int)+1:=by simp
  have hsl:(st++[p]).length=st.length+1:=by simp
  have hrow:dM 8 (fV (st.length*8) (il V.c (aP (st++[p])++X)))=(bV p).map V.c:=by
   rw[rZ,dX,Fl (by rw[cd,ib])];rfl
  have hle:st.length*8+8<=(aP (st++[p])++X).length:=by rw[bt,ib,hsl];omega
  have w1:aW.wrap ((st.length:Int)+1-1)=(st.length:Int):=by rw[bD]<;>omega
  have p0:(0:Int)<=(st.length:Int):=by omega
  have p1:(st.length:Int)<(st.length:Int)+1:=by omega
  have p2:(st.length:Int)<=(st.length:Int)+1:=by omega
  have p3:st.length<st.length+1:=by omega
  have p4:st.length<=st.length+1:=by omega
  have hpos:(((st.length+1:Nat):Int)>0):=by omega
  have hcl:((st.length+1:Nat):Int)=(st.length:Int)+1:=by omega
  simp only[bV,cE,dT]at hrow;rw[hsl]at*
  have hne:(e !=0)=true:=by simp[he]
  generalize aP (st++[p])++X=F at*
  (refine W.a ?_;simp only[go_sem,hpos]);refine W.yes rfl (W.a ?_);simp only[go_sem,zn];refine W.no rfl (W.a ?_);simp only[go_sem,hq2,hs2,h6,hln,hg',hg0,hst',hrow,hle,hcl,w1,p0,p1,p2,p3,p4];(refine W.c1 (hcall _) ?_;simp only[go_sem]);(refine W.a ?_;simp only[go_sem,hne]);refine W.yes rfl (W.a ?_);simp only[go_sem];refine W.ret (Fin.gen (ok1 s') ?_ (by simp only[br,oD,go_sem];rfl) (.rfl _) (.c _) rfl ?_)
  ·exact hln _ _
  ·exact⟨rfl,Y,hBs _ _⟩
 |@go n _ s1 _ st l p _ hS r=>
  have hp:=h4 p (by simp);have hkeep:=U1 h2 hN1 (by omega) (by rw[h3];exact hp) hS;obtain⟨k1,k2,k3,k4⟩:=hkeep;rw[h3]at k2 k3;have hcall:=fun J=>hstep s p l 0 s1 h2 h3 hp hS Y J;have wn:aW.wrap (((n+1:Nat):Int)-1)=(n:Int):=by rw[bD]<;>omega
  have hX:=rZ st p X;have hlr:(st++l.reverse).length=st.length+l.length:=by simp
  have e0:((st++[p]).length:Int)-1=(st.length:Int):=by simp
  have zn:(((n+1:Nat):Int)==0)=false:=by simp;try omega
  have ew:aW.wrap ((st.length:Int))=(st.length:Int):=by rw[bD]<;>omega
  have hpl:((st++[p]).length:Int)=(st.length:Int)+1:=by simp
  have hsl:(st++[p]).length=st.length+1:=by simp
  have hrow:dM 8 (fV (st.length*8) (il V.c (aP (st++[p])++X)))=(bV p).map V.c:=by
   rw[rZ,dX,Fl (by rw[cd,ib])];rfl
  have hle:st.length*8+8<=(aP (st++[p])++X).length:=by rw[bt,ib,hsl];omega
  have w1:aW.wrap ((st.length:Int)+1-1)=(st.length:Int):=by rw[bD]<;>omega
  have p0:(0:Int)<=(st.length:Int):=by omega
  have p1:(st.length:Int)<(st.length:Int)+1:=by omega
  have p2:(st.length:Int)<=(st.length:Int)+1:=by omega
  have p3:st.length<st.length+1:=by omega
  have p4:st.length<=st.length+1:=by omega
  have hpos:(((st.length+1:Nat):Int)>0):=by omega
  have hcl:((st.length+1:Nat):Int)=(st.length:Int)+1:=by omega
  simp only[bV,cE,dT]at hrow;rw[hsl]at*
  by_cases hl:l=[]
  ·subst hl;have stV:∀m,gI m []= .ab []:=fun m=>rfl;have stH:∀τ:H,gJ τ []=τ:=fun τ=>rfl;simp only[stV,stH]at hcall;generalize hF:aP (st++[p])++X=F at*
   (refine W.a ?_;simp only[go_sem,hpos]);refine W.yes rfl (W.a ?_);simp only[go_sem,zn];refine W.no rfl (W.a ?_);simp only[go_sem,hq2,hs2,h6,hln,hg',hg0,hst',hrow,hle,hcl,w1,p0,p1,p2,p3,p4];(refine W.c1 (hcall _) ?_;simp only[go_sem]);have hne:((0:Int) !=0)=false:=by decide
   (refine W.a ?_;simp only[go_sem,hne]);refine W.no rfl (W.a ?_);simp only[go_sem];(refine W.c1 (Lz w0 _) ?_;simp only[go_sem]);(refine W.a ?_;simp only[go_sem,h6,hq2,hln,wn]);refine .inv ⟨⟨n,s1,st,Y,J++[.cells ((bV p).map V.c)],q,(bV p)++X⟩,⟨by simpa using r,k1,k2,fun p hp=>h4 p (jY _ hp),by dsimp only;simp at h5;omega,(fun s=>by dsimp only;rw[hq2,hX];rfl),⟨Y',J'++[.cells ((bV p).map V.c)],fun s=>hs2 s _,by simp[h9],h10⟩,h7⟩,by dsimp only;omega,?_⟩;dsimp only
   (refine aq.env ?_;exact aE)
  ·have stV:∀m,gI m l= .vec m l.length:=fun m=>if_neg hl;have stH:∀τ:H,gJ τ l=τ++[.vec 235 8 (aP l)]:=fun τ=>if_neg hl;simp only[stV,stH]at hcall;have hrev:∀(c:ad),DC prog w0 180 [.vec (σ.length+(J.length+1)) l.length] (Bs s1 Y++(J++[c,.vec 235 8 (aP l)])) (Same (.av []) (Bs s1 Y++(J++[c,.vec 235 8 (aP l.reverse)]))):=fun c=>by
    have:=uP w0 l (by omega) (σ.length+(J.length+1)) (Bs s1 Y++(J++[c,.vec 235 8 (aP l)])) (by rw[hg',bY];rfl);rwa [hst',de]at this
   have hrw:rowsOf 8 l.length (aP l.reverse)=l.reverse.map bV:=by
    have:=Ly l.reverse;rwa [zY]at this
   have hcs:(aP l.reverse).length=l.length*8:=by rw[ib,zY]
   have hfl:(l.reverse.map bV).flatten=aP l.reverse:=rfl;have hr8:=rX l.reverse;have hrl:(l.reverse.map bV).length=l.length:=by simp
   generalize hF:aP (st++[p])++X=F at*
   (refine W.a ?_;simp only[go_sem,hpos]);refine W.yes rfl (W.a ?_);simp only[go_sem,zn];refine W.no rfl (W.a ?_);simp only[go_sem,hq2,hs2,h6,hln,hg',hg0,hst',hrow,hle,hcl,w1,p0,p1,p2,p3,p4];(refine W.c1 (hcall _) ?_;simp only[go_sem]);have hne:((0:Int) !=0)=false:=by decide
   (refine W.a ?_;simp only[go_sem,hne]);refine W.no rfl (W.a ?_);simp only[go_sem];(refine W.c1 (hrev _) ?_;simp only[go_sem]);(refine W.a ?_;simp only[go_sem]);refine W.jD (b:=σ.length+(J.length+1)) (e:=235) (size:=8) (k:=l.length) (cs:=aP l.reverse) 42 rfl (by rw[hg',bY];rfl) (sN hcs.symm) ?_;rw[hrw,hst',de];cases hrs:l.reverse.map bV with
   |nil=>rw[hrs]at hrl;simp at hrl;exact absurd hrl.symm (by simpa using hl)
   |cons r1 rs=>
    rw[hrs]at hr8 hfl hrl;have r8:=hr8 r1 (bp ..);have rs8:(∀x∈rs,x.length=8)=True:=eq_true (fun x hx=>hr8 x (bW _ hx));have hrl2:rs.length+1=l.length:=by simpa using hrl
    have b1:(st.length+(rs.length+1))*112<=140737488355328:=by simp at h5;omega
    have b2:st.length+(rs.length+1)<=140737488355328:=by omega
    have b3:st.length*8<=F.length:=by omega
    have hne2:(r1::rs=[])=False:=by simp
    have htk:dM (st.length*8) F=aP st:=by rw[hX,List.take_left' (ib st)]
    (refine W.a ?_;simp only[go_sem,h6,hq2,hs2,hln,h9,wn,r8,rs8,b1,b2,b3,hne2,htk,hfl,ne_eq,not_false_eq_true]);refine .inv ⟨⟨n,s1,st++l.reverse,Y',J'++[.cells ((bV p).map V.c),.gone,.vec 235 8 (aP st++aP l.reverse)],σ.length+(J.length+2),[]⟩,⟨r,k1,k2,fun p hp=>(cH.1 hp).elim (fun h=>h4 p (jY _ h)) (fun h=>k3 p (List.mem_reverse.1 h)),by dsimp only;simp at h5⊢;omega,(fun s=>by dsimp only;rw[hg',uM,cq,<-h9,bY];rfl),⟨Y',J'++[.cells ((bV p).map V.c),.gone,.gone],(fun s=>by dsimp only;rw[hst',<-h9,de];rfl),by simp,h10⟩,h10⟩,by dsimp only;omega,?_⟩
    dsimp only
    rw[hlr,<-hrl2];(refine aq.env ?_;exact aE)
end Go.Proofs.YtdlkenpilhakfaaGreatDoor
namespace Go.Proofs.YtdlkenpilhakfaaGreatDoor
open Go.RowKit Go.Lamb
attribute [local go_sem] aa.v aa.aM aY a7 aV aL aT
theorem U5(w0:World)(t:aa)(ht:aD 0 t)(σ:H):DC prog w0 238 [.c (.sl []),t.v] σ (Same (B false) σ):=by
 refine C3.go rfl (fun hok hsz=>?_);have hk:t.k≠1:=fun hk=>by obtain⟨h0,hlt,_⟩:=ht.var hk;omega
 have k1:(t.k==1)=false:=by simp[hk]
 clear ht hk;(refine W.a ?_;simp only[go_sem,p8]);(apply W.aQ (aS _ _);case hc=>((apply ae.al;simp only[go_sem,k1]);exact ae.nil));(refine W.a ?_;simp only[go_sem]);(refine W.fs (hok) (by simp only[p9,go_sem];rfl) ?_;simp only[ak];try exact V.wk.rfl _)
theorem LB(w0:World)(t:aa)(ht:aD 0 t)(σ:H):DC prog w0 191 [.c (.sl []),t.v] σ (Same t.v σ):=by
 refine CZ.go rfl (fun hok hsz=>?_);have hS:=fun σ=>U5 w0 t ht σ;clear ht;(refine W.a ?_;simp only[go_sem,yF]);refine W.bA (α:=Unit) (fun _=>True) (fun _=>⟨(((base.put (some 0) (.c (.sl []))).put (some 3) (.ptr σ.length 0)).put (some 4) (.ptr (σ.length+1) 0)),σ++[.cells t.v.ah,.cells [I 0,S [],I 0,.ab []]]⟩) (fun _=>0) () trivial ?_ (fun _ _=>?_)
 ·(refine aq.env ?_;exact aE)
 (refine W.a ?_;simp only[go_sem]);(refine W.c1 (hS _) ?_;simp only[go_sem]);refine W.no rfl (W.a ?_);simp only[go_sem];(refine W.fs (hok) (by simp only[yG,go_sem];rfl) ?_;simp only[ak];try exact V.wk.rfl _)
 all_goals (all_goals exact au)
theorem U6(w0:World){a b x y:aa}(σ:H)(hx:∀σ,DC prog w0 191 [.c (.sl []),a.v] σ (Same x.v σ))(hy:∀σ,DC prog w0 191 [.c (.sl []),b.v] σ (Same y.v σ))(kx:(x.k==1)=false)(ky:(y.k==1)=false)(hc:¬(x.k=y.k/\x.name=y.name/\x.l.length=y.l.length)):DC prog w0 227 [.c (.sl []),a.v,b.v] σ (Same (.av [.ab [],I 60]) σ):=by
 refine lp.go rfl (fun hok hsz=>?_);by_cases h1:x.k=y.k
 ·have c1:(x.k==y.k)=true:=by simp[h1]
  by_cases h2:x.name=y.name
  ·have c2:(x.name==y.name)=true:=by simp[h2]
   have h3:¬x.l.length=y.l.length:=fun h=>hc ⟨h1,h2,h⟩;have c3:((x.l.length:Int)==(y.l.length:Int))=false:=by simp;omega
   clear hc h1 h2 h3;(refine W.a ?_;simp only[go_sem,c227]);apply W.aQ (aS _ _)
   case hc=>
    (apply ae.al;simp only[go_sem]);(apply ae.call (hx _);(case hg=>rfl);(case hf=>rfl);(case ha=>first|rfl|simp));(apply ae.al;simp only[go_sem]);(apply ae.call (hy _);(case hg=>rfl);(case hf=>rfl);(case ha=>first|rfl|simp));(apply ae.al;simp only[go_sem]);exact ae.nil
   (refine W.a ?_;simp only[go_sem,kx,ky]);refine W.no rfl (W.a ?_);simp only[go_sem,kx,ky];refine W.no rfl (W.a ?_);simp only[go_sem,kx,ky];refine W.no rfl (W.a ?_);simp only[go_sem,kx,ky];refine W.no rfl (W.a ?_);simp only[go_sem,bne,c1,c2,c3];refine W.yes rfl (W.a ?_);simp only[go_sem];(refine W.fs (hok) (by simp only[ia,go_sem];rfl) ?_;simp only[ak];try exact V.wk.rfl _)
  ·have c2:(x.name==y.name)=false:=by simp[h2]
   clear hc h1 h2;(refine W.a ?_;simp only[go_sem,c227]);apply W.aQ (aS _ _)
   case hc=>
    (apply ae.al;simp only[go_sem]);(apply ae.call (hx _);(case hg=>rfl);(case hf=>rfl);(case ha=>first|rfl|simp));(apply ae.al;simp only[go_sem]);(apply ae.call (hy _);(case hg=>rfl);(case hf=>rfl);(case ha=>first|rfl|simp));(apply ae.al;simp only[go_sem]);exact ae.nil
   (refine W.a ?_;simp only[go_sem,kx,ky]);refine W.no rfl (W.a ?_);simp only[go_sem,kx,ky];refine W.no rfl (W.a ?_);simp only[go_sem,kx,ky];refine W.no rfl (W.a ?_);simp only[go_sem,kx,ky];refine W.no rfl (W.a ?_);simp only[go_sem,bne,c1,c2];refine W.yes rfl (W.a ?_);simp only[go_sem];(refine W.fs (hok) (by simp only[ia,go_sem];rfl) ?_;simp only[ak];try exact V.wk.rfl _)
 ·have c1:(x.k==y.k)=false:=by simp[h1]
  clear hc h1;(refine W.a ?_;simp only[go_sem,c227]);apply W.aQ (aS _ _)
  case hc=>
   (apply ae.al;simp only[go_sem]);(apply ae.call (hx _);(case hg=>rfl);(case hf=>rfl);(case ha=>first|rfl|simp));(apply ae.al;simp only[go_sem]);(apply ae.call (hy _);(case hg=>rfl);(case hf=>rfl);(case ha=>first|rfl|simp));(apply ae.al;simp only[go_sem]);exact ae.nil
  (refine W.a ?_;simp only[go_sem,kx,ky]);refine W.no rfl (W.a ?_);simp only[go_sem,kx,ky];refine W.no rfl (W.a ?_);simp only[go_sem,kx,ky];refine W.no rfl (W.a ?_);simp only[go_sem,kx,ky];refine W.no rfl (W.a ?_);simp only[go_sem,bne,c1];refine W.yes rfl (W.a ?_);simp only[go_sem];(refine W.fs (hok) (by simp only[ia,go_sem];rfl) ?_;simp only[ak];try exact V.wk.rfl _)
theorem U7(w0:World){a b x y:aa}(σ:H)(hx:∀σ,DC prog w0 191 [.c (.sl []),a.v] σ (Same x.v σ))(hy:∀σ,DC prog w0 191 [.c (.sl []),b.v] σ (Same y.v σ))(kx:(x.k==1)=false)(ky:(y.k==1)=false)(h1:x.k=y.k)(h2:x.name=y.name)(h3:x.l.length=y.l.length)(hn:x.l.length<=1000000):DC prog w0 227 [.c (.sl []),a.v,b.v] σ (Same (.av [gI σ.length (df x.l y.l),I 0]) (gJ σ (df x.l y.l))):=by
 have c1:(x.k==y.k)=true:=by simp[h1]
 have c2:(x.name==y.name)=true:=by simp[h2]
 have c3:((x.l.length:Int)==(y.l.length:Int))=true:=by simp[h3]
 have hzl:=uN x.l y.l h3;by_cases h0:x.l=[]
 ·have hz:df x.l y.l=[]:=fA (by rw[hzl,h0];rfl);have hl0:x.l.length=0:=by rw[h0];rfl
  unfold gI gJ;rw[if_pos hz,if_pos hz];refine lp.go rfl (fun hok hsz=>?_);have z1:¬((0:Int)<(x.l.length:Int)):=by omega
  clear h1 h2 h3 h0 hz hzl;(refine W.a ?_;simp only[go_sem,c227]);apply W.aQ (aS _ _)
  case hc=>
   (apply ae.al;simp only[go_sem]);(apply ae.call (hx _);(case hg=>rfl);(case hf=>rfl);(case ha=>first|rfl|simp));(apply ae.al;simp only[go_sem]);(apply ae.call (hy _);(case hg=>rfl);(case hf=>rfl);(case ha=>first|rfl|simp));(apply ae.al;simp only[go_sem]);exact ae.nil
  (refine W.a ?_;simp only[go_sem,kx,ky]);refine W.no rfl (W.a ?_);simp only[go_sem,kx,ky];refine W.no rfl (W.a ?_);simp only[go_sem,kx,ky];refine W.no rfl (W.a ?_);simp only[go_sem,kx,ky];refine W.no rfl (W.a ?_);simp only[go_sem,bne,c1,c2,c3];refine W.no rfl (W.a ?_);simp only[go_sem];refine W.bA (α:=Unit) (fun _=>True) (fun _=>⟨(((base.put (some 8) (.ab [])).put (some 96) (I (x.l.length:Int))).put (some 97) (I 0)),σ⟩) (fun _=>0) () trivial ?_ (fun _ _=>?_)
  ·(refine aq.drop ?_ (aA _) (hok) ?_;exact aE;(repeat' (first|exact aZ.base _|(refine aZ.put ?_ (by first|exact .c _|(simp only[go_sem];done)|exact V.gU _ _)))))
  (refine W.a ?_;simp only[go_sem,z1]);refine W.no rfl (W.a ?_);simp only[go_sem];(refine W.fs (hok) (by simp only[ia,go_sem];rfl) ?_;simp only[ak];try exact V.wk.rfl _)
 ·have hpos:0<x.l.length:=jV.2 h0;have hz:df x.l y.l≠[]:=fun e=>by rw[e]at hzl;simp at hzl;omega
  unfold gI gJ;rw[if_neg hz,if_neg hz];refine DC.Ii ?_;refine lp.dn rfl (fun hok hsz=>?_);have hrow:∀i (hi:i<x.l.length) (hi':i<y.l.length),aP ((df x.l y.l).take (i+1))=aP ((df x.l y.l).take i)++bV (x.l[i],y.l[i]):=fun i hi hi'=>by
   have hz':i<(df x.l y.l).length:=by omega
   rw[jZ hz',uM,Db _ _ _ hz' hi hi'];simp[aP]
  have hlen:∀i,i<=x.l.length->(aP ((df x.l y.l).take i)).length=i*8:=fun i hi=>by rw[ib,eu];omega
  have hend:(df x.l y.l).take x.l.length=df x.l y.l:=by rw[<-hzl,oZ]
  generalize df x.l y.l=Z at*
  (refine W.a ?_;simp only[go_sem,c227]);apply W.aQ (aS _ _)
  case hc=>
   (apply ae.al;simp only[go_sem]);(apply ae.call (hx _);(case hg=>rfl);(case hf=>rfl);(case ha=>first|rfl|simp));(apply ae.al;simp only[go_sem]);(apply ae.call (hy _);(case hg=>rfl);(case hf=>rfl);(case ha=>first|rfl|simp));(apply ae.al;simp only[go_sem]);exact ae.nil
  (refine W.a ?_;simp only[go_sem,kx,ky]);refine W.no rfl (W.a ?_);simp only[go_sem,kx,ky];refine W.no rfl (W.a ?_);simp only[go_sem,kx,ky];refine W.no rfl (W.a ?_);simp only[go_sem,kx,ky];refine W.no rfl (W.a ?_);simp only[go_sem,bne,c1,c2,c3];refine W.no rfl (W.a ?_);simp only[go_sem];refine W.bA (α:=Option (Nat×H)) (fun o=>match o with|none=>True|some (i,_)=>1<=i/\i<=x.l.length) (fun o=>match o with
   |none=>⟨(((((base.put (some 4) (.ptr σ.length 0)).put (some 5) (.ptr (σ.length+1) 0)).put (some 8) (.ab [])).put (some 96) (I (x.l.length:Int))).put (some 97) (I 0)),σ++[.cells x.v.ah,.cells y.v.ah]⟩
   |some (i,J)=>⟨(((((base.put (some 4) (.ptr σ.length 0)).put (some 5) (.ptr (σ.length+1) 0)).put (some 8) (.vec (σ.length+(J.length+2)) i)).put (some 96) (I (x.l.length:Int))).put (some 97) (I (i:Int))),σ++ .cells x.v.ah:: .cells y.v.ah::(J++[.vec 235 8 (aP (Z.take i))])⟩) (fun o=>match o with|none=>x.l.length+1|some (i,_)=>x.l.length-i) none trivial ?_ (fun o ho=>?_)
  ·dsimp only
   (refine aq.env ?_;exact aE)
  cases o with
  |none=>
   dsimp only
   have z1:((0:Int)<(x.l.length:Int)):=by omega
   have z2:((0:Int)<(y.l.length:Int)):=by omega
   have hx0:x.l[0]?=some x.l[0]:=aR hpos;have hy0:y.l[0]?=some y.l[0]:=aR (by omega);have hr:=hrow 0 hpos (by omega);rw[show aP (Z.take 0)=[]from rfl,er]at hr;have hw:aW.wrap (0+1)=((1:Nat):Int):=by decide
   generalize x.l[0]=u at*;generalize y.l[0]=v at*
   (refine W.a ?_;simp only[go_sem,z1]);refine W.yes rfl (W.a ?_);simp only[go_sem];apply W.aQ (aS _ _)
   case hc=>
    iterate 13 (apply ae.quiet (dF.step rfl (by(simp only[go_sem,z1,z2,hx0,hy0,bP]);rfl));case hp=>(intro τ hτ;simp at hτ))
    apply ae.bK
    case h=>exact fc.vec (x:=.t 100) (y:=.t 112) (e:=235) (size:=8) (bytes:=112) (olds:=[]) (news:=[bV (u,v)]) rfl rfl rfl rfl ⟨by simp,(fun r hr=>by cases hr),(fun r hr=>by simp at hr;subst hr;rfl),by simp,by simp⟩
    (apply ae.al;simp only[go_sem,bt,dU,lN,bV]);exact ae.nil
   (refine W.a ?_;simp only[go_sem,hw]);refine .inv ⟨some (1,[]),⟨aA _,hpos⟩,by dsimp only;omega,?_⟩;dsimp only
   rw[hr];(refine aq.env ?_;exact aE)
  |some q=>
   obtain⟨i,J⟩:=q;obtain⟨hi1,hi⟩:=ho;dsimp only
   have e1:∀w:ad,(J++[w])[J.length]?=some w:=fun w=>by simp
   have e2:∀w z:ad,(J++[w]).set J.length z=J++[z]:=fun w z=>by simp
   have hFl:=hlen i hi;by_cases hlt:i<x.l.length
   ·have z1:((i:Int)<(x.l.length:Int)):=by omega
    have z2:((i:Int)<(y.l.length:Int)):=by omega
    have z0:(0:Int)<=(i:Int):=by omega
    have hx0:x.l[i]?=some x.l[i]:=aR hlt;have hy0:y.l[i]?=some y.l[i]:=aR (by omega);have hr:=hrow i hlt (by omega);have hw:aW.wrap ((i:Int)+1)=((i+1:Nat):Int):=by rw[bD]<;>omega
    have b1:(i+1)*112<=140737488355328:=by omega
    have b2:i+1<=140737488355328:=by omega
    have b3:i<=140737488355327:=by omega
    have htk:dM (i*8) (aP (Z.take i))=aP (Z.take i):=List.take_of_length_le (by omega);have hle:i*8<=i*8:=aA _;have hne:∀r:List C,([r]=[])=False:=fun r=>by simp
    simp only[bV]at hr;generalize x.l[i]=u at*;generalize y.l[i]=v at*;generalize aP (Z.take i)=F at*
    (refine W.a ?_;simp only[go_sem,z1]);refine W.yes rfl (W.a ?_);simp only[go_sem];apply W.aQ (aS _ _)
    case hc=>
     (apply ae.al;simp only[go_sem,z0,z1,z2,hx0,hy0,e1,e2,hFl,htk,b1,b2,b3,hle,hne,ne_eq,not_false_eq_true,dU,lN]);exact ae.nil
    (refine W.a ?_;simp only[go_sem,hw]);refine .inv ⟨some (i+1,J++[.gone]),⟨by omega,hlt⟩,by dsimp only;omega,?_⟩;dsimp only
    rw[hr];simp only[go_sem,bt];(refine aq.env ?_;exact aE)
   obtain rfl:i=x.l.length:=by omega
   have z1:¬((x.l.length:Nat):Int)<((x.l.length:Nat):Int):=by omega
   (refine W.a ?_;simp only[go_sem,z1]);refine W.no rfl (W.a ?_);simp only[go_sem];refine W.ret ⟨_,_,(by simp only[br,ia,go_sem];rfl),.rfl _,?_⟩;rw[hend];exact⟨.cells x.v.ah:: .cells y.v.ah::J,[],by rw[hzl];rfl,by simp[aa.v,V.ah,aT]⟩
theorem yO{t u:aa}{n:Nat}(ht:aD 0 t)(r:gd [] t u n):u=t:=by
 cases r with
 |stop h=>rfl
 |go h r=>
  obtain⟨h0,h1,_⟩:=ht.var (gb h);omega
theorem U8(w0:World){N:Nat}(hN:N<=1000000){a b:aa}(hp:ee 0 N (a,b)){l:List (aa×aa)}{e:Int}{s':List aa}(h:lk [] a b l e s')(σ:H):
  DC prog w0 227 [.c (.sl []),a.v,b.v] σ (Same (.av [gI σ.length l,I e]) (gJ σ l)):=by
 obtain⟨ha,hb,na,nb⟩:=hp;dsimp only at ha hb na nb;cases h with
 |@mk x y n m l e s' r1 r2 h=>
  obtain rfl:=yO ha r1;obtain rfl:=yO hb r2;have dx:=fun σ=>LB w0 x ha σ;have dy:=fun σ=>LB w0 y hb σ;have kx:x.k≠1:=fun k=>by obtain⟨h0,h1,_⟩:=ha.var k;omega
  have ky:y.k≠1:=fun k=>by obtain⟨h0,h1,_⟩:=hb.var k;omega
  rcases h with⟨k,_⟩|⟨k,_⟩|⟨k,_⟩|⟨_,k,_⟩|⟨_,_,hc,rfl,rfl,rfl⟩|⟨_,_,⟨c1,c2,c3⟩,rfl,rfl,rfl⟩
  ·exact absurd k kx
  ·exact absurd k kx
  ·exact absurd k kx
  ·exact absurd k ky
  ·exact U6 w0 σ dx dy (by simp[kx]) (by simp[ky]) hc
  ·exact U7 w0 σ dx dy (by simp[kx]) (by simp[ky]) c1 c2 c3 (by have:=oE x.l;rw[cW]at na;omega)
end Go.Proofs.YtdlkenpilhakfaaGreatDoor
namespace Go.Lamb
open Go Go.RowKit
section
variable {P:Program} {w0:World} {f:FuncId} {args:List V} {σ:H}
theorem DC.U9{v:V}{τ0:H}(hd:DC P w0 f args τ0 (fun v' τ=>v'=v/\∃Y,τ=σ++[Y])):DC P w0 f args τ0 (Same v (σ++[.gone])):=by
 refine⟨hd.enters,fun κ w vs hrep hfit=>(hd.run κ w vs hrep hfit).mono ?_⟩;rintro e' w' ⟨v,d0,σ0,κ',rfl,⟨rfl,Y,rfl⟩,h3,h4,h5⟩;refine⟨v,d0,_,κ',rfl,⟨rfl,rfl⟩,h3,h4.tu ⟨by simp,fun b hb hb'=>?_⟩,h5⟩;by_cases h:b<σ.length
 ·rw[cC h,cC h];exact .rfl _
 ·have e:b=σ.length:=by simp at hb;omega
  subst e;rw[dJ (aA _),dJ (aA _)];simp only[ck,List.getElem_cons_zero];exact .gone _
end
end Go.Lamb
namespace Go.Proofs.YtdlkenpilhakfaaGreatDoor
open Go.RowKit Go.Lamb
attribute [local go_sem] aa.v aa.aM aY a7 aV aL aT
structure Va (N:Nat) (e:Int) (n:Nat) (st:List (aa×aa)) (J:H) (q:Nat) (X:List C):Prop where
 run:eU n [] st e []
 holds:∀p∈st,ee 0 N p
 U3:st.length+n*1000000<=4097000000
 at_:J[q]?=some (.vec 235 8 (aP st++X))
 top:∃Y J',J=Y::J'/\(∀cs tg,Y≠ .cells cs tg)
structure Vb where
 n:Nat
 st:List (aa×aa)
 J:H
 q:Nat
 X:List C
theorem Vc{N:Nat}{a b:aa}(hp:ee 0 N (a,b)){l:List (aa×aa)}{e:Int}{s':List aa}(h:lk [] a b l e s'):s'=[]/\(∀p∈l,ee 0 N p)/\l.length<=N:=by
 obtain⟨ha,hb,na,nb⟩:=hp;dsimp only at ha hb na nb;cases h with
 |@mk x y n m l e s' r1 r2 h=>
  obtain rfl:=yO ha r1;obtain rfl:=yO hb r2;have kx:x.k≠1:=fun k=>by obtain⟨h0,h1,_⟩:=ha.var k;omega
  have ky:y.k≠1:=fun k=>by obtain⟨h0,h1,_⟩:=hb.var k;omega
  rcases h with⟨k,_⟩|⟨k,_⟩|⟨k,_⟩|⟨_,k,_⟩|⟨_,_,hc,rfl,rfl,rfl⟩|⟨_,_,⟨c1,c2,c3⟩,rfl,rfl,rfl⟩
  ·exact absurd k kx
  ·exact absurd k kx
  ·exact absurd k kx
  ·exact absurd k ky
  ·exact⟨rfl,(fun p hp=>by cases hp),bx _⟩
  ·refine⟨rfl,xr _ _ (fun u hu=>⟨ha.dO kx hu,?_⟩) (fun u hu=>⟨hb.dO ky hu,?_⟩),?_⟩
   ·have:=kl hu;rw[cW]at na;omega
   ·have:=kl hu;rw[cW]at nb;omega
   ·rw[uN _ _ c3];have:=oE x.l;rw[cW]at na;omega
theorem Vd(w0:World){N:Nat}(hN:N<=1000000){st0:List (aa×aa)}(hst:∀p∈st0,ee 0 N p)(hfew:st0.length<=1000000){e:Int}(h:eU 4096 [] st0 e [])
  (σ:H):
  DC prog w0 182 [.c (.sl []),.vec σ.length st0.length] (σ++[.vec 235 8 (aP st0)]) (Same (I e) (σ++[.gone])):=by
 refine DC.U9 ?_;refine CV.go rfl (fun hok0 hsz=>?_);have hstep:∀(p:aa×aa) (l:List (aa×aa)) (e:Int) (s1:List aa) (hp:ee 0 N p) (h:lk [] p.1 p.2 l e s1) (J:H),DC prog w0 227 [.c (.sl []),p.1.v,p.2.v] (σ++J) (Same (.av [gI (σ.length+J.length) l,I e]) (gJ (σ++J) l)):=fun p l e s1 hp h J=>by
  have:=U8 w0 hN hp h (σ++J);rwa [bt]at this
 have hfin:∀(J:H) (Z:H),(∃Y J',J=Y::J'/\(∀cs tg,Y≠ .cells cs tg))->∃Y J',H.ok (σ++[Y])/\σ++(J++Z)=(σ++[Y])++J':=fun J Z ⟨Y,J',hJ,hY⟩=>by
  refine⟨Y,J'++Z,(fun B hB cs tg hc x hx=>?_),by rw[hJ];simp⟩;rcases cH.1 hB with hB|hB
  ·have:=hok0 B (jY _ hB) cs tg hc x hx;simpa using this
  ·simp at hB;subst hB;exact absurd hc (hY cs tg)
 (refine W.a ?_;simp only[go_sem,c182]);refine W.bA (α:=Vb) (fun x=>Va N e x.n x.st x.J x.q x.X) (fun x=>⟨((((base.put (some 0) (.c (.sl []))).put (some 1) (.vec (σ.length+x.q) x.st.length)).put (some 4) (I 0)).put (some 5) (I (x.n:Int))),σ++x.J⟩) (fun x=>x.n) ⟨4096,st0,[.vec 235 8 (aP st0)],0,[]⟩ ⟨h,hst,(by dsimp only;omega),by simp,_,_,rfl,fun _ _ h=>by cases h⟩ ?_ (fun x hx=>?_)
 ·dsimp only
  (refine aq.env ?_;exact aE)
 obtain⟨n,st,J,q,X⟩:=x;obtain⟨h1,h4,h5,h6,h7⟩:=hx;dsimp only at h1 h4 h5 h6 h7⊢;have hq2:=fun L=>hG h6 L;have hs2:=fun y L=>hS h6 y L;cases h1 with
 |done=>
  obtain⟨Y,J',ok1,e1⟩:=hfin J [] h7;rw[cq]at e1;have z1:¬((0:Int)<0):=by decide
  (refine W.a ?_;simp only[go_sem,z1]);refine W.no rfl (W.a ?_);simp only[go_sem];refine W.ret (Fin.gen ok1 ?_ (by simp only[br,oD,go_sem];rfl) (.rfl _) (.c _) e1 ?_)
  ·simp
  ·exact⟨rfl,Y,rfl⟩
 |out hne=>
  obtain⟨Y,J',ok1,e1⟩:=hfin J [] h7;rw[cq]at e1;have hpos:0<st.length:=jV.2 hne;have z1:((0:Int)<(st.length:Int)):=by omega
  (refine W.a ?_;simp only[go_sem,z1]);refine W.yes rfl (W.a ?_);simp only[go_sem];refine W.yes rfl (W.a ?_);simp only[go_sem];refine W.ret (Fin.gen ok1 ?_ (by simp only[br,oD,go_sem];rfl) (.rfl _) (.c _) e1 ?_)
  ·simp
  ·exact⟨rfl,Y,rfl⟩
 |@fail n _ _ st l p _ hS he=>
  have hlnil:=Lx hS he;subst hlnil;have hcall:=fun J=>hstep p [] e [] (h4 p (by simp)) hS J;have stV:∀m,gI m []= .ab []:=fun m=>rfl;have stH:∀τ:H,gJ τ []=τ:=fun τ=>rfl;simp only[stV,stH]at hcall;have e0:((st++[p]).length:Int)-1=(st.length:Int):=by simp
  have zn:(((n+1:Nat):Int)==0)=false:=by simp;try omega
  have ew:aW.wrap ((st.length:Int))=(st.length:Int):=by rw[bD]<;>omega
  have hpl:((st++[p]).length:Int)=(st.length:Int)+1:=by simp
  have hsl:(st++[p]).length=st.length+1:=by simp
  have hrow:dM 8 (fV (st.length*8) (il V.c (aP (st++[p])++X)))=(bV p).map V.c:=by
   rw[rZ,dX,Fl (by rw[cd,ib])];rfl
  have hle:st.length*8+8<=(aP (st++[p])++X).length:=by rw[bt,ib,hsl];omega
  have w1:aW.wrap ((st.length:Int)+1-1)=(st.length:Int):=by rw[bD]<;>omega
  have p0:(0:Int)<=(st.length:Int):=by omega
  have p1:(st.length:Int)<(st.length:Int)+1:=by omega
  have p2:(st.length:Int)<=(st.length:Int)+1:=by omega
  have p3:st.length<st.length+1:=by omega
  have p4:st.length<=st.length+1:=by omega
  have hpos:(((st.length+1:Nat):Int)>0):=by omega
  have hcl:((st.length+1:Nat):Int)=(st.length:Int)+1:=by omega
  simp only[bV,cE,dT]at hrow;rw[hsl]at*
  have hne:(e !=0)=true:=by simp[he]
  generalize aP (st++[p])++X=F at*
  (refine W.a ?_;simp only[go_sem,hpos]);refine W.yes rfl (W.a ?_);simp only[go_sem,zn];refine W.no rfl (W.a ?_);simp only[go_sem,hq2,hs2,h6,hrow,hle,hcl,w1,p0,p1,p2,p3,p4];(refine W.c1 (hcall _) ?_;simp only[go_sem]);(refine W.a ?_;simp only[go_sem,hne]);refine W.yes rfl (W.a ?_);simp only[go_sem];obtain⟨Y,J',ok1,e1⟩:=hfin J [.cells ((bV p).map V.c)] h7;refine W.ret (Fin.gen ok1 ?_ (by simp only[br,oD,go_sem];rfl) (.rfl _) (.c _) e1 ?_)
  ·simp
  ·exact⟨rfl,Y,rfl⟩
 |@go n _ s1 _ st l p _ hS r=>
  have hp:=h4 p (by simp);obtain⟨k1,k3,k4⟩:=Vc hp hS;subst k1;have hcall:=fun J=>hstep p l 0 [] hp hS J;have wn:aW.wrap (((n+1:Nat):Int)-1)=(n:Int):=by rw[bD]<;>omega
  have hX:=rZ st p X;have htop:∀Z:H,∃Y J',J++Z=Y::J'/\(∀cs tg,Y≠ .cells cs tg):=fun Z=>by
   obtain⟨Y,J',rfl,hY⟩:=h7;exact⟨Y,J'++Z,rfl,hY⟩
  have htop2:∀Z:H,∃Y J',J.set q .gone++Z=Y::J'/\(∀cs tg,Y≠ .cells cs tg):=fun Z=>by
   obtain⟨Y,J',rfl,hY⟩:=h7;cases q with
   |zero=>exact⟨.gone,J'++Z,rfl,fun _ _ h=>by cases h⟩
   |succ q=>exact⟨Y,J'.set q .gone++Z,rfl,hY⟩
  have hlr:(st++l.reverse).length=st.length+l.length:=by simp
  have e0:((st++[p]).length:Int)-1=(st.length:Int):=by simp
  have zn:(((n+1:Nat):Int)==0)=false:=by simp;try omega
  have ew:aW.wrap ((st.length:Int))=(st.length:Int):=by rw[bD]<;>omega
  have hpl:((st++[p]).length:Int)=(st.length:Int)+1:=by simp
  have hsl:(st++[p]).length=st.length+1:=by simp
  have hrow:dM 8 (fV (st.length*8) (il V.c (aP (st++[p])++X)))=(bV p).map V.c:=by
   rw[rZ,dX,Fl (by rw[cd,ib])];rfl
  have hle:st.length*8+8<=(aP (st++[p])++X).length:=by rw[bt,ib,hsl];omega
  have w1:aW.wrap ((st.length:Int)+1-1)=(st.length:Int):=by rw[bD]<;>omega
  have p0:(0:Int)<=(st.length:Int):=by omega
  have p1:(st.length:Int)<(st.length:Int)+1:=by omega
  have p2:(st.length:Int)<=(st.length:Int)+1:=by omega
  have p3:st.length<st.length+1:=by omega
  have p4:st.length<=st.length+1:=by omega
  have hpos:(((st.length+1:Nat):Int)>0):=by omega
  have hcl:((st.length+1:Nat):Int)=(st.length:Int)+1:=by omega
  simp only[bV,cE,dT]at hrow;rw[hsl]at*
  by_cases hl:l=[]
  ·subst hl;have stV:∀m,gI m []= .ab []:=fun m=>rfl;have stH:∀τ:H,gJ τ []=τ:=fun τ=>rfl;simp only[stV,stH]at hcall;generalize hF:aP (st++[p])++X=F at*
   (refine W.a ?_;simp only[go_sem,hpos]);refine W.yes rfl (W.a ?_);simp only[go_sem,zn];refine W.no rfl (W.a ?_);simp only[go_sem,hq2,hs2,h6,hrow,hle,hcl,w1,p0,p1,p2,p3,p4];(refine W.c1 (hcall _) ?_;simp only[go_sem]);have hne:((0:Int) !=0)=false:=by decide
   (refine W.a ?_;simp only[go_sem,hne]);refine W.no rfl (W.a ?_);simp only[go_sem];(refine W.c1 (Lz w0 _) ?_;simp only[go_sem]);(refine W.a ?_;simp only[go_sem,h6,hq2,wn]);refine .inv ⟨⟨n,st,J++[.cells ((bV p).map V.c)],q,(bV p)++X⟩,⟨by simpa using r,fun p hp=>h4 p (jY _ hp),by dsimp only;simp at h5;omega,by dsimp only;rw[hq2,hX];rfl,htop _⟩,by dsimp only;omega,?_⟩;dsimp only
   (refine aq.env ?_;exact aE)
  ·have stV:∀m,gI m l= .vec m l.length:=fun m=>if_neg hl;have stH:∀τ:H,gJ τ l=τ++[.vec 235 8 (aP l)]:=fun τ=>if_neg hl;simp only[stV,stH]at hcall;have hrev:∀(c:ad),DC prog w0 180 [.vec (σ.length+(J.length+1)) l.length] (σ++(J++[c,.vec 235 8 (aP l)])) (Same (.av []) (σ++(J++[c,.vec 235 8 (aP l.reverse)]))):=fun c=>by
    have:=uP w0 l (by omega) (σ.length+(J.length+1)) (σ++(J++[c,.vec 235 8 (aP l)])) (by rw[bY,bY];rfl);rwa [de,de]at this
   have hrw:rowsOf 8 l.length (aP l.reverse)=l.reverse.map bV:=by
    have:=Ly l.reverse;rwa [zY]at this
   have hcs:(aP l.reverse).length=l.length*8:=by rw[ib,zY]
   have hfl:(l.reverse.map bV).flatten=aP l.reverse:=rfl;have hr8:=rX l.reverse;have hrl:(l.reverse.map bV).length=l.length:=by simp
   generalize hF:aP (st++[p])++X=F at*
   (refine W.a ?_;simp only[go_sem,hpos]);refine W.yes rfl (W.a ?_);simp only[go_sem,zn];refine W.no rfl (W.a ?_);simp only[go_sem,hq2,hs2,h6,hrow,hle,hcl,w1,p0,p1,p2,p3,p4];(refine W.c1 (hcall _) ?_;simp only[go_sem]);have hne:((0:Int) !=0)=false:=by decide
   (refine W.a ?_;simp only[go_sem,hne]);refine W.no rfl (W.a ?_);simp only[go_sem];(refine W.c1 (hrev _) ?_;simp only[go_sem]);(refine W.a ?_;simp only[go_sem]);refine W.jD (b:=σ.length+(J.length+1)) (e:=235) (size:=8) (k:=l.length) (cs:=aP l.reverse) 42 rfl (by rw[bY,bY];rfl) (sN hcs.symm) ?_;rw[hrw,de,de];cases hrs:l.reverse.map bV with
   |nil=>rw[hrs]at hrl;simp at hrl;exact absurd hrl.symm (by simpa using hl)
   |cons r1 rs=>
    rw[hrs]at hr8 hfl hrl;have r8:=hr8 r1 (bp ..);have rs8:(∀x∈rs,x.length=8)=True:=eq_true (fun x hx=>hr8 x (bW _ hx));have hrl2:rs.length+1=l.length:=by simpa using hrl
    have b1:(st.length+(rs.length+1))*112<=140737488355328:=by simp at h5;omega
    have b2:st.length+(rs.length+1)<=140737488355328:=by omega
    have b3:st.length*8<=F.length:=by omega
    have hne2:(r1::rs=[])=False:=by simp
    have htk:dM (st.length*8) F=aP st:=by rw[hX,List.take_left' (ib st)]
    (refine W.a ?_;simp only[go_sem,h6,hq2,hs2,wn,r8,rs8,b1,b2,b3,hne2,htk,hfl,ne_eq,not_false_eq_true]);refine .inv ⟨⟨n,st++l.reverse,J.set q .gone++[.cells ((bV p).map V.c),.gone,.vec 235 8 (aP st++aP l.reverse)],J.length+2,[]⟩,⟨r,fun p hp=>(cH.1 hp).elim (fun h=>h4 p (jY _ h)) (fun h=>k3 p (List.mem_reverse.1 h)),by dsimp only;simp at h5⊢;omega,by dsimp only;rw[uM,cq];simp,htop2 _⟩,by dsimp only;omega,?_⟩;dsimp only
    rw[hlr,<-hrl2];(refine aq.env ?_;exact aE)
end Go.Proofs.YtdlkenpilhakfaaGreatDoor
namespace Go.Proofs.YtdlkenpilhakfaaGreatDoor
open Go.RowKit Go.Lamb
def c9:AC:=rsq [.o 3 (.box 0),.o 4 (.box 1),.o 5 (.box 2),.o 6 (.box (.k (.agg zS4))),.o 7 (.af (.k (.ab []))),.o 8 (.af (zK 0)),.o 9 (.af (zK 0))] (.seq (rsq [.d 17 5 4,.k 18 23 [17],.m 10 18] (rif [.m 19 10,.o 20 (.bin .lss 19 (zK 0)),.m 21 20,.z 22 (.af 10) 21,.z 23 (.bin .gtr 22 (zK 4096)) 21,.o 24 (.pick 21 zT 23),.m 25 24,.z 26 (.eJ 4 5) 25,.z 27 (.call (.k (.fn 24 [])) [26]) 25,.z 28 (.un .not 27) 25,.o 29 (.pick 25 zT 28)] 29 (rsq [.o 30 (.build zS4 []),.s 4 6 30,.o 7 (.af (.k (.ab []))),.o 8 (.af (zK 1)),.o 9 (.af (zK 0))] .ret) .skip)) (rsq [.d 31 3 3,.o 32 (.build [.ab [],.ab [],.ab [],.ab [],.ab [],.ab [],.c (.int .i64 0),.c (.int .i64 0)] [(0,3,31)]),.o 33 (.box 32),.m 11 33] (rsq [.m 35 11,.d 36 5 4,.k 37 25 [35,36],.m 34 37,.x 38 34 0,.x 39 34 1,.o 12 (.box (.k (.agg zS4))),.o 13 (.box (.k (.agg zS4))),.s 4 12 38,.s 4 13 39] (.seq (.seq (drg [.m 40 11,.n 41 40,.f 42 6 41,.f 43 0 42,.l 44 43,.o 45 (.bin .eql 44 (zK 0)),.m 46 45,.y 47 (.af 11) 46,.y 48 (.eJ 4 13) 46,.y 49 (.af 11) 46,.y 50 (.eJ 4 5) 46,.y 51 (.call (.k (.fn 27 [])) [49,50]) 46,.y 52 (.call (.k (.fn 26 [])) [47,48,51]) 46,.y 53 (.un .not 52) 46,.o 54 (.pick 46 53 zF)] [0,1,2,3,4,5,6,9,10,111,7,8,312,413,414]) (.cond 54 (.aG [.m 55 11,.f 56 4 4,.l 57 56,.k 58 28 [55,(zK 121),57]]) .skip)) (.seq (rif [.m 59 11,.n 60 59,.f 61 6 60,.f 62 0 61,.l 63 62,.o 64 (.bin .neq 63 (zK 0))] 64 (.seq (drg [.o 65 (.build zS4 []),.m 66 11,.n 67 66,.f 68 6 67,.f 69 0 68,.l 70 69,.m 71 11,.n 72 71,.f 73 6 72,.f 74 1 73,.l 75 74,.s 4 6 65,.o 7 (.af (.k (.ab []))),.m 8 70,.m 9 75] [0,111,1,2,3,4,5,6,7,8,9,10,212,213,214]) .ret) .skip) (rsq [.d 77 4 12,.k 78 29 [77,(zK 1000)],.m 76 78,.x 79 76 0,.x 80 76 1,.x 81 76 2,.o 14 (.box (.k (.agg zS4))),.s 4 14 79,.m 15 80,.m 16 81] (.seq (rif [.m 82 16,.o 83 (.bin .neq 82 (zK 0)),.m 84 83,.z 85 (.eJ 4 14) 84,.z 86 (.call (.k (.fn 30 [])) [85]) 84,.z 87 (.bin .gtr 86 (zK 4096)) 84,.o 88 (.pick 84 zT 87),.m 89 88,.z 90 (.af 11) 89,.z 91 (.af 11) 89,.z 92 (.gO 91) 89,.z 93 (.aX 5 92) 89,.z 94 (.aU 93) 89,.z 95 (.call (.k (.fn 32 [])) [94]) 89,.z 96 (.call (.k (.fn 31 [])) [90,95]) 89,.o 97 (.pick 89 zT 96)] 97 (rsq [.o 98 (.build zS4 []),.s 4 6 98,.o 7 (.af (.k (.ab []))),.o 8 (.af (zK 122)),.o 9 (.af (zK 0))] .ret) .skip) (.seq (drg [.d 99 4 14,.m 100 11,.k 101 33 [100],.s 4 6 99,.m 7 101,.o 8 (.af (zK 0)),.o 9 (.af (zK 0))] [1,102,0,303,404,405,406]) .ret))))))))
def r9:List aw:=[.bj 4 6,.tmp 7,.tmp 8,.tmp 9]
theorem k9:az prog 9 3 Tryz.f9 c9 r9:=.auto func9
def De:AC:=rsq [.o 2 (.box 0),.o 3 (.box 1),.o 4 (.box (.k (.agg zS4))),.o 5 (.af (.k (.ab []))),.o 6 (.af (zK 0)),.o 7 (.af (zK 0))] (rsq [.d 8 3 2,.d 9 5 3,.o 10 (.build zS4 [(1,1,(.k (.c (.str [111]))))]),.k 11 9 [8,9,10],.x 12 11 0,.x 13 11 1,.x 14 11 2,.x 15 11 3,.s 4 4 12,.m 5 13,.m 6 14,.m 7 15] .ret)
def Df:List aw:=[.bj 4 4,.tmp 5,.tmp 6,.tmp 7]
theorem LC:az prog 17 2 Tryz.f17 De Df:=.auto func17
def mz:AC:=rsq [.o 1 (.box 0),.o 2 (.af (zK 0))] (rsq [.o 3 (.af (zK 0))] (.seq (rsq [.f 8 0 1,.l 9 8] (.block 0 (.seq (rif [.o 11 (.bin .eql 9 (zK 0)),.m 10 11] 10 .skip (rif [.o 12 (.bin .eql 9 (zK 1)),.m 10 12] 10 .skip (.aG [.o 13 (.bin .eql 9 (zK 2)),.m 10 13]))) (.cond 10 (rsq [.o 2 (.af (zK 1))] .ret) (rif [.o 15 (.bin .eql 9 (zK 4)),.m 14 15] 14 (.aG [.o 3 (.af (zK 1))]) (rif [.o 17 (.bin .eql 9 (zK 3)),.m 16 17] 16 (.aG [.o 3 (.af (zK 2))]) (rsq [.o 2 (.af (.k (.c (.int .i64 (-1)))))] .ret))))))) (.seq (rif [.f 18 3 1,.l 19 18,.o 20 (.aO 19),.m 21 3,.o 22 (.bin .neq 20 21)] 22 (rsq [.o 2 (.af (.k (.c (.int .i64 (-1)))))] .ret) .skip) (rsq [.o 4 (.af (zK 1))] (.seq (rsq [.f 23 3 1,.l 24 23,.o 25 (.aO 24),.o 26 (.af (zK 0))] (.block 1 (.loop (rsq [.o 27 (.bin .lss 26 25)] (.seq (.cond 27 .skip (.exit 1)) (.seq (.block 2 (rsq [.o 28 (.aI 5 24 26),.d 29 5 28,.o 6 (.box (.k (.agg [.c (.int .i64 0),.c (.str []),.c (.int .i64 0),.ab [],.c (.int .i64 0)]))),.s 5 6 29] (rsq [.d 30 5 6,.k 31 23 [30],.m 7 31] (.seq (rif [.m 32 7,.o 33 (.bin .lss 32 (zK 0))] 33 (rsq [.o 2 (.af (.k (.c (.int .i64 (-1)))))] .ret) .skip) (.aG [.m 34 4,.m 35 7,.o 36 (.bin .add 34 35),.m 4 36]))))) (.aG [.o 37 (.bin .add 26 (zK 1)),.m 26 37]))))))) (rsq [.m 38 4,.m 2 38] .ret))))))
def kA:List aw:=[.tmp 2]
theorem LD:az prog 23 1 Tryz.f23 mz kA:=.auto func23
def qb:AC:=rsq [.o 3 (.box 1),.o 4 (.box (.k (.agg zS4))),.o 5 (.box (.k (.agg zS4)))] (.seq (rif [.m 11 0,.n 12 11,.f 13 6 12,.f 14 0 13,.l 15 14,.o 16 (.bin .neq 15 (zK 0))] 16 (rsq [.o 17 (.build zS4 []),.o 18 (.build zS4 []),.s 4 4 17,.s 4 5 18] .ret) .skip) (.seq (rsq [.f 19 0 3,.l 20 19] (.block 0 (rif [.o 22 (.bin .eql 20 (zK 2)),.m 21 22] 21 (rsq [.f 23 2 3,.l 24 23,.o 25 (.build zS4 [(0,1,(zK 2)),(2,1,24)]),.o 26 (.build zS4 [(1,1,(.k (.c (.str [105,110,116]))))]),.s 4 4 25,.s 4 5 26] .ret) (rif [.o 28 (.bin .eql 20 (zK 4)),.m 27 28] 27 (rsq [.m 29 0,.d 30 5 3,.k 31 66 [29,30],.x 32 31 0,.x 33 31 1,.s 4 4 32,.s 4 5 33] .ret) (rif [.o 35 (.bin .eql 20 (zK 3)),.m 34 35] 34 (rsq [.m 37 0,.f 38 3 3,.l 39 38,.o 40 (.aI 5 39 (zK 0)),.d 41 5 40,.k 42 25 [37,41],.m 36 42,.x 43 36 0,.x 44 36 1,.o 6 (.box (.k (.agg zS4))),.o 7 (.box (.k (.agg zS4))),.s 4 6 43,.s 4 7 44] (rsq [.m 46 0,.f 47 3 3,.l 48 47,.o 49 (.aI 5 48 (zK 1)),.d 50 5 49,.k 51 25 [46,50],.m 45 51,.x 52 45 0,.x 53 45 1,.o 8 (.box (.k (.agg zS4))),.o 9 (.box (.k (.agg zS4))),.s 4 8 52,.s 4 9 53] (.seq (rif [.m 54 0,.n 55 54,.f 56 6 55,.f 57 0 56,.l 58 57,.o 59 (.bin .neq 58 (zK 0))] 59 (rsq [.o 60 (.build zS4 []),.o 61 (.build zS4 []),.s 4 4 60,.s 4 5 61] .ret) .skip) (rsq [.m 62 0,.k 63 67 [62],.o 10 (.box (.k (.agg zS4))),.s 4 10 63] (.seq (.seq (drg [.m 64 0,.d 65 4 7,.d 66 4 10,.d 67 4 9,.o 68 (.bn 4 [67]),.k 69 68 [66,68],.k 70 26 [64,65,69],.o 71 (.un .not 70)] [2,3,4,105,0,1,306,407]) (.cond 71 (.aG [.m 72 0,.f 73 4 3,.l 74 73,.k 75 28 [72,(zK 121),74]]) .skip)) (.seq (drg [.d 76 4 6,.d 77 4 8,.o 78 (.bn 4 [77]),.k 79 69 [76,78],.d 80 4 10,.s 4 4 79,.s 4 5 80] [0,1,2,103,305,4,506]) .ret)))))) .skip))))) (rsq [.m 81 0,.d 82 5 3,.k 83 70 [81,82],.x 84 83 0,.x 85 83 1,.s 4 4 84,.s 4 5 85] .ret)))
def nF:List aw:=[.bj 4 4,.bj 4 5]
theorem uQ:az prog 25 2 Tryz.f25 qb nF:=.auto func25
def uR:AC:=rsq [.o 4 (.box 1),.o 5 (.box 2),.o 6 (.af zF)] (.seq (drg [.m 10 0,.n 11 10,.f 12 3 11,.l 13 12,.d 14 4 4,.d 15 4 5,.k 16 71 [13,14,15],.m 9 16,.x 17 9 0,.x 18 9 1,.m 7 17,.m 8 18] [0,1,2,3,4,5,106,207,208,209,210,211]) (rsq [.m 19 0,.m 20 7,.n 21 19,.f 22 3 21,.s 1 22 20] (rsq [.m 23 8,.o 24 (.bin .eql 23 (zK 0)),.m 6 24] .ret)))
def uS:List aw:=[.tmp 6]
theorem yP:az prog 26 3 Tryz.f26 uR uS:=.auto func26
def sa:AC:=rsq [.o 3 (.box 1),.o 4 (.box (.k (.agg zS4)))] (rsq [.d 6 4 3,.k 7 72 [6],.s 4 3 7] (.seq (drg [.d 8 4 3,.m 9 0,.n 10 9,.f 11 3 10,.l 12 11,.o 13 (.aO 12),.k 14 73 [8,13],.o 5 (.box (.k (.agg zS4))),.s 4 5 14] [107,0,1,2,3,4,5,6,308]) (.seq (rsq [.d 15 4 3,.k 16 74 [15],.o 17 (.af (zK 0))] (.block 0 (.loop (rsq [.o 18 (.bin .lss 17 16)] (.seq (.cond 18 .skip (.exit 0)) (.seq (.block 1 (.aG [.m 19 0,.k 20 67 [19]])) (.aG [.o 21 (.bin .add 17 (zK 1)),.m 17 21]))))))) (rsq [.d 22 4 5,.s 4 4 22] .ret))))
def sb:List aw:=[.bj 4 4]
theorem Dg:az prog 27 2 Tryz.f27 sa sb:=.auto func27
def uT:AC:=rsq [.o 2 (.box 0),.o 4 (.box (.k (.agg zS4))),.o 5 (.af (zK 0)),.o 6 (.af (zK 0))] (rsq [.d 11 4 2,.m 12 1,.k 13 75 [11,12],.m 10 13,.x 14 10 0,.x 15 10 1,.x 16 10 2,.o 7 (.box (.k (.agg zS4))),.s 4 7 14,.m 8 15,.m 9 16] (.seq (rif [.m 17 9,.o 18 (.bin .neq 17 (zK 0))] 18 (rsq [.o 19 (.build zS4 []),.m 20 9,.s 4 4 19,.o 5 (.af (zK 0)),.m 6 20] .ret) .skip) (rsq [.d 21 4 7,.k 22 76 [21],.m 23 8,.s 4 4 22,.m 5 23,.o 6 (.af (zK 0))] .ret)))
def uU:List aw:=[.bj 4 4,.tmp 5,.tmp 6]
theorem Dh:az prog 29 2 Tryz.f29 uT uU:=.auto func29
def Di:AC:=rsq [.o 1 (.box 0),.o 2 (.af (zK 0))] (rsq [.o 3 (.af (zK 1))] (rsq [.d 9 4 1,.k 10 77 [9],.m 8 10,.x 11 8 0,.x 12 8 1,.m 4 11,.m 5 12] (.seq (rsq [.m 13 4,.o 14 (.aO 13),.o 15 (.af (zK 0))] (.block 0 (.loop (rsq [.o 16 (.bin .lss 15 14)] (.seq (.cond 16 .skip (.exit 0)) (.seq (.block 1 (rsq [.o 17 (.aI 4 13 15),.d 18 4 17,.o 7 (.box (.k (.agg zS4))),.s 4 7 18] (.aG [.m 19 3,.d 20 4 7,.k 21 30 [20],.o 22 (.bin .add 19 21),.m 3 22]))) (.aG [.o 23 (.bin .add 15 (zK 1)),.m 15 23]))))))) (rsq [.m 24 3,.m 2 24] .ret))))
def Dj:List aw:=[.tmp 2]
theorem LF:az prog 30 1 Tryz.f30 Di Dj:=.auto func30
def c31:AC:=rsq [.o 4 (.af zF)] (rsq [.o 5 (.af (zK 4096))] (.seq (rsq [.m 8 1,.o 9 (.aO 8),.o 10 (.af (zK 0))] (.block 0 (.loop (rsq [.o 11 (.bin .lss 10 9)] (.seq (.cond 11 .skip (.exit 0)) (.seq (.block 1 (rsq [.o 12 (.aI 4 8 10),.d 13 4 12,.o 7 (.box (.k (.agg zS4))),.s 4 7 13] (.aG [.m 14 0,.d 15 4 7,.m 16 5,.k 17 78 [14,15,16],.m 5 17]))) (.aG [.o 18 (.bin .add 10 (zK 1)),.m 10 18]))))))) (rsq [.m 19 5,.o 20 (.bin .lss 19 (zK 0)),.m 4 20] .ret)))
def Dk:List aw:=[.tmp 4]
theorem LG:az prog 31 2 Tryz.f31 c31 Dk:=.auto func31
def Dl:AC:=rsq [.o 2 (.af (.k (.ab [])))] (rsq [.o 3 (.af (.k (.ab [])))] (.seq (rsq [.m 6 0,.o 7 (.aO 6),.o 8 (.af (zK 0))] (.block 0 (.loop (rsq [.o 9 (.bin .lss 8 7)] (.seq (.cond 9 .skip (.exit 0)) (.seq (.block 1 (rsq [.o 10 (.aI 5 6 8),.d 11 5 10,.o 5 (.box (.k (.agg [.c (.str []),.c (.int .i64 0),.c (.str []),.c (.int .i64 0),.ab []]))),.s 5 5 11] (.aG [.m 12 3,.f 13 1 5,.d 14 4 13,.o 15 (.bn 4 [14]),.o 16 (.app 34 4 56 12 15),.m 3 16]))) (.aG [.o 17 (.bin .add 8 (zK 1)),.m 8 17]))))))) (rsq [.m 18 3,.m 2 18] .ret)))
def yQ:List aw:=[.tmp 2]
theorem LH:az prog 32 1 Tryz.f32 Dl yQ:=.auto func32
def uV:AC:=rsq [.o 2 (.af (.k (.ab [])))] (rsq [.o 3 (.af (.k (.ab [])))] (.seq (rsq [.m 10 0,.n 11 10,.f 12 5 11,.l 13 12,.o 14 (.aO 13),.o 15 (.af (zK 0))] (.block 0 (.loop (rsq [.o 16 (.bin .lss 15 14)] (.seq (.cond 16 .skip (.exit 0)) (.seq (.block 1 (rsq [.o 17 (.aI 5 13 15),.d 18 5 17,.o 5 (.box (.k (.agg [.c (.str []),.c (.int .i64 0),.c (.str []),.c (.int .i64 0),.ab []]))),.s 5 5 18] (drg [.m 19 3,.m 20 0,.n 21 20,.f 22 3 21,.l 23 22,.f 24 1 5,.d 25 4 24,.k 26 79 [23,25],.o 27 (.bn 4 [26]),.o 28 (.app 34 4 56 19 27),.m 3 28] [1,2,3,4,5,6,107,0,208,309,410]))) (.aG [.o 29 (.bin .add 15 (zK 1)),.m 15 29]))))))) (rsq [.o 31 (.build zS4 [(1,1,(.k (.c (.str [111]))))]),.m 32 3,.k 33 68 [31,32],.k 34 72 [33],.k 35 80 [34],.m 30 35,.x 36 30 0,.x 37 30 1,.o 7 (.box (.k (.agg zS4))),.m 6 36,.s 4 7 37] (rsq [.m 38 0,.n 39 38,.f 40 5 39,.l 41 40,.k 42 81 [41],.m 8 42] (.seq (rsq [.m 43 8,.o 44 (.aO 43),.o 45 (.af (zK 0))] (.block 2 (.loop (rsq [.o 46 (.bin .lss 45 44)] (.seq (.cond 46 .skip (.exit 2)) (.seq (.block 3 (rsq [.m 47 45,.m 9 47] (.aG [.m 48 8,.m 49 9,.m 50 6,.m 51 9,.o 52 (.aI 4 50 51),.d 53 4 52,.o 54 (.aI 5 48 49),.f 55 1 54,.s 4 55 53]))) (.aG [.o 56 (.bin .add 45 (zK 1)),.m 45 56]))))))) (rsq [.m 57 8,.m 2 57] .ret))))))
def uW:List aw:=[.tmp 2]
theorem Dm:az prog 33 1 Tryz.f33 uV uW:=.auto func33
def yR:AC:=rsq [.o 3 (.box 1),.o 4 (.box (.k (.agg zS4))),.o 5 (.box (.k (.agg zS4)))] (rsq [.m 9 0,.k 10 67 [9],.o 6 (.box (.k (.agg zS4))),.s 4 6 10] (.seq (drg [.m 11 0,.m 12 0,.n 13 12,.f 14 4 13,.l 15 14,.f 16 1 3,.l 17 16,.d 18 4 6,.o 19 (.build [.c (.str []),.c (.int .i64 0),.c (.str []),.c (.int .i64 0),.ab []] [(0,1,17),(1,4,18)]),.o 20 (.bn 5 [19]),.o 21 (.app 50 5 72 15 20),.n 22 11,.f 23 4 22,.s 1 23 21] [1,2,3,4,5,6,7,8,9,110,0,211,212,313]) (rsq [.m 25 0,.f 26 3 3,.l 27 26,.o 28 (.aI 5 27 (zK 0)),.d 29 5 28,.k 30 25 [25,29],.m 24 30,.x 31 24 0,.x 32 24 1,.o 7 (.box (.k (.agg zS4))),.o 8 (.box (.k (.agg zS4))),.s 4 7 31,.s 4 8 32] (.seq (drg [.m 33 0,.m 34 0,.n 35 34,.f 36 4 35,.l 37 36,.m 38 0,.n 39 38,.f 40 4 39,.l 41 40,.o 42 (.aO 41),.o 43 (.bin .sub 42 (zK 1)),.o 44 (.jq 5 37 none (some 43) none),.n 45 33,.f 46 4 45,.s 1 46 44] [0,1,2,3,4,5,6,7,8,9,10,11,12,13,114]) (.seq (drg [.d 47 4 7,.k 48 118 [(zK 1),47],.d 49 4 8,.d 50 4 6,.o 51 (.bn 4 [50]),.k 52 68 [49,51],.s 4 4 48,.s 4 5 52] [0,101,2,3,4,305,506,707]) .ret)))))
def yS:List aw:=[.bj 4 4,.bj 4 5]
theorem LI:az prog 66 2 Tryz.f66 yR yS:=.auto func66
def c70:AC:=rsq [.o 3 (.box 1),.o 4 (.box (.k (.agg zS4))),.o 5 (.box (.k (.agg zS4)))] (.seq (.seq (drg [.m 10 0,.n 11 10,.f 12 4 11,.l 13 12,.f 14 1 3,.l 15 14,.k 16 121 [13,15],.m 6 16] [0,1,2,3,4,5,106,207]) (rif [.m 17 6,.o 18 (.bin .geq 17 (zK 0))] 18 (.seq (drg [.m 19 0,.n 20 19,.f 21 4 20,.l 22 21,.o 23 (.aO 22),.o 24 (.bin .sub 23 (zK 1)),.m 25 6,.o 26 (.bin .sub 24 25),.o 27 (.build zS4 [(0,1,(zK 3)),(2,1,26)]),.m 28 0,.n 29 28,.f 30 4 29,.l 31 30,.m 32 6,.o 33 (.aI 5 31 32),.f 34 1 33,.d 35 4 34,.s 4 4 27,.s 4 5 35] [0,1,2,3,4,5,6,7,8,117,9,10,11,12,13,14,15,16,318]) .ret) .skip)) (.seq (rif [.f 36 0 3,.l 37 36,.o 38 (.bin .eql 37 (zK 1))] 38 (.seq (drg [.m 39 0,.n 40 39,.f 41 5 40,.l 42 41,.f 43 1 3,.l 44 43,.k 45 121 [42,44],.m 7 45] [0,1,2,3,4,5,106,207]) (.seq (rif [.m 46 7,.o 47 (.bin .lss 46 (zK 0))] 47 (rsq [.m 48 0,.n 49 48,.f 50 5 49,.l 51 50,.o 52 (.aO 51),.m 7 52] (drg [.m 53 0,.m 54 0,.n 55 54,.f 56 5 55,.l 57 56,.f 58 1 3,.l 59 58,.m 60 0,.k 61 67 [60],.o 62 (.build [.c (.str []),.c (.int .i64 0),.c (.str []),.c (.int .i64 0),.ab []] [(0,1,59),(1,4,61)]),.o 63 (.bn 5 [62]),.o 64 (.app 50 5 72 57 63),.n 65 53,.f 66 5 65,.s 1 66 64] [7,108,1,2,3,4,5,6,209,210,311,0,412,413,514])) .skip) (.seq (drg [.m 67 7,.o 68 (.build zS4 [(0,1,(zK 4)),(2,1,67)]),.m 69 0,.n 70 69,.f 71 5 70,.l 72 71,.m 73 7,.o 74 (.aI 5 72 73),.f 75 1 74,.d 76 4 75,.s 4 4 68,.s 4 5 76] [0,1,110,2,3,4,5,6,7,8,9,311]) .ret))) .skip) (rsq [.m 78 0,.f 79 1 3,.l 80 79,.k 81 122 [78,80],.m 77 81,.x 82 77 0,.x 83 77 1,.o 8 (.box (.k (.agg zS4))),.s 4 8 82,.m 9 83] (.seq (rif [.m 84 9,.o 85 (.un .not 84)] 85 (.aG [.m 86 0,.f 87 4 3,.l 88 87,.k 89 28 [86,(zK 120),88]]) .skip) (.seq (drg [.f 90 1 3,.l 91 90,.o 92 (.build zS4 [(1,1,91)]),.d 93 4 8,.s 4 4 92,.s 4 5 93] [0,1,2,104,3,305]) .ret)))))
def oF:List aw:=[.bj 4 4,.bj 4 5]
theorem sc:az prog 70 2 Tryz.f70 c70 oF:=.auto func70
def uX:AC:=rsq [.o 4 (.box 1),.o 5 (.box 2),.o 6 (.af (.k (.ab []))),.o 7 (.af (zK 0))] (rsq [.m 8 0,.d 9 4 4,.o 10 (.bn 4 [9]),.d 11 4 5,.o 12 (.bn 4 [11]),.k 13 123 [8,10,12],.x 14 13 0,.x 15 13 1,.m 6 14,.m 7 15] .ret)
def uY:List aw:=[.tmp 6,.tmp 7]
theorem yT:az prog 71 3 Tryz.f71 uX uY:=.auto func71
def c75:AC:=rsq [.o 2 (.box 0),.o 4 (.box (.k (.agg zS4))),.o 5 (.af (zK 0)),.o 6 (.af (zK 0))] (rsq [.d 7 4 2,.m 8 1,.k 9 129 [7,8,(.k (.fn 130 []))],.x 10 9 0,.x 11 9 1,.x 12 9 2,.s 4 4 10,.m 5 11,.m 6 12] .ret)
def uZ:List aw:=[.bj 4 4,.tmp 5,.tmp 6]
theorem Dn:az prog 75 2 Tryz.f75 c75 uZ:=.auto func75
def c76:AC:=rsq [.o 1 (.box 0),.o 2 (.box (.k (.agg zS4)))] (.seq (rsq [.f 9 0 1,.l 10 9] (.block 0 (rif [.o 12 (.bin .eql 10 (zK 5)),.m 11 12] 11 (rsq [.f 13 3 1,.l 14 13,.o 15 (.aI 4 14 (zK 0)),.d 16 4 15,.k 17 76 [16],.o 3 (.box (.k (.agg zS4))),.s 4 3 17] (.seq (rsq [.d 19 4 3,.k 20 131 [19],.m 18 20,.x 21 18 0,.x 22 18 1,.o 4 (.box (.k (.agg zS4))),.s 4 4 21,.m 5 22] (rif [.m 23 5] 23 (rsq [.d 24 4 4,.s 4 2 24] .ret) .skip)) (rsq [.d 25 4 3,.k 26 118 [(zK 1),25],.s 4 2 26] .ret))) (rif [.o 28 (.bin .eql 10 (zK 6)),.m 27 28] 27 (rsq [.o 6 (.af (.k (.ab [])))] (.seq (rsq [.f 29 3 1,.l 30 29,.o 31 (.aO 30),.o 32 (.af (zK 0))] (.block 1 (.loop (rsq [.o 33 (.bin .lss 32 31)] (.seq (.cond 33 .skip (.exit 1)) (.seq (.block 2 (rsq [.o 34 (.aI 4 30 32),.d 35 4 34,.o 8 (.box (.k (.agg zS4))),.s 4 8 35] (.aG [.m 36 6,.d 37 4 8,.k 38 76 [37],.o 39 (.bn 4 [38]),.o 40 (.app 41 4 56 36 39),.m 6 40]))) (.aG [.o 41 (.bin .add 32 (zK 1)),.m 32 41]))))))) (.seq (drg [.m 42 6,.o 43 (.aI 4 42 (zK 0)),.d 44 4 43,.m 45 6,.o 46 (.jq 4 45 (some (zK 1)) none none),.k 47 69 [44,46],.s 4 2 47] [0,1,2,3,4,105,306]) .ret))) .skip)))) (rsq [.d 48 4 1,.s 4 2 48] .ret))
def sd:List aw:=[.bj 4 2]
theorem LJ:az prog 76 1 Tryz.f76 c76 sd:=.auto func76
def u6:AC:=rsq [.o 4 (.box 1),.o 6 (.af (zK 0))] (.seq (rif [.m 9 2,.o 10 (.bin .lss 9 (zK 0))] 10 (rsq [.m 11 2,.m 6 11] .ret) .skip) (.seq (.block 0 (.loop (.seq (.seq (drg [.f 12 0 4,.l 13 12,.o 14 (.bin .eql 13 (zK 1)),.m 15 14,.y 16 (.af 0) 15,.y 17 (.gO 16) 15,.y 18 (.aX 3 17) 15,.y 19 (.aU 18) 15,.y 20 (.aX 2 4) 15,.y 21 (.aU 20) 15,.y 22 (.aI 4 19 21) 15,.y 23 (.aX 0 22) 15,.y 24 (.aU 23) 15,.y 25 (.bin .neq 24 (zK 1)) 15,.y 26 (.af 25) 15,.z 27 (.af 0) 26,.z 28 (.gO 27) 26,.z 29 (.aX 3 28) 26,.z 30 (.aU 29) 26,.z 31 (.aX 2 4) 26,.z 32 (.aU 31) 26,.z 33 (.aI 4 30 32) 26,.z 34 (.aX 2 33) 26,.z 35 (.aU 34) 26,.z 36 (.aX 2 4) 26,.z 37 (.aU 36) 26,.z 38 (.bin .neq 35 37) 26,.y 39 (.pick 26 zT 38) 15,.o 40 (.pick 15 39 zF)] [0,1,2,3,4,5,6,7,8,9,10,11,12,13,14,15,16,17,18,19,20,21,22,23,24,25,26,27,28]) (.cond 40 .skip (.exit 0))) (.block 1 (drg [.m 41 0,.n 42 41,.f 43 3 42,.l 44 43,.f 45 2 4,.l 46 45,.o 47 (.aI 4 44 46),.d 48 4 47,.s 4 4 48] [0,1,2,3,4,5,6,7,108]))))) (rsq [.m 49 2,.o 50 (.bin .sub 49 (zK 1)),.m 2 50] (.seq (rsq [.f 51 3 4,.l 52 51,.o 53 (.aO 52),.o 54 (.af (zK 0))] (.block 2 (.loop (rsq [.o 55 (.bin .lss 54 53)] (.seq (.cond 55 .skip (.exit 2)) (.seq (.block 3 (rsq [.o 56 (.aI 4 52 54),.d 57 4 56,.o 8 (.box (.k (.agg zS4))),.s 4 8 57] (.aG [.m 58 0,.d 59 4 8,.m 60 2,.k 61 78 [58,59,60],.m 2 61]))) (.aG [.o 62 (.bin .add 54 (zK 1)),.m 54 62]))))))) (rsq [.m 63 2,.m 6 63] .ret)))))
def se:List aw:=[.tmp 6]
theorem Dp:az prog 78 3 Tryz.f78 u6 se:=.auto func78
def Dq:AC:=rsq [.o 3 (.box 1),.o 4 (.box (.k (.agg zS4)))] (.seq (rif [.m 5 0,.d 6 4 3,.o 7 (.bn 4 [6]),.k 8 132 [5,7],.o 9 (.un .not 8)] 9 (rsq [.d 10 4 3,.s 4 4 10] .ret) .skip) (rsq [.m 11 0,.d 12 4 3,.k 13 133 [11,12],.s 4 4 13] .ret))
def Dr:List aw:=[.bj 4 4]
theorem LK:az prog 79 2 Tryz.f79 Dq Dr:=.auto func79
def u7:AC:=rsq [.o 4 (.box (.k (.agg zS4))),.o 5 (.af zF)] (rsq [.m 9 0,.n 10 9,.f 11 0 10,.d 12 3 11,.m 13 1,.k 14 15 [12,13],.m 8 14,.x 15 8 0,.x 16 8 1,.o 6 (.box (.k (.agg zS4))),.s 4 6 15,.m 7 16] (.seq (rif [.m 17 7,.o 18 (.un .not 17),.m 19 18,.z 20 (.eJ 4 6) 19,.z 21 (.call (.k (.fn 24 [])) [20]) 19,.z 22 (.un .not 21) 19,.o 23 (.pick 19 zT 22)] 23 (rsq [.o 24 (.build zS4 []),.s 4 4 24,.o 5 (.af zF)] .ret) .skip) (rsq [.m 25 0,.d 26 4 6,.k 27 27 [25,26],.s 4 4 27,.o 5 (.af zT)] .ret)))
def u9:List aw:=[.bj 4 4,.tmp 5]
theorem Ds:az prog 122 2 Tryz.f122 u7 u9:=.auto func122
def sf:AC:=rsq [.o 6 (.af (.k (.ab []))),.o 7 (.af (zK 0))] (.seq (rif [.m 12 1,.o 13 (.aO 12),.m 14 2,.o 15 (.aO 14),.o 16 (.bin .neq 13 15),.m 17 16,.z 18 (.af 0) 17,.z 19 (.af 1) 17,.z 20 (.call (.k (.fn 132 [])) [18,19]) 17,.z 21 (.un .not 20) 17,.o 22 (.pick 17 zT 21),.m 23 22,.z 24 (.af 0) 23,.z 25 (.af 2) 23,.z 26 (.call (.k (.fn 132 [])) [24,25]) 23,.z 27 (.un .not 26) 23,.o 28 (.pick 23 zT 27)] 28 (rsq [.m 29 0,.m 6 29,.o 7 (.af (zK 1))] .ret) .skip) (rsq [.o 8 (.af (.k (.ab [])))] (.seq (rsq [.m 30 1,.o 31 (.aO 30),.o 32 (.af (zK 0))] (.block 0 (.loop (rsq [.o 33 (.bin .lss 32 31)] (.seq (.cond 33 .skip (.exit 0)) (.seq (.block 1 (rsq [.m 34 32,.m 9 34] (drg [.m 35 8,.m 36 1,.m 37 9,.o 38 (.aI 4 36 37),.d 39 4 38,.m 40 2,.m 41 9,.o 42 (.aI 4 40 41),.d 43 4 42,.o 44 (.build [.c (.int .i64 0),.c (.str []),.c (.int .i64 0),.ab [],.c (.int .i64 0),.c (.str []),.c (.int .i64 0),.ab []] [(0,4,39),(4,4,43)]),.o 45 (.bn 8 [44]),.o 46 (.app 235 8 112 35 45),.m 8 46] [0,1,2,3,4,5,6,7,8,9,10,111,212]))) (.aG [.o 47 (.bin .add 32 (zK 1)),.m 32 47]))))))) (rsq [.m 48 8,.k 49 180 [48]] (rsq [.m 50 0,.k 51 181 [50],.m 10 51] (.seq (rsq [.m 52 10,.m 53 8,.k 54 182 [52,53],.m 11 54] (rif [.m 55 11,.o 56 (.bin .neq 55 (zK 0))] 56 (rsq [.m 57 0,.m 58 11,.m 6 57,.m 7 58] .ret) .skip)) (rsq [.m 59 10,.m 6 59,.o 7 (.af (zK 0))] .ret)))))))
def sg:List aw:=[.tmp 6,.tmp 7]
theorem yU:az prog 123 3 Tryz.f123 sf sg:=.auto func123
def yV:AC:=rsq [.o 2 (.af (.k (.ab [])))] (.seq (rif [.m 3 0,.o 4 (.iw false 3)] 4 (rsq [.o 2 (.af (.k (.ab [])))] .ret) .skip) (rsq [.o 5 (.bn 4 []),.m 6 0,.o 7 (.app 34 4 56 5 6),.m 2 7] .ret))
def Dt:List aw:=[.tmp 2]
theorem Du:az prog 181 1 Tryz.f181 yV Dt:=.auto func181
end Go.Proofs.YtdlkenpilhakfaaGreatDoor
namespace Go.Lamb
open Go Go.RowKit
section
variable {P:Program} {w0:World} {f:FuncId} {args:List V} {σ:H}
theorem DC.LL{e size k:Nat}{cs:List C}{c:Int}{b0:Nat}(hd:DC P w0 f args σ (fun v τ=>∃L L2,v= .av [.vec (σ.length+L.length) k,.c (.int .i64 c)]/\τ=σ.set b0 .gone++(L++ .vec e size cs::L2))):DC P w0 f args σ (Same (.av [.vec σ.length k,.c (.int .i64 c)]) (σ.set b0 .gone++[.vec e size cs])):=by
 refine⟨hd.enters,fun κ w vs hrep hfit=>(hd.run κ w vs hrep hfit).mono ?_⟩;rintro e' w' ⟨v,d0,σ0,κ',rfl,⟨L,L2,rfl,rfl⟩,h3,h4,h5⟩;obtain⟨σ1,hσ1,hln,hok⟩:∃σ1:H,σ1=σ.set b0 .gone/\σ1.length=σ.length/\(∀B∈σ1,∀cs tg,B= .cells cs tg->∀x∈cs,V.low σ1.length x):=⟨_,rfl,bC ..,fun B hB cs tg hc x hx=>by
  rw[bC];rcases lK hB with hB|rfl
  ·exact hrep.ok B hB cs tg hc x hx
  ·cases hc⟩
 have hn:κ.n=σ1.length:=hrep.n.trans hln.symm;rw[<-hσ1]at h4⊢;rw[<-hln]at h5⊢;clear hrep hfit;obtain⟨ι,hid,hend⟩:∃ι:Nat->Nat,(∀b,b<σ1.length->ι b=b)/\ι σ1.length=σ1.length+L.length:=
  ⟨fun j=>if j<σ1.length then j else σ1.length+L.length,fun b hb=>if_pos hb,if_neg (Nat.lt_irrefl _)⟩
 have hcase:∀j,j<σ1.length+1->j<σ1.length\/j=σ1.length:=fun j h=>by omega
 refine⟨v,_,_,κ'.pack ι (σ1.length+1),rfl,⟨rfl,rfl⟩,K.xG h3 (fun b hb=>hid b (by rw[<-hn];exact hb)) (by rw[hn];omega),h4.pack (fun j hj=>?_) (fun i j hi hj hij=>?_) (by simp) (fun j hj hj' hι=>?_),h5.pack ?_⟩
 ·rcases hcase j hj with h|rfl
  ·rw[hid j h];simp;omega
  ·rw[hend];simp
 ·rcases hcase i hi with h|rfl<;>rcases hcase j hj with kk|rfl
  ·rwa [hid i h,hid j kk]at hij
  ·rw[hid i h,hend]at hij;omega
  ·rw[hid j kk,hend]at hij;omega
  ·rfl
 ·rcases hcase j hj with h|rfl
  ·have e1:(σ1++(L++ad.vec e size cs::L2))[ι j]=σ1[j]:=by
    rw[mW,hid j h,cF h,aR h]
   have e2:(σ1++[ad.vec e size cs])[j]=σ1[j]:=cC h;rw[e1,e2];exact ad.ow hid (Nat.le_succ _) (fun cs tg hc x hx=>hok _ (List.getElem_mem h) cs tg hc x hx)
  ·have e1:(σ1++(L++ad.vec e size cs::L2))[ι σ1.length]=ad.vec e size cs:=by
    rw[mW,hend,cY (by omega),Nat.add_sub_cancel_left,cY (aA _),ck];rfl
   have e2:(σ1++[ad.vec e size cs])[σ1.length]=ad.vec e size cs:=by simp
   rw[e1,e2];exact .vec _ _ _
 ·refine .av rfl fun q hq hq'=>?_
  match q,hq,hq' with
  |0,_,_=>
   have:=V.cm.vec (ι:=ι) (m:=σ1.length+1) (j:=σ1.length) (k:=k) (by omega);rw[hend]at this;exact this
  |1,_,_=>exact .c _
end
theorem Dv{σ:H}(h:H.ok σ)(m:Nat):H.ok (σ.set m .gone):=fun B hB cs tg hc x hx=>by
 rw[bC];rcases lK hB with hB|rfl
 ·exact h B hB cs tg hc x hx
 ·cases hc
theorem LM(s:List aa):rowsOf 4 s.length (aJ s)=s.map aa.cs:=by
 have:=ph (kz s);rw[cd]at this;exact this
end Go.Lamb
namespace Go.Proofs.YtdlkenpilhakfaaGreatDoor
open Go.RowKit Go.Lamb
attribute [local go_sem] aa.v aa.aM aY a7 aV aL aT
theorem LN(w0:World)(s:List aa)(hs0:s≠[])(hn:s.length<=1000000)(σ:H):DC prog w0 181 [.c (.sl (s.map aa.cs))] σ (Same (.vec σ.length s.length) (σ++[.vec 34 4 (aJ s)])):=by
 have hl0:s.map aa.cs≠[]:=by simpa using hs0
 have hb3:∀r∈s.map aa.cs,r.length=4:=kz s;have hb1:s.length*56<=140737488355328:=by omega
 have hb2:s.length<=140737488355328:=by omega
 have hlm:(s.map aa.cs).length=s.length:=cd _;have hfl:(s.map aa.cs).flatten=aJ s:=rfl;rw[<-hfl,<-hlm];rw[<-hlm]at hb1 hb2;generalize s.map aa.cs=l at*
 refine Du.dn rfl (fun hok hsz=>?_);(refine W.a ?_;simp only[go_sem,yV]);refine W.ja rfl rfl rfl (fun b hb=>?_);cases b
 ·(refine W.a ?_;simp only[go_sem]);refine W.no rfl ?_;refine W.skip (W.seq (W.aG (W.jy rfl rfl (W.jy rfl rfl ?_))));refine W.pf (olds:=[]) (news:=l) rfl rfl rfl rfl ⟨hl0,(fun r hr=>by cases hr),hb3,by simpa using hb1,by simpa using hb2⟩ ?_;(refine W.a ?_;simp only[go_sem,er]);refine W.ret ⟨_,_,rfl,.rfl _,?_⟩;exact⟨rfl,rfl⟩
 ·exact absurd (hb rfl) hl0
theorem Ve(w0:World)(σ:H):DC prog w0 181 [.ab []] σ (Same (.c (.sl [])) σ):=by
 refine Du.go rfl (fun hok hsz=>?_);(refine W.a ?_;simp only[go_sem,yV]);refine W.ja rfl rfl rfl (fun b hb=>?_);cases b
 ·(refine W.a ?_;simp only[go_sem]);refine W.no rfl (W.a ?_);simp only[go_sem,ne_eq,not_false_eq_true,or_false,true_or,Nat.zero_mul,bx];refine W.ret (Fin.lW (vs:=[.aF σ.length []]) hok rfl (by simp only[br,Dt,go_sem]) (.aF _ _) (.c _) rfl)
 ·(refine W.a ?_;simp only[go_sem]);refine W.yes rfl (W.a ?_);simp only[go_sem];refine W.ret (Fin.lW (vs:=[.ab []]) hok rfl (by simp only[br,Dt,go_sem]) (.ab _) (.c _) (cq _).symm)
theorem Vf(w0:World){N:Nat}{s:List aa}(hR:cl N s)(hN1:1<=N)(hN:N<=1000000)(hs:s.length<=1000000)(hs0:s≠[]){a b:aa}(ha:aD s.length a)(na:aC a<=N)(hb:aD s.length b)(nb:aC b<=N){s':List aa}(h:eU 4096 s [(a,b)] 0 s')(bs:Nat)(σ:H)(hbs:σ[bs]?=some (.vec 34 4 (aJ s))):
  DC prog w0 123 [.vec bs s.length,.c (.sl [a.cs]),.c (.sl [b.cs])] σ (Same (.av [.vec σ.length s.length,I 0]) (σ.set bs .gone++[.vec 34 4 (aJ s')])):=by
 obtain⟨e,he⟩:∃e:Int,e=0:=⟨_,rfl⟩;rw[<-he]at h;have hrA:∀(τ:H),τ[bs]?=some (.vec 34 4 (aJ s))->DC prog w0 132 [.vec bs s.length,.c (.sl [a.cs])] τ (Same (B true) τ):=fun τ h=>uK w0 hR hN hs [a] (fun t ht=>by simp at ht;subst ht;exact⟨ha,by omega⟩) τ bs h;have hrB:∀(τ:H),τ[bs]?=some (.vec 34 4 (aJ s))->DC prog w0 132 [.vec bs s.length,.c (.sl [b.cs])] τ (Same (B true) τ):=fun τ h=>uK w0 hR hN hs [b] (fun t ht=>by simp at ht;subst ht;exact⟨hb,by omega⟩) τ bs h;simp only[aa.aM]at hrA hrB;have hlt:=(aK.1 hbs).1
 have hrev:DC prog w0 180 [.vec σ.length 1] (σ++[.vec 235 8 (aP [(a,b)])]) (Same (.av []) (σ++[.vec 235 8 (aP [(a,b)])])):=by
  have:=uP w0 [(a,b)] (by simp) σ.length (σ++[.vec 235 8 (aP [(a,b)])]) (by rw[eB];rfl);rw[qW]at this;exact this
 have hcl:=fun τ=>LN w0 s hs0 hs τ;have hrun:DC prog w0 182 [.vec (σ.length+1) s.length,.vec σ.length 1] (σ.set bs .gone++[.vec 235 8 (aP [(a,b)]),.vec 34 4 (aJ s)]) (Same (I e) (σ.set bs .gone++[.gone,.vec 34 4 (aJ s')])):=by
  have:=LA w0 hR hN1 hN hs (st0:=[(a,b)]) (fun p hp=>by simp at hp;subst hp;exact⟨ha,hb,na,nb⟩) (by simp) h (σ.length+1) σ.length (by omega) (σ.set bs .gone++[.vec 235 8 (aP [(a,b)]),.vec 34 4 (aJ s)]) (by rw[AQ];rfl) (by rw[AP];rfl);rw[iz,AR]at this;exact this
 subst he;refine DC.LL ?_;refine yU.dn rfl (fun hok hsz=>?_);(refine W.a ?_;simp only[go_sem,sf]);(refine W.c1 (hrA σ hbs) ?_;simp only[go_sem]);(refine W.a ?_;simp only[go_sem]);(refine W.c1 (hrB σ hbs) ?_;simp only[go_sem]);(refine W.a ?_;simp only[go_sem]);refine W.no rfl (W.a ?_);simp only[go_sem];refine W.bA (α:=Bool) (fun _=>True) (fun o=>match o with
  |false=>⟨((((((base.put (some 0) (.vec bs s.length)).put (some 1) (.c (.sl [[.int .i64 a.k,.str a.name,.int .i64 a.n,.sl (a.l.map aa.cs)]]))).put (some 2) (.c (.sl [[.int .i64 b.k,.str b.name,.int .i64 b.n,.sl (b.l.map aa.cs)]]))).put (some 8) (.ab [])).put (some 31) (I 1)).put (some 32) (I 0)),σ⟩
  |true=>⟨((((((base.put (some 0) (.vec bs s.length)).put (some 1) (.c (.sl [[.int .i64 a.k,.str a.name,.int .i64 a.n,.sl (a.l.map aa.cs)]]))).put (some 2) (.c (.sl [[.int .i64 b.k,.str b.name,.int .i64 b.n,.sl (b.l.map aa.cs)]]))).put (some 8) (.vec σ.length 1)).put (some 31) (I 1)).put (some 32) (I 1)),σ++[.vec 235 8 (aP [(a,b)])]⟩) (fun o=>match o with|false=>1|true=>0) false trivial ?_ (fun o _=>?_)
 ·dsimp only
  (refine aq.env ?_;exact aE)
 cases o with
 |false=>
  dsimp only
  have z1:((0:Int)<1):=by decide
  have hw:aW.wrap (0+1)=1:=by decide
  have hr:aP [(a,b)]=bV (a,b):=by simp[aP]
  (refine W.a ?_;simp only[go_sem,z1]);refine W.yes rfl (W.a ?_);simp only[go_sem];apply W.aQ (aS _ _)
  case hc=>
   iterate 11 (apply ae.quiet (dF.step rfl (by(simp only[go_sem,z1,bP]);rfl));case hp=>(intro τ hτ;simp at hτ))
   apply ae.bK
   case h=>exact fc.vec (x:=.t 35) (y:=.t 45) (e:=235) (size:=8) (bytes:=112) (olds:=[]) (news:=[bV (a,b)]) rfl rfl rfl rfl ⟨by simp,(fun r hr=>by cases hr),(fun r hr=>by simp at hr;subst hr;rfl),by simp,by simp⟩
   (apply ae.al;simp only[go_sem,bt,dU,lN,bV]);exact ae.nil
  (refine W.a ?_;simp only[go_sem,hw]);refine .inv ⟨true,by decide,?_⟩;dsimp only
  rw[hr];simp only[bV];(refine aq.env ?_;exact aE)
 |true=>
  dsimp only
  have z1:¬((1:Int)<1):=by decide
  (refine W.a ?_;simp only[go_sem,z1]);refine W.no rfl (W.a ?_);simp only[go_sem];(refine W.c1 (hrev) ?_;simp only[go_sem]);(refine W.a ?_;simp only[go_sem]);refine W.jD (b:=bs) (e:=34) (size:=4) (k:=s.length) (cs:=aJ s) 50 rfl (hG hbs _) (sN (lq s).symm) ?_;rw[LM,hS hbs];(refine W.a ?_;simp only[go_sem]);(refine W.c1 (hcl _) ?_;simp only[go_sem]);(refine W.a ?_;simp only[go_sem]);(refine W.c1 (hrun) ?_;simp only[go_sem]);(refine W.a ?_;simp only[go_sem]);refine W.no rfl (W.a ?_);simp only[go_sem];exact W.ret ⟨_,_,(by simp only[br,sg,go_sem];rfl),.rfl _,⟨[.gone],[],rfl,rfl⟩⟩
theorem Vg(w0:World){N:Nat}{s:List aa}(hR:cl N s)(hN1:1<=N)(hN:N<=1000000)(hs:s.length<=1000000)(hs0:s≠[]){a b:aa}(ha:aD s.length a)(na:aC a<=N)(hb:aD s.length b)(nb:aC b<=N){e:Int}{s':List aa}(h:eU 4096 s [(a,b)] e s')(he:e≠0)(bs:Nat)(σ:H)(hbs:σ[bs]?=some (.vec 34 4 (aJ s))):
  DC prog w0 123 [.vec bs s.length,.c (.sl [a.cs]),.c (.sl [b.cs])] σ (Same (.av [.vec bs s.length,I e]) (σ.set bs .gone)):=by
 have hrA:∀(τ:H),τ[bs]?=some (.vec 34 4 (aJ s))->DC prog w0 132 [.vec bs s.length,.c (.sl [a.cs])] τ (Same (B true) τ):=fun τ h=>uK w0 hR hN hs [a] (fun t ht=>by simp at ht;subst ht;exact⟨ha,by omega⟩) τ bs h;have hrB:∀(τ:H),τ[bs]?=some (.vec 34 4 (aJ s))->DC prog w0 132 [.vec bs s.length,.c (.sl [b.cs])] τ (Same (B true) τ):=fun τ h=>uK w0 hR hN hs [b] (fun t ht=>by simp at ht;subst ht;exact⟨hb,by omega⟩) τ bs h;simp only[aa.aM]at hrA hrB;have hlt:=(aK.1 hbs).1;have hrev:DC prog w0 180 [.vec σ.length 1] (σ++[.vec 235 8 (aP [(a,b)])]) (Same (.av []) (σ++[.vec 235 8 (aP [(a,b)])])):=by
  have:=uP w0 [(a,b)] (by simp) σ.length (σ++[.vec 235 8 (aP [(a,b)])]) (by rw[eB];rfl);rw[qW]at this;exact this
 have hcl:=fun τ=>LN w0 s hs0 hs τ;have hrun:DC prog w0 182 [.vec (σ.length+1) s.length,.vec σ.length 1] (σ.set bs .gone++[.vec 235 8 (aP [(a,b)]),.vec 34 4 (aJ s)]) (Same (I e) (σ.set bs .gone++[.gone,.vec 34 4 (aJ s')])):=by
  have:=LA w0 hR hN1 hN hs (st0:=[(a,b)]) (fun p hp=>by simp at hp;subst hp;exact⟨ha,hb,na,nb⟩) (by simp) h (σ.length+1) σ.length (by omega) (σ.set bs .gone++[.vec 235 8 (aP [(a,b)]),.vec 34 4 (aJ s)]) (by rw[AQ];rfl) (by rw[AP];rfl);rw[iz,AR]at this;exact this
 have hne:(e !=0)=true:=by simp[he]
 refine yU.go rfl (fun hok hsz=>?_);have hok2:H.ok (σ.set bs .gone):=Dv hok bs;(refine W.a ?_;simp only[go_sem,sf]);(refine W.c1 (hrA σ hbs) ?_;simp only[go_sem]);(refine W.a ?_;simp only[go_sem]);(refine W.c1 (hrB σ hbs) ?_;simp only[go_sem]);(refine W.a ?_;simp only[go_sem]);refine W.no rfl (W.a ?_);simp only[go_sem];refine W.bA (α:=Bool) (fun _=>True) (fun o=>match o with
  |false=>⟨((((((base.put (some 0) (.vec bs s.length)).put (some 1) (.c (.sl [[.int .i64 a.k,.str a.name,.int .i64 a.n,.sl (a.l.map aa.cs)]]))).put (some 2) (.c (.sl [[.int .i64 b.k,.str b.name,.int .i64 b.n,.sl (b.l.map aa.cs)]]))).put (some 8) (.ab [])).put (some 31) (I 1)).put (some 32) (I 0)),σ⟩
  |true=>⟨((((((base.put (some 0) (.vec bs s.length)).put (some 1) (.c (.sl [[.int .i64 a.k,.str a.name,.int .i64 a.n,.sl (a.l.map aa.cs)]]))).put (some 2) (.c (.sl [[.int .i64 b.k,.str b.name,.int .i64 b.n,.sl (b.l.map aa.cs)]]))).put (some 8) (.vec σ.length 1)).put (some 31) (I 1)).put (some 32) (I 1)),σ++[.vec 235 8 (aP [(a,b)])]⟩) (fun o=>match o with|false=>1|true=>0) false trivial ?_ (fun o _=>?_)
 ·dsimp only
  (refine aq.env ?_;exact aE)
 cases o with
 |false=>
  dsimp only
  have z1:((0:Int)<1):=by decide
  have hw:aW.wrap (0+1)=1:=by decide
  have hr:aP [(a,b)]=bV (a,b):=by simp[aP]
  (refine W.a ?_;simp only[go_sem,z1]);refine W.yes rfl (W.a ?_);simp only[go_sem];apply W.aQ (aS _ _)
  case hc=>
   iterate 11 (apply ae.quiet (dF.step rfl (by(simp only[go_sem,z1,bP]);rfl));case hp=>(intro τ hτ;simp at hτ))
   apply ae.bK
   case h=>exact fc.vec (x:=.t 35) (y:=.t 45) (e:=235) (size:=8) (bytes:=112) (olds:=[]) (news:=[bV (a,b)]) rfl rfl rfl rfl ⟨by simp,(fun r hr=>by cases hr),(fun r hr=>by simp at hr;subst hr;rfl),by simp,by simp⟩
   (apply ae.al;simp only[go_sem,bt,dU,lN,bV]);exact ae.nil
  (refine W.a ?_;simp only[go_sem,hw]);refine .inv ⟨true,by decide,?_⟩;dsimp only
  rw[hr];simp only[bV];(refine aq.env ?_;exact aE)
 |true=>
  dsimp only
  have z1:¬((1:Int)<1):=by decide
  (refine W.a ?_;simp only[go_sem,z1]);refine W.no rfl (W.a ?_);simp only[go_sem];(refine W.c1 (hrev) ?_;simp only[go_sem]);(refine W.a ?_;simp only[go_sem]);refine W.jD (b:=bs) (e:=34) (size:=4) (k:=s.length) (cs:=aJ s) 50 rfl (hG hbs _) (sN (lq s).symm) ?_;rw[LM,hS hbs];(refine W.a ?_;simp only[go_sem]);(refine W.c1 (hcl _) ?_;simp only[go_sem]);(refine W.a ?_;simp only[go_sem]);(refine W.c1 (hrun) ?_;simp only[go_sem]);(refine W.a ?_;simp only[go_sem,hne]);refine W.yes rfl (W.a ?_);simp only[go_sem];refine W.ret (Fin.lW hok2 (bC ..) (by simp only[br,sg,go_sem];rfl) (.rfl _) (.av fun x hx=>?_) rfl)
  simp at hx;rcases hx with rfl|rfl
  ·exact .vec hlt
  ·exact .c _
theorem Vh(w0:World){N:Nat}(hN:N<=1000000){a b:aa}(ha:aD 0 a)(na:aC a<=N)(hb:aD 0 b)(nb:aC b<=N){e:Int}(h:eU 4096 [] [(a,b)] e [])(σ:H):
  DC prog w0 123 [.ab [],.c (.sl [a.cs]),.c (.sl [b.cs])] σ (Same (.av [.c (.sl []),I e]) σ):=by
 have hrA:∀(τ:H),DC prog w0 132 [.ab [],.c (.sl [a.cs])] τ (Same (B true) τ):=fun τ=>Lo w0 [a] (fun t ht=>by simp at ht;subst ht;exact⟨ha,by omega⟩) τ;have hrB:∀(τ:H),DC prog w0 132 [.ab [],.c (.sl [b.cs])] τ (Same (B true) τ):=fun τ=>Lo w0 [b] (fun t ht=>by simp at ht;subst ht;exact⟨hb,by omega⟩) τ;simp only[aa.aM]at hrA hrB;have hrev:DC prog w0 180 [.vec σ.length 1] (σ++[.vec 235 8 (aP [(a,b)])]) (Same (.av []) (σ++[.vec 235 8 (aP [(a,b)])])):=by
  have:=uP w0 [(a,b)] (by simp) σ.length (σ++[.vec 235 8 (aP [(a,b)])]) (by rw[eB];rfl);rw[qW]at this;exact this
 have hcl:=fun τ=>Ve w0 τ;have hrun:DC prog w0 182 [.c (.sl []),.vec σ.length 1] (σ++[.vec 235 8 (aP [(a,b)])]) (Same (I e) (σ++[.gone])):=Vd w0 hN (st0:=[(a,b)]) (fun p hp=>by simp at hp;subst hp;exact⟨ha,hb,na,nb⟩) (by simp) h σ;refine yU.go rfl (fun hok hsz=>?_);by_cases he:e=0
 ·subst he;(refine W.a ?_;simp only[go_sem,sf]);(refine W.c1 (hrA σ) ?_;simp only[go_sem]);(refine W.a ?_;simp only[go_sem]);(refine W.c1 (hrB σ) ?_;simp only[go_sem]);(refine W.a ?_;simp only[go_sem]);refine W.no rfl (W.a ?_);simp only[go_sem];refine W.bA (α:=Bool) (fun _=>True) (fun o=>match o with
   |false=>⟨((((((base.put (some 0) (.ab [])).put (some 1) (.c (.sl [[.int .i64 a.k,.str a.name,.int .i64 a.n,.sl (a.l.map aa.cs)]]))).put (some 2) (.c (.sl [[.int .i64 b.k,.str b.name,.int .i64 b.n,.sl (b.l.map aa.cs)]]))).put (some 8) (.ab [])).put (some 31) (I 1)).put (some 32) (I 0)),σ⟩
   |true=>⟨((((((base.put (some 0) (.ab [])).put (some 1) (.c (.sl [[.int .i64 a.k,.str a.name,.int .i64 a.n,.sl (a.l.map aa.cs)]]))).put (some 2) (.c (.sl [[.int .i64 b.k,.str b.name,.int .i64 b.n,.sl (b.l.map aa.cs)]]))).put (some 8) (.vec σ.length 1)).put (some 31) (I 1)).put (some 32) (I 1)),σ++[.vec 235 8 (aP [(a,b)])]⟩) (fun o=>match o with|false=>1|true=>0) false trivial ?_ (fun o _=>?_)
  ·dsimp only
   (refine aq.env ?_;exact aE)
  cases o with
  |false=>
   dsimp only
   have z1:((0:Int)<1):=by decide
   have hw:aW.wrap (0+1)=1:=by decide
   have hr:aP [(a,b)]=bV (a,b):=by simp[aP]
   (refine W.a ?_;simp only[go_sem,z1]);refine W.yes rfl (W.a ?_);simp only[go_sem];apply W.aQ (aS _ _)
   case hc=>
    iterate 11 (apply ae.quiet (dF.step rfl (by(simp only[go_sem,z1,bP]);rfl));case hp=>(intro τ hτ;simp at hτ))
    apply ae.bK
    case h=>exact fc.vec (x:=.t 35) (y:=.t 45) (e:=235) (size:=8) (bytes:=112) (olds:=[]) (news:=[bV (a,b)]) rfl rfl rfl rfl ⟨by simp,(fun r hr=>by cases hr),(fun r hr=>by simp at hr;subst hr;rfl),by simp,by simp⟩
    (apply ae.al;simp only[go_sem,bt,dU,lN,bV]);exact ae.nil
   (refine W.a ?_;simp only[go_sem,hw]);refine .inv ⟨true,by decide,?_⟩;dsimp only
   rw[hr];simp only[bV];(refine aq.env ?_;exact aE)
  |true=>
   dsimp only
   have z1:¬((1:Int)<1):=by decide
   (refine W.a ?_;simp only[go_sem,z1]);refine W.no rfl (W.a ?_);simp only[go_sem];(refine W.c1 (hrev) ?_;simp only[go_sem]);(refine W.a ?_;simp only[go_sem]);(refine W.c1 (hcl _) ?_;simp only[go_sem]);(refine W.a ?_;simp only[go_sem]);(refine W.c1 (hrun) ?_;simp only[go_sem]);(refine W.a ?_;simp only[go_sem]);refine W.no rfl (W.a ?_);simp only[go_sem];(refine W.fs (hok) (by simp only[sg,go_sem];rfl) ?_;simp only[ak];try exact V.wk.rfl _)
 ·have hne:(e !=0)=true:=by simp[he]
  (refine W.a ?_;simp only[go_sem,sf]);(refine W.c1 (hrA σ) ?_;simp only[go_sem]);(refine W.a ?_;simp only[go_sem]);(refine W.c1 (hrB σ) ?_;simp only[go_sem]);(refine W.a ?_;simp only[go_sem]);refine W.no rfl (W.a ?_);simp only[go_sem];refine W.bA (α:=Bool) (fun _=>True) (fun o=>match o with
   |false=>⟨((((((base.put (some 0) (.ab [])).put (some 1) (.c (.sl [[.int .i64 a.k,.str a.name,.int .i64 a.n,.sl (a.l.map aa.cs)]]))).put (some 2) (.c (.sl [[.int .i64 b.k,.str b.name,.int .i64 b.n,.sl (b.l.map aa.cs)]]))).put (some 8) (.ab [])).put (some 31) (I 1)).put (some 32) (I 0)),σ⟩
   |true=>⟨((((((base.put (some 0) (.ab [])).put (some 1) (.c (.sl [[.int .i64 a.k,.str a.name,.int .i64 a.n,.sl (a.l.map aa.cs)]]))).put (some 2) (.c (.sl [[.int .i64 b.k,.str b.name,.int .i64 b.n,.sl (b.l.map aa.cs)]]))).put (some 8) (.vec σ.length 1)).put (some 31) (I 1)).put (some 32) (I 1)),σ++[.vec 235 8 (aP [(a,b)])]⟩) (fun o=>match o with|false=>1|true=>0) false trivial ?_ (fun o _=>?_)
  ·dsimp only
   (refine aq.env ?_;exact aE)
  cases o with
  |false=>
   dsimp only
   have z1:((0:Int)<1):=by decide
   have hw:aW.wrap (0+1)=1:=by decide
   have hr:aP [(a,b)]=bV (a,b):=by simp[aP]
   (refine W.a ?_;simp only[go_sem,z1]);refine W.yes rfl (W.a ?_);simp only[go_sem];apply W.aQ (aS _ _)
   case hc=>
    iterate 11 (apply ae.quiet (dF.step rfl (by(simp only[go_sem,z1,bP]);rfl));case hp=>(intro τ hτ;simp at hτ))
    apply ae.bK
    case h=>exact fc.vec (x:=.t 35) (y:=.t 45) (e:=235) (size:=8) (bytes:=112) (olds:=[]) (news:=[bV (a,b)]) rfl rfl rfl rfl ⟨by simp,(fun r hr=>by cases hr),(fun r hr=>by simp at hr;subst hr;rfl),by simp,by simp⟩
    (apply ae.al;simp only[go_sem,bt,dU,lN,bV]);exact ae.nil
   (refine W.a ?_;simp only[go_sem,hw]);refine .inv ⟨true,by decide,?_⟩;dsimp only
   rw[hr];simp only[bV];(refine aq.env ?_;exact aE)
  |true=>
   dsimp only
   have z1:¬((1:Int)<1):=by decide
   (refine W.a ?_;simp only[go_sem,z1]);refine W.no rfl (W.a ?_);simp only[go_sem];(refine W.c1 (hrev) ?_;simp only[go_sem]);(refine W.a ?_;simp only[go_sem]);(refine W.c1 (hcl _) ?_;simp only[go_sem]);(refine W.a ?_;simp only[go_sem]);(refine W.c1 (hrun) ?_;simp only[go_sem]);(refine W.a ?_;simp only[go_sem,hne]);refine W.yes rfl (W.a ?_);simp only[go_sem];(refine W.fs (hok) (by simp only[sg,go_sem];rfl) ?_;simp only[ak];try exact V.wk.rfl _)
   all_goals (all_goals exact au)
end Go.Proofs.YtdlkenpilhakfaaGreatDoor
namespace Go.Proofs.YtdlkenpilhakfaaGreatDoor
open Go.RowKit Go.Lamb
attribute [local go_sem] aa.v aa.aM aY a7 aV aL aT
theorem Vi(w0:World){N:Nat}{s:List aa}(hR:cl N s)(hN1:1<=N)(hN:N<=1000000)(hs:s.length<=1000000)(hs0:s≠[]){a b:aa}(ha:aD s.length a)(na:aC a<=N)(hb:aD s.length b)(nb:aC b<=N){s':List aa}(h:eU 4096 s [(a,b)] 0 s')(bs:Nat)(σ:H)(hbs:σ[bs]?=some (.vec 34 4 (aJ s))):
  DC prog w0 71 [.vec bs s.length,a.v,b.v] σ (Same (.av [.vec σ.length s.length,I 0]) (σ.set bs .gone++[.vec 34 4 (aJ s')])):=by
 have hall:∀c d:ad,DC prog w0 123 [.vec bs s.length,.c (.sl [a.cs]),.c (.sl [b.cs])] (σ++[c,d]) (Same (.av [.vec (σ.length+2) s.length,I 0]) (σ.set bs .gone++[c,d,.vec 34 4 (aJ s')])):=fun c d=>by
  have:=Vf w0 hR hN1 hN hs hs0 ha na hb nb h bs (σ++[c,d]) (hG hbs _);rw[hS hbs,dc,bt]at this;exact this
 simp only[aa.aM]at hall;refine DC.LL ?_;refine yT.dn rfl (fun hok hsz=>?_);(refine W.a ?_;simp only[go_sem,uX]);(refine W.jE (hall _ _) ?_;simp only[go_sem]);(refine W.a ?_;simp only[go_sem]);exact W.ret ⟨_,_,(by simp only[br,uY,go_sem];rfl),.rfl _,⟨[_,_],[],rfl,rfl⟩⟩
theorem Vj(w0:World){N:Nat}{s:List aa}(hR:cl N s)(hN1:1<=N)(hN:N<=1000000)(hs:s.length<=1000000)(hs0:s≠[]){a b:aa}(ha:aD s.length a)(na:aC a<=N)(hb:aD s.length b)(nb:aC b<=N){e:Int}{s':List aa}(h:eU 4096 s [(a,b)] e s')(he:e≠0)(bs:Nat)(σ:H)(hbs:σ[bs]?=some (.vec 34 4 (aJ s))):
  DC prog w0 71 [.vec bs s.length,a.v,b.v] σ (Same (.av [.vec bs s.length,I e]) (σ.set bs .gone)):=by
 have hlt:=(aK.1 hbs).1;have hall:∀c d:ad,DC prog w0 123 [.vec bs s.length,.c (.sl [a.cs]),.c (.sl [b.cs])] (σ++[c,d]) (Same (.av [.vec bs s.length,I e]) (σ.set bs .gone++[c,d])):=fun c d=>by
  have:=Vg w0 hR hN1 hN hs hs0 ha na hb nb h he bs (σ++[c,d]) (hG hbs _);rwa [hS hbs]at this
 simp only[aa.aM]at hall;refine yT.go rfl (fun hok hsz=>?_);have hok2:H.ok (σ.set bs .gone):=Dv hok bs;(refine W.a ?_;simp only[go_sem,uX]);(refine W.jE (hall _ _) ?_;simp only[go_sem]);(refine W.a ?_;simp only[go_sem]);refine W.ret (Fin.lW hok2 (bC ..) (by simp only[br,uY,go_sem];rfl) (.rfl _) (.av fun x hx=>?_) rfl);simp at hx;rcases hx with rfl|rfl
 ·exact .vec hlt
 ·exact .c _
theorem Vk(w0:World){N:Nat}(hN:N<=1000000){a b:aa}(ha:aD 0 a)(na:aC a<=N)(hb:aD 0 b)(nb:aC b<=N){e:Int}(h:eU 4096 [] [(a,b)] e [])(σ:H):
  DC prog w0 71 [.ab [],a.v,b.v] σ (Same (.av [.c (.sl []),I e]) σ):=by
 have hall:∀c d:ad,DC prog w0 123 [.ab [],.c (.sl [a.cs]),.c (.sl [b.cs])] (σ++[c,d]) (Same (.av [.c (.sl []),I e]) (σ++[c,d])):=fun c d=>Vh w0 hN ha na hb nb h (σ++[c,d]);simp only[aa.aM]at hall;refine yT.go rfl (fun hok hsz=>?_);(refine W.a ?_;simp only[go_sem,uX]);(refine W.jE (hall _ _) ?_;simp only[go_sem]);(refine W.a ?_;simp only[go_sem]);(refine W.fs (hok) (by simp only[uY,go_sem];rfl) ?_;simp only[ak];try exact V.wk.rfl _)
end Go.Proofs.YtdlkenpilhakfaaGreatDoor
namespace Go.Lamb
open Go Go.RowKit
mutual
inductive mA (s:List aa):aa->aa->Prop where
 |var {t u:aa} {n:Nat} (h:gd s t u n) (hk:u.k=1):mA s t u
 |gX {t u:aa} {n:Nat} {w:List aa} (h:gd s t u n) (hk:u.k≠1) (r:gk s u.l w):mA s t (.mk u.k u.name 0 w)
inductive gk (s:List aa):List aa->List aa->Prop where
 |nil:gk s [] []
 |cons {t u:aa} {l w:List aa} (r:mA s t u) (rs:gk s l w):gk s (t::l) (u::w)
end
theorem gk.len{s:List aa}:∀{l w:List aa},gk s l w->w.length=l.length
 |_,_,.nil=>rfl
 |_,_,.cons r rs=>by rw[bo,bo,rs.len]
theorem Vl{s:List aa}{rk:Int->Nat}(hL:tG s rk)(m:Nat):∀(t:aa),aD s.length t->(∀v,cX v t=true->rk v<m)->∃u,mA s t u:=by
 induction m using Nat.strongRecOn with
 |ind m ihm=>
  have gX:∀(t:aa),aD s.length t->t.k≠1->(∀v,cX v t=true->rk v<m)->(∀u∈t.l,aD s.length u->(∀v,cX v u=true->rk v<m)->∃w,mA s u w)->∃w,gk s t.l w:=fun t ht hk hm ih=>by
   have key:∀l:List aa,(∀u∈l,u∈t.l)->∃w,gk s l w:=by
    intro l;induction l with
    |nil=>exact fun _=>⟨[],.nil⟩
    |cons x l ihl=>
     intro hs;have hx:=hs x (bp ..);obtain⟨w,r⟩:=ih x hx (ht.dO hk hx) (fun v hv=>hm v ((lh hk).2 ⟨x,hx,hv⟩));obtain⟨ws,rs⟩:=ihl (fun u hu=>hs u (bW _ hu));exact⟨w::ws,.cons r rs⟩
   exact key t.l (fun _ h=>h)
  intro t;refine aa.ind (P:=fun t=>aD s.length t->(∀v,cX v t=true->rk v<m)->∃u,mA s t u) (fun t ih ht hm=>?_) t;by_cases hk:t.k=1
  ·cases hs:bH s t
   ·exact⟨t,.var (.stop hs) hk⟩
   ·obtain⟨g1,g2⟩:=hL.less t ht hs;obtain⟨u,r⟩:=ihm (rk t.n) (hm t.n ((mj hk).2 rfl)) (cf s t.n) g1 g2;cases r with
    |var h hk=>exact⟨_,.var (.go hs h) hk⟩
    |gX h hk r=>exact⟨_,.gX (.go hs h) hk r⟩
  ·have hs:bH s t=false:=by
    cases h:bH s t
    ·rfl
    ·exact absurd (gb h) hk
   obtain⟨w,r⟩:=gX t ht hk hm (fun u hu=>ih u hu);exact⟨_,.gX (.stop hs) hk r⟩
theorem oG(n b k:Nat):V.low n (.vec b k)↔b<n:=⟨fun h=>by cases h;assumption,fun h=>.vec h⟩
end Go.Lamb
namespace Go.Proofs.YtdlkenpilhakfaaGreatDoor
open Go.RowKit Go.Lamb
attribute [local go_sem] aa.v aa.aM aY a7 aV aL aT
theorem LO(w0:World){s:List aa}(b:Nat)(σ:H)(hb:σ[b]?=some (.vec 34 4 (aJ s))){t u:aa}(hd:∀σ':H,σ'[b]?=some (.vec 34 4 (aJ s))->DC prog w0 191 [.vec b s.length,t.v] σ' (Same u.v σ')):
  (u.k=1->DC prog w0 133 [.vec b s.length,t.v] σ (Same u.v σ))/\(u.k≠1->∀w:List aa,w.length=u.l.length->u.l.length<=1000000->
    (∀i (hi:i<u.l.length) (hi':i<w.length) (σ':H),σ'[b]?=some (.vec 34 4 (aJ s))->DC prog w0 133 [.vec b s.length,u.l[i].v] σ' (Same w[i].v σ'))->DC prog w0 133 [.vec b s.length,t.v] σ (Same (aa.mk u.k u.name 0 w).v σ)):=by
 refine⟨fun hk=>?_,fun hk w hw hn hrec=>?_⟩
 ·have k1:(u.k==1)=true:=by simp[hk]
  refine CS.go rfl (fun hok hsz=>?_);(refine W.a ?_;simp only[go_sem,yC]);(refine W.c1 (hd _ (hG hb _)) ?_;simp only[go_sem]);(refine W.a ?_;simp only[go_sem,k1]);refine W.yes rfl (W.a ?_);simp only[go_sem];(refine W.fs (hok) (by simp only[uF,go_sem];rfl) ?_;simp only[ak];try exact V.wk.rfl _)
  all_goals (all_goals exact au)
 ·have k1:(u.k==1)=false:=by simp[hk]
  have hblt:=(aK.1 hb).1;refine CS.go rfl (fun hok hsz=>?_);(refine W.a ?_;simp only[go_sem,yC]);(refine W.c1 (hd _ (hG hb _)) ?_;simp only[go_sem]);(refine W.a ?_;simp only[go_sem,k1]);refine W.no rfl (W.a ?_);simp only[go_sem];refine W.bA (α:=Option Nat) (fun o=>match o with|none=>True|some i=>1<=i/\i<=u.l.length) (fun o=>match o with
   |none=>⟨((((((base.put (some 0) (.vec b s.length)).put (some 4) (.ptr (σ.length+1) 0)).put (some 5) (.ptr (σ.length+2) 0)).put (some 21) (.c (.sl (u.l.map aa.cs)))).put (some 22) (I (u.l.length:Int))).put (some 23) (I 0)),σ++[.cells [I u.k,S u.name,I u.n,.c (.sl (u.l.map aa.cs))],.cells [I 0,S [],I 0,.ab []],.cells [I u.k,S u.name,I 0,.ab []]]⟩
   |some i=>⟨((((((base.put (some 0) (.vec b s.length)).put (some 4) (.ptr (σ.length+1) 0)).put (some 5) (.ptr (σ.length+2) 0)).put (some 21) (.c (.sl (u.l.map aa.cs)))).put (some 22) (I (u.l.length:Int))).put (some 23) (I (i:Int))),σ++[.cells [I u.k,S u.name,I u.n,.c (.sl (u.l.map aa.cs))],.cells [I 0,S [],I 0,.ab []],.cells [I u.k,S u.name,I 0,.aF (σ.length+4) ((w.take i).map aa.cs)],.gone,.spare 34 4 i]⟩) (fun o=>match o with|none=>u.l.length+1|some i=>u.l.length-i) none trivial ?_ (fun o ho=>?_)
  ·dsimp only
   (refine aq.env ?_;exact aE)
  cases o with
  |none=>
   dsimp only
   by_cases h0:0<u.l.length
   ·have z1:(0:Int)<(u.l.length:Int):=by omega
    have hx0:u.l[0]?=some u.l[0]:=aR h0;have hr:=hrec 0 h0 (by omega);have htk:w.take 1=[w[0]]:=by
     cases w with
     |nil=>simp at hw;omega
     |cons x w=>rfl
    have hw1:aW.wrap (0+1)=((1:Nat):Int):=by decide
    generalize u.l[0]=x at*;generalize w[0]=y at*
    (refine W.a ?_;simp only[go_sem,z1]);refine W.yes rfl (W.a ?_);simp only[go_sem,z1,hx0];apply W.aQ (aS _ _)
    case hc=>
     (apply ae.al;simp only[go_sem]);(apply ae.call (hr _ (hG hb _));(case hg=>rfl);(case hf=>rfl);(case ha=>first|rfl|simp));(apply ae.al;simp only[go_sem,true_or]);exact ae.nil
    (refine W.a ?_;simp only[go_sem,hw1]);refine .inv ⟨some 1,⟨aA _,h0⟩,by dsimp only;omega,?_⟩;dsimp only
    rw[htk];simp only[cE,dT,aa.aM];(refine aq.eS (hok) ?_ (by simp) (by simp) ?_ ?_ ?_;exact aE;((try simp only[okB,bu,go_sem,oG])<;>omega);(simp only[bo,cM,dL,ey,dj,bu,and_true];(repeat' (refine fb ?_ ?_))<;>(first|exact ad.wk.rfl _|exact ad.wk.gone _|(refine ad.eT ?_ rfl;(exact au))));(repeat' (first|exact aZ.base _|(refine aZ.put ?_ (by first|exact .c _|((try simp only[okB,bu,go_sem,oG])<;>omega))))))
   ·have hw0:w=[]:=fA (by omega);subst hw0;have z1:¬(0:Int)<(u.l.length:Int):=by omega
    (refine W.a ?_;simp only[go_sem,z1]);refine W.no rfl (W.a ?_);simp only[go_sem];(refine W.fs (hok) (by simp only[uF,go_sem];rfl) ?_;simp only[ak];try exact V.wk.rfl _)
    all_goals (all_goals exact au)
  |some i=>
   obtain⟨hi1,hi⟩:=ho;dsimp only
   by_cases hlt:i<u.l.length
   ·have z1:(i:Int)<(u.l.length:Int):=by omega
    have z0:(0:Int)<=(i:Int):=by omega
    have hx0:u.l[i]?=some u.l[i]:=aR hlt;have hr:=hrec i hlt (by omega);have htk:(w.take (i+1)).map aa.cs=(w.take i).map aa.cs++[(w[i]).cs]:=by
     rw[jZ (by omega),dX];rfl
    have hw1:aW.wrap ((i:Int)+1)=((i+1:Nat):Int):=by rw[bD]<;>omega
    have htl:(w.take i).length=i:=by rw[eu];omega
    have b1:(i+1)*56<=140737488355328:=by omega
    have b2:i+1<=140737488355328:=by omega
    generalize u.l[i]=x at*;generalize w[i]=y at*;rw[aa.aM]at htk;(refine W.a ?_;simp only[go_sem,z1]);refine W.yes rfl (W.a ?_);simp only[go_sem,z1,z0,hx0];apply W.aQ (aS _ _)
    case hc=>
     (apply ae.al;simp only[go_sem]);(apply ae.call (hr _ (hG hb _));(case hg=>rfl);(case hf=>rfl);(case ha=>first|rfl|simp));(apply ae.al;simp only[go_sem,htl,b1,b2,true_or]);exact ae.nil
    (refine W.a ?_;simp only[go_sem,hw1]);refine .inv ⟨some (i+1),⟨by omega,hlt⟩,by dsimp only;omega,?_⟩;dsimp only
    rw[htk];(refine aq.eS (hok) ?_ (by simp) (by simp) ?_ ?_ ?_;exact aE;((try simp only[okB,bu,go_sem,oG])<;>omega);(simp only[bo,cM,dL,ey,dj,bu,and_true];(repeat' (refine fb ?_ ?_))<;>(first|exact ad.wk.rfl _|exact ad.wk.gone _|(refine ad.eT ?_ rfl;(exact au))));(repeat' (first|exact aZ.base _|(refine aZ.put ?_ (by first|exact .c _|((try simp only[okB,bu,go_sem,oG])<;>omega))))))
   ·obtain rfl:i=u.l.length:=by omega
    have z1:¬((u.l.length:Nat):Int)<((u.l.length:Nat):Int):=by omega
    have htk:w.take u.l.length=w:=by rw[<-hw,oZ]
    rw[htk];(refine W.a ?_;simp only[go_sem,z1]);refine W.no rfl (W.a ?_);simp only[go_sem];(refine W.fs (hok) (by simp only[uF,go_sem];rfl) ?_;simp only[ak];try exact V.wk.rfl _)
    all_goals (all_goals exact au)
end Go.Proofs.YtdlkenpilhakfaaGreatDoor
namespace Go.Proofs.YtdlkenpilhakfaaGreatDoor
open Go.RowKit Go.Lamb
attribute [local go_sem] aa.v aa.aM aY a7 aV aL aT
theorem LP{N:Nat}{s:List aa}(hR:cl N s):∀x,aD s.length x->bH s x=true->cf s x.n∈s/\aD s.length (cf s x.n):=fun x hx hs=>by
 obtain⟨h0,h1,_⟩:=hx.var (gb hs);exact⟨iE h0 h1,hR.right.holds _ (iE h0 h1)⟩
mutual
theorem LQ(w0:World){N:Nat}{s:List aa}(hR:cl N s)(hN:N<=1000000)(b:Nat):∀{t u:aa},mA s t u->aD s.length t->aC t<=N->∀(σ:H),σ[b]?=some (.vec 34 4 (aJ s))->DC prog w0 133 [.vec b s.length,t.v] σ (Same u.v σ)
 |t,_,.var (n:=n) h hk,ht,hn,σ,hb=>(LO w0 b σ hb (fun σ' hb'=>yM w0 s hR.right.holds t _ n h ht b σ' hb')).1 hk
 |t,_,.gX (u:=u) (n:=n) (w:=w) h hk r,ht,hn,σ,hb=>by
  have hu:=(uO hR.right.holds h ht).1;have nu:=py hR.size h (LP hR) ht hn;have hl:=oE u.l;have hu2:∀x∈u.l,aD s.length x/\aC x<=N:=fun x hx=>⟨hu.dO hk hx,by have:=kl hx;rw[cW]at nu;omega⟩;exact(LO w0 b σ hb (fun σ' hb'=>yM w0 s hR.right.holds t u n h ht b σ' hb')).2 hk w r.len (by rw[cW]at nu;omega) (LR w0 hR hN b r hu2)
theorem LR(w0:World){N:Nat}{s:List aa}(hR:cl N s)(hN:N<=1000000)(b:Nat):∀{l w:List aa},gk s l w->(∀x∈l,aD s.length x/\aC x<=N)->∀i (hi:i<l.length) (hi':i<w.length) (σ:H),σ[b]?=some (.vec 34 4 (aJ s))->DC prog w0 133 [.vec b s.length,l[i].v] σ (Same w[i].v σ)
 |_,_,.nil,_,i,hi,_,_,_=>absurd hi (Nat.not_lt_zero _)
 |_,_,.cons r rs,h,0,_,_,σ,hb=>LQ w0 hR hN b r (h _ (bp ..)).1 (h _ (bp ..)).2 σ hb
 |_,_,.cons r rs,h,i+1,hi,hi',σ,hb=>LR w0 hR hN b rs (fun x hx=>h x (bW _ hx)) i (nQ hi) (nQ hi') σ hb
end
theorem Vm(w0:World){N:Nat}{s:List aa}(hR:cl N s)(hN:N<=1000000)(hs:s.length<=1000000)(b:Nat){t u:aa}(h:mA s t u)(ht:aD s.length t)(hn:aC t<=N)(σ:H)(hb:σ[b]?=some (.vec 34 4 (aJ s))):
  DC prog w0 79 [.vec b s.length,t.v] σ (Same u.v σ):=by
 have hF:=fun σ' hb'=>LQ w0 hR hN b h ht hn σ' hb';have hRt:∀(τ:H),τ[b]?=some (.vec 34 4 (aJ s))->DC prog w0 132 [.vec b s.length,.c (.sl [t.cs])] τ (Same (B true) τ):=fun τ h=>uK w0 hR hN hs [t] (fun x hx=>by simp at hx;subst hx;exact⟨ht,by omega⟩) τ b h;simp only[aa.aM]at hRt;refine LK.go rfl (fun hok hsz=>?_);(refine W.a ?_;simp only[go_sem,Dq]);(refine W.jE (hRt _ (hG hb _)) ?_;simp only[go_sem]);(refine W.a ?_;simp only[go_sem]);refine W.no rfl (W.a ?_);simp only[go_sem];(refine W.c1 (hF _ (hG hb _)) ?_;simp only[go_sem])
 (refine W.a ?_;simp only[go_sem]);(refine W.fs (hok) (by simp only[Dr,go_sem];rfl) ?_;simp only[ak];try exact V.wk.rfl _)
 all_goals (all_goals exact au)
end Go.Proofs.YtdlkenpilhakfaaGreatDoor
namespace Go.Proofs.YtdlkenpilhakfaaGreatDoor
open Go.RowKit Go.Lamb
def Dw:AC:=rsq [.o 2 (.box (.k (.agg zS4)))] (rsq [.m 4 0,.n 5 4,.f 6 3 5,.l 7 6,.o 8 (.aO 7),.o 9 (.build zS4 [(0,1,(zK 1)),(2,1,8)]),.o 3 (.box (.k (.agg zS4))),.s 4 3 9] (.seq (drg [.m 10 0,.n 11 10,.f 12 3 11,.l 13 12,.d 14 4 3,.o 15 (.aO 13),.o 16 (.bn 4 [(.k (.agg zS4))]),.o 17 (.app 34 4 56 13 16),.o 18 (.aI 4 17 15),.s 4 18 14,.n 19 10,.f 20 3 19,.s 1 20 17] []) (rsq [.d 21 4 3,.s 4 2 21] .ret)))
def Dx:List aw:=[.bj 4 2]
theorem sh:az prog 67 1 Tryz.f67 Dw Dx:=.auto func67
end Go.Proofs.YtdlkenpilhakfaaGreatDoor
