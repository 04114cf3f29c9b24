/- . -/
import Derived.Test.YtdlkenpilhakfaaGreatDoorQJ39
set_option linter.unusedSimpArgs false
set_option linter.unusedVariables false
set_option maxHeartbeats 8000000
set_option maxRecDepth 20000
open Go.IntKind renaming i64->aW
open List renaming getElem?_append_left->cF,getElem?_eq_some_iff->aK,mem_cons->cD,not_mem_nil->jm
open Nat renaming add_assoc->jk,le_refl->aA,le_trans->bB,mul_add->jn,zero_le->bx
open Go.Proofs.Tryz
namespace Go.Lamb
open Go Go.RowKit
theorem vk(t:aa):1<=ax t:=by rw[eO];omega
theorem sq:∀(a b:List aa),bg (a++b)=bg a+bg b
 |[],b=>by rw[bg];simp
 |x::a,b=>by rw[List.cons_append,bg,bg,sq a b];omega
theorem jc(k:Int)(s:bG)(n:Int)(l:List aa):ax (.mk k s n l)=1+bg l:=by rw[ax]
theorem DW(t:aa)(l:List aa):ax (fw t l)<=1+bg l:=by
 unfold fw;split
 ·rename_i h;obtain⟨_,hl,hk,_⟩:=h
  match l,hl with
  |a::b::r,_=>
   simp only[List.headD_cons,List.tail_cons]at hk⊢;unfold cv;rw[if_neg (by simp),jc,sq,show bg (a::b::r)=ax a+bg (b::r)from by rw[bg]];split
   ·rw[eO a];omega
   ·rw[bg,bg];omega
 ·rw[jc];exact aA _
theorem EW{g:aa->Int->aa}{C:Nat}(hC:1<=C)(hg:∀u (j:Nat),u.k≠5->u.k≠6->ax (g u (j:Int))<=C*ax u)(t:aa):∀(k:Nat),ax (bN g (k:Int) t)<=C*ax t:=by
 refine aa.ind (P:=fun t=>∀(k:Nat),ax (bN g (k:Int) t)<=C*ax t) (fun t ih k=>?_) t;have key:∀(j:Nat) (l:List aa),(∀u∈l,u∈t.l)->bg (l.map (bN g (j:Int)))<=C*bg l:=by
  intro j l;induction l with
  |nil=>intro _;rw[List.map_nil,bg];exact bx _
  |cons x l ihl=>
   intro h;have h1:=ih x (h x (List.mem_cons_self ..)) j;have h2:=ihl (fun u hu=>h u (List.mem_cons_of_mem _ hu));rw[List.map_cons,bg,bg,jn];omega
 have fin:∀(j:Nat),ax (fw t (t.l.map (bN g (j:Int))))<=C*ax t:=fun j=>by
  have h1:=DW t (t.l.map (bN g (j:Int)));have h2:=key j t.l (fun _ h=>h);rw[eO t,jn];omega
 rw[ku];split
 ·exact fin (k+1)
 ·split
  ·exact fin k
  ·exact hg t k (by assumption) (by assumption)
theorem vx:∀(l:List aa),l.length<=bg l
 |[]=>bx _
 |p::l=>by
  have:=vx l;rw[bg,eO,List.length_cons];omega
theorem kD(t:aa):t.l.length<=ax t:=by
 have:=vx t.l;rw[eO];omega
theorem DX(a b:Int)(t:aa)(j:Nat):ax (bN (cB a b) (j:Int) t)<=ax t:=by
 have h1:=EW (g:=cB a b) (C:=1) (aA _) (fun v i _ _=>by
  unfold cB;split
  ·rw[jc,eO v];omega
  ·omega) t j
 omega
theorem ZW(i:Int)(s t:aa)(j:Nat):ax (bN (eD i s) (j:Int) t)<=ax s*ax t:=by
 refine EW (vk s) (fun v k _ _=>?_) t j;have hs:=vk s;have hv:ax v<=ax s*ax v:=Nat.le_mul_of_pos_left _ hs;have hv1:=vk v;have iz:ax s<=ax s*ax v:=Nat.le_mul_of_pos_right _ hv1;unfold eD;split
 ·exact hv
 ·split
  ·exact bB (DX 0 k s 0) iz
  ·rw[jc];have:=eO v;omega
end Go.Lamb
namespace Go.Proofs.YtdlkenpilhakfaaGreatDoor
open Go.RowKit Go.Lamb
attribute [local go_sem] aa.v aa.aM aY a7 aV aL aT
theorem N2(w0:World)(t:aa)(b:Int)(h1:-9223372036854775808<=t.n+b)(h2:t.n+b<=9223372036854775807)(σ:H):DC prog w0 234 [t.v,I b] σ (Same (aa.mk t.k t.name (t.n+b) t.l).v σ):=by
 refine Uu.go rfl (fun hok hsz=>?_);have hw:aW.wrap (t.n+b)=t.n+b:=by rw[bD]<;>omega
 (refine W.a ?_;simp only[go_sem,c234,hw]);(refine W.fs (hok) (by simp only[K1,go_sem];rfl) ?_;simp only[ak];try exact V.wk.rfl _)
 all_goals (all_goals exact au)
theorem ZX(w0:World)(a b:Int)(ha:0<=a)(ha':a<=30000000000)(hb:-1152921504606846976<=b)(hb':b<=1152921504606846976)(p:Nat)(σ:H)(e1:σ[p]?=some (.cells [I a]))(e2:σ[p+1]?=some (.cells [I b]))(u:aa)(j:Nat)(hj:j<=30000000000)(hu:u.k=3->-2305843009213693952<=u.n/\u.n<=2305843009213693952):
  DC prog w0 233 [u.v,I (j:Int),.ptr p 0,.ptr (p+1) 0] σ (Same (cB a b u (j:Int)).v σ):=by
 refine KY.go rfl (fun hok hsz=>?_);have e1:∀L,(σ++L)[p]?=some (.cells [I a]):=fun L=>by rw[cF (aK.1 e1).1];exact e1
 have e2:∀L,(σ++L)[p+1]?=some (.cells [I b]):=fun L=>by rw[cF (aK.1 e2).1];exact e2
 have hw:aW.wrap ((j:Int)+a)=(j:Int)+a:=by rw[bD]<;>omega
 by_cases h3:u.k=3
 ·have k3:(u.k==3)=true:=by simp[h3]
  have hu:=hu h3;by_cases hge:u.n>=(j:Int)+a
  ·have hE:cB a b u (j:Int)= .mk u.k u.name (u.n+b) u.l:=by unfold cB;rw[if_pos ⟨h3,hge⟩]
   have hM:=fun σ=>N2 w0 u b (by omega) (by omega) σ;rw[hE];clear h3 hE;(refine W.a ?_;simp only[go_sem,c233,k3,e1,e2,hw,hge]);refine W.yes rfl (W.a ?_);simp only[go_sem,e1,e2];(refine W.c1 (hM _) ?_;simp only[go_sem]);(refine W.a ?_;simp only[go_sem]);(refine W.fs (hok) (by simp only[uB,go_sem];rfl) ?_;simp only[ak];try exact V.wk.rfl _)
   all_goals (all_goals exact au)
  ·have hE:cB a b u (j:Int)=u:=by unfold cB;rw[if_neg (fun h=>hge h.2)]
   rw[hE];clear h3 hE;(refine W.a ?_;simp only[go_sem,c233,k3,e1,e2,hw,hge]);refine W.no rfl (W.a ?_);simp only[go_sem];(refine W.fs (hok) (by simp only[uB,go_sem];rfl) ?_;simp only[ak];try exact V.wk.rfl _)
   all_goals (all_goals exact au)
 ·have hE:cB a b u (j:Int)=u:=by unfold cB;rw[if_neg (fun h=>h3 h.1)]
  have k3:(u.k==3)=false:=by simp[h3]
  rw[hE];clear h3 hE;(refine W.a ?_;simp only[go_sem,c233,k3]);refine W.no rfl (W.a ?_);simp only[go_sem];(refine W.fs (hok) (by simp only[uB,go_sem];rfl) ?_;simp only[ak];try exact V.wk.rfl _)
  all_goals (all_goals exact au)
theorem ZY(w0:World)(a b:Int)(ha:0<=a)(ha':a<=30000000000)(hb:-1152921504606846976<=b)(hb':b<=1152921504606846976)(p:Nat):
  CP w0 (fun σ=>σ[p]?=some (.cells [I a])/\σ[p+1]?=some (.cells [I b])) (fun u=>bM 2305843009213693952 u=true/\ax u<=12000000000) (cB a b) 233 [.ptr p 0,.ptr (p+1) 0] where
 more:=fun σ L ⟨e1,e2⟩=>⟨by rw[cF (aK.1 e1).1];exact e1,by rw[cF (aK.1 e2).1];exact e2⟩
 low:=fun σ ⟨e1,e2⟩ x hx=>by
  have h1:=(aK.1 e1).1;have h2:=(aK.1 e2).1;simp only[cD,jm,or_false]at hx;rcases hx with rfl|rfl
  ·exact .ptr h1
  ·exact .ptr h2
 dO:=fun u ⟨h1,h2⟩ v hv=>⟨iJ h1 v hv,by have:=jM hv;omega⟩
 len:=fun u ⟨_,h2⟩=>bB (kD u) h2
 nE:=fun u ⟨_,h2⟩ j=>by
  have h1:=EW (g:=cB a b) (C:=1) (aA _) (fun v i _ _=>by
   unfold cB;split
   ·rw[jc,eO v];omega
   ·omega) u j
  have:=kD (bN (cB a b) (j:Int) u);omega
 leaf:=fun σ ⟨e1,e2⟩ u j ⟨h1,_⟩ hj _ _=>ZX w0 a b ha ha' hb hb' p σ e1 e2 u j hj (fun h3=>pY h1 (by omega))
theorem MU(w0:World)(t:aa)(a b:Int)(ha:0<=a)(ha':a<=30000000000)(hb:-1152921504606846976<=b)(hb':b<=1152921504606846976)(hnr:bM 2305843009213693952 t=true)(hn:ax t<=12000000000)(σ:H):DC prog w0 187 [t.v,I a,I b] σ (Same (nC a b t).v σ):=by
 refine KX.go rfl (fun hok hsz=>?_);have hw:=K2 (ZY w0 a b ha ha' hb hb' (σ.length+1)) t ⟨hnr,hn⟩ 0 (by omega) (σ++[.cells t.v.ah,.cells [I a],.cells [I b],.cells [I 0,S [],I 0,.ab []]]) ⟨by simp,by rw[jk];simp⟩;have hz:nC a b t=bN (cB a b) ((0:Nat):Int) t:=rfl;rw[hz];generalize bN (cB a b) ((0:Nat):Int) t=z at*
 (refine W.a ?_;simp only[go_sem,CN]);(refine W.c1 (hw) ?_;simp only[go_sem]);(refine W.a ?_;simp only[go_sem]);(refine W.fs (hok) (by simp only[CO,go_sem];rfl) ?_;simp only[ak];try exact V.wk.rfl _)
 all_goals (all_goals exact au)
theorem ZZ(w0:World)(i:Int)(s:aa)(hi:0<=i)(hi':i<=30000000000)(hsn:bM 2305843009213693952 s=true)(iz:ax s<=12000000000)(p:Nat)(σ:H)(e1:σ[p]?=some (.cells [I i]))(e2:σ[p+1]?=some (.cells s.v.ah))(u:aa)(j:Nat)(hj:j<=30000000000)(hu:u.k=3->-2305843009213693952<=u.n/\u.n<=2305843009213693952):
  DC prog w0 280 [u.v,I (j:Int),.ptr p 0,.ptr (p+1) 0] σ (Same (eD i s u (j:Int)).v σ):=by
 refine Ut.go rfl (fun hok hsz=>?_);have e1:∀L,(σ++L)[p]?=some (.cells [I i]):=fun L=>by rw[cF (aK.1 e1).1];exact e1
 have e2:∀L,(σ++L)[p+1]?=some (.cells [I s.k,S s.name,I s.n,.c (.sl (s.l.map aa.cs))]):=fun L=>by rw[cF (aK.1 e2).1];exact e2
 have hw:aW.wrap ((j:Int)+i)=(j:Int)+i:=by rw[bD]<;>omega
 by_cases h3:u.k=3
 ·have k3:(u.k==3)=true:=by simp[h3]
  have hu:=hu h3;by_cases hlt:u.n<(j:Int)+i
  ·have hE:eD i s u (j:Int)=u:=by unfold eD;rw[if_pos (.inr hlt)]
   rw[hE];clear h3 hE;(refine W.a ?_;simp only[go_sem,uC,k3,bne,e1,e2,hw,hlt]);refine W.yes rfl (W.a ?_);simp only[go_sem];(refine W.fs (hok) (by simp only[uD,go_sem];rfl) ?_;simp only[ak];try exact V.wk.rfl _)
   all_goals (all_goals exact au)
  ·by_cases heq:u.n=(j:Int)+i
   ·have hE:eD i s u (j:Int)=nC 0 (j:Int) s:=by unfold eD;rw[if_neg (by omega),if_pos heq]
    have hS:=fun σ=>MU w0 s 0 (j:Int) (by decide) (by decide) (by omega) (by omega) hsn iz σ;have q:(u.n==(j:Int)+i)=true:=by simp[heq]
    rw[hE];generalize nC 0 (j:Int) s=z at*;clear h3 hE heq;(refine W.a ?_;simp only[go_sem,uC,k3,bne,e1,e2,hw,hlt]);refine W.no rfl (W.a ?_);simp only[go_sem,e1,e2,hw,q];refine W.yes rfl (W.a ?_);simp only[go_sem,e1,e2];(refine W.c1 (hS _) ?_;simp only[go_sem]);(refine W.a ?_;simp only[go_sem]);(refine W.fs (hok) (by simp only[uD,go_sem];rfl) ?_;simp only[ak];try exact V.wk.rfl _)
    all_goals (all_goals exact au)
   ·have hE:eD i s u (j:Int)= .mk u.k u.name (u.n+-1) u.l:=by unfold eD;rw[if_neg (by omega),if_neg heq];rfl
    have hM:=fun σ=>N2 w0 u (-1) (by omega) (by omega) σ;have q:(u.n==(j:Int)+i)=false:=by simp[heq]
    rw[hE];clear h3 hE heq;(refine W.a ?_;simp only[go_sem,uC,k3,bne,e1,e2,hw,hlt]);refine W.no rfl (W.a ?_);simp only[go_sem,e1,e2,hw,q];refine W.no rfl (W.a ?_);simp only[go_sem,e1,e2];(refine W.c1 (hM _) ?_;simp only[go_sem]);(refine W.a ?_;simp only[go_sem]);(refine W.fs (hok) (by simp only[uD,go_sem];rfl) ?_;simp only[ak];try exact V.wk.rfl _)
    all_goals (all_goals exact au)
 ·have hE:eD i s u (j:Int)=u:=by unfold eD;rw[if_pos (.inl h3)]
  have k3:(u.k==3)=false:=by simp[h3]
  rw[hE];clear h3 hE;(refine W.a ?_;simp only[go_sem,uC,k3,bne]);refine W.yes rfl (W.a ?_);simp only[go_sem];(refine W.fs (hok) (by simp only[uD,go_sem];rfl) ?_;simp only[ak];try exact V.wk.rfl _)
  all_goals (all_goals exact au)
theorem Z0(w0:World)(i:Int)(s:aa)(hi:0<=i)(hi':i<=30000000000)(hsn:bM 2305843009213693952 s=true)(iz:ax s<=12000000000)(p:Nat):
  CP w0 (fun σ=>σ[p]?=some (.cells [I i])/\σ[p+1]?=some (.cells s.v.ah)) (fun u=>bM 2305843009213693952 u=true/\ax u<=12000000000/\ax s*ax u<=12000000000) (eD i s) 280 [.ptr p 0,.ptr (p+1) 0] where
 more:=fun σ L ⟨e1,e2⟩=>⟨by rw[cF (aK.1 e1).1];exact e1,by rw[cF (aK.1 e2).1];exact e2⟩
 low:=fun σ ⟨e1,e2⟩ x hx=>by
  have h1:=(aK.1 e1).1;have h2:=(aK.1 e2).1;simp only[cD,jm,or_false]at hx;rcases hx with rfl|rfl
  ·exact .ptr h1
  ·exact .ptr h2
 dO:=fun u ⟨h1,h2,h3⟩ v hv=>⟨iJ h1 v hv,by have:=jM hv;omega,bB (Nat.mul_le_mul_left _ (Nat.le_of_lt (jM hv))) h3⟩
 len:=fun u ⟨_,h2,_⟩=>bB (kD u) h2
 nE:=fun u ⟨_,_,h3⟩ j=>bB (kD _) (bB (ZW i s u j) h3)
 leaf:=fun σ ⟨e1,e2⟩ u j ⟨h1,_⟩ hj _ _=>ZZ w0 i s hi hi' hsn iz p σ e1 e2 u j hj (fun h3=>pY h1 (by omega))
theorem Xe(w0:World)(t:aa)(i:Int)(s:aa)(hi:0<=i)(hi':i<=30000000000)(hsn:bM 2305843009213693952 s=true)(iz:ax s<=12000000000)(hnr:bM 2305843009213693952 t=true)(hn:ax t<=12000000000)(hm:ax s*ax t<=12000000000)(σ:H):DC prog w0 262 [t.v,I i,s.v] σ (Same (rM i s t).v σ):=by
 refine Us.go rfl (fun hok hsz=>?_);have hw:=K2 (Z0 w0 i s hi hi' hsn iz (σ.length+1)) t ⟨hnr,hn,hm⟩ 0 (by omega) (σ++[.cells t.v.ah,.cells [I i],.cells s.v.ah,.cells [I 0,S [],I 0,.ab []]]) ⟨by simp,by rw[jk];simp⟩;have hz:rM i s t=bN (eD i s) ((0:Nat):Int) t:=rfl;rw[hz];generalize bN (eD i s) ((0:Nat):Int) t=z at*
 (refine W.a ?_;simp only[go_sem,KZ]);(refine W.c1 (hw) ?_;simp only[go_sem]);(refine W.a ?_;simp only[go_sem]);(refine W.fs (hok) (by simp only[K0,go_sem];rfl) ?_;simp only[ak];try exact V.wk.rfl _)
 all_goals (all_goals exact au)
end Go.Proofs.YtdlkenpilhakfaaGreatDoor
