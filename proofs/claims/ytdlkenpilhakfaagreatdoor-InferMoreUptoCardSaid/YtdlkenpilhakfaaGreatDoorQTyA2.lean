/- . -/
import Derived.Test.YtdlkenpilhakfaaGreatDoorQTyA1
import Derived.Test.YtdlkenpilhakfaaGreatDoorQJ16
set_option linter.unusedSimpArgs false
set_option linter.unusedVariables false
set_option maxHeartbeats 8000000
set_option maxRecDepth 20000
open Go renaming cell_kept->gA,frozen_kept->sO,grownBy_putObj'->sQ,heap_alloc_new->kN,heap_alloc_old->zZ,run_store->qH
open Go.KeepsOthers renaming alloc->aai,setCell->wx
open Go.RowKit.Below renaming refl->ep
open Go.World renaming cell?_alloc_at->wu,cell?_setCell_other->aah,cell?_setCell_same'->wv,grownBy_alloc->Oo
open List renaming getElem_cons_zero->dq,length_cons->bo,length_nil->cM
open Nat renaming le_refl->aA,zero_add->eF
open Go.Proofs.Tryz
namespace Go.Proofs.YtdlkenpilhakfaaGreatDoor
open Go.RowKit Go.Shelf Go.Lamb
attribute [local go_sem] Oper.semAt_some
theorem jO{W:World}{a:Addr}{v:Value}(o:Obj)(h:W.cell? a=some v):(W.alloc o).cell? a=some v:=gA h (Oo W o none) (fun r e=>by cases e)
theorem vT{W:World}{a:Addr}{v:Value}(o:Obj)(h:W.cell? a=some v)(hf:W.frozen? a=false):(W.alloc o).frozen? a=false:=(sO h (Oo W o none) (fun r e=>by cases e)).trans hf
def mN(m:Mem)(u:aa)(c0 c1 c2 c3:Value):Prop:=RC m (.int .i64 u.k) c0/\RC m (.str u.name) c1/\RC m (.int .i64 u.n) c2/\RC m (aT u.l) c3
theorem mN.mono{m m':Mem}(h:m.le m'){u:aa}{a b c d:Value}(r:mN m u a b c d):mN m' u a b c d:=⟨r.1.mono h,r.2.1.mono h,r.2.2.1.mono h,r.2.2.2.mono h⟩
def qs(fs:List aa)(u:aa)(pre:List (Fin fs.length)):aa:=pre.foldl (fun u i=>aa.arr fs[i] u) u
theorem N3(fs:List aa)(u:aa)(pre:List (Fin fs.length))(i:Fin fs.length):qs fs u (pre++[i])=aa.arr fs[i] (qs fs u pre):=by simp[qs]
theorem Z4(fs:List aa)(u:aa)(pre:List (Fin fs.length))(h:pre.map Fin.val=gm fs.length fs.length):qs fs u pre=fe fs u:=by
 have key:∀k,k<=fs.length->∀pre:List (Fin fs.length),pre.map Fin.val=gm fs.length k->qs fs u pre=fe (fs.drop (fs.length-k)) u:=by
  intro k;induction k with
  |zero=>
   intro _ pre hp;have:pre=[]:=by simpa[gm]using hp
   subst this;simp[qs,fe]
  |succ k ih=>
   intro hk pre hp;rw[yZ]at hp;obtain⟨p1,p2,rfl,h1,h2⟩:=List.map_eq_append_iff.1 hp;obtain⟨x,rfl⟩:∃x,p2=[x]:=by
    cases p2 with
    |nil=>simp at h2
    |cons x r=>cases r with
     |nil=>exact⟨x,rfl⟩
     |cons y r=>simp at h2
   simp only[List.map_cons,List.map_nil,List.cons.injEq,and_true]at h2;rw[N3,ih (by omega) p1 h1];have hd:fs.drop (fs.length-(k+1))=fs[x]::fs.drop (fs.length-k):=by
    have e:fs.length-(k+1)=x.1:=by omega
    rw[e,List.drop_eq_getElem_cons x.2];have e2:x.1+1=fs.length-k:=by omega
    rw[e2];rfl
   rw[hd];rfl
 have:=key fs.length (aA _) pre h;simpa using this
theorem Z5{m:Mem}{a u:aa}{a0 a1 a2 a3 u0 u1 u2 u3:Value}{g:Nat}(ha:mN m a a0 a1 a2 a3)(hu:mN m u u0 u1 u2 u3)(hg:∀o,m g o=none):
  m.le (fun b o=>if b=g then[a0,a1,a2,a3,u0,u1,u2,u3][o]? else m b o)/\
  mN (fun b o=>if b=g then[a0,a1,a2,a3,u0,u1,u2,u3][o]? else m b o) (.arr a u) (.int .i64 2) (.string ⟨#[]⟩) (.int .i64 0) (.slice (some ⟨g,0,none⟩) 2 2):=by
 have hle:m.le (fun b o=>if b=g then[a0,a1,a2,a3,u0,u1,u2,u3][o]? else m b o):=fun b o v hv=>by
  show(if b=g then _ else _)=_;rw[if_neg (fun e=>by rw[e,hg]at hv;cases hv)];exact hv
 have ha':=ha.mono hle;have hu':=hu.mono hle;refine⟨hle,.int _ _,.str [] (by decide),.int _ _,?_⟩;refine RC.sl [a.cs,u.cs] 4 _ 2 [a0,a1,a2,a3,u0,u1,u2,u3] (fun r hr=>?_) (by simp) (by decide) rfl (fun _=>⟨g,0,rfl,fun k hk=>?_⟩) (fun i hi j hj=>?_)
 ·simp only[List.mem_cons,List.not_mem_nil,or_false]at hr;rcases hr with rfl|rfl<;>rw[aa.aM]<;>rfl
 ·show(if g=g then _ else _)=_;rw[if_pos rfl,eF]
 ·rcases i with _|_|i
  ·simp only[dq,aa.aM]at hj⊢;rcases j with _|_|_|_|j
   ·exact ha'.1
   ·exact ha'.2.1
   ·exact ha'.2.2.1
   ·exact ha'.2.2.2
   ·exfalso;simp at hj;omega
  ·simp only[List.getElem_cons_succ,dq,aa.aM]at hj⊢;rcases j with _|_|_|_|j
   ·exact hu'.1
   ·exact hu'.2.1
   ·exact hu'.2.2.1
   ·exact hu'.2.2.2
   ·exfalso;simp at hj;omega
  ·exfalso;simp only[bo,cM]at hi;omega
theorem Z6{m:Mem}{fs:List aa}{A:Option Addr}{len cap:Nat}(h:RC m (aT fs) (.slice A len cap)):len=fs.length/\∃xs:Nat->Value,(0<len->∃b o,A=some ⟨b,o,none⟩/\∀k,k<len*4->m b (o+k)=some (xs k))/\
  ∀i (hi:i<fs.length),mN m fs[i] (xs (i*4)) (xs (i*4+1)) (xs (i*4+2)) (xs (i*4+3)):=by
 unfold aT at h;generalize hr:fs.map aa.cs=rows at h;cases h with
 |sl rows s A cap xs h0 h1 h2 h3 h4 h5=>
  subst hr;refine⟨by simp,fun k=>xs.getD k undef,fun hl=>?_,fun i hi=>?_⟩
  ·have hne:fs.map aa.cs≠[]:=fun e=>by rw[e]at hl;simp at hl
   obtain⟨b,o,rfl,hm⟩:=h4 hne;have hs:s=4:=by
    cases fs with
    |nil=>simp at hne
    |cons a r=>
     have:=h0 a.cs (by simp);rw[aa.aM]at this;exact this.symm
   subst hs;refine⟨b,o,rfl,fun k hk=>?_⟩;have hk':k<xs.length:=by rw[h3];exact hk
   rw[hm k hk',List.getElem?_eq_getElem hk'];simp[List.getD,hk']
  ·have hs:s=4:=by
    have:=h0 fs[i].cs (List.mem_map_of_mem (List.getElem_mem hi));rw[aa.aM]at this;exact this.symm
   subst hs;have hi':i<(fs.map aa.cs).length:=by simpa using hi
   have h5':=h5 i hi';simp only[List.getElem_map,aa.aM]at h5';exact⟨h5' 0 (by simp),h5' 1 (by simp),h5' 2 (by simp),h5' 3 (by simp)⟩
theorem Z7:(prog.info? 34).map (fun i=>(i.zero,i.size,i.bytes))=some (some (.agg #[.int .i64 0,.string ⟨#[]⟩,.int .i64 0,.slice none 0 0]),4,56):=by kernel_rfl
def N4(κ:K)(w:World)(fs:List aa)(to:aa)(pre:List (_root_.Fin fs.length))(W:World):Prop:=
 (∃m c0 c1 c2 c3,κ.m.le m/\(∀b o v,m b o=some v->W.cell? ⟨b,o,none⟩=some v/\((b<w.heap.size/\κ.m b o=some v)\/w.heap.size+3<=b))/\(W.cell? ⟨w.heap.size,0,none⟩=some c0/\W.cell? ⟨w.heap.size,1,none⟩=some c1/\W.cell? ⟨w.heap.size,2,none⟩=some c2/\W.cell? ⟨w.heap.size,3,none⟩=some c3)/\mN m (qs fs to pre) c0 c1 c2 c3)/\
   (∀j,j<4->W.frozen? ⟨w.heap.size,j,none⟩=false)/\(∀j,j<4->(∃v,W.cell? ⟨w.heap.size+1,j,none⟩=some v)/\W.frozen? ⟨w.heap.size+1,j,none⟩=false)/\Below w.heap.size w W/\w.heap.size+3<=W.heap.size
theorem N5{κ:K}{w:World}{fs:List aa}{to:aa}{B:Nat}(hB:w.heap.size<=B):OwnFrom B (N4 κ w fs to):=by
 rintro pre W W' row ⟨⟨m,c0,c1,c2,c3,hm1,hm2,⟨q0,q1,q2,q3⟩,hT⟩,hfz,hC,hBe,hsW⟩ hg hr;have hr':∀r,row=some r->∃o:Obj,W.heap[r]?=some o/\o.isCells=false:=fun r e=>(hr r e).2;refine⟨⟨m,c0,c1,c2,c3,hm1,fun b o v hv=>⟨gA (hm2 b o v hv).1 hg hr',(hm2 b o v hv).2⟩,⟨gA q0 hg hr',gA q1 hg hr',gA q2 hg hr',gA q3 hg hr'⟩,hT⟩,fun j hj=>?_,fun j hj=>?_,?_,?_⟩
 ·rcases(by omega:j=0\/j=1\/j=2\/j=3)with rfl|rfl|rfl|rfl
  ·exact(sO q0 hg hr').trans (hfz _ hj)
  ·exact(sO q1 hg hr').trans (hfz _ hj)
  ·exact(sO q2 hg hr').trans (hfz _ hj)
  ·exact(sO q3 hg hr').trans (hfz _ hj)
 ·obtain⟨⟨v,hv⟩,hf⟩:=hC j hj;exact⟨⟨v,gA hv hg hr'⟩,(sO hv hg hr').trans hf⟩
 ·exact hBe.grown hg (by omega) (fun k e=>by have:=(hr k e).1;omega)
 ·have:=hg.size;omega
theorem zJ{W:World}{p a:Addr}{v:Value}(h:p.block≠a.block):(W.setCell p v).cell? a=W.cell? a:=by
 apply aah;intro e;exact h (by rw[e])
theorem kM{W:World}{b o o':Nat}{v:Value}(h:o≠o'):(W.setCell ⟨b,o,none⟩ v).cell? ⟨b,o',none⟩=W.cell? ⟨b,o',none⟩:=by
 apply aah;intro e;injection e with _ e;exact h e
def fy(W:World)(B:Nat)(a b c d:Value):World:=(((W.setCell ⟨B,0,none⟩ a).setCell ⟨B,1,none⟩ b).setCell ⟨B,2,none⟩ c).setCell ⟨B,3,none⟩ d
section
variable {W:World} {B:Nat} {a b c d:Value}
theorem vU{x:Addr}(h:B≠x.block):(fy W B a b c d).cell? x=W.cell? x:=by
 unfold fy;rw[zJ h,zJ h,zJ h,zJ h]
theorem N6{p q r s:Value}(h0:W.cell? ⟨B,0,none⟩=some p)(h1:W.cell? ⟨B,1,none⟩=some q)(h2:W.cell? ⟨B,2,none⟩=some r)(h3:W.cell? ⟨B,3,none⟩=some s):
  (fy W B a b c d).cell? ⟨B,0,none⟩=some a/\(fy W B a b c d).cell? ⟨B,1,none⟩=some b/\(fy W B a b c d).cell? ⟨B,2,none⟩=some c/\(fy W B a b c d).cell? ⟨B,3,none⟩=some d:=by
 unfold fy;refine⟨?_,?_,?_,?_⟩
 ·rw[kM (by decide),kM (by decide),kM (by decide)];exact wv _ _ _ (by rw[h0];rfl)
 ·rw[kM (by decide),kM (by decide)];exact wv _ _ _ (by rw[kM (by decide),h1];rfl)
 ·rw[kM (by decide)];exact wv _ _ _ (by rw[kM (by decide),kM (by decide),h2];rfl)
 ·exact wv _ _ _ (by rw[kM (by decide),kM (by decide),kM (by decide),h3];rfl)
theorem N7{x:Addr}:(fy W B a b c d).frozen? x=W.frozen? x:=by
 unfold fy;simp only[World.frozen?_setCell]
theorem N8:KeepsOthers W (fy W B a b c d):=(((wx _ _ _).trans (wx _ _ _)).trans (wx _ _ _)).trans (wx _ _ _)
theorem EX{n:Nat}{V:World}(h:Below n V W)(hn:n<=B):Below n V (fy W B a b c d):=(((h.setCell (p:=⟨B,0,none⟩) hn _).setCell (p:=⟨B,1,none⟩) hn _).setCell (p:=⟨B,2,none⟩) hn _).setCell (p:=⟨B,3,none⟩) hn _
theorem N9:(fy W B a b c d).heap.size=W.heap.size:=by unfold fy;simp
end
theorem L0{W:World}{b o:Nat}{v:Value}(h:W.cell? ⟨b,o,none⟩=some v):b<W.heap.size:=by
 rcases Nat.lt_or_ge b W.heap.size with h'|h'
 ·exact h'
 ·simp[World.cell?,Array.getElem?_eq_none h']at h
set_option maxRecDepth 100000 in
set_option maxHeartbeats 4000000 in
theorem Z8{w0 w:World}{κ:K}{σ:H}(hrep:aB w0 κ σ w)(to:aa)(fs:List aa)(hl:fs.length<=1000000)(A:Option Addr)(len cap:Nat)(t0 t1 t2 t3:Value)(ht:mN κ.m to t0 t1 t2 t3)(hfv:RC κ.m (aT fs) (.slice A len cap)):
  Calls prog 68 #[.agg #[t0,t1,t2,t3],.slice A len cap] w (fun e w'=>∃v,e= .returned v/\Below w.heap.size w w'/\RV (κ.new w w') (fe fs to).v v):=by
 obtain⟨rfl,xs,hx,hxs⟩:=Z6 hfv;obtain⟨b,off,hA,hm⟩:∃b off,(0<fs.length->A=some ⟨b,off,none⟩)/\(0<fs.length->∀k,k<fs.length*4->κ.m b (off+k)=some (xs k)):=by
  by_cases h:0<fs.length
  ·obtain⟨b,o,e,h'⟩:=hx h;exact⟨b,o,fun _=>e,fun _=>h'⟩
  ·exact⟨0,0,fun h'=>absurd h' h,fun h'=>absurd h' h⟩
 have hm':∀k,k<fs.length*4->w.cell? ⟨b,off+k,none⟩=some (xs k):=fun k hk=>hrep.mem _ _ _ (hm (by omega) k hk);have hb:0<fs.length->b<w.heap.size:=fun h=>hrep.nf (hm h 0 (by omega));refine(callsIn_wide (n:=3)).1 ?_;refine callsIn_of_wp_marks func68 rfl trivial ?_ rfl;simp only[ntmps68,List.size_toArray,bo,cM,Nat.reduceAdd,Nat.reduceSub,Array.replicate_succ,Array.replicate_zero,List.push_toArray,List.append_toArray,List.nil_append,List.cons_append]
 gi_wp2_with (refine⟨trivial,?_⟩;gi_at_call 119;refine(Z2 Fence.wide 2 trivial rfl _ _ _ _).mono ?_;rintro e w' ⟨rfl,rfl⟩)
 obtain⟨W0,hW0⟩:∃W0,(((w.alloc (.cells #[t0,t1,t2,t3] 34)).alloc (.cells #[.int .i64 0,.string ⟨#[]⟩,.int .i64 0,.slice none 0 0] 34)).alloc (.cells #[.slice A fs.length cap] 32))=W0:=⟨_,rfl⟩;rw[hW0];have hsz:W0.heap.size=w.heap.size+3:=by rw[<-hW0];simp
 have hBel:Below w.heap.size w W0:=by
  rw[<-hW0];exact(((ep _ w).alloc (aA _) _).alloc (by simp) _).alloc (by simp;omega) _
 have hcB:∀j (hj:j<4),W0.cell? ⟨w.heap.size,j,none⟩=some (#[t0,t1,t2,t3][j])/\W0.frozen? ⟨w.heap.size,j,none⟩=false:=fun j hj=>by
  have h:W0.heap[w.heap.size]?=some (.cells #[t0,t1,t2,t3] 34 (0,0)):=by
   rw[<-hW0,zZ _ _ _ (by simp;omega),zZ _ _ _ (by simp)];exact kN w _
  refine⟨by rw[cell_of_row _ _ _ _ _ _ h];rcases(by omega:j=0\/j=1\/j=2\/j=3)with rfl|rfl|rfl|rfl<;>rfl,by simp[World.frozen?,h]⟩
 have hcC:∀j (hj:j<4),(∃v,W0.cell? ⟨w.heap.size+1,j,none⟩=some v)/\W0.frozen? ⟨w.heap.size+1,j,none⟩=false:=fun j hj=>by
  have h:W0.heap[w.heap.size+1]?=some (.cells #[.int .i64 0,.string ⟨#[]⟩,.int .i64 0,.slice none 0 0] 34 (0,0)):=by
   rw[<-hW0,zZ _ _ _ (by simp)];have:=kN (w.alloc (.cells #[t0,t1,t2,t3] 34)) (.cells #[.int .i64 0,.string ⟨#[]⟩,.int .i64 0,.slice none 0 0] 34);simpa using this
  refine⟨?_,by simp[World.frozen?,h]⟩;rw[cell_of_row _ _ _ _ _ _ h];rcases(by omega:j=0\/j=1\/j=2\/j=3)with rfl|rfl|rfl|rfl<;>exact⟨_,rfl⟩
 have hcD:W0.cell? ⟨w.heap.size+1+1,0,none⟩=some (.slice A fs.length cap):=by
  rw[<-hW0];exact wu _ _ _ _ (by simp)
 refine wpIn_rangeFunc_ownH rfl (by omega) (gf:=177) (lb:=#[.pointer (some ⟨w.heap.size+1+1,0,none⟩)]) rfl trivial (enters_of func177 (by kernel_rfl) rfl)
  (Z3 Fence.wide 2 trivial rfl (by omega) (w.heap.size+1+1) w.heap.size b off fs.length cap A hA xs hl hb W0 (by omega) (by omega) hcD (fun j hj=>(hBel.cell (p:=⟨b,off+j,none⟩) (hb (by omega))).trans (hm' j hj)))
  ff.trans (ff.xu (by omega)) (ep _ _) (fun _=>rfl)
  (N4 κ w fs to)
  (fun _ _ _=>False) (N5 (by omega)) (fun _ _ _ _ _ h=>h.elim) ?h0
  (fun x a' W=>∃Bx,w.heap.size+3<=Bx/\W.cell? ⟨Bx,0,none⟩=some (xs (x.1*4))/\W.cell? ⟨Bx,1,none⟩=some (xs (x.1*4+1))/\W.cell? ⟨Bx,2,none⟩=some (xs (x.1*4+2))/\W.cell? ⟨Bx,3,none⟩=some (xs (x.1*4+3))/\a'={tmps:=#[.agg #[t0,t1,t2,t3],.slice A fs.length cap,.pointer (some ⟨w.heap.size,0,none⟩),undef,.pointer (some ⟨w.heap.size+1,0,none⟩),undef,.pointer (some ⟨Bx,0,none⟩),.slice A fs.length cap,.func (.func 177) #[] #[.pointer (some ⟨w.heap.size+1+1,0,none⟩)],.int .i64 (x.1:Nat),vS xs x.1,undef,undef,undef,undef,undef],defers:=[]}) ?hAx ?assign ?body ?done ?stop
 case stop=>
  rintro D c pre W _ _ h _;exact h.elim
 case h0=>
  refine⟨⟨κ.m,t0,t1,t2,t3,Mem.le_refl _,fun b o v hv=>⟨(hBel.cell (p:=⟨b,o,none⟩) (hrep.nf hv)).trans (hrep.mem _ _ _ hv),.inl ⟨hrep.nf hv,hv⟩⟩,⟨(hcB 0 (by omega)).1,(hcB 1 (by omega)).1,(hcB 2 (by omega)).1,(hcB 3 (by omega)).1⟩,ht⟩,fun j hj=>(hcB j hj).2,fun j hj=>hcC j hj,hBel,by omega⟩
 case hAx=>
  rintro x a' _ W W' row ⟨Bx,h1,h2,h3,h4,h5,h6⟩ hg hr;have hr':∀r,row=some r->∃o:Obj,W.heap[r]?=some o/\o.isCells=false:=fun r e=>(hr r e).2;exact⟨Bx,h1,gA h2 hg hr',gA h3 hg hr',gA h4 hg hr',gA h5 hg hr',h6⟩
 case assign=>
  intro l pre x W K hi hK;obtain⟨k0,k1,k2,k3⟩:=hxs x.1 x.2;have o0:=k0.one;have o1:=k1.one;have o2:=k2.one;have o3:=k3.one;have r0:=fun(W:World) (a:Addr)=>qH prog W a _ .plain o0;have r1:=fun(W:World) (a:Addr)=>qH prog W a _ .plain o1;have r2:=fun(W:World) (a:Addr)=>qH prog W a _ .plain o2;have r3:=fun(W:World) (a:Addr)=>qH prog W a _ .plain o3;unfold vS
  gi_wp2
  refine hK _ _ ((aai _ _).from _) ⟨(ep _ W).alloc (by have:=hi.2.2.2.2;omega) _,fun v e=>jO _ e⟩ (N5 (aA _) _ _ _ none hi (Oo W _ none) (fun r e=>by cases e)) ⟨W.heap.size,hi.2.2.2.2,?_,?_,?_,?_,rfl⟩
  all_goals exact wu _ _ _ _ rfl
 case body=>
  rintro l pre x a' W hl ⟨r,hr⟩ ⟨⟨m,c0,c1,c2,c3,hm1,hm2,⟨q0,q1,q2,q3⟩,hT⟩,hfz,hC,hB,hsW⟩ ⟨Bx,hBx,p0,p1,p2,p3,rfl⟩ hlt;have f0:=hfz 0 (by omega);have f1:=hfz 1 (by omega);have f2:=hfz 2 (by omega);have f3:=hfz 3 (by omega);have y0:=jO (.cells #[xs (x.1*4),xs (x.1*4+1),xs (x.1*4+2),xs (x.1*4+3),c0,c1,c2,c3] 34) q0;have y1:=jO (.cells #[xs (x.1*4),xs (x.1*4+1),xs (x.1*4+2),xs (x.1*4+3),c0,c1,c2,c3] 34) q1;have y2:=jO (.cells #[xs (x.1*4),xs (x.1*4+1),xs (x.1*4+2),xs (x.1*4+3),c0,c1,c2,c3] 34) q2;have y3:=jO (.cells #[xs (x.1*4),xs (x.1*4+1),xs (x.1*4+2),xs (x.1*4+3),c0,c1,c2,c3] 34) q3
  have e0:=vT (.cells #[xs (x.1*4),xs (x.1*4+1),xs (x.1*4+2),xs (x.1*4+3),c0,c1,c2,c3] 34) q0 f0;have e1:=vT (.cells #[xs (x.1*4),xs (x.1*4+1),xs (x.1*4+2),xs (x.1*4+3),c0,c1,c2,c3] 34) q1 f1;have e2:=vT (.cells #[xs (x.1*4),xs (x.1*4+1),xs (x.1*4+2),xs (x.1*4+3),c0,c1,c2,c3] 34) q2 f2;have e3:=vT (.cells #[xs (x.1*4),xs (x.1*4+1),xs (x.1*4+2),xs (x.1*4+3),c0,c1,c2,c3] 34) q3 f3
  gi_wp2
  generalize hcells:(#[xs (x.1*4),xs (x.1*4+1),xs (x.1*4+2),xs (x.1*4+3),c0,c1,c2,c3]:Array Value)=cells at*
  have hnone:∀o,m W.heap.size o=none:=fun o=>by
   cases h:m W.heap.size o with
   |none=>rfl
   |some v=>exact absurd (L0 (hm2 _ _ _ h).1) (Nat.lt_irrefl _)
  obtain⟨hle,hT'⟩:=Z5 (mN.mono hm1 (hxs x.1 x.2)) hT hnone;change ownPostG _ _ _ _ _ _ _ _ (fy (W.alloc (.cells cells 34)) w.heap.size (.int .i64 2) (.string ⟨#[]⟩) (.int .i64 0) (.slice (some ⟨W.heap.size,0,none⟩) 2 2));obtain⟨g0,g1,g2,g3⟩:=N6 (a:=.int .i64 2) (b:=.string ⟨#[]⟩) (c:=.int .i64 0) (d:=.slice (some ⟨W.heap.size,0,none⟩) 2 2) y0 y1 y2 y3;have hBW:=hB.size;refine⟨((aai W _).trans N8).from _,⟨EX ((ep w.heap.size W).alloc hBW _) (aA _),fun v hv=>?_⟩,?_⟩
  ·rw[vU (by show w.heap.size≠w.heap.size+1+1;omega)];exact jO _ hv
  ·refine⟨⟨_,_,_,_,_,Mem.le_trans hm1 hle,fun b o v hv=>?_,⟨g0,g1,g2,g3⟩,by rw[N3];exact hT'⟩,fun j hj=>?_,fun j hj=>?_,EX (hB.alloc hBW _) (aA _),?_⟩
   ·by_cases hbg:b=W.heap.size
    ·subst hbg;rw[if_pos rfl]at hv;refine⟨?_,.inr hsW⟩;rw[vU (by simp;omega),wu _ _ _ _ rfl,<-hcells];simpa using hv
    ·rw[if_neg hbg]at hv;obtain⟨z1,z2⟩:=hm2 _ _ _ hv;refine⟨?_,z2⟩;rw[vU (by show w.heap.size≠b;omega)];exact jO _ z1
   ·rw[N7];rcases(by omega:j=0\/j=1\/j=2\/j=3)with rfl|rfl|rfl|rfl<;>assumption
   ·obtain⟨⟨v,hv⟩,hf⟩:=hC j hj;rw[N7,vU (by simp)];exact⟨⟨v,jO _ hv⟩,vT _ hv hf⟩
   ·rw[N9];simp;omega
 case done=>
  rintro D ys W hD hS ⟨⟨m,c0,c1,c2,c3,hm1,hm2,⟨q0,q1,q2,q3⟩,hT⟩,hfz,hC,hB,hsW⟩ hK;obtain⟨⟨v0,g0⟩,e0⟩:=hC 0 (by omega);obtain⟨⟨v1,g1⟩,e1⟩:=hC 1 (by omega);obtain⟨⟨v2,g2⟩,e2⟩:=hC 2 (by omega);obtain⟨⟨v3,g3⟩,e3⟩:=hC 3 (by omega);have o0:=hT.1.one;have o1:=hT.2.1.one;have o2:=hT.2.2.1.one;have o3:=hT.2.2.2.one;have r0:=fun(W:World) (a:Addr)=>qH prog W a _ .plain o0;have r1:=fun(W:World) (a:Addr)=>qH prog W a _ .plain o1;have r2:=fun(W:World) (a:Addr)=>qH prog W a _ .plain o2;have r3:=fun(W:World) (a:Addr)=>qH prog W a _ .plain o3
  gi_wp2
  have hK':(fy W (w.heap.size+1) c0 c1 c2 c3).heap[D]?=some (.deferred (some [])):=(N8 (W:=W) (B:=w.heap.size+1) (a:=c0) (b:=c1) (c:=c2) (d:=c3)).same D _ hK rfl;obtain⟨z0,z1,z2,z3⟩:=N6 (a:=c0) (b:=c1) (c:=c2) (d:=c3) g0 g1 g2 g3;have hBW:=hB.size;refine⟨by simp,.inl ⟨_,_,rfl,run_takeDeferred hK',?_⟩⟩;have hp:∀{a:Addr} {v:Value},(fy W (w.heap.size+1) c0 c1 c2 c3).cell? a=some v->((fy W (w.heap.size+1) c0 c1 c2 c3).putObj D (.deferred none)).cell? a=some v:=fun h=>gA h (sQ _ D (.deferred none)) (fun r e=>by cases e;exact⟨_,hK',rfl⟩)
  have hBf:Below w.heap.size w ((fy W (w.heap.size+1) c0 c1 c2 c3).putObj D (.deferred none)):=(EX hB (by omega)).grown (sQ _ D (.deferred none)) (by rw[N9];omega) (fun k e=>by cases e;omega);change LeavesInM _ _ _ _ _ _ _ _ ((fy W (w.heap.size+1) c0 c1 c2 c3).putObj D (.deferred none));generalize hWf:(fy W (w.heap.size+1) c0 c1 c2 c3).putObj D (.deferred none)=Wf at*
  have u0:=hp z0;have u1:=hp z1;have u2:=hp z2;have u3:=hp z3;have dN:(loadVar 34 ⟨w.heap.size+1,0,none⟩).run prog Wf= .ok (.agg #[c0,c1,c2,c3]) Wf:=by
   obtain⟨i0,hi,hz0,hz1,hz2⟩:=info_parts Z7;have:=run_loadCells (P:=prog) Wf ⟨w.heap.size+1,0,none⟩ 4 (fun j=>[c0,c1,c2,c3].getD j undef) (fun j hj=>by
    rw[add_lit,eF];rcases(by omega:j=0\/j=1\/j=2\/j=3)with rfl|rfl|rfl|rfl
    ·exact u0
    ·exact u1
    ·exact u2
    ·exact u3)
   simp only[loadVar,Sem.run_bind,Sem.run_pure,Result.andThen_ok,Go.Lamb.nX underlying34,ju,if_true,Go.Lamb.run_sizeOf hi,hz1,this];rfl
  refine⟨.agg #[c0,c1,c2,c3],by simp[results,Tryz.f68,asAddr,dN],_,rfl,hBf,?_⟩;rw[Z4 fs to ys hS]at hT;have hle:m.le (κ.new w Wf).m:=fun b o v hv=>by
   obtain⟨y1,y2⟩:=hm2 b o v hv;show(if b<w.heap.size then κ.m b o else Wf.cell? ⟨b,o,none⟩)=some v;rcases y2 with⟨y2,y3⟩|y2
   ·rw[if_pos y2];exact y3
   ·rw[if_neg (by omega)];have:=hp (a:=⟨b,o,none⟩) (v:=v) (by rw[vU (by show w.heap.size+1≠b;omega)];exact y1);exact this
  obtain⟨t0',t1',t2',t3'⟩:=hT.mono hle;refine RV.agg (xs:=[c0,c1,c2,c3]) rfl fun j hj=>?_;rcases(by simp at hj;omega:j=0\/j=1\/j=2\/j=3)with rfl|rfl|rfl|rfl
  ·exact .c t0'
  ·exact .c t1'
  ·exact .c t2'
  ·exact .c t3'
theorem yg(w0:World)(to:aa)(fs:List aa)(hl:fs.length<=1000000)(σ:H):DC prog w0 68 [to.v,.c (aT fs)] σ (Same (fe fs to).v σ):=by
 refine DC.xt (lO func68 (by kernel_rfl) rfl) fun κ w vs hrep hfit=>?_;obtain⟨v,ys,rfl,hv,hfit⟩:=hfit.cons_inv;obtain⟨u,zs,rfl,hu,hfit⟩:=hfit.cons_inv;have:=hfit.kS;subst this;unfold aa.v at hv;cases hv with
 |agg h h1=>
  rename_i xs
  match xs,h with
  |[x0,x1,x2,x3],_=>
   have e0:=h1 0 (by simp);have e1:=h1 1 (by simp);have e2:=h1 2 (by simp);have e3:=h1 3 (by simp);cases hu with
   |c hu=>
    have hu':=hu;unfold aT at hu;cases hu with
    |sl rows s A cap xs h0 h1 h2 h3 h4 h5=>
     cases e0 with
     |c e0=>
      cases e1 with
      |c e1=>
       cases e2 with
       |c e2=>
        cases e3 with
        |c e3=>exact Z8 hrep to fs hl A _ cap _ _ _ _ ⟨e0,e1,e2,e3⟩ hu'
end Go.Proofs.YtdlkenpilhakfaaGreatDoor
