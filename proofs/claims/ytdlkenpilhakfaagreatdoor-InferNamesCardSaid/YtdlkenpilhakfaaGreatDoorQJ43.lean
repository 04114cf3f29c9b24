/- . -/
import Derived.Test.YtdlkenpilhakfaaGreatDoorQJ42
import Derived.Test.YtdlkenpilhakfaaGreatDoorQLexG
import Derived.Lib.ItoaLen
import Derived.Test.YtdlkenpilhakfaaGreatDoorChecked
import Derived.Test.YtdlkenpilhakfaaGreatDoorQJ16
import Derived.Test.YtdlkenpilhakfaaGreatDoorQJ17
import Derived.OwnWalk
import Derived.Handy
import Derived.Test.YtdlkenpilhakfaaGreatDoorQJ38
import Derived.Test.YtdlkenpilhakfaaGreatDoorQLexGl
import Derived.Test.YtdlkenpilhakfaaGreatDoorQLxD
import Derived.Test.YtdlkenpilhakfaaGreatDoorQJ40
import Derived.Test.YtdlkenpilhakfaaGreatDoorQJ41
import Derived.Test.YtdlkenpilhakfaaGreatDoorQJ37
import Derived.Test.YtdlkenpilhakfaaGreatDoorQJ39
set_option linter.unusedSimpArgs false
set_option linter.unusedVariables false
set_option maxHeartbeats 8000000
set_option maxRecDepth 20000
open And renaming intro->eV
open Bool renaming and_eq_true->bG
open Go.IntKind renaming i64->aN
open Int renaming le_refl->eU
open List renaming all_eq_true->cU,append_assoc->dt,append_nil->cw,cons_ne_nil->aT,drop->fW,drop_eq_getElem_cons->lE,drop_length->E0,drop_zero->su,getElem?_append_left->cI,getElem?_append_right->cZ,getElem?_eq_getElem->aO,getElem?_eq_none->qt,getElem?_eq_some_iff->aL,getElem?_take_of_lt->zP,getElem?_zipWith->ZX,getElem_map->dN,getElem_mem->bt,length_append->bD,length_cons->bk,length_map->bW,length_nil->cN,length_take->dV,length_zipWith->E5,map->ik,map_cons->cx,mem_cons->cA,mem_cons_of_mem->bS,mem_cons_self->bu,mem_map->eu,nil_append->eH,take->de,take_of_length_le->eT,take_succ_cons->dZ,take_succ_eq_append_getElem->il,take_zero->cV,zipWith->mP
open Nat renaming beq->ca,ble->dp,eq_of_beq_eq_true->fu,le_of_ble_eq_true->eJ,le_of_eq->sE,le_refl->aA,le_trans->bE,lt_of_succ_lt_succ->nO,reduceAdd->dI,strongRecOn->nN,sub_self->cq,zero_le->bC
open Option renaming bind_eq_some_iff->N2,map_none->vY,map_some->iI
open Go.Proofs.Tryz
namespace Go.Proofs.YtdlkenpilhakfaaGreatDoor
open Go.RowKit Go.Lamb
def DJ:List V->H->Option (V×H)
 |[.c (.str s)],σ=>cond (dp s.length 100000) (let r:=iY s;some (.ay [.c (ph r.oK),.c (.int .i64 r.err),.c (.int .i64 r.pos)],σ)) none
 |_,_=>none
def nC(e size:Nat):List V->H->Option (V×H)
 |[.ab [],.c (.int .i64 n)],σ=>cond (decide (0<=n)&&decide (n<=1000000)) (some (.aG σ.length [],σ++[.spare e size 0])) none
 |_,_=>none
def nD(e size:Nat):List V->H->Option (V×H)
 |[a],σ=>match a.rows with
  |some r=>cond (r.all (fun q=>ca q.length size)&&dp r.length 1000000) (some (.aG σ.length r,σ++[.spare e size r.length])) none
  |none=>none
 |_,_=>none
def DK(e:Nat):List V->H->Option (V×H)
 |[a],σ=>match a.rows with
  |some []=>some (.aG σ.length [],σ++[.spare e 4 0])
  |_=>none
 |_,_=>none
theorem Ws(w0:World)(as':List V)(σ:H)(v:V)(σ':H)(h:nC 60 3 as' σ=some (v,σ')):DC prog w0 203 as' σ (Same v σ'):=by
 unfold nC at h;split at h
 ·rename_i n;cases hc:(decide (0<=n)&&decide (n<=1000000))with
  |false=>rw[hc]at h;cases h
  |true=>
   rw[hc]at h;injection h with h;injection h with h1 h2;subst h1 h2;simp only[bG,decide_eq_true_eq]at hc;obtain⟨m,rfl⟩:∃m:Nat,n=(m:Int):=⟨n.toNat,by omega⟩;exact N9 w0 m (by omega) σ
 ·cases h
theorem Wt(w0:World)(as':List V)(σ:H)(v:V)(σ':H)(h:nC 50 5 as' σ=some (v,σ')):DC prog w0 211 as' σ (Same v σ'):=by
 unfold nC at h;split at h
 ·rename_i n;cases hc:(decide (0<=n)&&decide (n<=1000000))with
  |false=>rw[hc]at h;cases h
  |true=>
   rw[hc]at h;injection h with h;injection h with h1 h2;subst h1 h2;simp only[bG,decide_eq_true_eq]at hc;obtain⟨m,rfl⟩:∃m:Nat,n=(m:Int):=⟨n.toNat,by omega⟩;exact Wp w0 m (by omega) σ
 ·cases h
theorem Wu(w0:World)(as':List V)(σ:H)(v:V)(σ':H)(h:nC 41 4 as' σ=some (v,σ')):DC prog w0 178 as' σ (Same v σ'):=by
 unfold nC at h;split at h
 ·rename_i n;cases hc:(decide (0<=n)&&decide (n<=1000000))with
  |false=>rw[hc]at h;cases h
  |true=>
   rw[hc]at h;injection h with h;injection h with h1 h2;subst h1 h2;simp only[bG,decide_eq_true_eq]at hc;obtain⟨m,rfl⟩:∃m:Nat,n=(m:Int):=⟨n.toNat,by omega⟩;exact Kj w0 m (by omega) σ
 ·cases h
theorem vj{a:V}{r:List (List C)}(h:a.rows=some r):V.wk (.agg [a]) (.agg [.c (.sl r)]):=by
 refine .agg rfl fun j hj hj'=>?_;have:j=0:=by simp at hj;omega
 subst this;simp only[List.getElem_cons_zero];unfold V.rows at h;split at h
 ·injection h with h;subst h;exact .rfl _
 ·injection h with h;subst h;exact .aG _ _
 ·injection h with h;subst h;exact .ab _
 ·cases h
theorem Wv(w0:World)(as':List V)(σ:H)(v:V)(σ':H)(h:nD 60 3 as' σ=some (v,σ')):DC prog w0 98 as' σ (Same v σ'):=by
 unfold nD at h;split at h
 ·split at h
  ·rename_i r hr;cases hc:(r.all (fun q=>ca q.length 3)&&dp r.length 1000000)with
   |false=>rw[hc]at h;cases h
   |true=>
    rw[hc]at h;injection h with h;injection h with h1 h2;subst h1 h2;simp only[bG,cU]at hc;exact(TX w0 r (fun q hq=>fu (hc.1 q hq)) (eJ hc.2) σ).fP (vj hr)
  ·cases h
 ·cases h
theorem Ww(w0:World)(as':List V)(σ:H)(v:V)(σ':H)(h:nD 106 2 as' σ=some (v,σ')):DC prog w0 97 as' σ (Same v σ'):=by
 unfold nD at h;split at h
 ·split at h
  ·rename_i r hr;cases hc:(r.all (fun q=>ca q.length 2)&&dp r.length 1000000)with
   |false=>rw[hc]at h;cases h
   |true=>
    rw[hc]at h;injection h with h;injection h with h1 h2;subst h1 h2;simp only[bG,cU]at hc;exact(TY w0 r (fun q hq=>fu (hc.1 q hq)) (eJ hc.2) σ).fP (vj hr)
  ·cases h
 ·cases h
theorem Wx(w0:World)(as':List V)(σ:H)(v:V)(σ':H)(h:nD 50 5 as' σ=some (v,σ')):DC prog w0 81 as' σ (Same v σ'):=by
 unfold nD at h;split at h
 ·split at h
  ·rename_i r hr;cases hc:(r.all (fun q=>ca q.length 5)&&dp r.length 1000000)with
   |false=>rw[hc]at h;cases h
   |true=>
    rw[hc]at h;injection h with h;injection h with h1 h2;subst h1 h2;simp only[bG,cU]at hc;exact(Kg w0 r (fun q hq=>fu (hc.1 q hq)) (eJ hc.2) σ).fP (vj hr)
  ·cases h
 ·cases h
theorem Wy(w0:World)(as':List V)(σ:H)(v:V)(σ':H)(h:DK 41 as' σ=some (v,σ')):DC prog w0 185 as' σ (Same v σ'):=by
 unfold DK at h;split at h
 ·split at h
  ·rename_i hr;injection h with h;injection h with h1 h2;subst h1 h2;exact(Kh w0 [] rfl σ).fP (vj hr)
  ·cases h
 ·cases h
theorem Wz{w0:World}(hG:dj w0)(as':List V)(σ:H)(v:V)(σ':H)(h:DJ as' σ=some (v,σ')):DC prog w0 58 as' σ (Same v σ'):=by
 unfold DJ at h;split at h
 ·rename_i s;cases hc:dp s.length 100000 with
  |false=>rw[hc]at h;cases h
  |true=>
   rw[hc]at h;injection h with h;injection h with h1 h2;subst h1 h2;exact WA hG s (by have:=eJ hc;omega) σ
 ·cases h
theorem WB{x:V}{y:C}(h:x.fX=some y):V.wk x (.c y):=by
 unfold V.fX at h;split at h
 ·injection h with h;subst h;exact .rfl _
 ·injection h with h;subst h;exact .aG _ _
 ·injection h with h;subst h;exact .ab _
 ·cases h
theorem WC{l:List V}{r:List C}(h:fv l=some r):V.wk (.agg l) (.agg (r.map .c)):=by
 obtain⟨h1,_,h3⟩:=sQ h;exact .agg (by simp[h1]) fun j hj hj'=>by
  rw[dN];exact WB (h3 j hj (by omega))
theorem vk{a:V}{r:List (List C)}(h:a.rows=some r):V.wk a (.c (.sl r)):=by
 unfold V.rows at h;split at h
 ·injection h with h;subst h;exact .rfl _
 ·injection h with h;subst h;exact .aG _ _
 ·injection h with h;subst h;exact .ab _
 ·cases h
theorem Ma{p:V}{cs:List C}{q:aa}(h:xX p=some cs)(hq:cs=q.cs):V.wk p q.v:=by
 have e:q.v= .agg (cs.map .c):=by rw[hq,aa.aM];rfl
 rw[e];unfold xX at h;have hl:=(sQ h).1;rw[hq,aa.aM]at hl;unfold V.ai at h hl;split at h
 ·exact WC h
 ·exfalso;simp at hl
theorem DL{a b c d:V}(h1:V.wk a c)(h2:V.wk b d):V.wk (.agg [a,b]) (.agg [c,d]):=
 .agg rfl fun j hj hj'=>by
  rcases(by simp at hj;omega:j=0\/j=1)with rfl|rfl
  ·exact h1
  ·exact h2
def DM:List V->H->Option (V×H)
 |[to,fs],σ=>match(xX to).bind (pK 100),fs.rows.bind (tU (pK 100))with
  |some t,some l=>cond (dp l.length 1000000) (some ((fi l t).v,σ)) none
  |_,_=>none
 |_,_=>none
theorem WD(w0:World)(as':List V)(σ:H)(v:V)(σ':H)(h:DM as' σ=some (v,σ')):DC prog w0 68 as' σ (Same v σ'):=by
 unfold DM at h;split at h
 ·rename_i to fs;split at h
  ·rename_i t l h1 h2;obtain⟨cs,hcs,ht⟩:=N2.1 h1;obtain⟨r,hr,hl⟩:=N2.1 h2;cases hc:dp l.length 1000000 with
   |false=>rw[hc]at h;cases h
   |true=>
    rw[hc]at h;injection h with h;injection h with e1 e2;subst e1 e2;have hr2:=vk hr;rw[BW (fun r x=>tV) hl]at hr2;exact(x9 w0 t l (eJ hc) σ).fP (DL (Ma hcs (tV ht)) hr2)
  ·cases h
 ·cases h
end Go.Proofs.YtdlkenpilhakfaaGreatDoor
namespace Go.Lamb
open Go Go.RowKit
def vl:List (List C)->Option (List az)
 |[]=>some []
 |r::l=>match r with
  | .str s::r=>match pK 100 r with
    |none=>none
    |some t=>match vl l with
     |none=>none
     |some y=>some (⟨s,t⟩::y)
  |_=>none
theorem DN:∀{l:List (List C)} {y:List az},vl l=some y->l=y.map az.cs
 |[],y,h=>by injection h with h;subst h;rfl
 |r::l,y,h=>by
  unfold vl at h;split at h
  ·split at h
   ·cases h
   ·rename_i t ht;split at h
    ·cases h
    ·rename_i z hz;injection h with h;subst h;have:=tV ht;subst this;rw[cx,<-DN hz];rw[aa.aM];rfl
  ·cases h
def yZ:List (List C)->Option (List eC)
 |[]=>some []
 |r::l=>match r with
  |[.str s,.int .i64 n]=>match yZ l with
   |none=>none
   |some y=>some (⟨s,n⟩::y)
  |_=>none
theorem Mb:∀{l:List (List C)} {y:List eC},yZ l=some y->l=y.map eC.cs
 |[],y,h=>by injection h with h;subst h;rfl
 |r::l,y,h=>by
  unfold yZ at h;split at h
  ·split at h
   ·cases h
   ·rename_i z hz;injection h with h;subst h;rw[cx,<-Mb hz];rfl
  ·cases h
def DO(a b c:V):Option Sg:=match a.rows with
 |none=>none
 |some ra=>match b.rows with
  |none=>none
  |some rb=>match c.rows with
   |none=>none
   |some rc=>match yZ ra with
    |none=>none
    |some k=>match vl rb with
     |none=>none
     |some n=>match xW rc with
      |none=>none
      |some o=>some ⟨k,n,o⟩
def DP:List V->H->Option (V×H)
 |[.c (.str s)],σ=>some (.c (.bool (l8 s)),σ)
 |_,_=>none
def DQ:List V->H->Option (V×H)
 |[.c (.str s)],σ=>some (.c (.bool (rl s)),σ)
 |_,_=>none
def vn(a:V):Option aa:=match xX a with
 |none=>none
 |some cs=>pK 100 cs
def DR:List V->H->Option (V×H)
 |[a],σ=>match vn a with
  |none=>none
  |some t=>some (.c (.bool (cW t)),σ)
 |_,_=>none
def DS:List V->H->Option (V×H)
 |[a],σ=>match vn a with
  |none=>none
  |some t=>some (.c (.bool (bc t)),σ)
 |_,_=>none
def DT:List V->H->Option (V×H)
 |[a],σ=>match vn a with
  |none=>none
  |some t=>cond (dp (gV t) 1000000) (some (.c (.int .i64 (cB 0 t)),σ)) none
 |_,_=>none
def DU:List V->H->Option (V×H)
 |[.agg [a,b,c],.c (.str s)],σ=>match DO a b c with
  |none=>none
  |some g=>some (Go.Proofs.YtdlkenpilhakfaaGreatDoor.ru (qY g.types s),σ)
 |_,_=>none
def DV:List V->H->Option (V×H)
 |[a,.c (.str s)],σ=>match a.rows with
  |none=>none
  |some r=>match vl r with
   |none=>none
   |some l=>cond (dp l.length 1000000) (some (.c (.int .i64 (cy s 0 l)),σ)) none
 |_,_=>none
def y8(e:Nat)(σ σ1:H)(b o:Nat)(cs:List V)(tg:Option TypeId)(n:Nat)(pre:List C):Option (V×H):=
 some (.agg (cP n),σ1.set b (.cells (cs.take (o+3)++[.vec (σ.length+2) (n+1)]++cs.drop (o+3+1)) tg)++[.cells (cP n) none,.cells (cP n) none,.vec e 4 (pre++oF n)])
def DW(e:Nat):List V->H->Option (V×H)
 |[.ptr b o],σ=>match σ[b]? with
  |some (.cells cs tg)=>match cs[o+3]? with
   |some (.ab [])=>y8 e σ σ b o cs tg 0 []
   |some (.vec b' n)=>match σ[b']? with
    |some (.vec e' s cells)=>cond (ca e' e&&(ca s 4&&(dp n 1000000&&dp (n*4) cells.length))) (y8 e σ (σ.set b' .gone) b o cs tg n (cells.take (n*4))) none
    |_=>none
   |_=>none
  |_=>none
 |_,_=>none
def y9(e size:Nat)(r:List (List C))(σ:H):Option (V×H):=
 cond (!r.isEmpty&&(r.all (fun q=>ca q.length size)&&dp r.length 1000000)) (some (.vec σ.length r.length,σ++[.vec e size r.flatten])) none
def vo(e size:Nat):List V->H->Option (V×H)
 |[.vec b k],σ=>match σ[b]? with
  |some (.vec _ s cs)=>cond (dp (k*s) cs.length) (y9 e size (rowsOf s k cs) ((σ.set b .gone).map (pD b s cs))) none
  |_=>none
 |[a],σ=>match a.rows with
  |some r=>y9 e size r σ
  |none=>none
 |_,_=>none
theorem DX{a:V}{t:aa}(h:vn a=some t):V.wk (.agg [a]) (.agg [t.v]):=by
 unfold vn at h;split at h
 ·cases h
 ·rename_i cs hcs;refine .agg rfl fun j hj hj'=>?_;have:j=0:=by simp at hj;omega
  subst this;exact Go.Proofs.YtdlkenpilhakfaaGreatDoor.Ma hcs (tV h)
theorem WE{a b c:V}{g:Sg}(h:DO a b c=some g):V.wk (.agg [a,b,c]) g.v:=by
 unfold DO at h;split at h
 ·cases h
 rename_i ra ha;split at h
 ·cases h
 rename_i rb hb;split at h
 ·cases h
 rename_i rc hc;split at h
 ·cases h
 rename_i k hk;split at h
 ·cases h
 rename_i n hn;split at h
 ·cases h
 rename_i o ho;injection h with h;subst h;have ea:=Mb hk;have eb:=DN hn;have ec:=HF ho;subst ea eb ec;refine .agg rfl fun j hj hj'=>?_;rcases(by simp at hj;omega:j=0\/j=1\/j=2)with rfl|rfl|rfl
 ·exact Go.Proofs.YtdlkenpilhakfaaGreatDoor.vk ha
 ·exact Go.Proofs.YtdlkenpilhakfaaGreatDoor.vk hb
 ·exact Go.Proofs.YtdlkenpilhakfaaGreatDoor.vk hc
end Go.Lamb
namespace Go.Proofs.YtdlkenpilhakfaaGreatDoor
open Go.RowKit Go.Lamb
theorem WG(w0:World)(l:List (List C))(hl0:l≠[])(hb3:∀r∈l,r.length=4)(hn:l.length<=1000000)(σ:H):DC prog w0 181 [.c (.sl l)] σ (Same (.vec σ.length l.length) (σ++[.vec 34 4 l.flatten])):=by
 refine Da.dL rfl (fun hok hsz=>?_);have hb1:l.length*56<=140737488355328:=by omega
 have hb2:l.length<=140737488355328:=by omega
 (refine W.a ?_;simp only[go_sem,yJ]);refine W.kP rfl rfl rfl (fun b hb=>?_);cases b
 ·(refine W.a ?_;simp only[go_sem]);refine W.no rfl ?_;refine W.skip (W.seq (W.aH (W.jw rfl rfl (W.jw rfl rfl ?_))));refine W.pd (olds:=[]) (news:=l) rfl rfl rfl rfl ⟨hl0,(fun r hr=>by cases hr),hb3,by simpa using hb1,by simpa using hb2⟩ ?_;(refine W.a ?_;simp only[go_sem,eH]);refine W.ret ⟨_,_,rfl,.rfl _,?_⟩;exact⟨rfl,rfl⟩
 ·exact absurd (hb rfl) hl0
theorem Mc(w0:World)(l:List (List C))(hl0:l≠[])(hb3:∀r∈l,r.length=5)(hn:l.length<=1000000)(σ:H):DC prog w0 81 [.c (.sl l)] σ (Same (.vec σ.length l.length) (σ++[.vec 50 5 l.flatten])):=by
 refine J0.dL rfl (fun hok hsz=>?_);have hb1:l.length*72<=140737488355328:=by omega
 have hb2:l.length<=140737488355328:=by omega
 (refine W.a ?_;simp only[go_sem,Cg]);refine W.kP rfl rfl rfl (fun b hb=>?_);cases b
 ·(refine W.a ?_;simp only[go_sem]);refine W.no rfl ?_;refine W.skip (W.seq (W.aH (W.jw rfl rfl (W.jw rfl rfl ?_))));refine W.pd (olds:=[]) (news:=l) rfl rfl rfl rfl ⟨hl0,(fun r hr=>by cases hr),hb3,by simpa using hb1,by simpa using hb2⟩ ?_;(refine W.a ?_;simp only[go_sem,eH]);refine W.ret ⟨_,_,rfl,.rfl _,?_⟩;exact⟨rfl,rfl⟩
 ·exact absurd (hb rfl) hl0
theorem WH(w0:World)(as':List V)(σ:H)(v:V)(σ':H)(h:DP as' σ=some (v,σ')):DC prog w0 62 as' σ (Same v σ'):=by
 unfold DP at h;split at h
 ·injection h with h;injection h with h1 h2;subst h1 h2;exact B6 w0 _ σ
 ·cases h
theorem WI(w0:World)(as':List V)(σ:H)(v:V)(σ':H)(h:DQ as' σ=some (v,σ')):DC prog w0 103 as' σ (Same v σ'):=by
 unfold DQ at h;split at h
 ·injection h with h;injection h with h1 h2;subst h1 h2;exact Jg w0 _ σ
 ·cases h
theorem WJ(w0:World)(as':List V)(σ:H)(v:V)(σ':H)(h:DR as' σ=some (v,σ')):DC prog w0 24 as' σ (Same v σ'):=by
 unfold DR at h;split at h
 ·split at h
  ·cases h
  ·rename_i t ht;injection h with h;injection h with h1 h2;subst h1 h2;exact(pO w0 t σ).fP (DX ht)
 ·cases h
theorem WK(w0:World)(as':List V)(σ:H)(v:V)(σ':H)(h:DS as' σ=some (v,σ')):DC prog w0 183 as' σ (Same v σ'):=by
 unfold DS at h;split at h
 ·split at h
  ·cases h
  ·rename_i t ht;injection h with h;injection h with h1 h2;subst h1 h2;exact(yi w0 t σ).fP (DX ht)
 ·cases h
theorem WL(w0:World)(as':List V)(σ:H)(v:V)(σ':H)(h:DT as' σ=some (v,σ')):DC prog w0 74 as' σ (Same v σ'):=by
 unfold DT at h;split at h
 ·split at h
  ·cases h
  ·rename_i t ht;cases hc:dp (gV t) 1000000 with
   |false=>rw[hc]at h;cases h
   |true=>
    rw[hc]at h;injection h with h;injection h with h1 h2;subst h1 h2;exact(ub w0 t (eJ hc) σ).fP (DX ht)
 ·cases h
theorem WM(w0:World)(as':List V)(σ:H)(v:V)(σ':H)(h:DU as' σ=some (v,σ')):DC prog w0 15 as' σ (Same v σ'):=by
 unfold DU at h;split at h
 ·split at h
  ·cases h
  ·rename_i g hg;injection h with h;injection h with h1 h2;subst h1 h2;exact(Ci w0 g _ σ).fP (DL (WE hg) (.rfl _))
 ·cases h
theorem WN(w0:World)(as':List V)(σ:H)(v:V)(σ':H)(h:DV as' σ=some (v,σ')):DC prog w0 121 as' σ (Same v σ'):=by
 unfold DV at h;split at h
 ·split at h
  ·cases h
  ·rename_i r hr;split at h
   ·cases h
   ·rename_i l hl;cases hc:dp l.length 1000000 with
    |false=>rw[hc]at h;cases h
    |true=>
     rw[hc]at h;injection h with h;injection h with h1 h2;subst h1 h2;have:=DN hl;subst this;exact(yP w0 l _ (eJ hc) σ).fP (DL (vk hr) (.rfl _))
 ·cases h
theorem WO(w0:World)(as':List V)(σ:H)(v:V)(σ':H)(h:DW 34 as' σ=some (v,σ')):DC prog w0 67 as' σ (Same v σ'):=by
 unfold DW at h;split at h
 ·split at h
  ·rename_i cs tg hb;split at h
   ·rename_i hy;unfold y8 at h;injection h with h;injection h with h1 h2;subst h1 h2;exact yL _ _ _ _ 0 (by decide) cs tg hb _ hy [] (.inl ⟨rfl,rfl,rfl,rfl⟩)
   ·rename_i b' n hy;split at h
    ·rename_i e' s cells hv;cases hc:(ca e' 34&&(ca s 4&&(dp n 1000000&&dp (n*4) cells.length)))with
     |false=>rw[hc]at h;cases h
     |true=>
      rw[hc]at h;simp only[bG]at hc;obtain⟨c1,c2,c3,c4⟩:=hc;have c1:=fu c1;have c2:=fu c2;subst c1 c2;simp only[cond_true]at h;unfold y8 at h;injection h with h;injection h with h1 h2;subst h1 h2;exact yL _ _ _ _ n (eJ c3) cs tg hb _ hy _ (.inr ⟨b',cells,rfl,hv,eJ c4,rfl,rfl⟩)
    ·cases h
   ·cases h
  ·cases h
 ·cases h
theorem DY{f:FuncId}{e size:Nat}(hcl:∀w0 (l:List (List C)),l≠[]->(∀r∈l,r.length=size)->l.length<=1000000->∀σ,DC prog w0 f [.c (.sl l)] σ (Same (.vec σ.length l.length) (σ++[.vec e size l.flatten])))
  (w0:World) (as':List V) (σ:H) (v:V) (σ':H) (h:vo e size as' σ=some (v,σ')):DC prog w0 f as' σ (Same v σ'):=by
 have key:∀r σ v σ',y9 e size r σ=some (v,σ')->DC prog w0 f [.c (.sl r)] σ (Same v σ'):=fun r σ v σ' h=>by
  unfold y9 at h;cases hc:(!r.isEmpty&&(r.all (fun q=>ca q.length size)&&dp r.length 1000000))with
  |false=>rw[hc]at h;cases h
  |true=>
   rw[hc]at h;injection h with h;injection h with h1 h2;subst h1 h2;simp only[bG,cU]at hc;exact hcl w0 r (by intro hn;subst hn;exact absurd hc.1 (by decide)) (fun q hq=>fu (hc.2.1 q hq)) (eJ hc.2.2) σ
 unfold vo at h;split at h
 ·rename_i b k;split at h
  ·rename_i e' s cs hb;cases hc:dp (k*s) cs.length with
   |false=>rw[hc]at h;cases h
   |true=>
    rw[hc]at h;have hk:=eJ hc;have hd:=key _ _ _ _ h;refine⟨hd.enters,fun κ w vs hrep hfit=>?_⟩;obtain⟨κ',h1,h2,h3⟩:=aC.jB hrep hb;obtain⟨u,ys,rfl,hu,hfit⟩:=hfit.cons_inv;have:=hfit.kI;subst this;have hu':RV κ' (.c (.sl (rowsOf s k cs))) u:=.c (h3 k u hk (hu.mono h1));refine(hd.run κ' w [u] (h2.pD h3) (Fits.cons hu' Fits.nil)).mono ?_;rintro e w' ⟨v',d,σ'',κ'',q1,q2,q3,q4,q5⟩;exact⟨v',d,σ'',κ'',q1,q2,K.le_trans h1 q3,q4,q5⟩
  ·cases h
 ·split at h
  ·rename_i r hr;exact(key _ _ _ _ h).fP (vj hr)
  ·cases h
 ·cases h
end Go.Proofs.YtdlkenpilhakfaaGreatDoor
namespace Go.Proofs.YtdlkenpilhakfaaGreatDoor
open Go Go.RowKit Go.Lamb
def oT:aa:=.mk 0 [111] 0 []
def ic(x:az)(t:aa):az:=⟨x.name,t⟩
def dM(ws:List aa):List aa:=(ga (cK (fi ws oT))).1
noncomputable def vp(f:av):List az:=mP ic f.vars (dM (yY f.sub (f.vars.map (·.ty))))
theorem Md:∀(ws:List aa) (vs:List Int),(ga (cJ dq vs (fi ws oT)).1).1.length=ws.length
 |[],vs=>by
  show(ga (cJ dq vs oT).1).1.length=0;have e:(cJ dq vs oT).1=oT:=by
   rw[pt];rfl
  rw[e,A3 rfl];rfl
 |a::ws,vs=>by
  show(ga (cJ dq vs (.arr a (fi ws oT))).1).1.length=_;have e:(cJ dq vs (.arr a (fi ws oT))).1= .arr (cJ dq vs a).1 (cJ dq (cJ dq vs a).2 (fi ws oT)).1:=by
   rw[pt,if_neg (by rw[aa.arr,a7];decide)];show aa.mk _ _ _ (bY dq vs [a,fi ws oT]).1=_;rw[bY,bY,bY];rfl
  rw[e,Gu (QL _ _) rfl,bk,Md ws];rfl
theorem WQ(ws:List aa):(dM ws).length=ws.length:=Md ws []
theorem Me:∀ws:List aa,aD (fi ws oT)=1+ws.length+bR ws
 |[]=>by show aD oT=_;rw[oT,mq,bR];rfl
 |a::ws=>by
  show aD (.arr a (fi ws oT))=_;rw[yT,Me ws,bk,bR];omega
theorem A8(t:aa):dE t<=aD t:=by
 refine aa.ind (P:=fun t=>dE t<=aD t) (fun t ih=>?_) t;have key:∀l:List aa,(∀u∈l,dE u<=aD u)->ma l<=bR l:=by
  intro l;induction l with
  |nil=>intro _;rw[ma,bR];exact aA _
  |cons x l ihl=>
   intro h;have h1:=h x (bu ..);have h2:=ihl (fun u hu=>h u (bS _ hu));rw[ma,bR];omega
 obtain⟨k,s,n,l⟩:=t;have:=key l ih;rw[dE,aD];omega
def fk(l:List az)(ts:List aa)(i:Nat):List az:=mP ic (l.take i) ts++l.drop i
theorem DZ{l:List az}{ts:List aa}(h:ts.length=l.length)(i:Nat)(hi:i<=l.length):(fk l ts i).length=l.length:=by
 unfold fk;rw[bD,E5,dV,List.length_drop];omega
theorem WR(l:List az)(ts:List aa):fk l ts 0=l:=by unfold fk;simp
theorem WS{l:List az}{ts:List aa}:fk l ts l.length=mP ic l ts:=by unfold fk;simp
theorem WT{l:List az}{ts:List aa}(h:ts.length=l.length){i:Nat}(hi:i<l.length):(fk l ts i)[i]'(by rw[DZ h i (by omega)];exact hi)=l[i]:=by
 have e:(mP ic (l.take i) ts).length=i:=by rw[E5,dV];omega
 have:(fk l ts i)[i]?=some l[i]:=by
  unfold fk;rw[cZ (by omega),e,cq,List.getElem?_drop,Nat.add_zero,aO hi]
 exact(List.getElem_eq_iff _).2 this
theorem WU{l:List az}{ts:List aa}(h:ts.length=l.length){i:Nat}(hi:i<l.length):(fk l ts i).set i (ic l[i] (ts[i]'(by omega)))=fk l ts (i+1):=by
 have e:(mP ic (l.take i) ts).length=i:=by rw[E5,dV];omega
 have hz:mP ic (l.take (i+1)) ts=mP ic (l.take i) ts++[ic l[i] (ts[i]'(by omega))]:=by
  refine List.ext_getElem? fun j=>?_;rw[ZX];rcases Nat.lt_trichotomy j i with hj|hj|hj
  ·rw[cI (by omega),ZX,zP (by omega),zP hj]
  ·subst hj;rw[cZ (by omega),e,cq,zP (by omega),aO hi,aO (by omega)];rfl
  ·rw[cZ (by omega),e,qt (by rw[dV];omega),qt (l:=[_]) (by rw[List.length_singleton];omega)]
 unfold fk;rw[List.set_append_right _ _ (by omega),e,cq,lE hi,List.set_cons_zero,hz,dt];rfl
theorem WV{L:List az}{i:Nat}(hi:i<L.length)(t:aa):de (i*5+1) (cb L)++ .int .i64 t.k:: .str t.name:: .int .i64 t.n:: .sl (t.l.map aa.cs)::fW (i*5+1+4) (cb L)=cb (L.set i (ic L[i] t)):=by
 have h:=K6 (rY L) (i:=i) (by rw[bW];exact hi) (ic L[i] t).cs rfl;rw[<-List.map_set]at h;have hr:=Df hi;have hl:=pZ L;have ht:de (i*5+1) (cb L)=de (i*5) (cb L)++[.str L[i].name]:=by
  have h0:=LD hi;rw[List.take_add_one,h0];rfl
 have hd:i*5+1+4=i*5+5:=by omega
 rw[ht,hd];unfold cb at*
 rw[<-h];simp[ic,az.cs,aX]
end Go.Proofs.YtdlkenpilhakfaaGreatDoor
namespace Go.Proofs.YtdlkenpilhakfaaGreatDoor
open Go.RowKit Go.Lamb
theorem D0{q:ah}:∀{l:List ah},q∈l->a8 q<=cj l
 |[],h=>by cases h
 |x::l,h=>by
  rw[cj];rcases cA.1 h with rfl|h
  ·omega
  ·have:=D0 h;omega
theorem Mf{l:List ah}{i:Nat}(hi:i<l.length):cj (l.drop i)=a8 l[i]+cj (l.drop (i+1)):=by
 rw[lE hi,cj]
theorem Mg(t:ah):-1<=bw t/\bw t<=a8 t:=by
 refine ah.ind (P:=fun t=>-1<=bw t/\bw t<=a8 t) (fun t ih=>?_) t;obtain⟨k,nm,n,l,pos⟩:=t;have key:∀(l:List ah) (n:Int),(∀q∈l,-1<=bw q/\bw q<=a8 q)->1<=n->-1<=dQ n l/\dQ n l<=n+cj l:=by
  intro l;induction l with
  |nil=>intro n _ hn;rw[dQ,cj];omega
  |cons x l ihl=>
   intro n h hn;have hx:=h x (bu ..);rw[dQ,cj];split
   ·omega
   ·have:=ihl (n+bw x) (fun q hq=>h q (bS _ hq)) (by omega);omega
 rw[bw,a8];have:=key l 1 ih (by decide);split
 ·omega
 ·split<;>omega
section
variable {n0 p:Nat} {g:Sg} {f:av}
attribute [local go_sem] aa.v aa.aM a7 bh aW aQ aX
theorem WW(w0:World){N:Nat}(hR:ck N f.sub)(hN:N<=1000000){ts:List aa}(hl:ts≠[]->f.live=true){r:Int}(h:iH f.sub ts 4096 r)(hts:∀t∈ts,aE f.sub.length t/\aD t<=N)(hlen:ts.length<=1000000){σ:H}{y3 y4 y5:V}(hA:bz n0 σ p g f y3 y4 y5):
  DC prog w0 31 [.ptr p 0,.c (.sl (ts.map aa.cs))] σ (Same (B (decide (r<0))) σ):=by
 refine Li.go rfl (fun hok hsz=>?_);(refine W.a ?_;simp only[go_sem,c31]);refine W.bB (α:=Nat×Int) (fun x=>x.1<=ts.length/\x.2<=4096/\-1<=x.2/\iH f.sub (ts.drop x.1) x.2 r) (fun x=>⟨(((((base.put (some 0) (.ptr p 0)).put (some 5) (I x.2)).put (some 8) (.c (.sl (ts.map aa.cs)))).put (some 9) (I (ts.length:Int))).put (some 10) (I (x.1:Int))),σ⟩) (fun x=>ts.length-x.1) (0,4096) ⟨bC _,eU _,by decide,h⟩ ?_ (fun x hx=>?_)
 ·(refine ao.env ?_;exact aF)
 obtain⟨i,m⟩:=x;obtain⟨x1,x2,x3,x4⟩:=hx;dsimp only at x1 x2 x3 x4⊢;by_cases hlt:i<ts.length
 ·have z:(i:Int)<(ts.length:Int):=by omega
  have hx0:ts[i]?=some ts[i]:=aO hlt;have hw:=eB hlt (by omega:ts.length<=9223372036854775807);rw[lE hlt]at x4;cases x4 with
  |@cons _ _ _ m' _ a1 a2=>
   have hti:=hts ts[i] (bt hlt);have hK:=fun L=>Wi w0 hR hN (hl (fun e=>by rw[e]at hlt;cases hlt)) 4097 ts[i] m m' (by omega) x3 (by omega) a1 hti.1 hti.2 (hA.app L);have hle:=DF a1;have hge:=DH a1 x3;(refine W.a ?_;simp only[go_sem,z]);refine W.yes rfl (W.a ?_);simp only[go_sem,z,bQ,hx0];(refine W.c1 (hK _) ?_;simp only[go_sem,hw]);refine .inv ⟨(i+1,m'),⟨hlt,by show m'<=4096;omega,hge,a2⟩,by show ts.length-(i+1)<ts.length-i;omega,?_⟩;refine ao.drop ?_ (aA _) hok ?_
   ·exact aF
   ·repeat' (first|exact aZ.base _|(refine aZ.put ?_ (by first|exact .c _|exact .ptr hA.lt)))
 ·obtain rfl:i=ts.length:=by omega
  rw[E0]at x4;cases x4;have z:¬((ts.length:Nat):Int)<((ts.length:Nat):Int):=by omega
  (refine W.a ?_;simp only[go_sem,z]);refine W.no rfl (W.a ?_);simp only[go_sem];(refine W.fs (hok) (by simp only[C1,go_sem];rfl) ?_;simp only[al];try exact V.wk.rfl _)
  all_goals (all_goals exact au)
end
theorem Mh(w0:World)(t:ah):a8 t<=1000000->∀(σ:H),DC prog w0 23 [t.v] σ (Same (I (bw t)) σ):=by
 refine ah.ind (P:=fun t=>a8 t<=1000000->∀(σ:H),DC prog w0 23 [t.v] σ (Same (I (bw t)) σ)) (fun t ih hn σ=>?_) t;refine Lg.go rfl (fun hok hsz=>?_);have hS:bw t=if t.k=0\/t.k=1\/t.k=2 then 1 else if(t.k=4/\t.l.length=1)\/(t.k=3/\t.l.length=2)then dQ 1 t.l else-1:=by
  obtain⟨k,nm,n,l,pos⟩:=t;rw[bw];rfl
 have hnl:=tT t;have hlen:t.l.length<=1000000:=by
  have:∀l:List ah,l.length<=cj l:=by
   intro l;induction l with
   |nil=>exact bC _
   |cons x l ih=>rw[bk,cj,tT];omega
  have:=this t.l;omega
 have hkid:∀q∈t.l,∀σ,DC prog w0 23 [q.v] σ (Same (I (bw q)) σ):=fun q hq σ=>ih q hq (by have:=D0 hq;omega) σ;rw[hS];by_cases h0:t.k=0
 ·have k0:(t.k==0)=true:=by simp[h0]
  have k1:(t.k==1)=false:=by simp[h0]
  have k2:(t.k==2)=false:=by simp[h0]
  rw[if_pos (.inl h0)];clear h0;(refine W.a ?_;simp only[go_sem,ml,k0,k1,k2]);refine W.yes rfl (W.a ?_);simp only[go_sem,k0,k1,k2];refine W.yes rfl (W.a ?_);simp only[go_sem,k0,k1,k2];(refine W.fs (hok) (by simp only[kj,go_sem];rfl) ?_;simp only[al];try exact V.wk.rfl _)
  all_goals (all_goals exact au)
 by_cases h1:t.k=1
 ·have k0:(t.k==0)=false:=by simp[h1]
  have k1:(t.k==1)=true:=by simp[h1]
  have k2:(t.k==2)=false:=by simp[h1]
  rw[if_pos (.inr (.inl h1))];clear h1;(refine W.a ?_;simp only[go_sem,ml,k0,k1,k2]);refine W.no rfl (W.a ?_);simp only[go_sem,k0,k1,k2];refine W.yes rfl (W.a ?_);simp only[go_sem,k0,k1,k2];refine W.yes rfl (W.a ?_);simp only[go_sem,k0,k1,k2];(refine W.fs (hok) (by simp only[kj,go_sem];rfl) ?_;simp only[al];try exact V.wk.rfl _)
  all_goals (all_goals exact au)
 by_cases h2:t.k=2
 ·have k0:(t.k==0)=false:=by simp[h2]
  have k1:(t.k==1)=false:=by simp[h2]
  have k2:(t.k==2)=true:=by simp[h2]
  rw[if_pos (.inr (.inr h2))];clear h2;(refine W.a ?_;simp only[go_sem,ml,k0,k1,k2]);refine W.no rfl (W.a ?_);simp only[go_sem,k0,k1,k2];refine W.no rfl (W.a ?_);simp only[go_sem,k0,k1,k2];refine W.yes rfl (W.a ?_);simp only[go_sem,k0,k1,k2];(refine W.fs (hok) (by simp only[kj,go_sem];rfl) ?_;simp only[al];try exact V.wk.rfl _)
  all_goals (all_goals exact au)
 by_cases h4:t.k=4
 ·have k0:(t.k==0)=false:=by simp[h4]
  have k1:(t.k==1)=false:=by simp[h4]
  have k2:(t.k==2)=false:=by simp[h4]
  have k3:(t.k==3)=false:=by simp[h4]
  have k4:(t.k==4)=true:=by simp[h4]
  by_cases hl:t.l.length=1
  ·have q:((t.l.length:Int) !=1)=false:=by simp;omega
   rw[if_neg (by omega),if_pos (.inl ⟨h4,hl⟩)];clear h4;(refine W.a ?_;simp only[go_sem,ml,k0,k1,k2,k3,k4]);refine W.no rfl (W.a ?_);simp only[go_sem,k0,k1,k2,k3,k4,q];refine W.no rfl (W.a ?_);simp only[go_sem,k0,k1,k2,k3,k4,q];refine W.no rfl (W.a ?_);simp only[go_sem,k0,k1,k2,k3,k4,q];refine W.yes rfl (W.a ?_);simp only[go_sem,k0,k1,k2,k3,k4,q];refine W.no rfl (W.a ?_);simp only[go_sem,k0,k1,k2,k3,k4,q];refine W.bB (α:=Nat×Int) (fun x=>x.1<=t.l.length/\1<=x.2/\x.2+cj (t.l.drop x.1)<=1000000/\dQ 1 t.l=dQ x.2 (t.l.drop x.1)) (fun x=>⟨((((base.put (some 4) (I x.2)).put (some 24) (.c (.sl (t.l.map ah.cs)))).put (some 25) (I (t.l.length:Int))).put (some 26) (I (x.1:Int))),σ⟩) (fun x=>t.l.length-x.1) (0,1) ⟨bC _,eU _,by show 1+((cj (t.l.drop 0):Nat):Int)<=_;rw[su];omega,by show _=dQ 1 (t.l.drop 0);rw[su]⟩ ?_ (fun x hx=>?_)
   ·(refine ao.drop ?_ (aA _) (hok) ?_;exact aF;(repeat' (first|exact aZ.base _|(refine aZ.put ?_ (by first|exact .c _|(simp only[go_sem];done)|exact V.gT _ _)))))
   obtain⟨i,m⟩:=x;obtain⟨x1,x2,x3,x4⟩:=hx;dsimp only at x1 x2 x3 x4⊢;rw[x4];clear x4;by_cases hlt:i<t.l.length
   ·have z:(i:Int)<(t.l.length:Int):=by omega
    have hx0:t.l[i]?=some t.l[i]:=aO hlt;have hw:=eB hlt (by omega:t.l.length<=9223372036854775807);have hK:=fun σ=>hkid t.l[i] (bt hlt) σ;obtain⟨b1,b2⟩:=Mg t.l[i];rw[Mf hlt]at x3;have hE:dQ m (t.l.drop i)=if bw t.l[i]<0 then-1 else dQ (m+bw t.l[i]) (t.l.drop (i+1)):=by rw[lE hlt,dQ]
    rw[hE];by_cases hneg:bw t.l[i]<0
    ·rw[if_pos hneg];(refine W.a ?_;simp only[go_sem,z]);refine W.yes rfl (W.a ?_);simp only[go_sem,z,bQ,hx0];(refine W.c1 (hK _) ?_;simp only[go_sem,hneg]);refine W.yes rfl (W.a ?_);simp only[go_sem];(refine W.fs (hok) (by simp only[kj,go_sem];rfl) ?_;simp only[al];try exact V.wk.rfl _)
     all_goals (all_goals exact au)
    ·rw[if_neg hneg];have hs:aN.wrap (m+bw t.l[i])=m+bw t.l[i]:=by rw[bn]<;>omega
     (refine W.a ?_;simp only[go_sem,z]);refine W.yes rfl (W.a ?_);simp only[go_sem,z,bQ,hx0];(refine W.c1 (hK _) ?_;simp only[go_sem,hneg]);refine W.no rfl (W.a ?_);simp only[go_sem,hs,hw];refine .inv ⟨(i+1,m+bw t.l[i]),⟨hlt,by show 1<=m+bw t.l[i];omega,by show m+bw t.l[i]+(cj (t.l.drop (i+1)):Nat)<=(1000000:Int);omega,rfl⟩,by show t.l.length-(i+1)<t.l.length-i;omega,?_⟩;(refine ao.drop ?_ (aA _) (hok) ?_;exact aF;(repeat' (first|exact aZ.base _|(refine aZ.put ?_ (by first|exact .c _|(simp only[go_sem];done)|exact V.gT _ _)))))
   ·obtain rfl:i=t.l.length:=by omega
    rw[E0,dQ];have z:¬((t.l.length:Nat):Int)<((t.l.length:Nat):Int):=by omega
    (refine W.a ?_;simp only[go_sem,z]);refine W.no rfl (W.a ?_);simp only[go_sem];(refine W.fs (hok) (by simp only[kj,go_sem];rfl) ?_;simp only[al];try exact V.wk.rfl _)
    all_goals (all_goals exact au)
  ·have q:((t.l.length:Int) !=1)=true:=by simp;omega
   rw[if_neg (by omega),if_neg (by omega)];clear h4;(refine W.a ?_;simp only[go_sem,ml,k0,k1,k2,k3,k4]);refine W.no rfl (W.a ?_);simp only[go_sem,k0,k1,k2,k3,k4,q];refine W.no rfl (W.a ?_);simp only[go_sem,k0,k1,k2,k3,k4,q];refine W.no rfl (W.a ?_);simp only[go_sem,k0,k1,k2,k3,k4,q];refine W.yes rfl (W.a ?_);simp only[go_sem,k0,k1,k2,k3,k4,q];refine W.yes rfl (W.a ?_);simp only[go_sem,k0,k1,k2,k3,k4,q];(refine W.fs (hok) (by simp only[kj,go_sem];rfl) ?_;simp only[al];try exact V.wk.rfl _)
   all_goals (all_goals exact au)
 by_cases h3:t.k=3
 ·have k0:(t.k==0)=false:=by simp[h3]
  have k1:(t.k==1)=false:=by simp[h3]
  have k2:(t.k==2)=false:=by simp[h3]
  have k3:(t.k==3)=true:=by simp[h3]
  have k4:(t.k==4)=false:=by simp[h3]
  by_cases hl:t.l.length=2
  ·have q:((t.l.length:Int) !=2)=false:=by simp;omega
   rw[if_neg (by omega),if_pos (.inr ⟨h3,hl⟩)];clear h3;(refine W.a ?_;simp only[go_sem,ml,k0,k1,k2,k3,k4]);refine W.no rfl (W.a ?_);simp only[go_sem,k0,k1,k2,k3,k4,q];refine W.no rfl (W.a ?_);simp only[go_sem,k0,k1,k2,k3,k4,q];refine W.no rfl (W.a ?_);simp only[go_sem,k0,k1,k2,k3,k4,q];refine W.no rfl (W.a ?_);simp only[go_sem,k0,k1,k2,k3,k4,q];refine W.yes rfl (W.a ?_);simp only[go_sem,k0,k1,k2,k3,k4,q];refine W.no rfl (W.a ?_);simp only[go_sem,k0,k1,k2,k3,k4,q];refine W.bB (α:=Nat×Int) (fun x=>x.1<=t.l.length/\1<=x.2/\x.2+cj (t.l.drop x.1)<=1000000/\dQ 1 t.l=dQ x.2 (t.l.drop x.1)) (fun x=>⟨((((base.put (some 4) (I x.2)).put (some 24) (.c (.sl (t.l.map ah.cs)))).put (some 25) (I (t.l.length:Int))).put (some 26) (I (x.1:Int))),σ⟩) (fun x=>t.l.length-x.1) (0,1) ⟨bC _,eU _,by show 1+((cj (t.l.drop 0):Nat):Int)<=_;rw[su];omega,by show _=dQ 1 (t.l.drop 0);rw[su]⟩ ?_ (fun x hx=>?_)
   ·(refine ao.drop ?_ (aA _) (hok) ?_;exact aF;(repeat' (first|exact aZ.base _|(refine aZ.put ?_ (by first|exact .c _|(simp only[go_sem];done)|exact V.gT _ _)))))
   obtain⟨i,m⟩:=x;obtain⟨x1,x2,x3,x4⟩:=hx;dsimp only at x1 x2 x3 x4⊢;rw[x4];clear x4;by_cases hlt:i<t.l.length
   ·have z:(i:Int)<(t.l.length:Int):=by omega
    have hx0:t.l[i]?=some t.l[i]:=aO hlt;have hw:=eB hlt (by omega:t.l.length<=9223372036854775807);have hK:=fun σ=>hkid t.l[i] (bt hlt) σ;obtain⟨b1,b2⟩:=Mg t.l[i];rw[Mf hlt]at x3;have hE:dQ m (t.l.drop i)=if bw t.l[i]<0 then-1 else dQ (m+bw t.l[i]) (t.l.drop (i+1)):=by rw[lE hlt,dQ]
    rw[hE];by_cases hneg:bw t.l[i]<0
    ·rw[if_pos hneg];(refine W.a ?_;simp only[go_sem,z]);refine W.yes rfl (W.a ?_);simp only[go_sem,z,bQ,hx0];(refine W.c1 (hK _) ?_;simp only[go_sem,hneg]);refine W.yes rfl (W.a ?_);simp only[go_sem];(refine W.fs (hok) (by simp only[kj,go_sem];rfl) ?_;simp only[al];try exact V.wk.rfl _)
     all_goals (all_goals exact au)
    ·rw[if_neg hneg];have hs:aN.wrap (m+bw t.l[i])=m+bw t.l[i]:=by rw[bn]<;>omega
     (refine W.a ?_;simp only[go_sem,z]);refine W.yes rfl (W.a ?_);simp only[go_sem,z,bQ,hx0];(refine W.c1 (hK _) ?_;simp only[go_sem,hneg]);refine W.no rfl (W.a ?_);simp only[go_sem,hs,hw];refine .inv ⟨(i+1,m+bw t.l[i]),⟨hlt,by show 1<=m+bw t.l[i];omega,by show m+bw t.l[i]+(cj (t.l.drop (i+1)):Nat)<=(1000000:Int);omega,rfl⟩,by show t.l.length-(i+1)<t.l.length-i;omega,?_⟩;(refine ao.drop ?_ (aA _) (hok) ?_;exact aF;(repeat' (first|exact aZ.base _|(refine aZ.put ?_ (by first|exact .c _|(simp only[go_sem];done)|exact V.gT _ _)))))
   ·obtain rfl:i=t.l.length:=by omega
    rw[E0,dQ];have z:¬((t.l.length:Nat):Int)<((t.l.length:Nat):Int):=by omega
    (refine W.a ?_;simp only[go_sem,z]);refine W.no rfl (W.a ?_);simp only[go_sem];(refine W.fs (hok) (by simp only[kj,go_sem];rfl) ?_;simp only[al];try exact V.wk.rfl _)
    all_goals (all_goals exact au)
  ·have q:((t.l.length:Int) !=2)=true:=by simp;omega
   rw[if_neg (by omega),if_neg (by omega)];clear h3;(refine W.a ?_;simp only[go_sem,ml,k0,k1,k2,k3,k4]);refine W.no rfl (W.a ?_);simp only[go_sem,k0,k1,k2,k3,k4,q];refine W.no rfl (W.a ?_);simp only[go_sem,k0,k1,k2,k3,k4,q];refine W.no rfl (W.a ?_);simp only[go_sem,k0,k1,k2,k3,k4,q];refine W.no rfl (W.a ?_);simp only[go_sem,k0,k1,k2,k3,k4,q];refine W.yes rfl (W.a ?_);simp only[go_sem,k0,k1,k2,k3,k4,q];refine W.yes rfl (W.a ?_);simp only[go_sem,k0,k1,k2,k3,k4,q];(refine W.fs (hok) (by simp only[kj,go_sem];rfl) ?_;simp only[al];try exact V.wk.rfl _)
   all_goals (all_goals exact au)
 rw[if_neg (by omega),if_neg (by omega)];have k0:(t.k==0)=false:=by simp[h0]
 have k1:(t.k==1)=false:=by simp[h1]
 have k2:(t.k==2)=false:=by simp[h2]
 have k3:(t.k==3)=false:=by simp[h3]
 have k4:(t.k==4)=false:=by simp[h4]
 clear h0 h1 h2 h3 h4;(refine W.a ?_;simp only[go_sem,ml,k0,k1,k2,k3,k4]);refine W.no rfl (W.a ?_);simp only[go_sem,k0,k1,k2,k3,k4];refine W.no rfl (W.a ?_);simp only[go_sem,k0,k1,k2,k3,k4];refine W.no rfl (W.a ?_);simp only[go_sem,k0,k1,k2,k3,k4];refine W.no rfl (W.a ?_);simp only[go_sem,k0,k1,k2,k3,k4];refine W.no rfl (W.a ?_);simp only[go_sem,k0,k1,k2,k3,k4];(refine W.fs (hok) (by simp only[kj,go_sem];rfl) ?_;simp only[al];try exact V.wk.rfl _)
 all_goals (all_goals exact au)
end Go.Proofs.YtdlkenpilhakfaaGreatDoor
namespace Go.Lamb
open Go Go.RowKit
theorem gk.get{s:List aa}:∀{l w:List aa},gk s l w->∀i (hi:i<l.length) (hi':i<w.length),mm s l[i] w[i]
 |_,_,.nil,i,hi,_=>absurd hi (Nat.not_lt_zero _)
 |_,_,.cons r _,0,_,_=>r
 |_,_,.cons _ rs,i+1,hi,hi'=>rs.get i (nO hi) (nO hi')
end Go.Lamb
namespace Go.Proofs.YtdlkenpilhakfaaGreatDoor
open Go.RowKit Go.Lamb
section
variable {n0 p:Nat} {g:Sg} {f:av}
attribute [local go_sem] aa.v aa.aM a7 bh aW aQ aX
theorem WX(w0:World)(h0:f.vars=[]){σ:H}{y3 y4 y5:V}(hA:bz n0 σ p g f y3 y4 y5):
  DC prog w0 33 [.ptr p 0] σ (Same (.c (.sl ((vp f).map az.cs))) σ):=by
 have hE:(vp f).map az.cs=[]:=by unfold vp;rw[h0];rfl
 rw[hE];refine C3.go rfl (fun hok hsz=>?_);have hp:=fun L=>hG hA.here L;have hp0:=hA.here;unfold bK at hp hp0;have hz:¬((0:Int)<0):=by decide
 have hAr:=fun σ=>x9 w0 oT [] (by simp) σ;have hN:=fun σ=>ye w0 oT (by rw[oT,mq,bR];decide) σ;have hNo:cK oT=oT:=by unfold cK;rw[pt];rfl
 have hP:=fun σ=>Jj w0 oT (by decide) σ;have hPo:ga oT=([],oT):=A3 rfl;have hAo:fi [] oT=oT:=rfl;have hC:=fun σ=>Kg w0 [] (fun r hr=>by cases hr) (by simp) σ;have hy:y5= .ab []\/∃b,y5= .aG b []:=by
  rcases hA.var with⟨_,e⟩|⟨b,_,e,_⟩
  ·exact .inl e
  ·rw[h0]at e;exact .inr ⟨b,e⟩
 rcases hy with rfl|⟨bv,rfl⟩
 ·((try refine W.a ?_);simp only[go_sem,uL,hp,hp0]);refine W.bB (α:=Unit) (fun _=>True) (fun _=>⟨((((base.put (some 0) (.ptr p 0)).put (some 3) (.ab [])).put (some 14) (I 0)).put (some 15) (I 0)),σ⟩) (fun _=>0) () trivial ?_ (fun _ _=>?_)
  ·(refine ao.env ?_;exact aF)
  ((try refine W.a ?_);simp only[go_sem,hz]);refine W.no rfl (W.a ?_);simp only[go_sem];(refine W.kT (hAr _) ?_;simp only[go_sem]);((try refine W.a ?_);simp only[go_sem]);(refine W.c1 (hN _) ?_;simp only[go_sem]);((try refine W.a ?_);simp only[go_sem]);(refine W.c1 (hP _) ?_;simp only[go_sem]);((try refine W.a ?_);simp only[go_sem,hp,hp0]);(refine W.kT (hC _) ?_;simp only[go_sem]);((try refine W.a ?_);simp only[go_sem]);refine W.bB (α:=Unit) (fun _=>True) (fun _=>⟨(((base.put (some 8) (.aG (σ.length+1) [])).put (some 44) (I 0)).put (some 45) (I 0)),σ++[.gone,.spare 50 5 0]⟩) (fun _=>0) () trivial ?_ (fun _ _=>?_)
  ·(refine ao.eN (hok) ?_ (by simp) (by simp) ?_ ?_ ?_;exact aF;((try simp only[okB,bx,go_sem])<;>omega);(simp only[bk,cN,dI,dZ,cV,bx,and_true];(repeat' (refine eV ?_ ?_))<;>(first|exact ad.wk.rfl _|exact ad.wk.gone _|(refine ad.eO ?_ rfl;(exact au))));(repeat' (first|exact aZ.base _|(refine aZ.put ?_ (by first|exact .c _|((try simp only[okB,bx,go_sem])<;>omega))))))
  ((try refine W.a ?_);simp only[go_sem,hz]);refine W.no rfl (W.a ?_);simp only[go_sem];(refine W.fs (hok) (by simp only[uM,go_sem];rfl) ?_;simp only[al];try exact V.wk.rfl _)
  all_goals (all_goals exact au)
 ·((try refine W.a ?_);simp only[go_sem,uL,hp,hp0]);refine W.bB (α:=Unit) (fun _=>True) (fun _=>⟨((((base.put (some 0) (.ptr p 0)).put (some 3) (.ab [])).put (some 14) (I 0)).put (some 15) (I 0)),σ⟩) (fun _=>0) () trivial ?_ (fun _ _=>?_)
  ·(refine ao.env ?_;exact aF)
  ((try refine W.a ?_);simp only[go_sem,hz]);refine W.no rfl (W.a ?_);simp only[go_sem];(refine W.kT (hAr _) ?_;simp only[go_sem]);((try refine W.a ?_);simp only[go_sem]);(refine W.c1 (hN _) ?_;simp only[go_sem]);((try refine W.a ?_);simp only[go_sem]);(refine W.c1 (hP _) ?_;simp only[go_sem]);((try refine W.a ?_);simp only[go_sem,hp,hp0]);(refine W.kT (hC _) ?_;simp only[go_sem]);((try refine W.a ?_);simp only[go_sem]);refine W.bB (α:=Unit) (fun _=>True) (fun _=>⟨(((base.put (some 8) (.aG (σ.length+1) [])).put (some 44) (I 0)).put (some 45) (I 0)),σ++[.gone,.spare 50 5 0]⟩) (fun _=>0) () trivial ?_ (fun _ _=>?_)
  ·(refine ao.eN (hok) ?_ (by simp) (by simp) ?_ ?_ ?_;exact aF;((try simp only[okB,bx,go_sem])<;>omega);(simp only[bk,cN,dI,dZ,cV,bx,and_true];(repeat' (refine eV ?_ ?_))<;>(first|exact ad.wk.rfl _|exact ad.wk.gone _|(refine ad.eO ?_ rfl;(exact au))));(repeat' (first|exact aZ.base _|(refine aZ.put ?_ (by first|exact .c _|((try simp only[okB,bx,go_sem])<;>omega))))))
  ((try refine W.a ?_);simp only[go_sem,hz]);refine W.no rfl (W.a ?_);simp only[go_sem];(refine W.fs (hok) (by simp only[uM,go_sem];rfl) ?_;simp only[al];try exact V.wk.rfl _)
  all_goals (all_goals exact au)
theorem WY(w0:World){N:Nat}(hR:ck N f.sub)(hN:N<=1000000)(hs:f.sub.length<=1000000)(hl:f.live=true)(hv:∀x∈f.vars,aE f.sub.length x.ty/\aD x.ty<=N)(hv0:f.vars≠[])(hvl:f.vars.length<=100000)(hs0:f.sub≠[]){ws:List aa}(hw:gk f.sub (f.vars.map (·.ty)) ws)(hwn:bR ws<=100000)(hwv:∀x∈ws,cW x=true){σ:H}{y3 y4 y5:V}(hA:bz n0 σ p g f y3 y4 y5):
  DC prog w0 33 [.ptr p 0] σ (Same (.c (.sl ((mP ic f.vars (dM ws)).map az.cs))) σ):=by
 have hwl:ws.length=f.vars.length:=by rw[hw.len,bW]
 have hpl:(dM ws).length=f.vars.length:=(WQ ws).trans hwl;refine C3.go rfl (fun hok hsz=>?_);have hp:=fun L=>hG hA.here L;have hp0:=hA.here;unfold bK at hp hp0;have hlt:=hA.lt;rcases hA.sub hl with⟨e,_⟩|⟨b,_,hy3,hb,_⟩
 ·exact absurd e hs0
 subst hy3;rcases hA.var with⟨e,_⟩|⟨bv,_,hy5,hbv⟩
 ·exact absurd e hv0
 subst hy5;have hbvl:=(aL.1 hbv).1;have hb2:=fun L=>hG hb L;have hlen0:0<f.vars.length:=List.length_pos_iff.2 hv0;have hrl:(f.vars.map az.cs).length=f.vars.length:=bW _;have hFull:∀i (hi:i<f.vars.length) (τ:H),τ[b]?=some (.vec 34 4 (aK f.sub))->DC prog w0 79 [.vec b f.sub.length,f.vars[i].ty.v] τ (Same (ws[i]'(by omega)).v τ):=fun i hi τ hτ=>by
  have hg:=hw.get i (by rw[bW];exact hi) (by omega);rw[dN]at hg;have hx:=hv f.vars[i] (bt hi);exact Vd w0 hR hN hs b hg hx.1 hx.2 τ hτ
 have han:=Me ws;have hAr:=fun σ=>x9 w0 oT ws (by omega) σ;have hNo:=fun σ=>ye w0 (fi ws oT) (by omega) σ;have hav:∀l:List aa,(∀x∈l,cW x=true)->cW (fi l oT)=true:=by
  intro l;induction l with
  |nil=>intro _;decide
  |cons x l ih=>
   intro h;show cW (.arr x (fi l oT))=true;rw[jC];simp[aa.arr,kU,a7,bh,aW,aQ,h x (bu ..),ih (fun u hu=>h u (bS _ hu))]
 have hnd:=(u7 (hav ws hwv) (by omega)).2.1;have hP:=fun σ=>Jj w0 (cK (fi ws oT)) (bE (A8 _) (by omega)) σ;have hCl:=fun σ=>Mc w0 (f.vars.map az.cs) (by simpa using hv0) (rY f.vars) (by omega) σ;have hnf:(f.vars.map az.cs).flatten=cb f.vars:=rfl;rw[hnf,hrl]at hCl;have hpe:(ga (cK (fi ws oT))).1=dM ws:=rfl;rw[hpe]at hP;have hmap:(mP ic f.vars (dM ws)).map az.cs=rowsOf 5 f.vars.length (cb (fk f.vars (dM ws) f.vars.length)):=by
  rw[WS];have hz:(mP ic f.vars (dM ws)).length=f.vars.length:=by rw[E5];omega
  have h:=pf (rY (mP ic f.vars (dM ws)));rw[bW,hz]at h;exact h.symm
 rw[hmap];generalize hA1:fi ws (aa.mk 0 [111] 0 [])=ar at*
 generalize (ga (cK ar)).2=rt at*
 generalize cK ar=nt at*
 have hz1:(0:Int)<(f.vars.length:Int):=by omega
 ((try refine W.a ?_);simp only[go_sem,uL,hp,hp0,hrl]);refine W.bB (α:=Option Nat) (fun o=>match o with|none=>True|some i=>1<=i/\i<=f.vars.length) (fun o=>match o with
  |none=>⟨(((((base.put (some 0) (.ptr p 0)).put (some 3) (.ab [])).put (some 13) (.aG bv (f.vars.map az.cs))).put (some 14) (I (f.vars.length:Int))).put (some 15) (I 0)),σ⟩
  |some i=>⟨(((((base.put (some 0) (.ptr p 0)).put (some 3) (.aG (σ.length+1) ((ws.take i).map aa.cs))).put (some 13) (.aG bv (f.vars.map az.cs))).put (some 14) (I (f.vars.length:Int))).put (some 15) (I (i:Int))),σ++[.gone,.spare 34 4 i]⟩) (fun o=>match o with|none=>f.vars.length+1|some i=>f.vars.length-i) none trivial ?_ (fun o ho=>?_)
 ·dsimp only
  (refine ao.env ?_;exact aF)
 cases o with
 |none=>
  dsimp only
  have hx0:=Dr hlen0;have hF:=fun τ hτ=>hFull 0 hlen0 τ hτ;have htk:(ws.take 1).map aa.cs=[(ws[0]'(by omega)).cs]:=by
   rw[il (by omega:0<ws.length)];rfl
  have hw1:aN.wrap (0+1)=((1:Nat):Int):=by decide
  generalize f.vars[0]=x at*;generalize ws[0]'(by omega)=w at*
  ((try refine W.a ?_);simp only[go_sem,hz1]);refine W.yes rfl (W.a ?_);simp only[go_sem,hz1,hx0,hrl];apply W.aS (aT _ _)
  case hc=>
   (apply ae.aq;simp only[go_sem,hp]);(apply ae.call (hF _ (hG hb _));(case hg=>rfl);(case hf=>rfl);(case ha=>first|rfl|simp));(apply ae.aq;simp only[go_sem,true_or]);exact ae.nil
  ((try refine W.a ?_);simp only[go_sem,hw1]);refine .inv ⟨some 1,⟨aA _,by omega⟩,by dsimp only;omega,?_⟩;dsimp only
  rw[htk];simp only[aa.aM];(refine ao.eN (hok) ?_ (by simp) (by simp) ?_ ?_ ?_;exact aF;((try simp only[okB,bx,go_sem])<;>omega);(simp only[bk,cN,dI,dZ,cV,bx,and_true];(repeat' (refine eV ?_ ?_))<;>(first|exact ad.wk.rfl _|exact ad.wk.gone _|(refine ad.eO ?_ rfl;(exact au))));(repeat' (first|exact aZ.base _|(refine aZ.put ?_ (by first|exact .c _|((try simp only[okB,bx,go_sem])<;>omega))))))
 |some i=>
  obtain⟨hi1,hi⟩:=ho;dsimp only
  by_cases hlt2:i<f.vars.length
  ·have z1:(i:Int)<(f.vars.length:Int):=by omega
   have z0:(0:Int)<=(i:Int):=by omega
   have hx0:=Dr hlt2;have hF:=fun τ hτ=>hFull i hlt2 τ hτ;have htk:(ws.take (i+1)).map aa.cs=(ws.take i).map aa.cs++[(ws[i]'(by omega)).cs]:=by
    rw[il (by omega:i<ws.length),List.map_append];rfl
   have hw1:aN.wrap ((i:Int)+1)=((i+1:Nat):Int):=by rw[bn]<;>omega
   have htl:((ws.take i).map aa.cs).length=i:=by rw[bW,dV];omega
   have b1:(i+1)*56<=140737488355328:=by omega
   have b2:i+1<=140737488355328:=by omega
   have b3:i<=140737488355327:=by omega
   have hr4:(∀r∈(ws.take i).map aa.cs,r.length=4)=True:=eq_true (ki _);generalize f.vars[i]=x at*;generalize ws[i]'(by omega)=w at*
   rw[aa.aM]at htk;generalize (ws.take i).map aa.cs=R at*
   ((try refine W.a ?_);simp only[go_sem,z1]);refine W.yes rfl (W.a ?_);simp only[go_sem,z1,z0,hx0,hrl];apply W.aS (aT _ _)
   case hc=>
    (apply ae.aq;simp only[go_sem,hp]);(apply ae.call (hF _ (hG hb _));(case hg=>rfl);(case hf=>rfl);(case ha=>first|rfl|simp));(apply ae.aq;simp only[go_sem,true_or,htl,b1,b2,b3,hr4]);exact ae.nil
   ((try refine W.a ?_);simp only[go_sem,hw1]);refine .inv ⟨some (i+1),⟨by omega,hlt2⟩,by dsimp only;omega,?_⟩;dsimp only
   rw[htk];(refine ao.eN (hok) ?_ (by simp) (by simp) ?_ ?_ ?_;exact aF;((try simp only[okB,bx,go_sem])<;>omega);(simp only[bk,cN,dI,dZ,cV,bx,and_true];(repeat' (refine eV ?_ ?_))<;>(first|exact ad.wk.rfl _|exact ad.wk.gone _|(refine ad.eO ?_ rfl;(exact au))));(repeat' (first|exact aZ.base _|(refine aZ.put ?_ (by first|exact .c _|((try simp only[okB,bx,go_sem])<;>omega))))))
  ·obtain rfl:i=f.vars.length:=by omega
   have z1:¬((f.vars.length:Nat):Int)<((f.vars.length:Nat):Int):=by omega
   rw[eT (by omega:ws.length<=f.vars.length)];((try refine W.a ?_);simp only[go_sem,z1]);refine W.no rfl (W.a ?_);simp only[go_sem];(refine W.kT (hAr _) ?_;simp only[go_sem]);((try refine W.a ?_);simp only[go_sem]);(refine W.c1 (hNo _) ?_;simp only[go_sem]);((try refine W.a ?_);simp only[go_sem]);(refine W.c1 (hP _) ?_;simp only[go_sem]);((try refine W.a ?_);simp only[go_sem,hp]);(refine W.kT (hCl _) ?_;simp only[go_sem]);((try refine W.a ?_);simp only[go_sem]);have hob:∀i,i<=f.vars.length->(cb (fk f.vars (dM ws) i)).length=f.vars.length*5:=fun i hi=>by rw[pZ,DZ hpl i hi]
   have bT:∀i (hi:i<f.vars.length) (hi':i<(dM ws).length),de (i*5+1) (cb (fk f.vars (dM ws) i))++ .int .i64 (dM ws)[i].k:: .str (dM ws)[i].name:: .int .i64 (dM ws)[i].n:: .sl ((dM ws)[i].l.map aa.cs)::fW (i*5+1+4) (cb (fk f.vars (dM ws) i))=cb (fk f.vars (dM ws) (i+1)):=fun i hi hi'=>by
    have hol:=DZ hpl i (Nat.le_of_lt hi);have h:=WV (L:=fk f.vars (dM ws) i) (i:=i) (by omega) (dM ws)[i];rw[WT hpl hi,WU hpl hi]at h;exact h
   have hz0:cb f.vars=cb (fk f.vars (dM ws) 0):=by rw[WR]
   rw[hz0];generalize hO:(fun i=>cb (fk f.vars (dM ws) i))=O at*
   have hO2:∀i,cb (fk f.vars (dM ws) i)=O i:=fun i=>by rw[<-hO]
   simp only[hO2]at hob bT⊢;refine W.bB (α:=Nat) (fun i=>i<=f.vars.length) (fun i=>⟨(((((base.put (some 6) (.c (.sl ((dM ws).map aa.cs)))).put (some 8) (.vec (σ.length+3) f.vars.length)).put (some 43) (.vec (σ.length+3) f.vars.length)).put (some 44) (I (f.vars.length:Int))).put (some 45) (I (i:Int))),σ++[.gone,.gone,.gone,.vec 50 5 (O i)]⟩) (fun i=>f.vars.length-i) 0 (bC _) ?_ (fun i hi=>?_)
   ·(refine ao.eN (hok) ?_ (by simp) (by simp) ?_ ?_ ?_;exact aF;((try simp only[okB,bx,go_sem,oE])<;>omega);(simp only[bk,cN,dI,dZ,cV,bx,and_true];(repeat' (refine eV ?_ ?_))<;>(first|exact ad.wk.rfl _|exact ad.wk.gone _|(refine ad.eO ?_ rfl;(exact au))));(repeat' (first|exact aZ.base _|(refine aZ.put ?_ (by first|exact .c _|((try simp only[okB,bx,go_sem,oE])<;>omega))))))
   by_cases hlt2:i<f.vars.length
   ·have z1:(i:Int)<(f.vars.length:Int):=by omega
    have z0:(0:Int)<=(i:Int):=by omega
    have hi':i<(dM ws).length:=by omega
    have hx0:(dM ws)[i]?=some (dM ws)[i]:=aO hi';have hw1:aN.wrap ((i:Int)+1)=((i+1:Nat):Int):=by rw[bn]<;>omega
    have hgi:=bT i hlt2 hi';have hFl:=hob i (Nat.le_of_lt hlt2);have hii:i*5+1+4<=f.vars.length*5:=by omega
    generalize (dM ws)[i]=w at*
    ((try refine W.a ?_);simp only[go_sem,z1]);refine W.yes rfl (W.a ?_);simp only[go_sem,z1,z0,hx0,hpl,hw1,hgi,hFl,hii];refine .inv ⟨i+1,hlt2,by omega,?_⟩;(refine ao.env ?_;exact aF)
   ·obtain rfl:i=f.vars.length:=by omega
    refine W.jB (b:=σ.length+3) (e:=50) (size:=5) (k:=f.vars.length) (cs:=O f.vars.length) 8 rfl (Go.Lamb.bT _ _ 3) (sE (hob _ (aA _)).symm) ?_;((try refine W.a ?_);simp only[go_sem,z1]);refine W.no rfl (W.a ?_);simp only[go_sem];(refine W.fs (hok) (by simp only[uM,go_sem];rfl) ?_;simp only[al];try exact V.wk.rfl _)
    all_goals (all_goals exact au)
end
end Go.Proofs.YtdlkenpilhakfaaGreatDoor
namespace Go.Lamb
open Go Go.RowKit
def cz:Option aa->V
 |some u=>.ay [u.v,I 0]
 |none=>.ay [aa.none.v,I 80]
end Go.Lamb
namespace Go.Proofs.YtdlkenpilhakfaaGreatDoor
open Go.RowKit Go.Lamb
attribute [local go_sem] aa.v aa.aM a7 bh aW aQ aX
theorem D1(w0:World)(t:aa):ax t<=1000000000000->∀(σ:H),DC prog w0 30 [t.v] σ (Same (I (cR t:Nat)) σ):=by
 refine aa.ind (P:=fun t=>ax t<=1000000000000->∀(σ:H),DC prog w0 30 [t.v] σ (Same (I (cR t:Nat)) σ)) (fun t ih hn σ=>?_) t;refine Lh.go rfl (fun hok hsz=>?_);have hW:=fun σ=>Cr w0 t σ;have hkl:bj t.l<=1000000000000:=by rw[eS]at hn;omega
 obtain⟨l,hl,hll,hkid⟩:∃l:List aa,l=(if t.k=5\/t.k=6 then t.l else[])/\bj l<=1000000000000/\∀u∈l,u∈t.l:=by
  refine⟨_,rfl,?_,fun u hu=>?_⟩
  ·split
   ·exact hkl
   ·rw[bj];omega
  ·split at hu
   ·exact hu
   ·cases hu
 have hE:cR t=1+dY l:=by
  rw[Dw,hl];split
  ·rfl
  ·rw[dY]
 rw[<-hl]at hW;rw[hE];clear hE;have hlen:l.length<=1000000000000:=bE (ur l) hll;simp only[aX]at hW;generalize (if t.k=5 then(1:Int)else 0)=z at*
 (refine W.a ?_;simp only[go_sem,CZ]);(refine W.c1 (hW _) ?_;simp only[go_sem]);(refine W.a ?_;simp only[go_sem]);refine W.bB (fun i=>i<=l.length) (fun i=>⟨((((base.put (some 3) (I ((1+dY (l.take i):Nat):Int))).put (some 13) (.c (.sl (l.map aa.cs)))).put (some 14) (I (l.length:Int))).put (some 15) (I (i:Int))),σ⟩) (fun i=>l.length-i) 0 (bC _) ?_ (fun i hi=>?_)
 ·simp only[cV,dY];(refine ao.drop ?_ (aA _) (hok) ?_;exact aF;(repeat' (first|exact aZ.base _|(refine aZ.put ?_ (by first|exact .c _|(simp only[go_sem];done)|exact V.gT _ _)))))
 ·by_cases hlt:i<l.length
  ·have h1:(i:Int)<(l.length:Int):=by omega
   have hx:l[i]?=some l[i]:=aO hlt;have hmem:=bt hlt;have hnd:ax l[i]<=1000000000000:=bE (Cp hmem) hll;have hS:=fun σ=>ih l[i] (hkid _ hmem) hnd σ;have hst:=VZ hlt;have hle:=V0 l i;have hle1:=yW l[i];have hw:=eB hlt (by omega:l.length<=9223372036854775807);have hs:aN.wrap (((1+dY (l.take i):Nat):Int)+((cR l[i]:Nat):Int))=((1+dY (l.take (i+1)):Nat):Int):=by rw[bn]<;>omega
   (refine W.a ?_;simp only[go_sem,h1]);refine W.yes rfl (W.a ?_);simp only[go_sem,h1,bQ,hx];(refine W.c1 (hS _) ?_;simp only[go_sem,hs,hw]);refine .inv ⟨i+1,hlt,by omega,?_⟩;(refine ao.drop ?_ (aA _) (hok) ?_;exact aF;(repeat' (first|exact aZ.base _|(refine aZ.put ?_ (by first|exact .c _|(simp only[go_sem];done)|exact V.gT _ _)))))
  ·have h1:¬((i:Int)<(l.length:Int)):=by omega
   have:l.take i=l:=eT (by omega);(refine W.a ?_;simp only[go_sem,h1]);refine W.no rfl (W.a ?_);simp only[go_sem];rw[this];(refine W.fs (hok) (by simp only[C0,go_sem];rfl) ?_;simp only[al];try exact V.wk.rfl _);(all_goals exact au)
theorem Mi(w0:World)(t:aa):ax t<=1000000000000->∀(i:Nat),i+ax t<=2000000000000->∀(σ:H),DC prog w0 261 [t.v,I (i:Int)] σ (Same (I (cu (i:Int) t:Nat)) σ):=by
 refine aa.ind (P:=fun t=>ax t<=1000000000000->∀(i:Nat),i+ax t<=2000000000000->∀(σ:H),DC prog w0 261 [t.v,I (i:Int)] σ (Same (I (cu (i:Int) t:Nat)) σ)) (fun t ih hn i hi σ=>?_) t;refine LJ.go rfl (fun hok hsz=>?_);have hnp:=eS t;have hlen:t.l.length<=1000000000000:=bE (kg t) hn;rw[yV];by_cases hb:t.k=3/\t.n=(i:Int)
 ·rw[if_pos hb];have k3:(t.k==3)=true:=by simp[hb.1]
  have kn:(t.n==(i:Int))=true:=by simp[hb.2]
  clear hb;(refine W.a ?_;simp only[go_sem,sd,k3]);refine W.yes rfl (W.a ?_);simp only[go_sem,kn];refine W.yes rfl (W.a ?_);simp only[go_sem];(refine W.fs (hok) (by simp only[se,go_sem];rfl) ?_;simp only[al];try exact V.wk.rfl _)
  all_goals (all_goals exact au)
 rw[if_neg hb];have hkid:∀(j:Nat),j<=i+1->∀x (hx:x<t.l.length) σ,DC prog w0 261 [t.l[x].v,I (j:Int)] σ (Same (I (cu (j:Int) t.l[x]:Nat)) σ):=fun j hj x hx σ=>by
  have hm:=jI (bt hx);exact ih _ (bt hx) (by omega) j (by omega) σ
 have hwj:aN.wrap ((i:Int)+1)=((i+1:Nat):Int):=by rw[bn]<;>omega
 have hall:bj t.l<=1000000000000:=by omega
 obtain⟨j,hj,hkj,hcase⟩:∃j:Nat,(j:Int)=(if t.k=5 then(i:Int)+1 else(i:Int))/\(∀x (hx:x<t.l.length) σ,DC prog w0 261 [t.l[x].v,I (j:Int)] σ (Same (I (cu (j:Int) t.l[x]:Nat)) σ))/\((t.k=5/\j=i+1)\/(t.k≠5/\j=i)):=by
  by_cases h5:t.k=5
  ·exact⟨i+1,by rw[if_pos h5];omega,hkid _ (aA _),.inl ⟨h5,rfl⟩⟩
  ·exact⟨i,by rw[if_neg h5],hkid _ (Nat.le_succ _),.inr ⟨h5,rfl⟩⟩
 rw[<-hj];clear hj hkid ih;have hloop:∀x,x<t.l.length->cQ (j:Int) (t.l.take (x+1))<=1000000000000/\cQ (j:Int) (t.l.take x)<=1000000000000:=fun x _=>⟨bE (LW _ _ _) hall,bE (LW _ _ _) hall⟩;rcases hcase with⟨h5,rfl⟩|⟨h5,rfl⟩
 ·have k3:(t.k==3)=false:=by simp[h5]
  have k5:(t.k==5)=true:=by simp[h5]
  clear h5 hb;(refine W.a ?_;simp only[go_sem,sd,k3,k5]);refine W.no rfl (W.a ?_);simp only[go_sem,k5];refine W.yes rfl (W.a ?_);simp only[go_sem,hwj];refine W.bB (fun x=>x<=t.l.length) (fun x=>⟨(((((base.put (some 1) (I ((i+1:Nat):Int))).put (some 5) (I (cQ ((i+1:Nat):Int) (t.l.take x):Nat))).put (some 21) (.c (aX t.l))).put (some 22) (I (t.l.length:Int))).put (some 23) (I (x:Int))),σ⟩) (fun x=>t.l.length-x) 0 (bC _) ?_ (fun x hx=>?_)
  ·simp only[cV,cQ];(refine ao.drop ?_ (aA _) (hok) ?_;exact aF;(repeat' (first|exact aZ.base _|(refine aZ.put ?_ (by first|exact .c _|(simp only[go_sem];done)|exact V.gT _ _)))))
  by_cases hlt:x<t.l.length
  ·have h1:(x:Int)<(t.l.length:Int):=by omega
   have hx0:t.l[x]?=some t.l[x]:=aO hlt;have hK:=fun σ=>hkj x hlt σ;have hst:=Dx ((i+1:Nat):Int) hlt;have hl2:=hloop x hlt;have hw:=eB hlt (by omega:t.l.length<=9223372036854775807);have hs:aN.wrap (((cQ ((i+1:Nat):Int) (t.l.take x):Nat):Int)+((cu ((i+1:Nat):Int) t.l[x]:Nat):Int))=((cQ ((i+1:Nat):Int) (t.l.take (x+1)):Nat):Int):=by rw[bn]<;>omega
   (refine W.a ?_;simp only[go_sem,h1]);refine W.yes rfl (W.a ?_);simp only[go_sem,h1,bQ,hx0];(refine W.c1 (hK _) ?_;simp only[go_sem,hs,hw]);refine .inv ⟨x+1,hlt,by omega,?_⟩;(refine ao.drop ?_ (aA _) (hok) ?_;exact aF;(repeat' (first|exact aZ.base _|(refine aZ.put ?_ (by first|exact .c _|(simp only[go_sem];done)|exact V.gT _ _)))))
  ·have h1:¬((x:Int)<(t.l.length:Int)):=by omega
   have e1:t.l.take x=t.l:=eT (by omega);(refine W.a ?_;simp only[go_sem,h1]);refine W.no rfl (W.a ?_);simp only[go_sem];rw[e1];(refine W.fs (hok) (by simp only[se,go_sem];rfl) ?_;simp only[al];try exact V.wk.rfl _)
   all_goals (all_goals exact au)
 ·by_cases h3:t.k=3
  ·have k3:(t.k==3)=true:=by simp[h3]
   have kn:(t.n==(j:Int))=false:=by
    have:t.n≠(j:Int):=fun e=>hb ⟨h3,e⟩;simpa using this
   clear h3 h5 hb;(refine W.a ?_;simp only[go_sem,sd,k3]);refine W.yes rfl (W.a ?_);simp only[go_sem,kn];refine W.no rfl (W.a ?_);simp only[go_sem];refine W.bB (fun x=>x<=t.l.length) (fun x=>⟨(((((base.put (some 1) (I (j:Int))).put (some 5) (I (cQ (j:Int) (t.l.take x):Nat))).put (some 21) (.c (aX t.l))).put (some 22) (I (t.l.length:Int))).put (some 23) (I (x:Int))),σ⟩) (fun x=>t.l.length-x) 0 (bC _) ?_ (fun x hx=>?_)
   ·simp only[cV,cQ];(refine ao.drop ?_ (aA _) (hok) ?_;exact aF;(repeat' (first|exact aZ.base _|(refine aZ.put ?_ (by first|exact .c _|(simp only[go_sem];done)|exact V.gT _ _)))))
   by_cases hlt:x<t.l.length
   ·have h1:(x:Int)<(t.l.length:Int):=by omega
    have hx0:t.l[x]?=some t.l[x]:=aO hlt;have hK:=fun σ=>hkj x hlt σ;have hst:=Dx (j:Int) hlt;have hl2:=hloop x hlt;have hw:=eB hlt (by omega:t.l.length<=9223372036854775807);have hs:aN.wrap (((cQ (j:Int) (t.l.take x):Nat):Int)+((cu (j:Int) t.l[x]:Nat):Int))=((cQ (j:Int) (t.l.take (x+1)):Nat):Int):=by rw[bn]<;>omega
    (refine W.a ?_;simp only[go_sem,h1]);refine W.yes rfl (W.a ?_);simp only[go_sem,h1,bQ,hx0];(refine W.c1 (hK _) ?_;simp only[go_sem,hs,hw]);refine .inv ⟨x+1,hlt,by omega,?_⟩;(refine ao.drop ?_ (aA _) (hok) ?_;exact aF;(repeat' (first|exact aZ.base _|(refine aZ.put ?_ (by first|exact .c _|(simp only[go_sem];done)|exact V.gT _ _)))))
   ·have h1:¬((x:Int)<(t.l.length:Int)):=by omega
    have e1:t.l.take x=t.l:=eT (by omega);(refine W.a ?_;simp only[go_sem,h1]);refine W.no rfl (W.a ?_);simp only[go_sem];rw[e1];(refine W.fs (hok) (by simp only[se,go_sem];rfl) ?_;simp only[al];try exact V.wk.rfl _)
    all_goals (all_goals exact au)
  ·have k3:(t.k==3)=false:=by simp[h3]
   have k5:(t.k==5)=false:=by simp[h5]
   clear h3 h5 hb;(refine W.a ?_;simp only[go_sem,sd,k3,k5]);refine W.no rfl (W.a ?_);simp only[go_sem,k5];refine W.no rfl (W.a ?_);simp only[go_sem];refine W.bB (fun x=>x<=t.l.length) (fun x=>⟨(((((base.put (some 1) (I (j:Int))).put (some 5) (I (cQ (j:Int) (t.l.take x):Nat))).put (some 21) (.c (aX t.l))).put (some 22) (I (t.l.length:Int))).put (some 23) (I (x:Int))),σ⟩) (fun x=>t.l.length-x) 0 (bC _) ?_ (fun x hx=>?_)
   ·simp only[cV,cQ];(refine ao.drop ?_ (aA _) (hok) ?_;exact aF;(repeat' (first|exact aZ.base _|(refine aZ.put ?_ (by first|exact .c _|(simp only[go_sem];done)|exact V.gT _ _)))))
   by_cases hlt:x<t.l.length
   ·have h1:(x:Int)<(t.l.length:Int):=by omega
    have hx0:t.l[x]?=some t.l[x]:=aO hlt;have hK:=fun σ=>hkj x hlt σ;have hst:=Dx (j:Int) hlt;have hl2:=hloop x hlt;have hw:=eB hlt (by omega:t.l.length<=9223372036854775807);have hs:aN.wrap (((cQ (j:Int) (t.l.take x):Nat):Int)+((cu (j:Int) t.l[x]:Nat):Int))=((cQ (j:Int) (t.l.take (x+1)):Nat):Int):=by rw[bn]<;>omega
    (refine W.a ?_;simp only[go_sem,h1]);refine W.yes rfl (W.a ?_);simp only[go_sem,h1,bQ,hx0];(refine W.c1 (hK _) ?_;simp only[go_sem,hs,hw]);refine .inv ⟨x+1,hlt,by omega,?_⟩;(refine ao.drop ?_ (aA _) (hok) ?_;exact aF;(repeat' (first|exact aZ.base _|(refine aZ.put ?_ (by first|exact .c _|(simp only[go_sem];done)|exact V.gT _ _)))))
   ·have h1:¬((x:Int)<(t.l.length:Int)):=by omega
    have e1:t.l.take x=t.l:=eT (by omega);(refine W.a ?_;simp only[go_sem,h1]);refine W.no rfl (W.a ?_);simp only[go_sem];rw[e1];(refine W.fs (hok) (by simp only[se,go_sem];rfl) ?_;simp only[al];try exact V.wk.rfl _)
    all_goals (all_goals exact au)
theorem Mj(w0:World)(b a:aa){m:Int}(hm:m<=2305843009213693952)(hb:Nr m b)(ha:Nr m a)(hbn:ax b<=4096)(han:ax a<=4096)(σ:H):DC prog w0 231 [b.v,a.v] σ (Same (cz (qc b a)) σ):=by
 refine VF.go rfl (fun hok hsz=>?_);have hs1:=fun σ=>D1 w0 b (by omega) σ;have hs2:=fun σ=>D1 w0 a (by omega) σ;have ho:=fun σ=>Mi w0 b (by omega) 0 (by omega) σ;have e0:((0:Nat):Int)=0:=rfl;rw[e0]at ho;have hmul:ax a*ax b<=4096*4096:=Nat.mul_le_mul han hbn;have hS:=fun σ=>Uk w0 b 0 a (by decide) (by decide) (oz hm a ha.2) (by omega) (oz hm b hb.2) (by omega) (by omega) σ;have l1:=yW b;have l2:=yW a;have l3:=LV b 0;have lm:cu 0 b*cR a<=4096*4096:=Nat.mul_le_mul (by omega) (by omega);have hw1:aN.wrap (((cu 0 b:Nat):Int)*((cR a:Nat):Int))=((cu 0 b*cR a:Nat):Int):=by rw[bn]<;>omega
 have hw2:aN.wrap (((cR b:Nat):Int)+((cu 0 b*cR a:Nat):Int))=((cR b+cu 0 b*cR a:Nat):Int):=by rw[bn]<;>omega
 unfold qc;by_cases hc:cR b+cu 0 b*cR a>4096
 ·rw[if_pos hc];have hg:(((cR b+cu 0 b*cR a:Nat):Int)>4096):=by omega
  generalize cR b+cu 0 b*cR a=z at*;generalize cu 0 b*cR a=y at*
  (refine W.a ?_;simp only[go_sem,Dj]);apply W.fw
  case hc=>
   (apply Canon.fY;simp only[lU,lV,lW,lX,lY,lZ,go_sem]);(apply Canon.call (hs1 _);(case hg=>rfl);(case hf=>rfl);(case ha=>first|rfl|simp));(apply Canon.fY;simp only[lU,lV,lW,lX,lY,lZ,go_sem]);(apply Canon.call (ho _);(case hg=>rfl);(case hf=>rfl);(case ha=>first|rfl|simp));(apply Canon.fY;simp only[lU,lV,lW,lX,lY,lZ,go_sem]);(apply Canon.call (hs2 _);(case hg=>rfl);(case hf=>rfl);(case ha=>first|rfl|simp));(apply Canon.fY;simp only[lU,lV,lW,lX,lY,lZ,go_sem,hw1,hw2,hg]);exact Canon.nil
  (refine W.a ?_;simp only[go_sem]);refine W.yes rfl (W.a ?_);simp only[go_sem,cz,aa.none];(refine W.fs (hok) (by simp only[Dk,go_sem];rfl) ?_;simp only[al];try exact V.wk.rfl _)
  all_goals (all_goals exact au)
 ·rw[if_neg hc];have hg:¬(((cR b+cu 0 b*cR a:Nat):Int)>4096):=by omega
  generalize cR b+cu 0 b*cR a=z at*;generalize cu 0 b*cR a=y at*;generalize rB 0 a b=u at*
  (refine W.a ?_;simp only[go_sem,Dj]);apply W.fw
  case hc=>
   (apply Canon.fY;simp only[lU,lV,lW,lX,lY,lZ,go_sem]);(apply Canon.call (hs1 _);(case hg=>rfl);(case hf=>rfl);(case ha=>first|rfl|simp));(apply Canon.fY;simp only[lU,lV,lW,lX,lY,lZ,go_sem]);(apply Canon.call (ho _);(case hg=>rfl);(case hf=>rfl);(case ha=>first|rfl|simp));(apply Canon.fY;simp only[lU,lV,lW,lX,lY,lZ,go_sem]);(apply Canon.call (hs2 _);(case hg=>rfl);(case hf=>rfl);(case ha=>first|rfl|simp));(apply Canon.fY;simp only[lU,lV,lW,lX,lY,lZ,go_sem,hw1,hw2,hg]);exact Canon.nil
  (refine W.a ?_;simp only[go_sem]);refine W.no rfl (W.a ?_);simp only[go_sem,cz];(refine W.c1 (hS _) ?_;simp only[go_sem]);(refine W.a ?_;simp only[go_sem]);(refine W.fs (hok) (by simp only[Dk,go_sem];rfl) ?_;simp only[al];try exact V.wk.rfl _)
  all_goals (all_goals exact au)
end Go.Proofs.YtdlkenpilhakfaaGreatDoor
namespace Go.Proofs.YtdlkenpilhakfaaGreatDoor
open Go.RowKit Go.Lamb
attribute [local go_sem] aa.v aa.aM a7 bh aW aQ aX
theorem WZ(w0:World)(t:aa)(h:t.k=6->t.l≠[])(σ:H):DC prog w0 230 [t.v] σ (Same (B (jL t)) σ):=by
 refine KK.go rfl (fun hok hsz=>?_);unfold jL;by_cases h6:t.k=6
 ·have k6:(t.k==6)=true:=by simp[h6]
  obtain⟨x,l,hl⟩:∃x l,t.l=x::l:=by
   cases hl:t.l with
   |nil=>exact absurd hl (h h6)
   |cons x l=>exact⟨x,l,rfl⟩
  have z:(0:Int)<((l.length+1:Nat):Int):=by omega
  rw[hl,List.headD_cons];clear h6 h;((try refine W.a ?_);simp only[go_sem,yv,k6,hl,z]);(refine W.fs (hok) (by simp only[yw,go_sem];rfl) ?_;simp only[al];try exact V.wk.rfl _)
  all_goals (all_goals exact au)
 ·have k6:(t.k==6)=false:=by simp[h6]
  clear h6 h;((try refine W.a ?_);simp only[go_sem,yv,k6]);(refine W.fs (hok) (by simp only[yw,go_sem];rfl) ?_;simp only[al];try exact V.wk.rfl _)
  all_goals (all_goals exact au)
theorem Mk{σ:H}{p:Nat}(h:p<σ.length)(c:ad)(L:H):(σ.set p c++L)[p]?=some c:=by
 rw[cI (by simpa using h),List.getElem?_set_self h]
theorem Ml{σ:H}{p:Nat}(h:p<σ.length)(c d:ad)(L:H):(σ.set p c++L).set p d=σ.set p d++L:=by
 rw[List.set_append_left _ _ (by simpa using h),List.set_set]
theorem ok_int{σ:H}(h:H.ok σ)(p:Nat)(n:Int):H.ok (σ.set p (.cells [I n])):=fun B hB cs tg hc x hx=>by
 rw[List.length_set];rcases List.mem_or_eq_of_mem_set hB with hB|rfl
 ·exact h B hB cs tg hc x hx
 ·injection hc with hc;subst hc;simp only[cA,List.not_mem_nil,or_false]at hx;subst hx;exact .c _
theorem vq(b a:aa)(r:List aa):(fV b a r).k=6:=rfl
theorem D2(b a:aa)(r:List aa):(fV b a r).name=[]:=rfl
theorem D3(b a:aa)(r:List aa):(fV b a r).n=0:=rfl
theorem vr(b a:aa)(r:List aa):(fV b a r).l=bJ b::a::r:=rfl
theorem kq(b:aa):(bJ b).k=5:=rfl
theorem kr(b:aa):(bJ b).name=[]:=rfl
theorem ku(b:aa):(bJ b).n=0:=rfl
theorem iZ(b:aa):(bJ b).l=[b]:=rfl
theorem cd.parts{n:Nat}{b a:aa}{r:List aa}(h:cd n (fV b a r)):ax b<=4096/\ax a<=4096/\Nr (2199023255552-8192*(n:Int)) b/\Nr (2199023255552-8192*(n:Int)) a:=by
 have hp1:=h.bd.kids (by rw[vq];decide);rw[vr]at hp1;have hb4:=hp1 (bJ b) (bu ..);have hbn:=ko b;have hn:=(Nr.mu _ _ h.nr).2;rw[vr]at hn;have hlm:=hn (bJ b) (bu ..);exact⟨by omega,hp1 a (bS _ (bu ..)),(Nr.mu _ _ hlm).2 b (by rw[iZ];simp),hn a (bS _ (bu ..))⟩
theorem W1(w0:World)(n:Nat)(hn:n<=100000)(t:aa)(hi:cd n t)(hnd:ax t+4097*n<=1000000000)(hrec:∀n' b,(n'<n\/(n'=n/\b∈t.l))->cd n' b->ax b+4097*n'<=1000000000->∀o m,fa n' b o m->∀(fp:Nat) (σ:H),σ[fp]?=some (.cells [I n'])->DC prog w0 184 [b.v,.ptr fp 0] σ (Same (cz o) (σ.set fp (.cells [I m])))){o:Option aa}{m:Nat}(h:fa n t o m)(fp:Nat)(σ:H)(hf:σ[fp]?=some (.cells [I n])):
  DC prog w0 184 [t.v,.ptr fp 0] σ (Same (cz o) (σ.set fp (.cells [I m]))):=by
 have hlt:fp<σ.length:=(aL.1 hf).1;have hs0:σ.set fp (.cells [I n])=σ:=pg hf;refine KI.go rfl (fun hok hsz=>?_);have hokm:=ok_int hok fp m;have fg:=fun c L=>Mk hlt c L;have fs:=fun c d L=>Ml hlt c d L;((try refine W.a ?_);simp only[go_sem,CD]);refine W.bB (α:=Nat×aa) (fun x=>x.1<=n/\(x.1<n\/x.2=t)/\fa x.1 x.2 o m/\cd x.1 x.2/\ax x.2+4097*x.1<=1000000000) (fun x=>⟨(((base.put (some 1) (.ptr fp 0)).put (some 2) (.ptr σ.length 0)).put (some 4) (.ptr (σ.length+1) 0)),σ.set fp (.cells [I (x.1:Int)])++[.cells x.2.v.ai,.cells [I 0,S [],I 0,.ab []]]⟩) (fun x=>x.1) (n,t) ⟨aA _,.inr rfl,h,hi,hnd⟩ ?_ (fun x hx=>?_)
 ·dsimp only
  rw[hs0];(refine ao.env ?_;exact aF)
 obtain⟨j,s⟩:=x;obtain⟨x1,x2,x3,x4,x5⟩:=hx;dsimp only at x1 x2 x3 x4 x5⊢;have hre:s.k=6->s.l≠[]:=fun h6=>by
  obtain⟨_,_,a,b,l,hl,_⟩:=iG x4.nr.1 h6;rw[hl];simp
 have hR:=fun σ=>WZ w0 s hre σ;((try refine W.a ?_);simp only[go_sem,fg,fs]);(refine W.c1 (hR _) ?_;simp only[go_sem]);cases x3 with
 |@vg b a r=>
  have hb:jL (fV b a r)=true:=rfl;rw[hb];refine W.yes rfl (W.a ?_);simp only[go_sem,fg,fs];refine W.yes rfl (W.a ?_);simp only[go_sem,cz,aa.none];(refine W.fs (hokm) (by simp only[pU,go_sem];rfl) ?_;simp only[al];try exact V.wk.rfl _)
  all_goals (all_goals exact au)
 |@nz j b a r hc=>
  have hb:jL (fV b a r)=true:=rfl;have z:¬(((j+1:Nat):Int)<=0):=by omega
  have z0:(0:Int)<((r.length+1+1:Nat):Int):=by omega
  have z1:(1:Int)<((r.length+1+1:Nat):Int):=by omega
  have z2:(2:Int)<=((r.length+1+1:Nat):Int):=by omega
  obtain⟨nb,na,vb,va⟩:=x4.parts;have hC:=fun σ=>Mj w0 b a (m:=2199023255552) (by decide) (vb.more (by omega)) (va.more (by omega)) nb na σ;rw[hc]at hC;rw[hb];refine W.yes rfl (W.a ?_);simp only[go_sem,fg,fs,z];refine W.no rfl (W.a ?_);simp only[go_sem];apply W.aS (aT _ _)
  case hc=>
   (apply ae.aq;simp only[go_sem,vq,D2,D3,vr,kq,kr,ku,iZ,fg,fs,z0,z1]);(apply ae.mW (fun τ=>hC τ);(case hg=>rfl);(case hf=>rfl);(case ha=>first|rfl|simp));(apply ae.aq;simp only[go_sem,cz,aa.none]);exact ae.nil
  ((try refine W.a ?_);simp only[go_sem]);refine W.yes rfl (W.a ?_);simp only[go_sem,cz,aa.none];(refine W.fs (hokm) (by simp only[pU,go_sem];rfl) ?_;simp only[al];try exact V.wk.rfl _)
  all_goals (all_goals exact au)
 |@step j m b a u r o hc hk=>
  have hb:jL (fV b a r)=true:=rfl;have z:¬(((j+1:Nat):Int)<=0):=by omega
  have z0:(0:Int)<((r.length+1+1:Nat):Int):=by omega
  have z1:(1:Int)<((r.length+1+1:Nat):Int):=by omega
  have z2:(2:Int)<=((r.length+1+1:Nat):Int):=by omega
  have hwj:aN.wrap (((j+1:Nat):Int)-1)=((j:Nat):Int):=by rw[bn]<;>omega
  obtain⟨nb,na,vb,va⟩:=x4.parts;obtain⟨b1,b2,b3⟩:=x4.beta (by omega) hc;have hC:=fun σ=>Mj w0 b a (m:=2199023255552) (by decide) (vb.more (by omega)) (va.more (by omega)) nb na σ;have hrl:bj r<=ax (fV b a r):=by unfold fV;rw[iW,bj,bj];omega
  have hrl2:=ur r;have hul:=kg u;have hA:=fun σ=>ui w0 u r (by omega) σ;rw[hc]at hC;rw[hb];have hokj:=ok_int hok fp j;have htk:de r.length (r.map aa.cs)=r.map aa.cs:=eT (by simp);have hr4:(∀x,x∈ik aa.cs r->x.length=4)=True:=eq_true (ki r);refine W.yes rfl (W.a ?_);simp only[go_sem,fg,fs,z];refine W.no rfl (W.a ?_);simp only[go_sem];apply W.aS (aT _ _)
  case hc=>
   (apply ae.aq;simp only[go_sem,vq,D2,D3,vr,kq,kr,ku,iZ,fg,fs,z0,z1]);(apply ae.mW (fun τ=>hC τ);(case hg=>rfl);(case hf=>rfl);(case ha=>first|rfl|simp));(apply ae.aq;simp only[go_sem,cz]);exact ae.nil
  ((try refine W.a ?_);simp only[go_sem]);refine W.no rfl (W.a ?_);simp only[go_sem,fg,fs,hwj];apply W.aS (aT _ _)
  case hc=>
   (apply ae.aq;simp only[go_sem,vq,D2,D3,vr,kq,kr,ku,iZ,fg,fs,htk,z2,hr4]);(apply ae.call (hA _);(case hg=>rfl);(case hf=>rfl);(case ha=>first|rfl|simp));(apply ae.aq;simp only[go_sem,fg,fs]);exact ae.nil
  ((try refine W.a ?_);simp only[go_sem]);refine .inv ⟨(j,ct u r),⟨by omega,.inl (by omega),hk,b1,by show ax (ct u r)+4097*j<=_;omega⟩,by dsimp only;omega,?_⟩;dsimp only
  (refine ao.eN (hokj) ?_ (by simp) (by simp) ?_ ?_ ?_;exact aF;((try simp only[okB,bx,go_sem])<;>omega);(simp only[bk,cN,dI,dZ,cV,bx,and_true];(repeat' (refine eV ?_ ?_))<;>(first|exact ad.wk.rfl _|exact ad.wk.gone _|(refine ad.eO ?_ rfl;(exact au))));(repeat' (first|exact aZ.base _|(refine aZ.put ?_ (by first|exact .c _|((try simp only[okB,bx,go_sem])<;>omega))))))
 |@stop _ _ hb h5=>
  have k5:(s.k !=5)=true:=by simp[h5]
  rw[hb];refine W.no rfl (W.a ?_);simp only[go_sem,fg,fs,k5];refine W.yes rfl (W.a ?_);simp only[go_sem,cz];(refine W.fs (hokm) (by simp only[pU,go_sem];rfl) ?_;simp only[al];try exact V.wk.rfl _)
  all_goals (all_goals exact au)
 |@lam _ m b o hk=>
  have hb:jL (bJ b)=false:=rfl;have hrl:ax b+4097*j<=1000000000:=by have:=ko b;omega
  have hH:=hrec j b (by
   rcases x2 with x2|x2
   ·exact .inl x2
   ·by_cases hj:j<n
    ·exact .inl hj
    ·exact .inr ⟨by omega,by rw[<-x2,iZ];simp⟩) x4.body hrl o m hk
  have hH2:∀c d,DC prog w0 184 [b.v,.ptr fp 0] (σ.set fp (.cells [I (j:Int)])++[c,d]) (Same (cz o) (σ.set fp (.cells [I (m:Int)])++[c,d])):=fun c d=>by
   have:=hH fp (σ.set fp (.cells [I (j:Int)])++[c,d]) (fg _ _);rwa [fs]at this
  rw[hb];refine W.no rfl (W.a ?_);simp only[go_sem,fg,fs,vq,kq,kr,ku,iZ];refine W.no rfl (W.a ?_);simp only[go_sem,kq,kr,ku,iZ];(refine W.c1 (hH2 _ _) ?_;simp only[go_sem]);cases o with
  |none=>
   ((try refine W.a ?_);simp only[go_sem,cz,aa.none]);refine W.yes rfl (W.a ?_);simp only[go_sem,cz,aa.none,vY];(refine W.fs (hokm) (by simp only[pU,go_sem];rfl) ?_;simp only[al];try exact V.wk.rfl _)
   all_goals (all_goals exact au)
  |some v=>
   have hL:=fun σ=>ve w0 v σ;((try refine W.a ?_);simp only[go_sem,cz]);refine W.no rfl (W.a ?_);simp only[go_sem];(refine W.c1 (hL _) ?_;simp only[go_sem]);((try refine W.a ?_);simp only[go_sem,cz,iI]);(refine W.fs (hokm) (by simp only[pU,go_sem];rfl) ?_;simp only[al];try exact V.wk.rfl _)
   all_goals (all_goals exact au)
theorem W2(w0:World)(n:Nat):n<=100000->∀t,cd n t->ax t+4097*n<=1000000000->∀o m,fa n t o m->∀(fp:Nat) (σ:H),σ[fp]?=some (.cells [I (n:Int)])->DC prog w0 184 [t.v,.ptr fp 0] σ (Same (cz o) (σ.set fp (.cells [I (m:Int)]))):=by
 induction n using nN with
 |ind n ihn=>
  intro hn t;refine aa.ind (P:=fun t=>cd n t->ax t+4097*n<=1000000000->∀o m,fa n t o m->∀(fp:Nat) (σ:H),σ[fp]?=some (.cells [I (n:Int)])->DC prog w0 184 [t.v,.ptr fp 0] σ (Same (cz o) (σ.set fp (.cells [I (m:Int)])))) (fun t ih hi hnd o m h fp σ hf=>?_) t;refine W1 w0 n hn t hi hnd (fun n' b hc hb hbn o2 m2 h2 fp2 σ2 hf2=>?_) h fp σ hf;by_cases hlt:n'<n
  ·exact ihn n' hlt (by omega) b hb hbn o2 m2 h2 fp2 σ2 hf2
  ·rcases hc with hc|⟨e,hc⟩
   ·exact absurd hc hlt
   ·subst e;exact ih b hc hb hbn o2 m2 h2 fp2 σ2 hf2
end Go.Proofs.YtdlkenpilhakfaaGreatDoor
namespace Go.Proofs.YtdlkenpilhakfaaGreatDoor
open Go.RowKit Go.Lamb
structure Mm where
 n:Nat
 done:List aa
 rest:List aa
 o:Option (List aa)
structure W4 (m q:Nat) (l:List aa) (o:Option (List aa)) (x:Mm):Prop where
 le:x.n<=m
 len:x.done.length+x.rest.length=l.length
 sub:∀u∈x.rest,u∈l
 to:qd x.n x.rest x.o q
 out:o=x.o.map fun r=>x.done++r
theorem W5(w0:World)(l:List (List C))(hl0:l≠[])(hb3:∀r∈l,r.length=4)(hn:l.length<=1000000000)(σ:H):DC prog w0 185 [.c (.sl l)] σ (Same (.vec σ.length l.length) (σ++[.vec 41 4 l.flatten])):=by
 refine Cj.dL rfl (fun hok hsz=>?_);have hb1:l.length*56<=140737488355328:=by omega
 have hb2:l.length<=140737488355328:=by omega
 ((try refine W.a ?_);simp only[go_sem,yf]);refine W.kP rfl rfl rfl (fun b hb=>?_);cases b
 ·((try refine W.a ?_);simp only[go_sem]);refine W.no rfl ?_;refine W.skip (W.seq (W.aH (W.jw rfl rfl (W.jw rfl rfl ?_))));refine W.pd (olds:=[]) (news:=l) rfl rfl rfl rfl ⟨hl0,(fun r hr=>by cases hr),hb3,by simpa using hb1,by simpa using hb2⟩ ?_;((try refine W.a ?_);simp only[go_sem,eH]);refine W.ret ⟨_,_,rfl,.rfl _,?_⟩;exact⟨rfl,rfl⟩
 ·exact absurd (hb rfl) hl0
attribute [local go_sem] aa.v aa.aM a7 bh aW aQ aX
theorem W6(w0:World)(n:Nat)(hn:n<=100000)(t:aa)(hi:cd n t)(hnd:ax t+4097*n<=1000000000)
  (hrec:∀n' b,(n'<n\/(n'=n/\ax b<ax t))->cd n' b->ax b+4097*n'<=1000000000->∀o q,ei n' b o q->∀(fp:Nat) (σ:H),σ[fp]?=some (.cells [I (n':Int)])->DC prog w0 130 [b.v,.ptr fp 0] σ (Same (cz o) (σ.set fp (.cells [I (q:Int)]))))
  {o:Option aa} {q:Nat} (h:ei n t o q) (fp:Nat) (σ:H) (hf:σ[fp]?=some (.cells [I (n:Int)])):
  DC prog w0 130 [t.v,.ptr fp 0] σ (Same (cz o) (σ.set fp (.cells [I (q:Int)]))):=by
 have hlt:fp<σ.length:=(aL.1 hf).1;refine KF.go rfl (fun hok hsz=>?_);have hokq:=ok_int hok fp q;have fg:=fun c L=>Mk hlt c L;have fs:=fun c d L=>Ml hlt c d L;have hH:∀(r:Option aa) (m:Nat),fa n t r m->∀L,DC prog w0 184 [t.v,.ptr fp 0] (σ++L) (Same (cz r) (σ.set fp (.cells [I (m:Int)])++L)):=fun r m hh L=>by
  have:=W2 w0 n hn t hi hnd r m hh fp (σ++L) (hG hf L);rwa [hS hf]at this
 have hR:∀(n':Nat) (b:aa) (o:Option aa) (q':Nat),ei n' b o q'->(n'<n\/(n'=n/\ax b<ax t))->cd n' b->ax b+4097*n'<=1000000000->∀L,DC prog w0 130 [b.v,.ptr fp 0] (σ.set fp (.cells [I (n':Int)])++L) (Same (cz o) (σ.set fp (.cells [I (q':Int)])++L)):=fun n' b o q' hk hc hb hbn L=>by
  have:=hrec n' b hc hb hbn o q' hk fp (σ.set fp (.cells [I (n':Int)])++L) (fg _ _);rwa [fs]at this
 cases h with
 |bad hh=>
  have hh:=hH _ _ hh;((try refine W.a ?_);simp only[go_sem,c130]);(refine W.c1 (hh _) ?_;simp only[go_sem]);((try refine W.a ?_);simp only[go_sem,cz,aa.none]);refine W.yes rfl (W.a ?_);simp only[go_sem,cz,aa.none];(refine W.fs (hokq) (by simp only[oA,go_sem];rfl) ?_;simp only[al];try exact V.wk.rfl _)
  all_goals (all_goals exact au)
 |@lam _ m _ _ b o hh hk=>
  obtain⟨k1,k2⟩:=sg hh hn hi;obtain⟨k3,k4,k5⟩:=k2 _ rfl;have hln:=ko b;have hB:=hR m b o q hk (by
   rcases k4 with k4|k4
   ·exact .inl k4
   ·by_cases hm:m<n
    ·exact .inl hm
    ·exact .inr ⟨by omega,by rw[<-k4];omega⟩) k3.body (by omega)
  have hh:=hH _ _ hh;((try refine W.a ?_);simp only[go_sem,c130]);(refine W.c1 (hh _) ?_;simp only[go_sem]);((try refine W.a ?_);simp only[go_sem,cz,kq,kr,ku,iZ]);refine W.no rfl (W.a ?_);simp only[go_sem,kq,kr,ku,iZ];refine W.yes rfl (W.a ?_);simp only[go_sem,kq,kr,ku,iZ];(refine W.c1 (hB _) ?_;simp only[go_sem]);cases o with
  |none=>
   ((try refine W.a ?_);simp only[go_sem,cz,aa.none]);refine W.yes rfl (W.a ?_);simp only[go_sem,cz,aa.none,vY];(refine W.fs (hokq) (by simp only[oA,go_sem];rfl) ?_;simp only[al];try exact V.wk.rfl _)
   all_goals (all_goals exact au)
  |some v=>
   have hL:=fun σ=>ve w0 v σ;((try refine W.a ?_);simp only[go_sem,cz]);refine W.no rfl (W.a ?_);simp only[go_sem];(refine W.c1 (hL _) ?_;simp only[go_sem]);((try refine W.a ?_);simp only[go_sem,cz,iI]);(refine W.fs (hokq) (by simp only[oA,go_sem];rfl) ?_;simp only[al];try exact V.wk.rfl _)
   all_goals (all_goals exact au)
 |@kids _ m _ _ u o hh h5 hk=>
  obtain⟨k1,k2⟩:=sg hh hn hi;obtain⟨k3,k4,k5⟩:=k2 _ rfl;have hh:=hH _ _ hh;have hu5:(u.k==5)=false:=by simp[h5]
  have hun:=eS u;by_cases hl0:u.l=[]
  ·rw[hl0]at hk;cases hk;have hcl:=fun σ=>Kh w0 [] rfl σ;have hz:¬((0:Int)<0):=by decide
   ((try refine W.a ?_);simp only[go_sem,c130]);(refine W.c1 (hh _) ?_;simp only[go_sem]);((try refine W.a ?_);simp only[go_sem,cz]);refine W.no rfl (W.a ?_);simp only[go_sem,hu5,hl0];refine W.no rfl (W.a ?_);simp only[go_sem,hl0];(refine W.c1 (hcl _) ?_;simp only[go_sem]);((try refine W.a ?_);simp only[go_sem]);refine W.bB (α:=Unit) (fun _=>True) (fun _=>⟨(((((((base.put (some 1) (.ptr fp 0)).put (some 2) (.ptr σ.length 0)).put (some 4) (.ptr (σ.length+1) 0)).put (some 9) (.aG (σ.length+2) [])).put (some 43) (.aG (σ.length+2) [])).put (some 44) (I 0)).put (some 45) (I 0)),σ.set fp (.cells [I (q:Int)])++[.cells u.v.ai,.cells [I 0,S [],I 0,.ab []],.spare 41 4 0]⟩) (fun _=>0) () trivial ?_ (fun _ _=>?_)
   ·simp only[aa.v,hl0,V.ai,List.map_nil];(refine ao.env ?_;exact aF)
   ((try refine W.a ?_);simp only[go_sem,hz]);refine W.no rfl (W.a ?_);simp only[go_sem,cz,iI];(refine W.fs (hokq) (by simp only[oA,go_sem];rfl) ?_;simp only[al];try exact V.wk.rfl _)
   all_goals (all_goals exact au)
  ·have hlen:=kg u;have hne:u.l.map aa.cs≠[]:=by simpa using hl0
   have hcl:=fun σ=>W5 w0 (u.l.map aa.cs) hne (ki u.l) (by rw[bW];omega) σ;rw[bW]at hcl;have hF0:(u.l.map aa.cs).flatten=aK u.l:=rfl;rw[hF0]at hcl;have hkid:∀(n':Nat) (x:aa),n'<=m->x∈u.l->∀(r:Option aa) (q':Nat),ei n' x r q'->∀L,DC prog w0 130 [x.v,.ptr fp 0] (σ.set fp (.cells [I (n':Int)])++L) (Same (cz r) (σ.set fp (.cells [I (q':Int)])++L))/\q'<=n':=fun n' x hn' hx r q' hxn L=>by
    have hb:=(k3.dO h5 hx).down hn';have hxs:=k3.bd.kids h5 x hx;have hxu:=jI hx;refine⟨hR n' x r q' hxn ?_ hb (by omega) L,(yX hxn (by omega) hb).1⟩;by_cases hm:n'<n
    ·exact .inl hm
    ·refine .inr ⟨by omega,?_⟩;rcases k4 with k4|k4
     ·omega
     ·rw[<-k4];exact hxu
   ((try refine W.a ?_);simp only[go_sem,c130]);(refine W.c1 (hh _) ?_;simp only[go_sem]);((try refine W.a ?_);simp only[go_sem,cz]);refine W.no rfl (W.a ?_);simp only[go_sem,hu5];refine W.no rfl (W.a ?_);simp only[go_sem];(refine W.c1 (hcl _) ?_;simp only[go_sem]);((try refine W.a ?_);simp only[go_sem]);refine W.bB (α:=Mm) (W4 m q u.l o) (fun x=>⟨(((((((base.put (some 1) (.ptr fp 0)).put (some 2) (.ptr σ.length 0)).put (some 4) (.ptr (σ.length+1) 0)).put (some 9) (.vec (σ.length+2) u.l.length)).put (some 43) (.vec (σ.length+2) u.l.length)).put (some 44) (I (u.l.length:Int))).put (some 45) (I (x.done.length:Int))),σ.set fp (.cells [I (x.n:Int)])++[.cells u.v.ai,.cells [I 0,S [],I 0,.ab []],.vec 41 4 (aK (x.done++x.rest))]⟩) (fun x=>x.rest.length) ⟨m,[],u.l,o⟩ ⟨aA _,by simp,fun _ h=>h,hk,by cases o<;>simp⟩ ?_ (fun x hx=>?_)
   ·(refine ao.env ?_;exact aF)
   obtain⟨n',done,rest,o'⟩:=x;obtain⟨x1,x2,x3,x4,x5⟩:=hx;dsimp only at x1 x2 x3 x4 x5⊢;have hFl:(aK (done++rest)).length=u.l.length*4:=by rw[lf,bD,x2]
   cases x4 with
   |@bad _ _ y rest hy=>
    have hlt':done.length<(done++y::rest).length:=by simp
    have h1:(done.length:Int)<(u.l.length:Int):=by simp at x2;omega
    have h0:(0:Int)<=(done.length:Int):=by omega
    have hgi:=pX hlt';have hge:(done++y::rest)[done.length]=y:=by simp
    rw[hge]at hgi;have hsi:=CQ hlt' aa.none;have hii:done.length*4+4<=u.l.length*4:=by simp at x2;omega
    have hK:=fun L=>(hkid n' y x1 (x3 y (bu ..)) none q hy L).1;subst x5;((try refine W.a ?_);simp only[go_sem,h1]);refine W.yes rfl (W.a ?_);simp only[go_sem,h1,h0,hgi,hFl,hii];(refine W.c1 (hK _) ?_;simp only[go_sem]);((try refine W.a ?_);simp only[go_sem,cz,aa.none,h1,h0,hsi,hFl,hii]);refine W.yes rfl (W.a ?_);simp only[go_sem,cz,aa.none,vY];(refine W.fs (hokq) (by simp only[oA,go_sem];rfl) ?_;simp only[al];try exact V.wk.rfl _)
    all_goals (all_goals exact au)
   |@cons _ m' _ y z rest o'' hy hk'=>
    have hlt':done.length<(done++y::rest).length:=by simp
    have h1:(done.length:Int)<(u.l.length:Int):=by simp at x2;omega
    have h0:(0:Int)<=(done.length:Int):=by omega
    have hw:aN.wrap ((done.length:Int)+1)=((done.length+1:Nat):Int):=by rw[bn]<;>omega
    have hgi:=pX hlt';have hge:(done++y::rest)[done.length]=y:=by simp
    rw[hge]at hgi;have hsi:=CQ hlt' z;have hse:(done++y::rest).set done.length z=(done++[z])++rest:=by simp
    rw[hse]at hsi;have hii:done.length*4+4<=u.l.length*4:=by simp at x2;omega
    have hK:=fun L=>(hkid n' y x1 (x3 y (bu ..)) (some z) m' hy L).1;have hm':=(hkid n' y x1 (x3 y (bu ..)) (some z) m' hy []).2;have hdl:(done++[z]).length=done.length+1:=by simp
    have hokm:=ok_int hok fp m';((try refine W.a ?_);simp only[go_sem,h1]);refine W.yes rfl (W.a ?_);simp only[go_sem,h1,h0,hgi,hFl,hii];(refine W.c1 (hK _) ?_;simp only[go_sem]);((try refine W.a ?_);simp only[go_sem,cz,h1,h0,hsi,hFl,hii]);refine W.no rfl (W.a ?_);simp only[go_sem,hw];refine .inv ⟨⟨m',done++[z],rest,o''⟩,⟨by show m'<=m;omega,by simp at x2⊢;omega,fun w hw=>x3 w (bS _ hw),hk',by subst x5;cases o''<;>simp⟩,by simp,?_⟩;dsimp only
    simp only[hdl,dt,List.cons_append,eH];(refine ao.eN (hokm) ?_ (by simp) (by simp) ?_ ?_ ?_;exact aF;((try simp only[okB,bx,go_sem,oE])<;>omega);(simp only[bk,cN,dI,dZ,cV,bx,and_true];(repeat' (refine eV ?_ ?_))<;>(first|exact ad.wk.rfl _|exact ad.wk.gone _|(refine ad.eO ?_ rfl;(exact au))));(repeat' (first|exact aZ.base _|(refine aZ.put ?_ (by first|exact .c _|((try simp only[okB,bx,go_sem,oE])<;>omega))))))
   |nil=>
    have hdn:done.length=u.l.length:=by simpa using x2
    have h1:¬(done.length:Int)<(u.l.length:Int):=by omega
    have hFn:rowsOf 4 u.l.length (aK (done++[]))=done.map aa.cs:=by
     have h:=pf (ki done);rw[bW,hdn]at h;rw[cw];exact h
    have hFn2:rowsOf 4 u.l.length (aK done)=done.map aa.cs:=by
     rw[cw]at hFn;exact hFn
    subst x5;refine W.jB (b:=σ.length+2) (e:=41) (size:=4) (k:=u.l.length) (cs:=aK (done++[])) 9 rfl (by simp only[go_sem]) (sE hFl.symm) ?_;((try refine W.a ?_);simp only[go_sem,h1,hFn,hFn2]);refine W.no rfl (W.a ?_);simp only[go_sem,hFn,hFn2,cz,iI,cw];(refine W.fs (hokq) (by simp only[oA,go_sem];rfl) ?_;simp only[al];try exact V.wk.rfl _)
    all_goals (all_goals exact au)
theorem W7(w0:World)(n:Nat):n<=100000->∀t,cd n t->ax t+4097*n<=1000000000->∀o q,ei n t o q->∀(fp:Nat) (σ:H),σ[fp]?=some (.cells [I (n:Int)])->DC prog w0 130 [t.v,.ptr fp 0] σ (Same (cz o) (σ.set fp (.cells [I (q:Int)]))):=by
 induction n using nN with
 |ind n ihn=>
  intro hn;have key:∀(N:Nat) (t:aa),ax t<N->cd n t->ax t+4097*n<=1000000000->∀o q,ei n t o q->∀(fp:Nat) (σ:H),σ[fp]?=some (.cells [I (n:Int)])->DC prog w0 130 [t.v,.ptr fp 0] σ (Same (cz o) (σ.set fp (.cells [I (q:Int)]))):=by
   intro N;induction N with
   |zero=>intro t h;omega
   |succ N ihN=>
    intro t hN hi hnd o q h fp σ hf;refine W6 w0 n hn t hi hnd (fun n' b hc hb hbn o2 q2 h2 fp2 σ2 hf2=>?_) h fp σ hf;by_cases hlt:n'<n
    ·exact ihn n' hlt (by omega) b hb hbn o2 q2 h2 fp2 σ2 hf2
    ·rcases hc with hc|⟨e,hc⟩
     ·exact absurd hc hlt
     ·subst e;exact ihN b (by omega) hb hbn o2 q2 h2 fp2 σ2 hf2
  intro t hi hnd;exact key (ax t+1) t (by omega) hi hnd
end Go.Proofs.YtdlkenpilhakfaaGreatDoor
namespace Go.Proofs.YtdlkenpilhakfaaGreatDoor
open Go Go.RowKit Go.Lamb
def ja(t:aa):aa:=ct (t.l.headD .none) ((t.l.take (t.l.length-1)).drop 1)
def ie(t:aa):aa:=t.l.getD (t.l.length-1) .none
def ig(t:aa):Option aa:=if t.k=6/\(ie t).k=3/\(ie t).n=0 then(if cu 0 (ja t)=0 then some (np 0 (-1) (ja t))else none)else none
def Mn:List aa->aa
 |[]=>.none
 |b::_=>(ig b).getD (bJ b)
def D4:List aa->aa
 |[]=>.none
 |x::r=>ct x r
mutual
def bP:aa->aa
 | .mk k s n l=>if k=5 then Mn (sh l)else if k=6 then D4 (sh l)else .mk k s n l
def sh:List aa->List aa
 |[]=>[]
 |x::l=>bP x::sh l
end
theorem Mo:∀l:List aa,sh l=l.map bP
 |[]=>by rw[sh];rfl
 |x::l=>by rw[sh,Mo l];rfl
theorem Mp(t:aa):bP t=if t.k=5 then Mn (t.l.map bP)else if t.k=6 then D4 (t.l.map bP)else t:=by
 cases t;rw[bP,Mo];rfl
theorem D5{i:Int}:∀{l:List aa},cQ i l=0->∀u∈l,cu i u=0
 |[],_,u,hu=>by cases hu
 |x::l,h,u,hu=>by
  rw[cQ]at h;rcases cA.1 hu with rfl|hu
  ·omega
  ·exact D5 (l:=l) (by omega) u hu
theorem W8{M:Int}(hM:1<=M)(t:aa):∀k:Int,0<=k->bc t=true->bM M t=true->cu k t=0->bc (bN (cH 0 (-1)) k t)=true/\bM M (bN (cH 0 (-1)) k t)=true:=by
 refine aa.ind (P:=fun t=>∀k:Int,0<=k->bc t=true->bM M t=true->cu k t=0->bc (bN (cH 0 (-1)) k t)=true/\bM M (bN (cH 0 (-1)) k t)=true) (fun t ih k hk hv hn ho=>?_) t;rw[yV]at ho;by_cases h5:t.k=5
 ·rw[Dt hv h5];obtain⟨_,_,b,hl⟩:=pS hv h5;rw[if_neg (by omega),if_pos h5,hl]at ho;have hb:b∈t.l:=by rw[hl];simp
  obtain⟨a1,a2⟩:=ih b hb (k+1) (by omega) (gi hv b hb) (iF hn b hb) (D5 ho b (by simp));rw[hl];exact⟨rC a1,gY (.inr (by rw[aW];omega)) (fun u hu=>by simp[aQ]at hu;rw[hu];exact a2)⟩
 ·by_cases h6:t.k=6
  ·rw[Ds hv h6];rw[if_neg (by omega),if_neg h5]at ho;have hz:=D5 ho;obtain⟨_,_,a,b,l,hl,ha⟩:=iG hv h6;have hq:∀u∈t.l,bc (bN (cH 0 (-1)) k u)=true/\bM M (bN (cH 0 (-1)) k u)=true:=fun u hu=>ih u hu k hk (gi hv u hu) (iF hn u hu) (hz u hu);rw[hl]at hq⊢;have h1:=hq a (bu ..);have h2:∀u∈(b::l).map (bN (cH 0 (-1)) k),bc u=true/\bM M u=true:=fun u hu=>by
    obtain⟨x,hx,rfl⟩:=eu.1 hu;exact hq x (bS _ hx)
   exact⟨uh h1.1 (fun u hu=>(h2 u hu).1),rE (by omega) h1.2 (fun u hu=>(h2 u hu).2)⟩
  ·rw[Du h5 h6];have hl:=ug hv h5 h6;unfold cH;split
   ·rename_i h;obtain⟨e1,e2,e3,e4⟩:=Dv hv h.1;have hne:t.n≠k:=fun e=>by rw[if_pos ⟨h.1,e⟩]at ho;cases ho
    have hnn:=pR hn (by omega);refine⟨uf ?_ (fun x hx=>by rw[aQ,hl]at hx;cases hx),gY (.inr (by rw[aW];omega)) (fun x hx=>by rw[aQ,hl]at hx;cases hx)⟩;simp[dP,a7,aW,aQ,bh,h.1,e1,e2];omega
   ·exact⟨hv,hn⟩
theorem Mq{f:aa->aa}:∀(l:List aa),(∀u∈l,ax (f u)<=ax u)->bj (l.map f)<=bj l
 |[],_=>aA _
 |x::l,h=>by
  have h1:=h x (bu ..);have h2:=Mq l (fun u hu=>h u (bS _ hu));rw[cx,bj,bj];omega
theorem Mr{M:Int}(hM:0<=M){t:aa}(h6:t.k=6)(hv:bc t=true)(hn:bM M t=true):bc (ja t)=true/\bM M (ja t)=true/\ax (ja t)<=ax t/\(t.l.headD .none).l.length+((t.l.take (t.l.length-1)).drop 1).length<=2*ax t:=by
 obtain⟨_,_,a,b,l,hl,ha⟩:=iG hv h6;have hvk:=gi hv;have hnk:=iF hn;have hsub:∀u∈(t.l.take (t.l.length-1)).drop 1,u∈t.l:=fun u hu=>List.mem_of_mem_take (List.mem_of_mem_drop hu);have hd:t.l.headD .none=a:=by rw[hl];rfl
 have ham:a∈t.l:=by rw[hl];simp
 unfold ja;rw[hd];have hnd:=DB a ((t.l.take (t.l.length-1)).drop 1);have hle:bj ((t.l.take (t.l.length-1)).drop 1)+ax a<=bj t.l:=by
  have h1:=rF ((t.l.take (t.l.length-1)).take 1) ((t.l.take (t.l.length-1)).drop 1);rw[List.take_append_drop]at h1;have h2:=Dy t.l (t.l.length-1);have h3:(t.l.take (t.l.length-1)).take 1=[a]:=by grind
  rw[h3,bj,bj]at h1;omega
 have hk1:=kg a;have hk2:=ur ((t.l.take (t.l.length-1)).drop 1);have hte:=eS t;exact⟨uh (hvk a ham) (fun u hu=>hvk u (hsub u hu)),rE hM (hnk a ham) (fun u hu=>hnk u (hsub u hu)),by omega,by omega⟩
theorem W9{M:Int}(hM:1<=M){t u:aa}(hv:bc t=true)(hn:bM M t=true)(h:ig t=some u):bc u=true/\bM M u=true/\ax u<=ax t:=by
 unfold ig at h;split at h
 ·rename_i hc;split at h
  ·rename_i ho;injection h with h;subst h;obtain⟨r1,r2,r3,_⟩:=Mr (by omega) hc.1 hv hn;obtain⟨s1,s2⟩:=W8 hM (ja t) 0 (eU _) r1 r2 ho;have s3:=Cx 0 (-1) (ja t) 0;exact⟨s1,s2,bE s3 r3⟩
  ·cases h
 ·cases h
theorem D6{M:Int}(hM:1<=M)(t:aa):bc t=true->bM M t=true->bc (bP t)=true/\bM M (bP t)=true/\ax (bP t)<=ax t:=by
 refine aa.ind (P:=fun t=>bc t=true->bM M t=true->bc (bP t)=true/\bM M (bP t)=true/\ax (bP t)<=ax t) (fun t ih hv hn=>?_) t;rw[Mp];have hq:∀u∈t.l,bc (bP u)=true/\bM M (bP u)=true/\ax (bP u)<=ax u:=fun u hu=>ih u hu (gi hv u hu) (iF hn u hu);by_cases h5:t.k=5
 ·rw[if_pos h5];obtain⟨b,rfl⟩:=sf hv h5;obtain⟨q1,q2,q3⟩:=hq b (by unfold bJ;simp[aQ]);show bc ((ig (bP b)).getD (bJ (bP b)))=true/\bM M ((ig (bP b)).getD (bJ (bP b)))=true/\ax ((ig (bP b)).getD (bJ (bP b)))<=ax (bJ b);have hln:=ko b;have hln2:=ko (bP b);cases hd:ig (bP b)with
  |none=>
   exact⟨rC q1,gY (.inr (by unfold bJ;rw[Option.getD_none,aW];omega)) (fun u hu=>by unfold bJ at hu;simp[aQ]at hu;rw[hu];exact q2),by rw[Option.getD_none];omega⟩
  |some u=>
   obtain⟨d1,d2,d3⟩:=W9 hM q1 q2 hd;exact⟨d1,d2,by rw[Option.getD_some];omega⟩
 ·rw[if_neg h5];by_cases h6:t.k=6
  ·rw[if_pos h6];obtain⟨_,_,a,b,l,hl,ha⟩:=iG hv h6;have hms:=Mq t.l (fun u hu=>(hq u hu).2.2);have hte:=eS t;rw[hl]at hq hms⊢;show bc (ct (bP a) ((b::l).map bP))=true/\bM M (ct (bP a) ((b::l).map bP))=true/\ax (ct (bP a) ((b::l).map bP))<=_;have h2:∀u∈(b::l).map bP,bc u=true/\bM M u=true:=fun u hu=>by
    obtain⟨x,hx,rfl⟩:=eu.1 hu;have:=hq x (bS _ hx);exact⟨this.1,this.2.1⟩
   have h1:=hq a (bu ..);have hnd:=DB (bP a) ((b::l).map bP);rw[cx,bj]at hms;refine⟨uh h1.1 (fun u hu=>(h2 u hu).1),rE (by omega) h1.2.1 (fun u hu=>(h2 u hu).2),?_⟩;rw[hl]at hte;omega
  ·grind
end Go.Proofs.YtdlkenpilhakfaaGreatDoor
namespace Go.Proofs.YtdlkenpilhakfaaGreatDoor
open Go.RowKit Go.Lamb
def oL:Option aa->V
 |some u=>.ay [u.v,B true]
 |none=>.ay [aa.none.v,B false]
def lp(q:Nat):Option aa->V
 |some u=>.ay [u.v,I (q:Int),I 0]
 |none=>.ay [aa.none.v,I 0,I 80]
attribute [local go_sem] aa.v aa.aM a7 bh aW aQ aX
theorem Xa(w0:World)(t:aa)(hv:bc t=true)(hn:ax t<=1000000000000)(σ:H):DC prog w0 232 [t.v,I 0] σ (Same (I (cu 0 t:Nat)) σ):=by
 refine LK.go rfl (fun hok hsz=>?_);have hV:=fun σ=>yi w0 t σ;rw[hv]at hV;have ho:=fun σ=>Mi w0 t hn 0 (by omega) σ;have e0:((0:Nat):Int)=0:=rfl;rw[e0]at ho;(refine W.a ?_;simp only[go_sem,c232]);(refine W.c1 (hV _) ?_;simp only[go_sem]);(refine W.a ?_;simp only[go_sem]);refine W.no rfl (W.a ?_);simp only[go_sem];(refine W.c1 (ho _) ?_;simp only[go_sem]);(refine W.a ?_;simp only[go_sem]);(refine W.fs (hok) (by simp only[Dl,go_sem];rfl) ?_;simp only[al];try exact V.wk.rfl _)
 all_goals (all_goals exact au)
theorem Xb(w0:World)(t:aa)(hv:bc t=true)(hn:ax t<=1000000000000)(σ:H):DC prog w0 186 [t.v,I 0] σ (Same (B (!(cu 0 t==0))) σ):=by
 refine LL.go rfl (fun hok hsz=>?_);have hO:=fun σ=>Xa w0 t hv hn σ;have e:(decide (((cu 0 t:Nat):Int)>0))=(!(cu 0 t==0)):=by
  cases cu 0 t with
  |zero=>rfl
  |succ n=>
   have:(((n+1:Nat):Int)>0):=by omega
   simp
 rw[<-e];generalize cu 0 t=z at*
 (refine W.a ?_;simp only[go_sem,Dm]);(refine W.c1 (hO _) ?_;simp only[go_sem]);(refine W.a ?_;simp only[go_sem]);(refine W.fs (hok) (by simp only[Dn,go_sem];rfl) ?_;simp only[al];try exact V.wk.rfl _)
 all_goals (all_goals exact au)
theorem Xc(w0:World)(t:aa)(hv:bc t=true)(hnr:bM 2305843009213693952 t=true)(hn:ax t<=1000000000)(σ:H):DC prog w0 131 [t.v] σ (Same (oL (ig t)) σ):=by
 refine KG.go rfl (fun hok hsz=>?_);have hlen:=kg t;by_cases h6:t.k=6
 ·have k6:(t.k !=6)=false:=by simp[h6]
  obtain⟨r1,r2,r3,r4⟩:=Mr (M:=2305843009213693952) (by omega) h6 hv hnr;obtain⟨_,_,a,b,l,hl,ha⟩:=iG hv h6;have hl0:t.l≠[]:=by rw[hl];simp
  have hll:2<=t.l.length:=by rw[hl];simp
  have hw:aN.wrap ((t.l.length:Int)-1)=((t.l.length-1:Nat):Int):=by rw[bn]<;>omega
  have hx:t.l[t.l.length-1]?=some (ie t):=by unfold ie;rw[List.getD_eq_getElem?_getD,aO (by omega)];rfl
  have g0:(0:Int)<=((t.l.length-1:Nat):Int):=by omega
  have g1:((t.l.length-1:Nat):Int)<(t.l.length:Int):=by omega
  have hx0:t.l[0]?=some (t.l.headD .none):=by rw[hl];rfl
  have g2:(0:Int)<(t.l.length:Int):=by omega
  by_cases hc:(ie t).k=3/\(ie t).n=0
  ·have q3:((ie t).k !=3)=false:=by simp[hc.1]
   have q0:((ie t).n !=0)=false:=by simp[hc.2]
   have hD:ig t=if cu 0 (ja t)=0 then some (np 0 (-1) (ja t))else none:=by unfold ig;rw[if_pos ⟨h6,hc⟩]
   have hA:=fun σ=>ui w0 (t.l.headD .none) ((t.l.take (t.l.length-1)).drop 1) (by omega) σ;have hAr:ct (t.l.headD .none) ((t.l.take (t.l.length-1)).drop 1)=ja t:=rfl;rw[hAr]at hA;have hF:=fun σ=>Xb w0 (ja t) r1 (by omega) σ;have hS:=fun σ=>KE w0 (ja t) 0 (-1) (by decide) (by decide) (by decide) (by decide) r2 (by omega) σ;have g3:(1:Int)<=((t.l.length-1:Nat):Int):=by omega
   have g4:((t.l.length-1:Nat):Int)<=(t.l.length:Int):=by omega
   have hr4:(∀x,x∈ik aa.cs t.l->x.length=4)=True:=eq_true (ki t.l);have hsl:de (t.l.length-1-1) (fW 1 (ik aa.cs t.l))=((t.l.take (t.l.length-1)).drop 1).map aa.cs:=by
    rw[List.map_drop,List.map_take,List.drop_take]
   rw[hD];generalize ie t=y at*;generalize ja t=r at*;generalize np 0 (-1) r=z at*;generalize t.l.headD .none=x0 at*;clear hD hAr h6 hc hl;(refine W.a ?_;simp only[go_sem,c131,hw,k6,hx,g0,g1,q3,q0]);refine W.no rfl (W.a ?_);simp only[go_sem];apply W.aS (aT _ _)
   case hc=>
    (apply ae.aq;simp only[go_sem,hx0,g2,g0,g1,g3,g4,hr4,hsl]);(apply ae.mW (fun τ=>hA τ);(case hg=>rfl);(case hf=>rfl);(case ha=>first|rfl|simp));(apply ae.aq;simp only[go_sem]);exact ae.nil
   (refine W.a ?_;simp only[go_sem]);(refine W.c1 (hF _) ?_;simp only[go_sem]);cases ho:(cu 0 r==0)
   ·rw[if_neg (by simpa using ho)];(refine W.a ?_;simp only[go_sem]);refine W.yes rfl (W.a ?_);simp only[go_sem,oL,aa.none];(refine W.fs (hok) (by simp only[pT,go_sem];rfl) ?_;simp only[al];try exact V.wk.rfl _)
    all_goals (all_goals exact au)
   ·rw[if_pos (by simpa using ho)];(refine W.a ?_;simp only[go_sem]);refine W.no rfl (W.a ?_);simp only[go_sem];(refine W.c1 (hS _) ?_;simp only[go_sem]);(refine W.a ?_;simp only[go_sem,oL]);(refine W.fs (hok) (by simp only[pT,go_sem];rfl) ?_;simp only[al];try exact V.wk.rfl _)
    all_goals (all_goals exact au)
  ·have hD:ig t=none:=by unfold ig;rw[if_neg (fun h=>hc h.2)]
   rw[hD];by_cases h3:(ie t).k=3
   ·have q3:((ie t).k !=3)=false:=by simp[h3]
    have q0:((ie t).n !=0)=true:=by
     have:(ie t).n≠0:=fun e=>hc ⟨h3,e⟩;simpa using this
    generalize ie t=y at*;clear h3 hc h6;(refine W.a ?_;simp only[go_sem,c131,hw,k6,hx,g0,g1,q3,q0]);refine W.yes rfl (W.a ?_);simp only[go_sem,oL,aa.none];(refine W.fs (hok) (by simp only[pT,go_sem];rfl) ?_;simp only[al];try exact V.wk.rfl _)
    all_goals (all_goals exact au)
   ·have q3:((ie t).k !=3)=true:=by simp[h3]
    generalize ie t=y at*;clear h3 hc h6;(refine W.a ?_;simp only[go_sem,c131,hw,k6,hx,g0,g1,q3]);refine W.yes rfl (W.a ?_);simp only[go_sem,oL,aa.none];(refine W.fs (hok) (by simp only[pT,go_sem];rfl) ?_;simp only[al];try exact V.wk.rfl _)
    all_goals (all_goals exact au)
 ·have k6:(t.k !=6)=true:=by simp[h6]
  have hD:ig t=none:=by unfold ig;rw[if_neg (fun h=>h6 h.1)]
  rw[hD];have hwx:∃z,aN.wrap ((t.l.length:Int)-1)=z:=⟨_,rfl⟩;obtain⟨z,hz⟩:=hwx;clear h6;(refine W.a ?_;simp only[go_sem,c131,k6,hz]);refine W.yes rfl (W.a ?_);simp only[go_sem,oL,aa.none];(refine W.fs (hok) (by simp only[pT,go_sem];rfl) ?_;simp only[al];try exact V.wk.rfl _)
  all_goals (all_goals exact au)
end Go.Proofs.YtdlkenpilhakfaaGreatDoor
