/- . -/
import Derived.Test.YtdlkenpilhakfaaGreatDoorQJ45
import Derived.Test.YtdlkenpilhakfaaGreatDoorQJ38
import Derived.Test.YtdlkenpilhakfaaGreatDoorQJ39
import Derived.Test.YtdlkenpilhakfaaGreatDoorQLxD
import Derived.Test.YtdlkenpilhakfaaGreatDoorQJ17
import Derived.Test.YtdlkenpilhakfaaGreatDoorChecked
import Derived.Test.YtdlkenpilhakfaaGreatDoorQJ16
import Derived.Test.YtdlkenpilhakfaaGreatDoorQLexG
import Derived.Lib.ItoaLen
import Derived.OwnWalk
import Derived.Handy
import Derived.Test.YtdlkenpilhakfaaGreatDoorQLexGl
import Derived.Test.YtdlkenpilhakfaaGreatDoorQJ43
import Derived.Test.YtdlkenpilhakfaaGreatDoorQJ44
import Derived.Test.YtdlkenpilhakfaaGreatDoorQJ42
set_option linter.unusedSimpArgs false
set_option linter.unusedVariables false
set_option maxHeartbeats 8000000
set_option maxRecDepth 20000
open And renaming intro->fb
open Bool renaming and_eq_true->bz
open Go.IntKind renaming i64->aW
open Int renaming le_refl->eG
open List renaming all_eq_true->cL,append_assoc->dc,append_nil->cq,cons_ne_nil->aS,drop->fV,drop_eq_getElem_cons->mV,drop_length->Fq,drop_zero->qy,getElem?_append_left->cF,getElem?_append_right->cY,getElem?_eq_getElem->aR,getElem?_eq_none->qC,getElem?_eq_some_iff->aK,getElem?_take_of_lt->z6,getElem?_zipWith->aaf,getElem_map->dE,getElem_mem->bw,length_append->bt,length_cons->bo,length_map->cd,length_nil->cM,length_take->eu,length_zipWith->Ft,map->il,map_cons->cE,mem_cons->cD,mem_cons_of_mem->bW,mem_cons_self->bp,mem_map->dK,nil_append->er,take->dM,take_of_length_le->fj,take_succ_cons->ey,take_succ_eq_append_getElem->jZ,take_zero->dj,zipWith->mX
open Nat renaming beq->ca,ble->dk,eq_of_beq_eq_true->fo,le_of_ble_eq_true->eI,le_of_eq->sN,le_refl->aA,le_trans->bB,lt_of_succ_lt_succ->nQ,reduceAdd->dL,strongRecOn->nO,sub_self->ck,zero_le->bx
open Option renaming bind_eq_some_iff->Fs,getD_none->qD,map_none->wc,map_some->iq
open Go.Proofs.Tryz
namespace Go.Proofs.YtdlkenpilhakfaaGreatDoor
open Go.RowKit Go.Lamb
def D6:List V->H->Option (V×H)
 |[.c (.str s)],σ=>cond (dk s.length 100000) (let r:=jd s;some (.av [.c (po r.oN),.c (.int .i64 r.err),.c (.int .i64 r.pos)],σ)) none
 |_,_=>none
def nG(e size:Nat):List V->H->Option (V×H)
 |[.ab [],.c (.int .i64 n)],σ=>cond (decide (0<=n)&&decide (n<=1000000)) (some (.aF σ.length [],σ++[.spare e size 0])) none
 |_,_=>none
def nH(e size:Nat):List V->H->Option (V×H)
 |[a],σ=>match a.rows with
  |some r=>cond (r.all (fun q=>ca q.length size)&&dk r.length 1000000) (some (.aF σ.length r,σ++[.spare e size r.length])) none
  |none=>none
 |_,_=>none
def D7(e:Nat):List V->H->Option (V×H)
 |[a],σ=>match a.rows with
  |some []=>some (.aF σ.length [],σ++[.spare e 4 0])
  |_=>none
 |_,_=>none
theorem WG(w0:World)(as':List V)(σ:H)(v:V)(σ':H)(h:nG 60 3 as' σ=some (v,σ')):DC prog w0 203 as' σ (Same v σ'):=by
 unfold nG at h;split at h
 ·rename_i n;cases hc:(decide (0<=n)&&decide (n<=1000000))with
  |false=>rw[hc]at h;cases h
  |true=>
   rw[hc]at h;injection h with h;injection h with h1 h2;subst h1 h2;simp only[bz,decide_eq_true_eq]at hc;obtain⟨m,rfl⟩:∃m:Nat,n=(m:Int):=⟨n.toNat,by omega⟩;exact Ou w0 m (by omega) σ
 ·cases h
theorem WH(w0:World)(as':List V)(σ:H)(v:V)(σ':H)(h:nG 50 5 as' σ=some (v,σ')):DC prog w0 211 as' σ (Same v σ'):=by
 unfold nG at h;split at h
 ·rename_i n;cases hc:(decide (0<=n)&&decide (n<=1000000))with
  |false=>rw[hc]at h;cases h
  |true=>
   rw[hc]at h;injection h with h;injection h with h1 h2;subst h1 h2;simp only[bz,decide_eq_true_eq]at hc;obtain⟨m,rfl⟩:∃m:Nat,n=(m:Int):=⟨n.toNat,by omega⟩;exact WC w0 m (by omega) σ
 ·cases h
theorem WI(w0:World)(as':List V)(σ:H)(v:V)(σ':H)(h:nG 41 4 as' σ=some (v,σ')):DC prog w0 178 as' σ (Same v σ'):=by
 unfold nG at h;split at h
 ·rename_i n;cases hc:(decide (0<=n)&&decide (n<=1000000))with
  |false=>rw[hc]at h;cases h
  |true=>
   rw[hc]at h;injection h with h;injection h with h1 h2;subst h1 h2;simp only[bz,decide_eq_true_eq]at hc;obtain⟨m,rfl⟩:∃m:Nat,n=(m:Int):=⟨n.toNat,by omega⟩;exact KK w0 m (by omega) σ
 ·cases h
theorem vq{a:V}{r:List (List C)}(h:a.rows=some r):V.wk (.agg [a]) (.agg [.c (.sl r)]):=by
 refine .agg rfl fun j hj hj'=>?_;have:j=0:=by simp at hj;omega
 subst this;simp only[List.getElem_cons_zero];unfold V.rows at h;split at h
 ·injection h with h;subst h;exact .rfl _
 ·injection h with h;subst h;exact .aF _ _
 ·injection h with h;subst h;exact .ab _
 ·cases h
theorem WJ(w0:World)(as':List V)(σ:H)(v:V)(σ':H)(h:nH 60 3 as' σ=some (v,σ')):DC prog w0 98 as' σ (Same v σ'):=by
 unfold nH at h;split at h
 ·split at h
  ·rename_i r hr;cases hc:(r.all (fun q=>ca q.length 3)&&dk r.length 1000000)with
   |false=>rw[hc]at h;cases h
   |true=>
    rw[hc]at h;injection h with h;injection h with h1 h2;subst h1 h2;simp only[bz,cL]at hc;exact(Ud w0 r (fun q hq=>fo (hc.1 q hq)) (eI hc.2) σ).fY (vq hr)
  ·cases h
 ·cases h
theorem WK(w0:World)(as':List V)(σ:H)(v:V)(σ':H)(h:nH 106 2 as' σ=some (v,σ')):DC prog w0 97 as' σ (Same v σ'):=by
 unfold nH at h;split at h
 ·split at h
  ·rename_i r hr;cases hc:(r.all (fun q=>ca q.length 2)&&dk r.length 1000000)with
   |false=>rw[hc]at h;cases h
   |true=>
    rw[hc]at h;injection h with h;injection h with h1 h2;subst h1 h2;simp only[bz,cL]at hc;exact(Ue w0 r (fun q hq=>fo (hc.1 q hq)) (eI hc.2) σ).fY (vq hr)
  ·cases h
 ·cases h
theorem WL(w0:World)(as':List V)(σ:H)(v:V)(σ':H)(h:nH 50 5 as' σ=some (v,σ')):DC prog w0 81 as' σ (Same v σ'):=by
 unfold nH at h;split at h
 ·split at h
  ·rename_i r hr;cases hc:(r.all (fun q=>ca q.length 5)&&dk r.length 1000000)with
   |false=>rw[hc]at h;cases h
   |true=>
    rw[hc]at h;injection h with h;injection h with h1 h2;subst h1 h2;simp only[bz,cL]at hc;exact(KH w0 r (fun q hq=>fo (hc.1 q hq)) (eI hc.2) σ).fY (vq hr)
  ·cases h
 ·cases h
theorem WM(w0:World)(as':List V)(σ:H)(v:V)(σ':H)(h:D7 41 as' σ=some (v,σ')):DC prog w0 185 as' σ (Same v σ'):=by
 unfold D7 at h;split at h
 ·split at h
  ·rename_i hr;injection h with h;injection h with h1 h2;subst h1 h2;exact(KI w0 [] rfl σ).fY (vq hr)
  ·cases h
 ·cases h
theorem WN{w0:World}(hG:dm w0)(as':List V)(σ:H)(v:V)(σ':H)(h:D6 as' σ=some (v,σ')):DC prog w0 58 as' σ (Same v σ'):=by
 unfold D6 at h;split at h
 ·rename_i s;cases hc:dk s.length 100000 with
  |false=>rw[hc]at h;cases h
  |true=>
   rw[hc]at h;injection h with h;injection h with h1 h2;subst h1 h2;exact WO hG s (by have:=eI hc;omega) σ
 ·cases h
theorem WQ{x:V}{y:C}(h:x.fW=some y):V.wk x (.c y):=by
 unfold V.fW at h;split at h
 ·injection h with h;subst h;exact .rfl _
 ·injection h with h;subst h;exact .aF _ _
 ·injection h with h;subst h;exact .ab _
 ·cases h
theorem WR{l:List V}{r:List C}(h:fq l=some r):V.wk (.agg l) (.agg (r.map .c)):=by
 obtain⟨h1,_,h3⟩:=s7 h;exact .agg (by simp[h1]) fun j hj hj'=>by
  rw[dE];exact WQ (h3 j hj (by omega))
theorem vr{a:V}{r:List (List C)}(h:a.rows=some r):V.wk a (.c (.sl r)):=by
 unfold V.rows at h;split at h
 ·injection h with h;subst h;exact .rfl _
 ·injection h with h;subst h;exact .aF _ _
 ·injection h with h;subst h;exact .ab _
 ·cases h
theorem MB{p:V}{cs:List C}{q:aa}(h:yc p=some cs)(hq:cs=q.cs):V.wk p q.v:=by
 have e:q.v= .agg (cs.map .c):=by rw[hq,aa.aM];rfl
 rw[e];unfold yc at h;have hl:=(s7 h).1;rw[hq,aa.aM]at hl;unfold V.ah at h hl;split at h
 ·exact WR h
 ·exfalso;simp at hl
theorem D8{a b c d:V}(h1:V.wk a c)(h2:V.wk b d):V.wk (.agg [a,b]) (.agg [c,d]):=
 .agg rfl fun j hj hj'=>by
  rcases(by simp at hj;omega:j=0\/j=1)with rfl|rfl
  ·exact h1
  ·exact h2
def D9:List V->H->Option (V×H)
 |[to,fs],σ=>match(yc to).bind (pU 100),fs.rows.bind (ue (pU 100))with
  |some t,some l=>cond (dk l.length 1000000) (some ((fe l t).v,σ)) none
  |_,_=>none
 |_,_=>none
theorem WS(w0:World)(as':List V)(σ:H)(v:V)(σ':H)(h:D9 as' σ=some (v,σ')):DC prog w0 68 as' σ (Same v σ'):=by
 unfold D9 at h;split at h
 ·rename_i to fs;split at h
  ·rename_i t l h1 h2;obtain⟨cs,hcs,ht⟩:=Fs.1 h1;obtain⟨r,hr,hl⟩:=Fs.1 h2;cases hc:dk l.length 1000000 with
   |false=>rw[hc]at h;cases h
   |true=>
    rw[hc]at h;injection h with h;injection h with e1 e2;subst e1 e2;have hr2:=vr hr;rw[B5 (fun r x=>uf) hl]at hr2;exact(yg w0 t l (eI hc) σ).fY (D8 (MB hcs (uf ht)) hr2)
  ·cases h
 ·cases h
end Go.Proofs.YtdlkenpilhakfaaGreatDoor
namespace Go.Lamb
open Go Go.RowKit
def vt:List (List C)->Option (List ay)
 |[]=>some []
 |r::l=>match r with
  | .str s::r=>match pU 100 r with
    |none=>none
    |some t=>match vt l with
     |none=>none
     |some y=>some (⟨s,t⟩::y)
  |_=>none
theorem Ea:∀{l:List (List C)} {y:List ay},vt l=some y->l=y.map ay.cs
 |[],y,h=>by injection h with h;subst h;rfl
 |r::l,y,h=>by
  unfold vt at h;split at h
  ·split at h
   ·cases h
   ·rename_i t ht;split at h
    ·cases h
    ·rename_i z hz;injection h with h;subst h;have:=uf ht;subst this;rw[cE,<-Ea hz];rw[aa.aM];rfl
  ·cases h
def zm:List (List C)->Option (List bL)
 |[]=>some []
 |r::l=>match r with
  |[.str s,.int .i64 n]=>match zm l with
   |none=>none
   |some y=>some (⟨s,n⟩::y)
  |_=>none
theorem MC:∀{l:List (List C)} {y:List bL},zm l=some y->l=y.map bL.cs
 |[],y,h=>by injection h with h;subst h;rfl
 |r::l,y,h=>by
  unfold zm at h;split at h
  ·split at h
   ·cases h
   ·rename_i z hz;injection h with h;subst h;rw[cE,<-MC hz];rfl
  ·cases h
def Eb(a b c:V):Option Sg:=match a.rows with
 |none=>none
 |some ra=>match b.rows with
  |none=>none
  |some rb=>match c.rows with
   |none=>none
   |some rc=>match zm ra with
    |none=>none
    |some k=>match vt rb with
     |none=>none
     |some n=>match yb rc with
      |none=>none
      |some o=>some ⟨k,n,o⟩
def Ec:List V->H->Option (V×H)
 |[.c (.str s)],σ=>some (.c (.bool (iD s)),σ)
 |_,_=>none
def Ed:List V->H->Option (V×H)
 |[.c (.str s)],σ=>some (.c (.bool (ll s)),σ)
 |_,_=>none
def vu(a:V):Option aa:=match yc a with
 |none=>none
 |some cs=>pU 100 cs
def Ee:List V->H->Option (V×H)
 |[a],σ=>match vu a with
  |none=>none
  |some t=>some (.c (.bool (cJ t)),σ)
 |_,_=>none
def Ef:List V->H->Option (V×H)
 |[a],σ=>match vu a with
  |none=>none
  |some t=>some (.c (.bool (ba t)),σ)
 |_,_=>none
def Eg:List V->H->Option (V×H)
 |[a],σ=>match vu a with
  |none=>none
  |some t=>cond (dk (gW t) 1000000) (some (.c (.int .i64 (cx 0 t)),σ)) none
 |_,_=>none
def Eh:List V->H->Option (V×H)
 |[.agg [a,b,c],.c (.str s)],σ=>match Eb a b c with
  |none=>none
  |some g=>some (Go.Proofs.YtdlkenpilhakfaaGreatDoor.oA (fP g.types s),σ)
 |_,_=>none
def Ei:List V->H->Option (V×H)
 |[a,.c (.str s)],σ=>match a.rows with
  |none=>none
  |some r=>match vt r with
   |none=>none
   |some l=>cond (dk l.length 1000000) (some (.c (.int .i64 (dw s 0 l)),σ)) none
 |_,_=>none
def zo(e:Nat)(σ σ1:H)(b o:Nat)(cs:List V)(tg:Option TypeId)(n:Nat)(pre:List C):Option (V×H):=
 some (.agg (cP n),σ1.set b (.cells (cs.take (o+3)++[.vec (σ.length+2) (n+1)]++cs.drop (o+3+1)) tg)++[.cells (cP n) none,.cells (cP n) none,.vec e 4 (pre++oH n)])
def Ej(e:Nat):List V->H->Option (V×H)
 |[.ptr b o],σ=>match σ[b]? with
  |some (.cells cs tg)=>match cs[o+3]? with
   |some (.ab [])=>zo e σ σ b o cs tg 0 []
   |some (.vec b' n)=>match σ[b']? with
    |some (.vec e' s cells)=>cond (ca e' e&&(ca s 4&&(dk n 1000000&&dk (n*4) cells.length))) (zo e σ (σ.set b' .gone) b o cs tg n (cells.take (n*4))) none
    |_=>none
   |_=>none
  |_=>none
 |_,_=>none
def zp(e size:Nat)(r:List (List C))(σ:H):Option (V×H):=
 cond (!r.isEmpty&&(r.all (fun q=>ca q.length size)&&dk r.length 1000000)) (some (.vec σ.length r.length,σ++[.vec e size r.flatten])) none
def vv(e size:Nat):List V->H->Option (V×H)
 |[.vec b k],σ=>match σ[b]? with
  |some (.vec _ s cs)=>cond (dk (k*s) cs.length) (zp e size (rowsOf s k cs) ((σ.set b .gone).map (pM b s cs))) none
  |_=>none
 |[a],σ=>match a.rows with
  |some r=>zp e size r σ
  |none=>none
 |_,_=>none
theorem Ek{a:V}{t:aa}(h:vu a=some t):V.wk (.agg [a]) (.agg [t.v]):=by
 unfold vu at h;split at h
 ·cases h
 ·rename_i cs hcs;refine .agg rfl fun j hj hj'=>?_;have:j=0:=by simp at hj;omega
  subst this;exact Go.Proofs.YtdlkenpilhakfaaGreatDoor.MB hcs (uf h)
theorem WT{a b c:V}{g:Sg}(h:Eb a b c=some g):V.wk (.agg [a,b,c]) g.v:=by
 unfold Eb at h;split at h
 ·cases h
 rename_i ra ha;split at h
 ·cases h
 rename_i rb hb;split at h
 ·cases h
 rename_i rc hc;split at h
 ·cases h
 rename_i k hk;split at h
 ·cases h
 rename_i n hn;split at h
 ·cases h
 rename_i o ho;injection h with h;subst h;have ea:=MC hk;have eb:=Ea hn;have ec:=Im ho;subst ea eb ec;refine .agg rfl fun j hj hj'=>?_;rcases(by simp at hj;omega:j=0\/j=1\/j=2)with rfl|rfl|rfl
 ·exact Go.Proofs.YtdlkenpilhakfaaGreatDoor.vr ha
 ·exact Go.Proofs.YtdlkenpilhakfaaGreatDoor.vr hb
 ·exact Go.Proofs.YtdlkenpilhakfaaGreatDoor.vr hc
end Go.Lamb
namespace Go.Proofs.YtdlkenpilhakfaaGreatDoor
open Go.RowKit Go.Lamb
theorem WU(w0:World)(l:List (List C))(hl0:l≠[])(hb3:∀r∈l,r.length=4)(hn:l.length<=1000000)(σ:H):DC prog w0 181 [.c (.sl l)] σ (Same (.vec σ.length l.length) (σ++[.vec 34 4 l.flatten])):=by
 refine Du.dn rfl (fun hok hsz=>?_);have hb1:l.length*56<=140737488355328:=by omega
 have hb2:l.length<=140737488355328:=by omega
 (refine W.a ?_;simp only[go_sem,yV]);refine W.ja rfl rfl rfl (fun b hb=>?_);cases b
 ·(refine W.a ?_;simp only[go_sem]);refine W.no rfl ?_;refine W.skip (W.seq (W.aG (W.jy rfl rfl (W.jy rfl rfl ?_))));refine W.pf (olds:=[]) (news:=l) rfl rfl rfl rfl ⟨hl0,(fun r hr=>by cases hr),hb3,by simpa using hb1,by simpa using hb2⟩ ?_;(refine W.a ?_;simp only[go_sem,er]);refine W.ret ⟨_,_,rfl,.rfl _,?_⟩;exact⟨rfl,rfl⟩
 ·exact absurd (hb rfl) hl0
theorem MD(w0:World)(l:List (List C))(hl0:l≠[])(hb3:∀r∈l,r.length=5)(hn:l.length<=1000000)(σ:H):DC prog w0 81 [.c (.sl l)] σ (Same (.vec σ.length l.length) (σ++[.vec 50 5 l.flatten])):=by
 refine Cy.dn rfl (fun hok hsz=>?_);have hb1:l.length*72<=140737488355328:=by omega
 have hb2:l.length<=140737488355328:=by omega
 (refine W.a ?_;simp only[go_sem,yu]);refine W.ja rfl rfl rfl (fun b hb=>?_);cases b
 ·(refine W.a ?_;simp only[go_sem]);refine W.no rfl ?_;refine W.skip (W.seq (W.aG (W.jy rfl rfl (W.jy rfl rfl ?_))));refine W.pf (olds:=[]) (news:=l) rfl rfl rfl rfl ⟨hl0,(fun r hr=>by cases hr),hb3,by simpa using hb1,by simpa using hb2⟩ ?_;(refine W.a ?_;simp only[go_sem,er]);refine W.ret ⟨_,_,rfl,.rfl _,?_⟩;exact⟨rfl,rfl⟩
 ·exact absurd (hb rfl) hl0
theorem WV(w0:World)(as':List V)(σ:H)(v:V)(σ':H)(h:Ec as' σ=some (v,σ')):DC prog w0 62 as' σ (Same v σ'):=by
 unfold Ec at h;split at h
 ·injection h with h;injection h with h1 h2;subst h1 h2;exact uh w0 _ σ
 ·cases h
theorem WW(w0:World)(as':List V)(σ:H)(v:V)(σ':H)(h:Ed as' σ=some (v,σ')):DC prog w0 103 as' σ (Same v σ'):=by
 unfold Ed at h;split at h
 ·injection h with h;injection h with h1 h2;subst h1 h2;exact Cf w0 _ σ
 ·cases h
theorem WX(w0:World)(as':List V)(σ:H)(v:V)(σ':H)(h:Ee as' σ=some (v,σ')):DC prog w0 24 as' σ (Same v σ'):=by
 unfold Ee at h;split at h
 ·split at h
  ·cases h
  ·rename_i t ht;injection h with h;injection h with h1 h2;subst h1 h2;exact(nB w0 t σ).fY (Ek ht)
 ·cases h
theorem WY(w0:World)(as':List V)(σ:H)(v:V)(σ':H)(h:Ef as' σ=some (v,σ')):DC prog w0 183 as' σ (Same v σ'):=by
 unfold Ef at h;split at h
 ·split at h
  ·cases h
  ·rename_i t ht;injection h with h;injection h with h1 h2;subst h1 h2;exact(yx w0 t σ).fY (Ek ht)
 ·cases h
theorem WZ(w0:World)(as':List V)(σ:H)(v:V)(σ':H)(h:Eg as' σ=some (v,σ')):DC prog w0 74 as' σ (Same v σ'):=by
 unfold Eg at h;split at h
 ·split at h
  ·cases h
  ·rename_i t ht;cases hc:dk (gW t) 1000000 with
   |false=>rw[hc]at h;cases h
   |true=>
    rw[hc]at h;injection h with h;injection h with h1 h2;subst h1 h2;exact(uo w0 t (eI hc) σ).fY (Ek ht)
 ·cases h
theorem W1(w0:World)(as':List V)(σ:H)(v:V)(σ':H)(h:Eh as' σ=some (v,σ')):DC prog w0 15 as' σ (Same v σ'):=by
 unfold Eh at h;split at h
 ·split at h
  ·cases h
  ·rename_i g hg;injection h with h;injection h with h1 h2;subst h1 h2;exact(rJ w0 g _ σ).fY (D8 (WT hg) (.rfl _))
 ·cases h
theorem W2(w0:World)(as':List V)(σ:H)(v:V)(σ':H)(h:Ei as' σ=some (v,σ')):DC prog w0 121 as' σ (Same v σ'):=by
 unfold Ei at h;split at h
 ·split at h
  ·cases h
  ·rename_i r hr;split at h
   ·cases h
   ·rename_i l hl;cases hc:dk l.length 1000000 with
    |false=>rw[hc]at h;cases h
    |true=>
     rw[hc]at h;injection h with h;injection h with h1 h2;subst h1 h2;have:=Ea hl;subst this;exact(y8 w0 l _ (eI hc) σ).fY (D8 (vr hr) (.rfl _))
 ·cases h
theorem W4(w0:World)(as':List V)(σ:H)(v:V)(σ':H)(h:Ej 34 as' σ=some (v,σ')):DC prog w0 67 as' σ (Same v σ'):=by
 unfold Ej at h;split at h
 ·split at h
  ·rename_i cs tg hb;split at h
   ·rename_i hy;unfold zo at h;injection h with h;injection h with h1 h2;subst h1 h2;exact yX _ _ _ _ 0 (by decide) cs tg hb _ hy [] (.inl ⟨rfl,rfl,rfl,rfl⟩)
   ·rename_i b' n hy;split at h
    ·rename_i e' s cells hv;cases hc:(ca e' 34&&(ca s 4&&(dk n 1000000&&dk (n*4) cells.length)))with
     |false=>rw[hc]at h;cases h
     |true=>
      rw[hc]at h;simp only[bz]at hc;obtain⟨c1,c2,c3,c4⟩:=hc;have c1:=fo c1;have c2:=fo c2;subst c1 c2;simp only[cond_true]at h;unfold zo at h;injection h with h;injection h with h1 h2;subst h1 h2;exact yX _ _ _ _ n (eI c3) cs tg hb _ hy _ (.inr ⟨b',cells,rfl,hv,eI c4,rfl,rfl⟩)
    ·cases h
   ·cases h
  ·cases h
 ·cases h
theorem El{f:FuncId}{e size:Nat}(hcl:∀w0 (l:List (List C)),l≠[]->(∀r∈l,r.length=size)->l.length<=1000000->∀σ,DC prog w0 f [.c (.sl l)] σ (Same (.vec σ.length l.length) (σ++[.vec e size l.flatten])))
  (w0:World) (as':List V) (σ:H) (v:V) (σ':H) (h:vv e size as' σ=some (v,σ')):DC prog w0 f as' σ (Same v σ'):=by
 have key:∀r σ v σ',zp e size r σ=some (v,σ')->DC prog w0 f [.c (.sl r)] σ (Same v σ'):=fun r σ v σ' h=>by
  unfold zp at h;cases hc:(!r.isEmpty&&(r.all (fun q=>ca q.length size)&&dk r.length 1000000))with
  |false=>rw[hc]at h;cases h
  |true=>
   rw[hc]at h;injection h with h;injection h with h1 h2;subst h1 h2;simp only[bz,cL]at hc;exact hcl w0 r (by intro hn;subst hn;exact absurd hc.1 (by decide)) (fun q hq=>fo (hc.2.1 q hq)) (eI hc.2.2) σ
 unfold vv at h;split at h
 ·rename_i b k;split at h
  ·rename_i e' s cs hb;cases hc:dk (k*s) cs.length with
   |false=>rw[hc]at h;cases h
   |true=>
    rw[hc]at h;have hk:=eI hc;have hd:=key _ _ _ _ h;refine⟨hd.enters,fun κ w vs hrep hfit=>?_⟩;obtain⟨κ',h1,h2,h3⟩:=aB.jD hrep hb;obtain⟨u,ys,rfl,hu,hfit⟩:=hfit.cons_inv;have:=hfit.kS;subst this;have hu':RV κ' (.c (.sl (rowsOf s k cs))) u:=.c (h3 k u hk (hu.mono h1));refine(hd.run κ' w [u] (h2.pM h3) (Fits.cons hu' Fits.nil)).mono ?_;rintro e w' ⟨v',d,σ'',κ'',q1,q2,q3,q4,q5⟩;exact⟨v',d,σ'',κ'',q1,q2,K.le_trans h1 q3,q4,q5⟩
  ·cases h
 ·split at h
  ·rename_i r hr;exact(key _ _ _ _ h).fY (vq hr)
  ·cases h
 ·cases h
end Go.Proofs.YtdlkenpilhakfaaGreatDoor
namespace Go.Proofs.YtdlkenpilhakfaaGreatDoor
open Go Go.RowKit Go.Lamb
def oT:aa:=.mk 0 [111] 0 []
def ic(x:ay)(t:aa):ay:=⟨x.name,t⟩
def dH(ws:List aa):List aa:=(ga (cK (fe ws oT))).1
noncomputable def vw(f:aH):List ay:=mX ic f.vars (dH (zl f.sub (f.vars.map (·.ty))))
theorem ME:∀(ws:List aa) (vs:List Int),(ga (cI dp vs (fe ws oT)).1).1.length=ws.length
 |[],vs=>by
  show(ga (cI dp vs oT).1).1.length=0;have e:(cI dp vs oT).1=oT:=by
   rw[pA];rfl
  rw[e,Bb rfl];rfl
 |a::ws,vs=>by
  show(ga (cI dp vs (.arr a (fe ws oT))).1).1.length=_;have e:(cI dp vs (.arr a (fe ws oT))).1= .arr (cI dp vs a).1 (cI dp (cI dp vs a).2 (fe ws oT)).1:=by
   rw[pA,if_neg (by rw[aa.arr,aY];decide)];show aa.mk _ _ _ (bZ dp vs [a,fe ws oT]).1=_;rw[bZ,bZ,bZ];rfl
  rw[e,GV (Q1 _ _) rfl,bo,ME ws];rfl
theorem W5(ws:List aa):(dH ws).length=ws.length:=ME ws []
theorem MF:∀ws:List aa,aC (fe ws oT)=1+ws.length+bS ws
 |[]=>by show aC oT=_;rw[oT,lz,bS];rfl
 |a::ws=>by
  show aC (.arr a (fe ws oT))=_;rw[zg,MF ws,bo,bS];omega
theorem Bg(t:aa):dB t<=aC t:=by
 refine aa.ind (P:=fun t=>dB t<=aC t) (fun t ih=>?_) t;have key:∀l:List aa,(∀u∈l,dB u<=aC u)->mh l<=bS l:=by
  intro l;induction l with
  |nil=>intro _;rw[mh,bS];exact aA _
  |cons x l ihl=>
   intro h;have h1:=h x (bp ..);have h2:=ihl (fun u hu=>h u (bW _ hu));rw[mh,bS];omega
 obtain⟨k,s,n,l⟩:=t;have:=key l ih;rw[dB,aC];omega
def fh(l:List ay)(ts:List aa)(i:Nat):List ay:=mX ic (l.take i) ts++l.drop i
theorem Em{l:List ay}{ts:List aa}(h:ts.length=l.length)(i:Nat)(hi:i<=l.length):(fh l ts i).length=l.length:=by
 unfold fh;rw[bt,Ft,eu,List.length_drop];omega
theorem W6(l:List ay)(ts:List aa):fh l ts 0=l:=by unfold fh;simp
theorem W7{l:List ay}{ts:List aa}:fh l ts l.length=mX ic l ts:=by unfold fh;simp
theorem W8{l:List ay}{ts:List aa}(h:ts.length=l.length){i:Nat}(hi:i<l.length):(fh l ts i)[i]'(by rw[Em h i (by omega)];exact hi)=l[i]:=by
 have e:(mX ic (l.take i) ts).length=i:=by rw[Ft,eu];omega
 have:(fh l ts i)[i]?=some l[i]:=by
  unfold fh;rw[cY (by omega),e,ck,List.getElem?_drop,Nat.add_zero,aR hi]
 exact(List.getElem_eq_iff _).2 this
theorem W9{l:List ay}{ts:List aa}(h:ts.length=l.length){i:Nat}(hi:i<l.length):(fh l ts i).set i (ic l[i] (ts[i]'(by omega)))=fh l ts (i+1):=by
 have e:(mX ic (l.take i) ts).length=i:=by rw[Ft,eu];omega
 have hz:mX ic (l.take (i+1)) ts=mX ic (l.take i) ts++[ic l[i] (ts[i]'(by omega))]:=by
  refine List.ext_getElem? fun j=>?_;rw[aaf];rcases Nat.lt_trichotomy j i with hj|hj|hj
  ·rw[cF (by omega),aaf,z6 (by omega),z6 hj]
  ·subst hj;rw[cY (by omega),e,ck,z6 (by omega),aR hi,aR (by omega)];rfl
  ·rw[cY (by omega),e,qC (by rw[eu];omega),qC (l:=[_]) (by rw[List.length_singleton];omega)]
 unfold fh;rw[List.set_append_right _ _ (by omega),e,ck,mV hi,List.set_cons_zero,hz,dc];rfl
theorem Xa{L:List ay}{i:Nat}(hi:i<L.length)(t:aa):dM (i*5+1) (cb L)++ .int .i64 t.k:: .str t.name:: .int .i64 t.n:: .sl (t.l.map aa.cs)::fV (i*5+1+4) (cb L)=cb (L.set i (ic L[i] t)):=by
 have h:=Lu (si L) (i:=i) (by rw[cd];exact hi) (ic L[i] t).cs rfl;rw[<-List.map_set]at h;have hr:=DA hi;have hl:=qc L;have ht:dM (i*5+1) (cb L)=dM (i*5) (cb L)++[.str L[i].name]:=by
  have h0:=L4 hi;rw[List.take_add_one,h0];rfl
 have hd:i*5+1+4=i*5+5:=by omega
 rw[ht,hd];unfold cb at*
 rw[<-h];simp[ic,ay.cs,aT]
end Go.Proofs.YtdlkenpilhakfaaGreatDoor
namespace Go.Proofs.YtdlkenpilhakfaaGreatDoor
open Go.RowKit Go.Lamb
theorem MG{q:ao}:∀{l:List ao},q∈l->bT q<=dh l
 |[],h=>by cases h
 |x::l,h=>by
  rw[dh];rcases cD.1 h with rfl|h
  ·omega
  ·have:=MG h;omega
theorem MH{l:List ao}{i:Nat}(hi:i<l.length):dh (l.drop i)=bT l[i]+dh (l.drop (i+1)):=by
 rw[mV hi,dh]
theorem MI(t:ao):-1<=bR t/\bR t<=bT t:=by
 refine ao.ind (P:=fun t=>-1<=bR t/\bR t<=bT t) (fun t ih=>?_) t;obtain⟨k,nm,n,l,pos⟩:=t;have key:∀(l:List ao) (n:Int),(∀q∈l,-1<=bR q/\bR q<=bT q)->1<=n->-1<=eP n l/\eP n l<=n+dh l:=by
  intro l;induction l with
  |nil=>intro n _ hn;rw[eP,dh];omega
  |cons x l ihl=>
   intro n h hn;have hx:=h x (bp ..);rw[eP,dh];split
   ·omega
   ·have:=ihl (n+bR x) (fun q hq=>h q (bW _ hq)) (by omega);omega
 rw[bR,bT];have:=key l 1 ih (by decide);split
 ·omega
 ·split<;>omega
section
variable {n0 p:Nat} {g:Sg} {f:aH}
attribute [local go_sem] aa.v aa.aM aY a7 aV aL aT
theorem Xb(w0:World){N:Nat}(hR:cl N f.sub)(hN:N<=1000000){ts:List aa}(hl:ts≠[]->f.live=true){r:Int}(h:iM f.sub ts 4096 r)(hts:∀t∈ts,aD f.sub.length t/\aC t<=N)(hlen:ts.length<=1000000){σ:H}{y3 y4 y5:V}(hA:bq n0 σ p g f y3 y4 y5):
  DC prog w0 31 [.ptr p 0,.c (.sl (ts.map aa.cs))] σ (Same (B (decide (r<0))) σ):=by
 refine LG.go rfl (fun hok hsz=>?_);(refine W.a ?_;simp only[go_sem,c31]);refine W.bA (α:=Nat×Int) (fun x=>x.1<=ts.length/\x.2<=4096/\-1<=x.2/\iM f.sub (ts.drop x.1) x.2 r) (fun x=>⟨(((((base.put (some 0) (.ptr p 0)).put (some 5) (I x.2)).put (some 8) (.c (.sl (ts.map aa.cs)))).put (some 9) (I (ts.length:Int))).put (some 10) (I (x.1:Int))),σ⟩) (fun x=>ts.length-x.1) (0,4096) ⟨bx _,eG _,by decide,h⟩ ?_ (fun x hx=>?_)
 ·(refine aq.env ?_;exact aE)
 obtain⟨i,m⟩:=x;obtain⟨x1,x2,x3,x4⟩:=hx;dsimp only at x1 x2 x3 x4⊢;by_cases hlt:i<ts.length
 ·have z:(i:Int)<(ts.length:Int):=by omega
  have hx0:ts[i]?=some ts[i]:=aR hlt;have hw:=ed hlt (by omega:ts.length<=9223372036854775807);rw[mV hlt]at x4;cases x4 with
  |@cons _ _ _ m' _ a1 a2=>
   have hti:=hts ts[i] (bw hlt);have hK:=fun L=>Wt w0 hR hN (hl (fun e=>by rw[e]at hlt;cases hlt)) 4097 ts[i] m m' (by omega) x3 (by omega) a1 hti.1 hti.2 (hA.app L);have hle:=D1 a1;have hge:=D3 a1 x3;(refine W.a ?_;simp only[go_sem,z]);refine W.yes rfl (W.a ?_);simp only[go_sem,z,bP,hx0];(refine W.c1 (hK _) ?_;simp only[go_sem,hw]);refine .inv ⟨(i+1,m'),⟨hlt,by show m'<=4096;omega,hge,a2⟩,by show ts.length-(i+1)<ts.length-i;omega,?_⟩;refine aq.drop ?_ (aA _) hok ?_
   ·exact aE
   ·repeat' (first|exact aZ.base _|(refine aZ.put ?_ (by first|exact .c _|exact .ptr hA.lt)))
 ·obtain rfl:i=ts.length:=by omega
  rw[Fq]at x4;cases x4;have z:¬((ts.length:Nat):Int)<((ts.length:Nat):Int):=by omega
  (refine W.a ?_;simp only[go_sem,z]);refine W.no rfl (W.a ?_);simp only[go_sem];(refine W.fs (hok) (by simp only[Dk,go_sem];rfl) ?_;simp only[ak];try exact V.wk.rfl _)
  all_goals (all_goals exact au)
end
theorem MJ(w0:World)(t:ao):bT t<=1000000->∀(σ:H),DC prog w0 23 [t.v] σ (Same (I (bR t)) σ):=by
 refine ao.ind (P:=fun t=>bT t<=1000000->∀(σ:H),DC prog w0 23 [t.v] σ (Same (I (bR t)) σ)) (fun t ih hn σ=>?_) t;refine LD.go rfl (fun hok hsz=>?_);have hS:bR t=if t.k=0\/t.k=1\/t.k=2 then 1 else if(t.k=4/\t.l.length=1)\/(t.k=3/\t.l.length=2)then eP 1 t.l else-1:=by
  obtain⟨k,nm,n,l,pos⟩:=t;rw[bR];rfl
 have hnl:=ya t;have hlen:t.l.length<=1000000:=by
  have:∀l:List ao,l.length<=dh l:=by
   intro l;induction l with
   |nil=>exact bx _
   |cons x l ih=>rw[bo,dh,ya];omega
  have:=this t.l;omega
 have hkid:∀q∈t.l,∀σ,DC prog w0 23 [q.v] σ (Same (I (bR q)) σ):=fun q hq σ=>ih q hq (by have:=MG hq;omega) σ;rw[hS];by_cases h0:t.k=0
 ·have k0:(t.k==0)=true:=by simp[h0]
  have k1:(t.k==1)=false:=by simp[h0]
  have k2:(t.k==2)=false:=by simp[h0]
  rw[if_pos (.inl h0)];clear h0;(refine W.a ?_;simp only[go_sem,mz,k0,k1,k2]);refine W.yes rfl (W.a ?_);simp only[go_sem,k0,k1,k2];refine W.yes rfl (W.a ?_);simp only[go_sem,k0,k1,k2];(refine W.fs (hok) (by simp only[kA,go_sem];rfl) ?_;simp only[ak];try exact V.wk.rfl _)
  all_goals (all_goals exact au)
 by_cases h1:t.k=1
 ·have k0:(t.k==0)=false:=by simp[h1]
  have k1:(t.k==1)=true:=by simp[h1]
  have k2:(t.k==2)=false:=by simp[h1]
  rw[if_pos (.inr (.inl h1))];clear h1;(refine W.a ?_;simp only[go_sem,mz,k0,k1,k2]);refine W.no rfl (W.a ?_);simp only[go_sem,k0,k1,k2];refine W.yes rfl (W.a ?_);simp only[go_sem,k0,k1,k2];refine W.yes rfl (W.a ?_);simp only[go_sem,k0,k1,k2];(refine W.fs (hok) (by simp only[kA,go_sem];rfl) ?_;simp only[ak];try exact V.wk.rfl _)
  all_goals (all_goals exact au)
 by_cases h2:t.k=2
 ·have k0:(t.k==0)=false:=by simp[h2]
  have k1:(t.k==1)=false:=by simp[h2]
  have k2:(t.k==2)=true:=by simp[h2]
  rw[if_pos (.inr (.inr h2))];clear h2;(refine W.a ?_;simp only[go_sem,mz,k0,k1,k2]);refine W.no rfl (W.a ?_);simp only[go_sem,k0,k1,k2];refine W.no rfl (W.a ?_);simp only[go_sem,k0,k1,k2];refine W.yes rfl (W.a ?_);simp only[go_sem,k0,k1,k2];(refine W.fs (hok) (by simp only[kA,go_sem];rfl) ?_;simp only[ak];try exact V.wk.rfl _)
  all_goals (all_goals exact au)
 by_cases h4:t.k=4
 ·have k0:(t.k==0)=false:=by simp[h4]
  have k1:(t.k==1)=false:=by simp[h4]
  have k2:(t.k==2)=false:=by simp[h4]
  have k3:(t.k==3)=false:=by simp[h4]
  have k4:(t.k==4)=true:=by simp[h4]
  by_cases hl:t.l.length=1
  ·have q:((t.l.length:Int) !=1)=false:=by simp;omega
   rw[if_neg (by omega),if_pos (.inl ⟨h4,hl⟩)];clear h4;(refine W.a ?_;simp only[go_sem,mz,k0,k1,k2,k3,k4]);refine W.no rfl (W.a ?_);simp only[go_sem,k0,k1,k2,k3,k4,q];refine W.no rfl (W.a ?_);simp only[go_sem,k0,k1,k2,k3,k4,q];refine W.no rfl (W.a ?_);simp only[go_sem,k0,k1,k2,k3,k4,q];refine W.yes rfl (W.a ?_);simp only[go_sem,k0,k1,k2,k3,k4,q];refine W.no rfl (W.a ?_);simp only[go_sem,k0,k1,k2,k3,k4,q];refine W.bA (α:=Nat×Int) (fun x=>x.1<=t.l.length/\1<=x.2/\x.2+dh (t.l.drop x.1)<=1000000/\eP 1 t.l=eP x.2 (t.l.drop x.1)) (fun x=>⟨((((base.put (some 4) (I x.2)).put (some 24) (.c (.sl (t.l.map ao.cs)))).put (some 25) (I (t.l.length:Int))).put (some 26) (I (x.1:Int))),σ⟩) (fun x=>t.l.length-x.1) (0,1) ⟨bx _,eG _,by show 1+((dh (t.l.drop 0):Nat):Int)<=_;rw[qy];omega,by show _=eP 1 (t.l.drop 0);rw[qy]⟩ ?_ (fun x hx=>?_)
   ·(refine aq.drop ?_ (aA _) (hok) ?_;exact aE;(repeat' (first|exact aZ.base _|(refine aZ.put ?_ (by first|exact .c _|(simp only[go_sem];done)|exact V.gU _ _)))))
   obtain⟨i,m⟩:=x;obtain⟨x1,x2,x3,x4⟩:=hx;dsimp only at x1 x2 x3 x4⊢;rw[x4];clear x4;by_cases hlt:i<t.l.length
   ·have z:(i:Int)<(t.l.length:Int):=by omega
    have hx0:t.l[i]?=some t.l[i]:=aR hlt;have hw:=ed hlt (by omega:t.l.length<=9223372036854775807);have hK:=fun σ=>hkid t.l[i] (bw hlt) σ;obtain⟨b1,b2⟩:=MI t.l[i];rw[MH hlt]at x3;have hE:eP m (t.l.drop i)=if bR t.l[i]<0 then-1 else eP (m+bR t.l[i]) (t.l.drop (i+1)):=by rw[mV hlt,eP]
    rw[hE];by_cases hneg:bR t.l[i]<0
    ·rw[if_pos hneg];(refine W.a ?_;simp only[go_sem,z]);refine W.yes rfl (W.a ?_);simp only[go_sem,z,bP,hx0];(refine W.c1 (hK _) ?_;simp only[go_sem,hneg]);refine W.yes rfl (W.a ?_);simp only[go_sem];(refine W.fs (hok) (by simp only[kA,go_sem];rfl) ?_;simp only[ak];try exact V.wk.rfl _)
     all_goals (all_goals exact au)
    ·rw[if_neg hneg];have hs:aW.wrap (m+bR t.l[i])=m+bR t.l[i]:=by rw[bD]<;>omega
     (refine W.a ?_;simp only[go_sem,z]);refine W.yes rfl (W.a ?_);simp only[go_sem,z,bP,hx0];(refine W.c1 (hK _) ?_;simp only[go_sem,hneg]);refine W.no rfl (W.a ?_);simp only[go_sem,hs,hw];refine .inv ⟨(i+1,m+bR t.l[i]),⟨hlt,by show 1<=m+bR t.l[i];omega,by show m+bR t.l[i]+(dh (t.l.drop (i+1)):Nat)<=(1000000:Int);omega,rfl⟩,by show t.l.length-(i+1)<t.l.length-i;omega,?_⟩;(refine aq.drop ?_ (aA _) (hok) ?_;exact aE;(repeat' (first|exact aZ.base _|(refine aZ.put ?_ (by first|exact .c _|(simp only[go_sem];done)|exact V.gU _ _)))))
   ·obtain rfl:i=t.l.length:=by omega
    rw[Fq,eP];have z:¬((t.l.length:Nat):Int)<((t.l.length:Nat):Int):=by omega
    (refine W.a ?_;simp only[go_sem,z]);refine W.no rfl (W.a ?_);simp only[go_sem];(refine W.fs (hok) (by simp only[kA,go_sem];rfl) ?_;simp only[ak];try exact V.wk.rfl _)
    all_goals (all_goals exact au)
  ·have q:((t.l.length:Int) !=1)=true:=by simp;omega
   rw[if_neg (by omega),if_neg (by omega)];clear h4;(refine W.a ?_;simp only[go_sem,mz,k0,k1,k2,k3,k4]);refine W.no rfl (W.a ?_);simp only[go_sem,k0,k1,k2,k3,k4,q];refine W.no rfl (W.a ?_);simp only[go_sem,k0,k1,k2,k3,k4,q];refine W.no rfl (W.a ?_);simp only[go_sem,k0,k1,k2,k3,k4,q];refine W.yes rfl (W.a ?_);simp only[go_sem,k0,k1,k2,k3,k4,q];refine W.yes rfl (W.a ?_);simp only[go_sem,k0,k1,k2,k3,k4,q];(refine W.fs (hok) (by simp only[kA,go_sem];rfl) ?_;simp only[ak];try exact V.wk.rfl _)
   all_goals (all_goals exact au)
 by_cases h3:t.k=3
 ·have k0:(t.k==0)=false:=by simp[h3]
  have k1:(t.k==1)=false:=by simp[h3]
  have k2:(t.k==2)=false:=by simp[h3]
  have k3:(t.k==3)=true:=by simp[h3]
  have k4:(t.k==4)=false:=by simp[h3]
  by_cases hl:t.l.length=2
  ·have q:((t.l.length:Int) !=2)=false:=by simp;omega
   rw[if_neg (by omega),if_pos (.inr ⟨h3,hl⟩)];clear h3;(refine W.a ?_;simp only[go_sem,mz,k0,k1,k2,k3,k4]);refine W.no rfl (W.a ?_);simp only[go_sem,k0,k1,k2,k3,k4,q];refine W.no rfl (W.a ?_);simp only[go_sem,k0,k1,k2,k3,k4,q];refine W.no rfl (W.a ?_);simp only[go_sem,k0,k1,k2,k3,k4,q];refine W.no rfl (W.a ?_);simp only[go_sem,k0,k1,k2,k3,k4,q];refine W.yes rfl (W.a ?_);simp only[go_sem,k0,k1,k2,k3,k4,q];refine W.no rfl (W.a ?_);simp only[go_sem,k0,k1,k2,k3,k4,q];refine W.bA (α:=Nat×Int) (fun x=>x.1<=t.l.length/\1<=x.2/\x.2+dh (t.l.drop x.1)<=1000000/\eP 1 t.l=eP x.2 (t.l.drop x.1)) (fun x=>⟨((((base.put (some 4) (I x.2)).put (some 24) (.c (.sl (t.l.map ao.cs)))).put (some 25) (I (t.l.length:Int))).put (some 26) (I (x.1:Int))),σ⟩) (fun x=>t.l.length-x.1) (0,1) ⟨bx _,eG _,by show 1+((dh (t.l.drop 0):Nat):Int)<=_;rw[qy];omega,by show _=eP 1 (t.l.drop 0);rw[qy]⟩ ?_ (fun x hx=>?_)
   ·(refine aq.drop ?_ (aA _) (hok) ?_;exact aE;(repeat' (first|exact aZ.base _|(refine aZ.put ?_ (by first|exact .c _|(simp only[go_sem];done)|exact V.gU _ _)))))
   obtain⟨i,m⟩:=x;obtain⟨x1,x2,x3,x4⟩:=hx;dsimp only at x1 x2 x3 x4⊢;rw[x4];clear x4;by_cases hlt:i<t.l.length
   ·have z:(i:Int)<(t.l.length:Int):=by omega
    have hx0:t.l[i]?=some t.l[i]:=aR hlt;have hw:=ed hlt (by omega:t.l.length<=9223372036854775807);have hK:=fun σ=>hkid t.l[i] (bw hlt) σ;obtain⟨b1,b2⟩:=MI t.l[i];rw[MH hlt]at x3;have hE:eP m (t.l.drop i)=if bR t.l[i]<0 then-1 else eP (m+bR t.l[i]) (t.l.drop (i+1)):=by rw[mV hlt,eP]
    rw[hE];by_cases hneg:bR t.l[i]<0
    ·rw[if_pos hneg];(refine W.a ?_;simp only[go_sem,z]);refine W.yes rfl (W.a ?_);simp only[go_sem,z,bP,hx0];(refine W.c1 (hK _) ?_;simp only[go_sem,hneg]);refine W.yes rfl (W.a ?_);simp only[go_sem];(refine W.fs (hok) (by simp only[kA,go_sem];rfl) ?_;simp only[ak];try exact V.wk.rfl _)
     all_goals (all_goals exact au)
    ·rw[if_neg hneg];have hs:aW.wrap (m+bR t.l[i])=m+bR t.l[i]:=by rw[bD]<;>omega
     (refine W.a ?_;simp only[go_sem,z]);refine W.yes rfl (W.a ?_);simp only[go_sem,z,bP,hx0];(refine W.c1 (hK _) ?_;simp only[go_sem,hneg]);refine W.no rfl (W.a ?_);simp only[go_sem,hs,hw];refine .inv ⟨(i+1,m+bR t.l[i]),⟨hlt,by show 1<=m+bR t.l[i];omega,by show m+bR t.l[i]+(dh (t.l.drop (i+1)):Nat)<=(1000000:Int);omega,rfl⟩,by show t.l.length-(i+1)<t.l.length-i;omega,?_⟩;(refine aq.drop ?_ (aA _) (hok) ?_;exact aE;(repeat' (first|exact aZ.base _|(refine aZ.put ?_ (by first|exact .c _|(simp only[go_sem];done)|exact V.gU _ _)))))
   ·obtain rfl:i=t.l.length:=by omega
    rw[Fq,eP];have z:¬((t.l.length:Nat):Int)<((t.l.length:Nat):Int):=by omega
    (refine W.a ?_;simp only[go_sem,z]);refine W.no rfl (W.a ?_);simp only[go_sem];(refine W.fs (hok) (by simp only[kA,go_sem];rfl) ?_;simp only[ak];try exact V.wk.rfl _)
    all_goals (all_goals exact au)
  ·have q:((t.l.length:Int) !=2)=true:=by simp;omega
   rw[if_neg (by omega),if_neg (by omega)];clear h3;(refine W.a ?_;simp only[go_sem,mz,k0,k1,k2,k3,k4]);refine W.no rfl (W.a ?_);simp only[go_sem,k0,k1,k2,k3,k4,q];refine W.no rfl (W.a ?_);simp only[go_sem,k0,k1,k2,k3,k4,q];refine W.no rfl (W.a ?_);simp only[go_sem,k0,k1,k2,k3,k4,q];refine W.no rfl (W.a ?_);simp only[go_sem,k0,k1,k2,k3,k4,q];refine W.yes rfl (W.a ?_);simp only[go_sem,k0,k1,k2,k3,k4,q];refine W.yes rfl (W.a ?_);simp only[go_sem,k0,k1,k2,k3,k4,q];(refine W.fs (hok) (by simp only[kA,go_sem];rfl) ?_;simp only[ak];try exact V.wk.rfl _)
   all_goals (all_goals exact au)
 rw[if_neg (by omega),if_neg (by omega)];have k0:(t.k==0)=false:=by simp[h0]
 have k1:(t.k==1)=false:=by simp[h1]
 have k2:(t.k==2)=false:=by simp[h2]
 have k3:(t.k==3)=false:=by simp[h3]
 have k4:(t.k==4)=false:=by simp[h4]
 clear h0 h1 h2 h3 h4;(refine W.a ?_;simp only[go_sem,mz,k0,k1,k2,k3,k4]);refine W.no rfl (W.a ?_);simp only[go_sem,k0,k1,k2,k3,k4];refine W.no rfl (W.a ?_);simp only[go_sem,k0,k1,k2,k3,k4];refine W.no rfl (W.a ?_);simp only[go_sem,k0,k1,k2,k3,k4];refine W.no rfl (W.a ?_);simp only[go_sem,k0,k1,k2,k3,k4];refine W.no rfl (W.a ?_);simp only[go_sem,k0,k1,k2,k3,k4];(refine W.fs (hok) (by simp only[kA,go_sem];rfl) ?_;simp only[ak];try exact V.wk.rfl _)
 all_goals (all_goals exact au)
end Go.Proofs.YtdlkenpilhakfaaGreatDoor
namespace Go.Lamb
open Go Go.RowKit
theorem gk.get{s:List aa}:∀{l w:List aa},gk s l w->∀i (hi:i<l.length) (hi':i<w.length),mA s l[i] w[i]
 |_,_,.nil,i,hi,_=>absurd hi (Nat.not_lt_zero _)
 |_,_,.cons r _,0,_,_=>r
 |_,_,.cons _ rs,i+1,hi,hi'=>rs.get i (nQ hi) (nQ hi')
end Go.Lamb
namespace Go.Proofs.YtdlkenpilhakfaaGreatDoor
open Go.RowKit Go.Lamb
section
variable {n0 p:Nat} {g:Sg} {f:aH}
attribute [local go_sem] aa.v aa.aM aY a7 aV aL aT
theorem Xc(w0:World)(h0:f.vars=[]){σ:H}{y3 y4 y5:V}(hA:bq n0 σ p g f y3 y4 y5):
  DC prog w0 33 [.ptr p 0] σ (Same (.c (.sl ((vw f).map ay.cs))) σ):=by
 have hE:(vw f).map ay.cs=[]:=by unfold vw;rw[h0];rfl
 rw[hE];refine Dm.go rfl (fun hok hsz=>?_);have hp:=fun L=>hG hA.here L;have hp0:=hA.here;unfold bJ at hp hp0;have hz:¬((0:Int)<0):=by decide
 have hAr:=fun σ=>yg w0 oT [] (by simp) σ;have hN:=fun σ=>yl w0 oT (by rw[oT,lz,bS];decide) σ;have hNo:cK oT=oT:=by unfold cK;rw[pA];rfl
 have hP:=fun σ=>JO w0 oT (by decide) σ;have hPo:ga oT=([],oT):=Bb rfl;have hAo:fe [] oT=oT:=rfl;have hC:=fun σ=>KH w0 [] (fun r hr=>by cases hr) (by simp) σ;have hy:y5= .ab []\/∃b,y5= .aF b []:=by
  rcases hA.var with⟨_,e⟩|⟨b,_,e,_⟩
  ·exact .inl e
  ·rw[h0]at e;exact .inr ⟨b,e⟩
 rcases hy with rfl|⟨bv,rfl⟩
 ·((try refine W.a ?_);simp only[go_sem,uV,hp,hp0]);refine W.bA (α:=Unit) (fun _=>True) (fun _=>⟨((((base.put (some 0) (.ptr p 0)).put (some 3) (.ab [])).put (some 14) (I 0)).put (some 15) (I 0)),σ⟩) (fun _=>0) () trivial ?_ (fun _ _=>?_)
  ·(refine aq.env ?_;exact aE)
  ((try refine W.a ?_);simp only[go_sem,hz]);refine W.no rfl (W.a ?_);simp only[go_sem];(refine W.jE (hAr _) ?_;simp only[go_sem]);((try refine W.a ?_);simp only[go_sem]);(refine W.c1 (hN _) ?_;simp only[go_sem]);((try refine W.a ?_);simp only[go_sem]);(refine W.c1 (hP _) ?_;simp only[go_sem]);((try refine W.a ?_);simp only[go_sem,hp,hp0]);(refine W.jE (hC _) ?_;simp only[go_sem]);((try refine W.a ?_);simp only[go_sem]);refine W.bA (α:=Unit) (fun _=>True) (fun _=>⟨(((base.put (some 8) (.aF (σ.length+1) [])).put (some 44) (I 0)).put (some 45) (I 0)),σ++[.gone,.spare 50 5 0]⟩) (fun _=>0) () trivial ?_ (fun _ _=>?_)
  ·(refine aq.eS (hok) ?_ (by simp) (by simp) ?_ ?_ ?_;exact aE;((try simp only[okB,bu,go_sem])<;>omega);(simp only[bo,cM,dL,ey,dj,bu,and_true];(repeat' (refine fb ?_ ?_))<;>(first|exact ad.wk.rfl _|exact ad.wk.gone _|(refine ad.eT ?_ rfl;(exact au))));(repeat' (first|exact aZ.base _|(refine aZ.put ?_ (by first|exact .c _|((try simp only[okB,bu,go_sem])<;>omega))))))
  ((try refine W.a ?_);simp only[go_sem,hz]);refine W.no rfl (W.a ?_);simp only[go_sem];(refine W.fs (hok) (by simp only[uW,go_sem];rfl) ?_;simp only[ak];try exact V.wk.rfl _)
  all_goals (all_goals exact au)
 ·((try refine W.a ?_);simp only[go_sem,uV,hp,hp0]);refine W.bA (α:=Unit) (fun _=>True) (fun _=>⟨((((base.put (some 0) (.ptr p 0)).put (some 3) (.ab [])).put (some 14) (I 0)).put (some 15) (I 0)),σ⟩) (fun _=>0) () trivial ?_ (fun _ _=>?_)
  ·(refine aq.env ?_;exact aE)
  ((try refine W.a ?_);simp only[go_sem,hz]);refine W.no rfl (W.a ?_);simp only[go_sem];(refine W.jE (hAr _) ?_;simp only[go_sem]);((try refine W.a ?_);simp only[go_sem]);(refine W.c1 (hN _) ?_;simp only[go_sem]);((try refine W.a ?_);simp only[go_sem]);(refine W.c1 (hP _) ?_;simp only[go_sem]);((try refine W.a ?_);simp only[go_sem,hp,hp0]);(refine W.jE (hC _) ?_;simp only[go_sem]);((try refine W.a ?_);simp only[go_sem]);refine W.bA (α:=Unit) (fun _=>True) (fun _=>⟨(((base.put (some 8) (.aF (σ.length+1) [])).put (some 44) (I 0)).put (some 45) (I 0)),σ++[.gone,.spare 50 5 0]⟩) (fun _=>0) () trivial ?_ (fun _ _=>?_)
  ·(refine aq.eS (hok) ?_ (by simp) (by simp) ?_ ?_ ?_;exact aE;((try simp only[okB,bu,go_sem])<;>omega);(simp only[bo,cM,dL,ey,dj,bu,and_true];(repeat' (refine fb ?_ ?_))<;>(first|exact ad.wk.rfl _|exact ad.wk.gone _|(refine ad.eT ?_ rfl;(exact au))));(repeat' (first|exact aZ.base _|(refine aZ.put ?_ (by first|exact .c _|((try simp only[okB,bu,go_sem])<;>omega))))))
  ((try refine W.a ?_);simp only[go_sem,hz]);refine W.no rfl (W.a ?_);simp only[go_sem];(refine W.fs (hok) (by simp only[uW,go_sem];rfl) ?_;simp only[ak];try exact V.wk.rfl _)
  all_goals (all_goals exact au)
theorem Xd(w0:World){N:Nat}(hR:cl N f.sub)(hN:N<=1000000)(hs:f.sub.length<=1000000)(hl:f.live=true)(hv:∀x∈f.vars,aD f.sub.length x.ty/\aC x.ty<=N)(hv0:f.vars≠[])(hvl:f.vars.length<=100000)(hs0:f.sub≠[]){ws:List aa}(hw:gk f.sub (f.vars.map (·.ty)) ws)(hwn:bS ws<=100000)(hwv:∀x∈ws,cJ x=true){σ:H}{y3 y4 y5:V}(hA:bq n0 σ p g f y3 y4 y5):
  DC prog w0 33 [.ptr p 0] σ (Same (.c (.sl ((mX ic f.vars (dH ws)).map ay.cs))) σ):=by
 have hwl:ws.length=f.vars.length:=by rw[hw.len,cd]
 have hpl:(dH ws).length=f.vars.length:=(W5 ws).trans hwl;refine Dm.go rfl (fun hok hsz=>?_);have hp:=fun L=>hG hA.here L;have hp0:=hA.here;unfold bJ at hp hp0;have hlt:=hA.lt;rcases hA.sub hl with⟨e,_⟩|⟨b,_,hy3,hb,_⟩
 ·exact absurd e hs0
 subst hy3;rcases hA.var with⟨e,_⟩|⟨bv,_,hy5,hbv⟩
 ·exact absurd e hv0
 subst hy5;have hbvl:=(aK.1 hbv).1;have hb2:=fun L=>hG hb L;have hlen0:0<f.vars.length:=List.length_pos_iff.2 hv0;have hrl:(f.vars.map ay.cs).length=f.vars.length:=cd _;have hFull:∀i (hi:i<f.vars.length) (τ:H),τ[b]?=some (.vec 34 4 (aJ f.sub))->DC prog w0 79 [.vec b f.sub.length,f.vars[i].ty.v] τ (Same (ws[i]'(by omega)).v τ):=fun i hi τ hτ=>by
  have hg:=hw.get i (by rw[cd];exact hi) (by omega);rw[dE]at hg;have hx:=hv f.vars[i] (bw hi);exact Vm w0 hR hN hs b hg hx.1 hx.2 τ hτ
 have han:=MF ws;have hAr:=fun σ=>yg w0 oT ws (by omega) σ;have hNo:=fun σ=>yl w0 (fe ws oT) (by omega) σ;have hav:∀l:List aa,(∀x∈l,cJ x=true)->cJ (fe l oT)=true:=by
  intro l;induction l with
  |nil=>intro _;decide
  |cons x l ih=>
   intro h;show cJ (.arr x (fe l oT))=true;rw[jF];simp[aa.arr,lf,aY,a7,aV,aL,h x (bp ..),ih (fun u hu=>h u (bW _ hu))]
 have hnd:=(vh (hav ws hwv) (by omega)).2.1;have hP:=fun σ=>JO w0 (cK (fe ws oT)) (bB (Bg _) (by omega)) σ;have hCl:=fun σ=>MD w0 (f.vars.map ay.cs) (by simpa using hv0) (si f.vars) (by omega) σ;have hnf:(f.vars.map ay.cs).flatten=cb f.vars:=rfl;rw[hnf,hrl]at hCl;have hpe:(ga (cK (fe ws oT))).1=dH ws:=rfl;rw[hpe]at hP;have hmap:(mX ic f.vars (dH ws)).map ay.cs=rowsOf 5 f.vars.length (cb (fh f.vars (dH ws) f.vars.length)):=by
  rw[W7];have hz:(mX ic f.vars (dH ws)).length=f.vars.length:=by rw[Ft];omega
  have h:=ph (si (mX ic f.vars (dH ws)));rw[cd,hz]at h;exact h.symm
 rw[hmap];generalize hA1:fe ws (aa.mk 0 [111] 0 [])=ar at*
 generalize (ga (cK ar)).2=rt at*
 generalize cK ar=nt at*
 have hz1:(0:Int)<(f.vars.length:Int):=by omega
 ((try refine W.a ?_);simp only[go_sem,uV,hp,hp0,hrl]);refine W.bA (α:=Option Nat) (fun o=>match o with|none=>True|some i=>1<=i/\i<=f.vars.length) (fun o=>match o with
  |none=>⟨(((((base.put (some 0) (.ptr p 0)).put (some 3) (.ab [])).put (some 13) (.aF bv (f.vars.map ay.cs))).put (some 14) (I (f.vars.length:Int))).put (some 15) (I 0)),σ⟩
  |some i=>⟨(((((base.put (some 0) (.ptr p 0)).put (some 3) (.aF (σ.length+1) ((ws.take i).map aa.cs))).put (some 13) (.aF bv (f.vars.map ay.cs))).put (some 14) (I (f.vars.length:Int))).put (some 15) (I (i:Int))),σ++[.gone,.spare 34 4 i]⟩) (fun o=>match o with|none=>f.vars.length+1|some i=>f.vars.length-i) none trivial ?_ (fun o ho=>?_)
 ·dsimp only
  (refine aq.env ?_;exact aE)
 cases o with
 |none=>
  dsimp only
  have hx0:=DM hlen0;have hF:=fun τ hτ=>hFull 0 hlen0 τ hτ;have htk:(ws.take 1).map aa.cs=[(ws[0]'(by omega)).cs]:=by
   rw[jZ (by omega:0<ws.length)];rfl
  have hw1:aW.wrap (0+1)=((1:Nat):Int):=by decide
  generalize f.vars[0]=x at*;generalize ws[0]'(by omega)=w at*
  ((try refine W.a ?_);simp only[go_sem,hz1]);refine W.yes rfl (W.a ?_);simp only[go_sem,hz1,hx0,hrl];apply W.aQ (aS _ _)
  case hc=>
   (apply ae.al;simp only[go_sem,hp]);(apply ae.call (hF _ (hG hb _));(case hg=>rfl);(case hf=>rfl);(case ha=>first|rfl|simp));(apply ae.al;simp only[go_sem,true_or]);exact ae.nil
  ((try refine W.a ?_);simp only[go_sem,hw1]);refine .inv ⟨some 1,⟨aA _,by omega⟩,by dsimp only;omega,?_⟩;dsimp only
  rw[htk];simp only[aa.aM];(refine aq.eS (hok) ?_ (by simp) (by simp) ?_ ?_ ?_;exact aE;((try simp only[okB,bu,go_sem])<;>omega);(simp only[bo,cM,dL,ey,dj,bu,and_true];(repeat' (refine fb ?_ ?_))<;>(first|exact ad.wk.rfl _|exact ad.wk.gone _|(refine ad.eT ?_ rfl;(exact au))));(repeat' (first|exact aZ.base _|(refine aZ.put ?_ (by first|exact .c _|((try simp only[okB,bu,go_sem])<;>omega))))))
 |some i=>
  obtain⟨hi1,hi⟩:=ho;dsimp only
  by_cases hlt2:i<f.vars.length
  ·have z1:(i:Int)<(f.vars.length:Int):=by omega
   have z0:(0:Int)<=(i:Int):=by omega
   have hx0:=DM hlt2;have hF:=fun τ hτ=>hFull i hlt2 τ hτ;have htk:(ws.take (i+1)).map aa.cs=(ws.take i).map aa.cs++[(ws[i]'(by omega)).cs]:=by
    rw[jZ (by omega:i<ws.length),List.map_append];rfl
   have hw1:aW.wrap ((i:Int)+1)=((i+1:Nat):Int):=by rw[bD]<;>omega
   have htl:((ws.take i).map aa.cs).length=i:=by rw[cd,eu];omega
   have b1:(i+1)*56<=140737488355328:=by omega
   have b2:i+1<=140737488355328:=by omega
   have b3:i<=140737488355327:=by omega
   have hr4:(∀r∈(ws.take i).map aa.cs,r.length=4)=True:=eq_true (kz _);generalize f.vars[i]=x at*;generalize ws[i]'(by omega)=w at*
   rw[aa.aM]at htk;generalize (ws.take i).map aa.cs=R at*
   ((try refine W.a ?_);simp only[go_sem,z1]);refine W.yes rfl (W.a ?_);simp only[go_sem,z1,z0,hx0,hrl];apply W.aQ (aS _ _)
   case hc=>
    (apply ae.al;simp only[go_sem,hp]);(apply ae.call (hF _ (hG hb _));(case hg=>rfl);(case hf=>rfl);(case ha=>first|rfl|simp));(apply ae.al;simp only[go_sem,true_or,htl,b1,b2,b3,hr4]);exact ae.nil
   ((try refine W.a ?_);simp only[go_sem,hw1]);refine .inv ⟨some (i+1),⟨by omega,hlt2⟩,by dsimp only;omega,?_⟩;dsimp only
   rw[htk];(refine aq.eS (hok) ?_ (by simp) (by simp) ?_ ?_ ?_;exact aE;((try simp only[okB,bu,go_sem])<;>omega);(simp only[bo,cM,dL,ey,dj,bu,and_true];(repeat' (refine fb ?_ ?_))<;>(first|exact ad.wk.rfl _|exact ad.wk.gone _|(refine ad.eT ?_ rfl;(exact au))));(repeat' (first|exact aZ.base _|(refine aZ.put ?_ (by first|exact .c _|((try simp only[okB,bu,go_sem])<;>omega))))))
  ·obtain rfl:i=f.vars.length:=by omega
   have z1:¬((f.vars.length:Nat):Int)<((f.vars.length:Nat):Int):=by omega
   rw[fj (by omega:ws.length<=f.vars.length)];((try refine W.a ?_);simp only[go_sem,z1]);refine W.no rfl (W.a ?_);simp only[go_sem];(refine W.jE (hAr _) ?_;simp only[go_sem]);((try refine W.a ?_);simp only[go_sem]);(refine W.c1 (hNo _) ?_;simp only[go_sem]);((try refine W.a ?_);simp only[go_sem]);(refine W.c1 (hP _) ?_;simp only[go_sem]);((try refine W.a ?_);simp only[go_sem,hp]);(refine W.jE (hCl _) ?_;simp only[go_sem]);((try refine W.a ?_);simp only[go_sem]);have hob:∀i,i<=f.vars.length->(cb (fh f.vars (dH ws) i)).length=f.vars.length*5:=fun i hi=>by rw[qc,Em hpl i hi]
   have bY:∀i (hi:i<f.vars.length) (hi':i<(dH ws).length),dM (i*5+1) (cb (fh f.vars (dH ws) i))++ .int .i64 (dH ws)[i].k:: .str (dH ws)[i].name:: .int .i64 (dH ws)[i].n:: .sl ((dH ws)[i].l.map aa.cs)::fV (i*5+1+4) (cb (fh f.vars (dH ws) i))=cb (fh f.vars (dH ws) (i+1)):=fun i hi hi'=>by
    have hol:=Em hpl i (Nat.le_of_lt hi);have h:=Xa (L:=fh f.vars (dH ws) i) (i:=i) (by omega) (dH ws)[i];rw[W8 hpl hi,W9 hpl hi]at h;exact h
   have hz0:cb f.vars=cb (fh f.vars (dH ws) 0):=by rw[W6]
   rw[hz0];generalize hO:(fun i=>cb (fh f.vars (dH ws) i))=O at*
   have hO2:∀i,cb (fh f.vars (dH ws) i)=O i:=fun i=>by rw[<-hO]
   simp only[hO2]at hob bY⊢;refine W.bA (α:=Nat) (fun i=>i<=f.vars.length) (fun i=>⟨(((((base.put (some 6) (.c (.sl ((dH ws).map aa.cs)))).put (some 8) (.vec (σ.length+3) f.vars.length)).put (some 43) (.vec (σ.length+3) f.vars.length)).put (some 44) (I (f.vars.length:Int))).put (some 45) (I (i:Int))),σ++[.gone,.gone,.gone,.vec 50 5 (O i)]⟩) (fun i=>f.vars.length-i) 0 (bx _) ?_ (fun i hi=>?_)
   ·(refine aq.eS (hok) ?_ (by simp) (by simp) ?_ ?_ ?_;exact aE;((try simp only[okB,bu,go_sem,oG])<;>omega);(simp only[bo,cM,dL,ey,dj,bu,and_true];(repeat' (refine fb ?_ ?_))<;>(first|exact ad.wk.rfl _|exact ad.wk.gone _|(refine ad.eT ?_ rfl;(exact au))));(repeat' (first|exact aZ.base _|(refine aZ.put ?_ (by first|exact .c _|((try simp only[okB,bu,go_sem,oG])<;>omega))))))
   by_cases hlt2:i<f.vars.length
   ·have z1:(i:Int)<(f.vars.length:Int):=by omega
    have z0:(0:Int)<=(i:Int):=by omega
    have hi':i<(dH ws).length:=by omega
    have hx0:(dH ws)[i]?=some (dH ws)[i]:=aR hi';have hw1:aW.wrap ((i:Int)+1)=((i+1:Nat):Int):=by rw[bD]<;>omega
    have hgi:=bY i hlt2 hi';have hFl:=hob i (Nat.le_of_lt hlt2);have hii:i*5+1+4<=f.vars.length*5:=by omega
    generalize (dH ws)[i]=w at*
    ((try refine W.a ?_);simp only[go_sem,z1]);refine W.yes rfl (W.a ?_);simp only[go_sem,z1,z0,hx0,hpl,hw1,hgi,hFl,hii];refine .inv ⟨i+1,hlt2,by omega,?_⟩;(refine aq.env ?_;exact aE)
   ·obtain rfl:i=f.vars.length:=by omega
    refine W.jD (b:=σ.length+3) (e:=50) (size:=5) (k:=f.vars.length) (cs:=O f.vars.length) 8 rfl (Go.Lamb.bY _ _ 3) (sN (hob _ (aA _)).symm) ?_;((try refine W.a ?_);simp only[go_sem,z1]);refine W.no rfl (W.a ?_);simp only[go_sem];(refine W.fs (hok) (by simp only[uW,go_sem];rfl) ?_;simp only[ak];try exact V.wk.rfl _)
    all_goals (all_goals exact au)
end
end Go.Proofs.YtdlkenpilhakfaaGreatDoor
namespace Go.Lamb
open Go Go.RowKit
def cw:Option aa->V
 |some u=>.av [u.v,I 0]
 |none=>.av [aa.none.v,I 80]
end Go.Lamb
namespace Go.Proofs.YtdlkenpilhakfaaGreatDoor
open Go.RowKit Go.Lamb
attribute [local go_sem] aa.v aa.aM aY a7 aV aL aT
theorem En(w0:World)(t:aa):ax t<=1000000000000->∀(σ:H),DC prog w0 30 [t.v] σ (Same (I (cR t:Nat)) σ):=by
 refine aa.ind (P:=fun t=>ax t<=1000000000000->∀(σ:H),DC prog w0 30 [t.v] σ (Same (I (cR t:Nat)) σ)) (fun t ih hn σ=>?_) t;refine LF.go rfl (fun hok hsz=>?_);have hW:=fun σ=>CM w0 t σ;have hkl:bg t.l<=1000000000000:=by rw[eO]at hn;omega
 obtain⟨l,hl,hll,hkid⟩:∃l:List aa,l=(if t.k=5\/t.k=6 then t.l else[])/\bg l<=1000000000000/\∀u∈l,u∈t.l:=by
  refine⟨_,rfl,?_,fun u hu=>?_⟩
  ·split
   ·exact hkl
   ·rw[bg];omega
  ·split at hu
   ·exact hu
   ·cases hu
 have hE:cR t=1+dW l:=by
  rw[DR,hl];split
  ·rfl
  ·rw[dW]
 rw[<-hl]at hW;rw[hE];clear hE;have hlen:l.length<=1000000000000:=bB (vx l) hll;simp only[aT]at hW;generalize (if t.k=5 then(1:Int)else 0)=z at*
 (refine W.a ?_;simp only[go_sem,Di]);(refine W.c1 (hW _) ?_;simp only[go_sem]);(refine W.a ?_;simp only[go_sem]);refine W.bA (fun i=>i<=l.length) (fun i=>⟨((((base.put (some 3) (I ((1+dW (l.take i):Nat):Int))).put (some 13) (.c (.sl (l.map aa.cs)))).put (some 14) (I (l.length:Int))).put (some 15) (I (i:Int))),σ⟩) (fun i=>l.length-i) 0 (bx _) ?_ (fun i hi=>?_)
 ·simp only[dj,dW];(refine aq.drop ?_ (aA _) (hok) ?_;exact aE;(repeat' (first|exact aZ.base _|(refine aZ.put ?_ (by first|exact .c _|(simp only[go_sem];done)|exact V.gU _ _)))))
 ·by_cases hlt:i<l.length
  ·have h1:(i:Int)<(l.length:Int):=by omega
   have hx:l[i]?=some l[i]:=aR hlt;have hmem:=bw hlt;have hnd:ax l[i]<=1000000000000:=bB (CK hmem) hll;have hS:=fun σ=>ih l[i] (hkid _ hmem) hnd σ;have hst:=V9 hlt;have hle:=Wa l i;have hle1:=zj l[i];have hw:=ed hlt (by omega:l.length<=9223372036854775807);have hs:aW.wrap (((1+dW (l.take i):Nat):Int)+((cR l[i]:Nat):Int))=((1+dW (l.take (i+1)):Nat):Int):=by rw[bD]<;>omega
   (refine W.a ?_;simp only[go_sem,h1]);refine W.yes rfl (W.a ?_);simp only[go_sem,h1,bP,hx];(refine W.c1 (hS _) ?_;simp only[go_sem,hs,hw]);refine .inv ⟨i+1,hlt,by omega,?_⟩;(refine aq.drop ?_ (aA _) (hok) ?_;exact aE;(repeat' (first|exact aZ.base _|(refine aZ.put ?_ (by first|exact .c _|(simp only[go_sem];done)|exact V.gU _ _)))))
  ·have h1:¬((i:Int)<(l.length:Int)):=by omega
   have:l.take i=l:=fj (by omega);(refine W.a ?_;simp only[go_sem,h1]);refine W.no rfl (W.a ?_);simp only[go_sem];rw[this];(refine W.fs (hok) (by simp only[Dj,go_sem];rfl) ?_;simp only[ak];try exact V.wk.rfl _);(all_goals exact au)
theorem MK(w0:World)(t:aa):ax t<=1000000000000->∀(i:Nat),i+ax t<=2000000000000->∀(σ:H),DC prog w0 261 [t.v,I (i:Int)] σ (Same (I (cu (i:Int) t:Nat)) σ):=by
 refine aa.ind (P:=fun t=>ax t<=1000000000000->∀(i:Nat),i+ax t<=2000000000000->∀(σ:H),DC prog w0 261 [t.v,I (i:Int)] σ (Same (I (cu (i:Int) t:Nat)) σ)) (fun t ih hn i hi σ=>?_) t;refine Ma.go rfl (fun hok hsz=>?_);have hnp:=eO t;have hlen:t.l.length<=1000000000000:=bB (kD t) hn;rw[zi];by_cases hb:t.k=3/\t.n=(i:Int)
 ·rw[if_pos hb];have k3:(t.k==3)=true:=by simp[hb.1]
  have kn:(t.n==(i:Int))=true:=by simp[hb.2]
  clear hb;(refine W.a ?_;simp only[go_sem,sr,k3]);refine W.yes rfl (W.a ?_);simp only[go_sem,kn];refine W.yes rfl (W.a ?_);simp only[go_sem];(refine W.fs (hok) (by simp only[ss,go_sem];rfl) ?_;simp only[ak];try exact V.wk.rfl _)
  all_goals (all_goals exact au)
 rw[if_neg hb];have hkid:∀(j:Nat),j<=i+1->∀x (hx:x<t.l.length) σ,DC prog w0 261 [t.l[x].v,I (j:Int)] σ (Same (I (cu (j:Int) t.l[x]:Nat)) σ):=fun j hj x hx σ=>by
  have hm:=jM (bw hx);exact ih _ (bw hx) (by omega) j (by omega) σ
 have hwj:aW.wrap ((i:Int)+1)=((i+1:Nat):Int):=by rw[bD]<;>omega
 have hall:bg t.l<=1000000000000:=by omega
 obtain⟨j,hj,hkj,hcase⟩:∃j:Nat,(j:Int)=(if t.k=5 then(i:Int)+1 else(i:Int))/\(∀x (hx:x<t.l.length) σ,DC prog w0 261 [t.l[x].v,I (j:Int)] σ (Same (I (cu (j:Int) t.l[x]:Nat)) σ))/\((t.k=5/\j=i+1)\/(t.k≠5/\j=i)):=by
  by_cases h5:t.k=5
  ·exact⟨i+1,by rw[if_pos h5];omega,hkid _ (aA _),.inl ⟨h5,rfl⟩⟩
  ·exact⟨i,by rw[if_neg h5],hkid _ (Nat.le_succ _),.inr ⟨h5,rfl⟩⟩
 rw[<-hj];clear hj hkid ih;have hloop:∀x,x<t.l.length->cQ (j:Int) (t.l.take (x+1))<=1000000000000/\cQ (j:Int) (t.l.take x)<=1000000000000:=fun x _=>⟨bB (Mm _ _ _) hall,bB (Mm _ _ _) hall⟩;rcases hcase with⟨h5,rfl⟩|⟨h5,rfl⟩
 ·have k3:(t.k==3)=false:=by simp[h5]
  have k5:(t.k==5)=true:=by simp[h5]
  clear h5 hb;(refine W.a ?_;simp only[go_sem,sr,k3,k5]);refine W.no rfl (W.a ?_);simp only[go_sem,k5];refine W.yes rfl (W.a ?_);simp only[go_sem,hwj];refine W.bA (fun x=>x<=t.l.length) (fun x=>⟨(((((base.put (some 1) (I ((i+1:Nat):Int))).put (some 5) (I (cQ ((i+1:Nat):Int) (t.l.take x):Nat))).put (some 21) (.c (aT t.l))).put (some 22) (I (t.l.length:Int))).put (some 23) (I (x:Int))),σ⟩) (fun x=>t.l.length-x) 0 (bx _) ?_ (fun x hx=>?_)
  ·simp only[dj,cQ];(refine aq.drop ?_ (aA _) (hok) ?_;exact aE;(repeat' (first|exact aZ.base _|(refine aZ.put ?_ (by first|exact .c _|(simp only[go_sem];done)|exact V.gU _ _)))))
  by_cases hlt:x<t.l.length
  ·have h1:(x:Int)<(t.l.length:Int):=by omega
   have hx0:t.l[x]?=some t.l[x]:=aR hlt;have hK:=fun σ=>hkj x hlt σ;have hst:=DS ((i+1:Nat):Int) hlt;have hl2:=hloop x hlt;have hw:=ed hlt (by omega:t.l.length<=9223372036854775807);have hs:aW.wrap (((cQ ((i+1:Nat):Int) (t.l.take x):Nat):Int)+((cu ((i+1:Nat):Int) t.l[x]:Nat):Int))=((cQ ((i+1:Nat):Int) (t.l.take (x+1)):Nat):Int):=by rw[bD]<;>omega
   (refine W.a ?_;simp only[go_sem,h1]);refine W.yes rfl (W.a ?_);simp only[go_sem,h1,bP,hx0];(refine W.c1 (hK _) ?_;simp only[go_sem,hs,hw]);refine .inv ⟨x+1,hlt,by omega,?_⟩;(refine aq.drop ?_ (aA _) (hok) ?_;exact aE;(repeat' (first|exact aZ.base _|(refine aZ.put ?_ (by first|exact .c _|(simp only[go_sem];done)|exact V.gU _ _)))))
  ·have h1:¬((x:Int)<(t.l.length:Int)):=by omega
   have e1:t.l.take x=t.l:=fj (by omega);(refine W.a ?_;simp only[go_sem,h1]);refine W.no rfl (W.a ?_);simp only[go_sem];rw[e1];(refine W.fs (hok) (by simp only[ss,go_sem];rfl) ?_;simp only[ak];try exact V.wk.rfl _)
   all_goals (all_goals exact au)
 ·by_cases h3:t.k=3
  ·have k3:(t.k==3)=true:=by simp[h3]
   have kn:(t.n==(j:Int))=false:=by
    have:t.n≠(j:Int):=fun e=>hb ⟨h3,e⟩;simpa using this
   clear h3 h5 hb;(refine W.a ?_;simp only[go_sem,sr,k3]);refine W.yes rfl (W.a ?_);simp only[go_sem,kn];refine W.no rfl (W.a ?_);simp only[go_sem];refine W.bA (fun x=>x<=t.l.length) (fun x=>⟨(((((base.put (some 1) (I (j:Int))).put (some 5) (I (cQ (j:Int) (t.l.take x):Nat))).put (some 21) (.c (aT t.l))).put (some 22) (I (t.l.length:Int))).put (some 23) (I (x:Int))),σ⟩) (fun x=>t.l.length-x) 0 (bx _) ?_ (fun x hx=>?_)
   ·simp only[dj,cQ];(refine aq.drop ?_ (aA _) (hok) ?_;exact aE;(repeat' (first|exact aZ.base _|(refine aZ.put ?_ (by first|exact .c _|(simp only[go_sem];done)|exact V.gU _ _)))))
   by_cases hlt:x<t.l.length
   ·have h1:(x:Int)<(t.l.length:Int):=by omega
    have hx0:t.l[x]?=some t.l[x]:=aR hlt;have hK:=fun σ=>hkj x hlt σ;have hst:=DS (j:Int) hlt;have hl2:=hloop x hlt;have hw:=ed hlt (by omega:t.l.length<=9223372036854775807);have hs:aW.wrap (((cQ (j:Int) (t.l.take x):Nat):Int)+((cu (j:Int) t.l[x]:Nat):Int))=((cQ (j:Int) (t.l.take (x+1)):Nat):Int):=by rw[bD]<;>omega
    (refine W.a ?_;simp only[go_sem,h1]);refine W.yes rfl (W.a ?_);simp only[go_sem,h1,bP,hx0];(refine W.c1 (hK _) ?_;simp only[go_sem,hs,hw]);refine .inv ⟨x+1,hlt,by omega,?_⟩;(refine aq.drop ?_ (aA _) (hok) ?_;exact aE;(repeat' (first|exact aZ.base _|(refine aZ.put ?_ (by first|exact .c _|(simp only[go_sem];done)|exact V.gU _ _)))))
   ·have h1:¬((x:Int)<(t.l.length:Int)):=by omega
    have e1:t.l.take x=t.l:=fj (by omega);(refine W.a ?_;simp only[go_sem,h1]);refine W.no rfl (W.a ?_);simp only[go_sem];rw[e1];(refine W.fs (hok) (by simp only[ss,go_sem];rfl) ?_;simp only[ak];try exact V.wk.rfl _)
    all_goals (all_goals exact au)
  ·have k3:(t.k==3)=false:=by simp[h3]
   have k5:(t.k==5)=false:=by simp[h5]
   clear h3 h5 hb;(refine W.a ?_;simp only[go_sem,sr,k3,k5]);refine W.no rfl (W.a ?_);simp only[go_sem,k5];refine W.no rfl (W.a ?_);simp only[go_sem];refine W.bA (fun x=>x<=t.l.length) (fun x=>⟨(((((base.put (some 1) (I (j:Int))).put (some 5) (I (cQ (j:Int) (t.l.take x):Nat))).put (some 21) (.c (aT t.l))).put (some 22) (I (t.l.length:Int))).put (some 23) (I (x:Int))),σ⟩) (fun x=>t.l.length-x) 0 (bx _) ?_ (fun x hx=>?_)
   ·simp only[dj,cQ];(refine aq.drop ?_ (aA _) (hok) ?_;exact aE;(repeat' (first|exact aZ.base _|(refine aZ.put ?_ (by first|exact .c _|(simp only[go_sem];done)|exact V.gU _ _)))))
   by_cases hlt:x<t.l.length
   ·have h1:(x:Int)<(t.l.length:Int):=by omega
    have hx0:t.l[x]?=some t.l[x]:=aR hlt;have hK:=fun σ=>hkj x hlt σ;have hst:=DS (j:Int) hlt;have hl2:=hloop x hlt;have hw:=ed hlt (by omega:t.l.length<=9223372036854775807);have hs:aW.wrap (((cQ (j:Int) (t.l.take x):Nat):Int)+((cu (j:Int) t.l[x]:Nat):Int))=((cQ (j:Int) (t.l.take (x+1)):Nat):Int):=by rw[bD]<;>omega
    (refine W.a ?_;simp only[go_sem,h1]);refine W.yes rfl (W.a ?_);simp only[go_sem,h1,bP,hx0];(refine W.c1 (hK _) ?_;simp only[go_sem,hs,hw]);refine .inv ⟨x+1,hlt,by omega,?_⟩;(refine aq.drop ?_ (aA _) (hok) ?_;exact aE;(repeat' (first|exact aZ.base _|(refine aZ.put ?_ (by first|exact .c _|(simp only[go_sem];done)|exact V.gU _ _)))))
   ·have h1:¬((x:Int)<(t.l.length:Int)):=by omega
    have e1:t.l.take x=t.l:=fj (by omega);(refine W.a ?_;simp only[go_sem,h1]);refine W.no rfl (W.a ?_);simp only[go_sem];rw[e1];(refine W.fs (hok) (by simp only[ss,go_sem];rfl) ?_;simp only[ak];try exact V.wk.rfl _)
    all_goals (all_goals exact au)
theorem ML(w0:World)(b a:aa){m:Int}(hm:m<=2305843009213693952)(hb:Nr m b)(ha:Nr m a)(hbn:ax b<=4096)(han:ax a<=4096)(σ:H):DC prog w0 231 [b.v,a.v] σ (Same (cw (qh b a)) σ):=by
 refine VP.go rfl (fun hok hsz=>?_);have hs1:=fun σ=>En w0 b (by omega) σ;have hs2:=fun σ=>En w0 a (by omega) σ;have ho:=fun σ=>MK w0 b (by omega) 0 (by omega) σ;have e0:((0:Nat):Int)=0:=rfl;rw[e0]at ho;have hmul:ax a*ax b<=4096*4096:=Nat.mul_le_mul han hbn;have hS:=fun σ=>Xe w0 b 0 a (by decide) (by decide) (oB hm a ha.2) (by omega) (oB hm b hb.2) (by omega) (by omega) σ;have l1:=zj b;have l2:=zj a;have l3:=Ml b 0;have lm:cu 0 b*cR a<=4096*4096:=Nat.mul_le_mul (by omega) (by omega);have hw1:aW.wrap (((cu 0 b:Nat):Int)*((cR a:Nat):Int))=((cu 0 b*cR a:Nat):Int):=by rw[bD]<;>omega
 have hw2:aW.wrap (((cR b:Nat):Int)+((cu 0 b*cR a:Nat):Int))=((cR b+cu 0 b*cR a:Nat):Int):=by rw[bD]<;>omega
 unfold qh;by_cases hc:cR b+cu 0 b*cR a>4096
 ·rw[if_pos hc];have hg:(((cR b+cu 0 b*cR a:Nat):Int)>4096):=by omega
  generalize cR b+cu 0 b*cR a=z at*;generalize cu 0 b*cR a=y at*
  (refine W.a ?_;simp only[go_sem,DF]);apply W.ft
  case hc=>
   (apply Canon.fX;simp only[l8,ma,mb,mc,me,mf,go_sem]);(apply Canon.call (hs1 _);(case hg=>rfl);(case hf=>rfl);(case ha=>first|rfl|simp));(apply Canon.fX;simp only[l8,ma,mb,mc,me,mf,go_sem]);(apply Canon.call (ho _);(case hg=>rfl);(case hf=>rfl);(case ha=>first|rfl|simp));(apply Canon.fX;simp only[l8,ma,mb,mc,me,mf,go_sem]);(apply Canon.call (hs2 _);(case hg=>rfl);(case hf=>rfl);(case ha=>first|rfl|simp));(apply Canon.fX;simp only[l8,ma,mb,mc,me,mf,go_sem,hw1,hw2,hg]);exact Canon.nil
  (refine W.a ?_;simp only[go_sem]);refine W.yes rfl (W.a ?_);simp only[go_sem,cw,aa.none];(refine W.fs (hok) (by simp only[DG,go_sem];rfl) ?_;simp only[ak];try exact V.wk.rfl _)
  all_goals (all_goals exact au)
 ·rw[if_neg hc];have hg:¬(((cR b+cu 0 b*cR a:Nat):Int)>4096):=by omega
  generalize cR b+cu 0 b*cR a=z at*;generalize cu 0 b*cR a=y at*;generalize rM 0 a b=u at*
  (refine W.a ?_;simp only[go_sem,DF]);apply W.ft
  case hc=>
   (apply Canon.fX;simp only[l8,ma,mb,mc,me,mf,go_sem]);(apply Canon.call (hs1 _);(case hg=>rfl);(case hf=>rfl);(case ha=>first|rfl|simp));(apply Canon.fX;simp only[l8,ma,mb,mc,me,mf,go_sem]);(apply Canon.call (ho _);(case hg=>rfl);(case hf=>rfl);(case ha=>first|rfl|simp));(apply Canon.fX;simp only[l8,ma,mb,mc,me,mf,go_sem]);(apply Canon.call (hs2 _);(case hg=>rfl);(case hf=>rfl);(case ha=>first|rfl|simp));(apply Canon.fX;simp only[l8,ma,mb,mc,me,mf,go_sem,hw1,hw2,hg]);exact Canon.nil
  (refine W.a ?_;simp only[go_sem]);refine W.no rfl (W.a ?_);simp only[go_sem,cw];(refine W.c1 (hS _) ?_;simp only[go_sem]);(refine W.a ?_;simp only[go_sem]);(refine W.fs (hok) (by simp only[DG,go_sem];rfl) ?_;simp only[ak];try exact V.wk.rfl _)
  all_goals (all_goals exact au)
end Go.Proofs.YtdlkenpilhakfaaGreatDoor
namespace Go.Proofs.YtdlkenpilhakfaaGreatDoor
open Go.RowKit Go.Lamb
attribute [local go_sem] aa.v aa.aM aY a7 aV aL aT
theorem Xf(w0:World)(t:aa)(h:t.k=6->t.l≠[])(σ:H):DC prog w0 230 [t.v] σ (Same (B (jQ t)) σ):=by
 refine K8.go rfl (fun hok hsz=>?_);unfold jQ;by_cases h6:t.k=6
 ·have k6:(t.k==6)=true:=by simp[h6]
  obtain⟨x,l,hl⟩:∃x l,t.l=x::l:=by
   cases hl:t.l with
   |nil=>exact absurd hl (h h6)
   |cons x l=>exact⟨x,l,rfl⟩
  have z:(0:Int)<((l.length+1:Nat):Int):=by omega
  rw[hl,List.headD_cons];clear h6 h;((try refine W.a ?_);simp only[go_sem,yH,k6,hl,z]);(refine W.fs (hok) (by simp only[yI,go_sem];rfl) ?_;simp only[ak];try exact V.wk.rfl _)
  all_goals (all_goals exact au)
 ·have k6:(t.k==6)=false:=by simp[h6]
  clear h6 h;((try refine W.a ?_);simp only[go_sem,yH,k6]);(refine W.fs (hok) (by simp only[yI,go_sem];rfl) ?_;simp only[ak];try exact V.wk.rfl _)
  all_goals (all_goals exact au)
theorem MM{σ:H}{p:Nat}(h:p<σ.length)(c:ad)(L:H):(σ.set p c++L)[p]?=some c:=by
 rw[cF (by simpa using h),List.getElem?_set_self h]
theorem MN{σ:H}{p:Nat}(h:p<σ.length)(c d:ad)(L:H):(σ.set p c++L).set p d=σ.set p d++L:=by
 rw[List.set_append_left _ _ (by simpa using h),List.set_set]
theorem ok_int{σ:H}(h:H.ok σ)(p:Nat)(n:Int):H.ok (σ.set p (.cells [I n])):=fun B hB cs tg hc x hx=>by
 rw[List.length_set];rcases List.mem_or_eq_of_mem_set hB with hB|rfl
 ·exact h B hB cs tg hc x hx
 ·injection hc with hc;subst hc;simp only[cD,List.not_mem_nil,or_false]at hx;subst hx;exact .c _
theorem vy(b a:aa)(r:List aa):(fQ b a r).k=6:=rfl
theorem Eo(b a:aa)(r:List aa):(fQ b a r).name=[]:=rfl
theorem Ep(b a:aa)(r:List aa):(fQ b a r).n=0:=rfl
theorem vz(b a:aa)(r:List aa):(fQ b a r).l=bI b::a::r:=rfl
theorem kE(b:aa):(bI b).k=5:=rfl
theorem kF(b:aa):(bI b).name=[]:=rfl
theorem kG(b:aa):(bI b).n=0:=rfl
theorem je(b:aa):(bI b).l=[b]:=rfl
theorem cg.parts{n:Nat}{b a:aa}{r:List aa}(h:cg n (fQ b a r)):ax b<=4096/\ax a<=4096/\Nr (2199023255552-8192*(n:Int)) b/\Nr (2199023255552-8192*(n:Int)) a:=by
 have hp1:=h.bd.kids (by rw[vy];decide);rw[vz]at hp1;have hb4:=hp1 (bI b) (bp ..);have hbn:=kB b;have hn:=(Nr.mF _ _ h.nr).2;rw[vz]at hn;have hlm:=hn (bI b) (bp ..);exact⟨by omega,hp1 a (bW _ (bp ..)),(Nr.mF _ _ hlm).2 b (by rw[je];simp),hn a (bW _ (bp ..))⟩
theorem Xg(w0:World)(n:Nat)(hn:n<=100000)(t:aa)(hi:cg n t)(hnd:ax t+4097*n<=1000000000)(hrec:∀n' b,(n'<n\/(n'=n/\b∈t.l))->cg n' b->ax b+4097*n'<=1000000000->∀o m,eZ n' b o m->∀(fp:Nat) (σ:H),σ[fp]?=some (.cells [I n'])->DC prog w0 184 [b.v,.ptr fp 0] σ (Same (cw o) (σ.set fp (.cells [I m])))){o:Option aa}{m:Nat}(h:eZ n t o m)(fp:Nat)(σ:H)(hf:σ[fp]?=some (.cells [I n])):
  DC prog w0 184 [t.v,.ptr fp 0] σ (Same (cw o) (σ.set fp (.cells [I m]))):=by
 have hlt:fp<σ.length:=(aK.1 hf).1;have hs0:σ.set fp (.cells [I n])=σ:=pj hf;refine K6.go rfl (fun hok hsz=>?_);have hokm:=ok_int hok fp m;have fg:=fun c L=>MM hlt c L;have fs:=fun c d L=>MN hlt c d L;((try refine W.a ?_);simp only[go_sem,CW]);refine W.bA (α:=Nat×aa) (fun x=>x.1<=n/\(x.1<n\/x.2=t)/\eZ x.1 x.2 o m/\cg x.1 x.2/\ax x.2+4097*x.1<=1000000000) (fun x=>⟨(((base.put (some 1) (.ptr fp 0)).put (some 2) (.ptr σ.length 0)).put (some 4) (.ptr (σ.length+1) 0)),σ.set fp (.cells [I (x.1:Int)])++[.cells x.2.v.ah,.cells [I 0,S [],I 0,.ab []]]⟩) (fun x=>x.1) (n,t) ⟨aA _,.inr rfl,h,hi,hnd⟩ ?_ (fun x hx=>?_)
 ·dsimp only
  rw[hs0];(refine aq.env ?_;exact aE)
 obtain⟨j,s⟩:=x;obtain⟨x1,x2,x3,x4,x5⟩:=hx;dsimp only at x1 x2 x3 x4 x5⊢;have hre:s.k=6->s.l≠[]:=fun h6=>by
  obtain⟨_,_,a,b,l,hl,_⟩:=iK x4.nr.1 h6;rw[hl];simp
 have hR:=fun σ=>Xf w0 s hre σ;((try refine W.a ?_);simp only[go_sem,fg,fs]);(refine W.c1 (hR _) ?_;simp only[go_sem]);cases x3 with
 |@vn b a r=>
  have hb:jQ (fQ b a r)=true:=rfl;rw[hb];refine W.yes rfl (W.a ?_);simp only[go_sem,fg,fs];refine W.yes rfl (W.a ?_);simp only[go_sem,cw,aa.none];(refine W.fs (hokm) (by simp only[p7,go_sem];rfl) ?_;simp only[ak];try exact V.wk.rfl _)
  all_goals (all_goals exact au)
 |@nE j b a r hc=>
  have hb:jQ (fQ b a r)=true:=rfl;have z:¬(((j+1:Nat):Int)<=0):=by omega
  have z0:(0:Int)<((r.length+1+1:Nat):Int):=by omega
  have z1:(1:Int)<((r.length+1+1:Nat):Int):=by omega
  have z2:(2:Int)<=((r.length+1+1:Nat):Int):=by omega
  obtain⟨nb,na,vb,va⟩:=x4.parts;have hC:=fun σ=>ML w0 b a (m:=2199023255552) (by decide) (vb.more (by omega)) (va.more (by omega)) nb na σ;rw[hc]at hC;rw[hb];refine W.yes rfl (W.a ?_);simp only[go_sem,fg,fs,z];refine W.no rfl (W.a ?_);simp only[go_sem];apply W.aQ (aS _ _)
  case hc=>
   (apply ae.al;simp only[go_sem,vy,Eo,Ep,vz,kE,kF,kG,je,fg,fs,z0,z1]);(apply ae.pn (fun τ=>hC τ);(case hg=>rfl);(case hf=>rfl);(case ha=>first|rfl|simp));(apply ae.al;simp only[go_sem,cw,aa.none]);exact ae.nil
  ((try refine W.a ?_);simp only[go_sem]);refine W.yes rfl (W.a ?_);simp only[go_sem,cw,aa.none];(refine W.fs (hokm) (by simp only[p7,go_sem];rfl) ?_;simp only[ak];try exact V.wk.rfl _)
  all_goals (all_goals exact au)
 |@step j m b a u r o hc hk=>
  have hb:jQ (fQ b a r)=true:=rfl;have z:¬(((j+1:Nat):Int)<=0):=by omega
  have z0:(0:Int)<((r.length+1+1:Nat):Int):=by omega
  have z1:(1:Int)<((r.length+1+1:Nat):Int):=by omega
  have z2:(2:Int)<=((r.length+1+1:Nat):Int):=by omega
  have hwj:aW.wrap (((j+1:Nat):Int)-1)=((j:Nat):Int):=by rw[bD]<;>omega
  obtain⟨nb,na,vb,va⟩:=x4.parts;obtain⟨b1,b2,b3⟩:=x4.beta (by omega) hc;have hC:=fun σ=>ML w0 b a (m:=2199023255552) (by decide) (vb.more (by omega)) (va.more (by omega)) nb na σ;have hrl:bg r<=ax (fQ b a r):=by unfold fQ;rw[jc,bg,bg];omega
  have hrl2:=vx r;have hul:=kD u;have hA:=fun σ=>uz w0 u r (by omega) σ;rw[hc]at hC;rw[hb];have hokj:=ok_int hok fp j;have htk:dM r.length (r.map aa.cs)=r.map aa.cs:=fj (by simp);have hr4:(∀x,x∈il aa.cs r->x.length=4)=True:=eq_true (kz r);refine W.yes rfl (W.a ?_);simp only[go_sem,fg,fs,z];refine W.no rfl (W.a ?_);simp only[go_sem];apply W.aQ (aS _ _)
  case hc=>
   (apply ae.al;simp only[go_sem,vy,Eo,Ep,vz,kE,kF,kG,je,fg,fs,z0,z1]);(apply ae.pn (fun τ=>hC τ);(case hg=>rfl);(case hf=>rfl);(case ha=>first|rfl|simp));(apply ae.al;simp only[go_sem,cw]);exact ae.nil
  ((try refine W.a ?_);simp only[go_sem]);refine W.no rfl (W.a ?_);simp only[go_sem,fg,fs,hwj];apply W.aQ (aS _ _)
  case hc=>
   (apply ae.al;simp only[go_sem,vy,Eo,Ep,vz,kE,kF,kG,je,fg,fs,htk,z2,hr4]);(apply ae.call (hA _);(case hg=>rfl);(case hf=>rfl);(case ha=>first|rfl|simp));(apply ae.al;simp only[go_sem,fg,fs]);exact ae.nil
  ((try refine W.a ?_);simp only[go_sem]);refine .inv ⟨(j,cv u r),⟨by omega,.inl (by omega),hk,b1,by show ax (cv u r)+4097*j<=_;omega⟩,by dsimp only;omega,?_⟩;dsimp only
  (refine aq.eS (hokj) ?_ (by simp) (by simp) ?_ ?_ ?_;exact aE;((try simp only[okB,bu,go_sem])<;>omega);(simp only[bo,cM,dL,ey,dj,bu,and_true];(repeat' (refine fb ?_ ?_))<;>(first|exact ad.wk.rfl _|exact ad.wk.gone _|(refine ad.eT ?_ rfl;(exact au))));(repeat' (first|exact aZ.base _|(refine aZ.put ?_ (by first|exact .c _|((try simp only[okB,bu,go_sem])<;>omega))))))
 |@stop _ _ hb h5=>
  have k5:(s.k !=5)=true:=by simp[h5]
  rw[hb];refine W.no rfl (W.a ?_);simp only[go_sem,fg,fs,k5];refine W.yes rfl (W.a ?_);simp only[go_sem,cw];(refine W.fs (hokm) (by simp only[p7,go_sem];rfl) ?_;simp only[ak];try exact V.wk.rfl _)
  all_goals (all_goals exact au)
 |@lam _ m b o hk=>
  have hb:jQ (bI b)=false:=rfl;have hrl:ax b+4097*j<=1000000000:=by have:=kB b;omega
  have hH:=hrec j b (by
   rcases x2 with x2|x2
   ·exact .inl x2
   ·by_cases hj:j<n
    ·exact .inl hj
    ·exact .inr ⟨by omega,by rw[<-x2,je];simp⟩) x4.body hrl o m hk
  have hH2:∀c d,DC prog w0 184 [b.v,.ptr fp 0] (σ.set fp (.cells [I (j:Int)])++[c,d]) (Same (cw o) (σ.set fp (.cells [I (m:Int)])++[c,d])):=fun c d=>by
   have:=hH fp (σ.set fp (.cells [I (j:Int)])++[c,d]) (fg _ _);rwa [fs]at this
  rw[hb];refine W.no rfl (W.a ?_);simp only[go_sem,fg,fs,vy,kE,kF,kG,je];refine W.no rfl (W.a ?_);simp only[go_sem,kE,kF,kG,je];(refine W.c1 (hH2 _ _) ?_;simp only[go_sem]);cases o with
  |none=>
   ((try refine W.a ?_);simp only[go_sem,cw,aa.none]);refine W.yes rfl (W.a ?_);simp only[go_sem,cw,aa.none,wc];(refine W.fs (hokm) (by simp only[p7,go_sem];rfl) ?_;simp only[ak];try exact V.wk.rfl _)
   all_goals (all_goals exact au)
  |some v=>
   have hL:=fun σ=>vj w0 v σ;((try refine W.a ?_);simp only[go_sem,cw]);refine W.no rfl (W.a ?_);simp only[go_sem];(refine W.c1 (hL _) ?_;simp only[go_sem]);((try refine W.a ?_);simp only[go_sem,cw,iq]);(refine W.fs (hokm) (by simp only[p7,go_sem];rfl) ?_;simp only[ak];try exact V.wk.rfl _)
   all_goals (all_goals exact au)
theorem Xh(w0:World)(n:Nat):n<=100000->∀t,cg n t->ax t+4097*n<=1000000000->∀o m,eZ n t o m->∀(fp:Nat) (σ:H),σ[fp]?=some (.cells [I (n:Int)])->DC prog w0 184 [t.v,.ptr fp 0] σ (Same (cw o) (σ.set fp (.cells [I (m:Int)]))):=by
 induction n using nO with
 |ind n ihn=>
  intro hn t;refine aa.ind (P:=fun t=>cg n t->ax t+4097*n<=1000000000->∀o m,eZ n t o m->∀(fp:Nat) (σ:H),σ[fp]?=some (.cells [I (n:Int)])->DC prog w0 184 [t.v,.ptr fp 0] σ (Same (cw o) (σ.set fp (.cells [I (m:Int)])))) (fun t ih hi hnd o m h fp σ hf=>?_) t;refine Xg w0 n hn t hi hnd (fun n' b hc hb hbn o2 m2 h2 fp2 σ2 hf2=>?_) h fp σ hf;by_cases hlt:n'<n
  ·exact ihn n' hlt (by omega) b hb hbn o2 m2 h2 fp2 σ2 hf2
  ·rcases hc with hc|⟨e,hc⟩
   ·exact absurd hc hlt
   ·subst e;exact ih b hc hb hbn o2 m2 h2 fp2 σ2 hf2
end Go.Proofs.YtdlkenpilhakfaaGreatDoor
namespace Go.Proofs.YtdlkenpilhakfaaGreatDoor
open Go.RowKit Go.Lamb
structure MO where
 n:Nat
 done:List aa
 rest:List aa
 o:Option (List aa)
structure Xi (m q:Nat) (l:List aa) (o:Option (List aa)) (x:MO):Prop where
 le:x.n<=m
 len:x.done.length+x.rest.length=l.length
 sub:∀u∈x.rest,u∈l
 to:qi x.n x.rest x.o q
 out:o=x.o.map fun r=>x.done++r
theorem Xj(w0:World)(l:List (List C))(hl0:l≠[])(hb3:∀r∈l,r.length=4)(hn:l.length<=1000000000)(σ:H):DC prog w0 185 [.c (.sl l)] σ (Same (.vec σ.length l.length) (σ++[.vec 41 4 l.flatten])):=by
 refine CD.dn rfl (fun hok hsz=>?_);have hb1:l.length*56<=140737488355328:=by omega
 have hb2:l.length<=140737488355328:=by omega
 ((try refine W.a ?_);simp only[go_sem,yv]);refine W.ja rfl rfl rfl (fun b hb=>?_);cases b
 ·((try refine W.a ?_);simp only[go_sem]);refine W.no rfl ?_;refine W.skip (W.seq (W.aG (W.jy rfl rfl (W.jy rfl rfl ?_))));refine W.pf (olds:=[]) (news:=l) rfl rfl rfl rfl ⟨hl0,(fun r hr=>by cases hr),hb3,by simpa using hb1,by simpa using hb2⟩ ?_;((try refine W.a ?_);simp only[go_sem,er]);refine W.ret ⟨_,_,rfl,.rfl _,?_⟩;exact⟨rfl,rfl⟩
 ·exact absurd (hb rfl) hl0
attribute [local go_sem] aa.v aa.aM aY a7 aV aL aT
theorem Xk(w0:World)(n:Nat)(hn:n<=100000)(t:aa)(hi:cg n t)(hnd:ax t+4097*n<=1000000000)
  (hrec:∀n' b,(n'<n\/(n'=n/\ax b<ax t))->cg n' b->ax b+4097*n'<=1000000000->∀o q,ei n' b o q->∀(fp:Nat) (σ:H),σ[fp]?=some (.cells [I (n':Int)])->DC prog w0 130 [b.v,.ptr fp 0] σ (Same (cw o) (σ.set fp (.cells [I (q:Int)]))))
  {o:Option aa} {q:Nat} (h:ei n t o q) (fp:Nat) (σ:H) (hf:σ[fp]?=some (.cells [I (n:Int)])):
  DC prog w0 130 [t.v,.ptr fp 0] σ (Same (cw o) (σ.set fp (.cells [I (q:Int)]))):=by
 have hlt:fp<σ.length:=(aK.1 hf).1;refine K3.go rfl (fun hok hsz=>?_);have hokq:=ok_int hok fp q;have fg:=fun c L=>MM hlt c L;have fs:=fun c d L=>MN hlt c d L;have hH:∀(r:Option aa) (m:Nat),eZ n t r m->∀L,DC prog w0 184 [t.v,.ptr fp 0] (σ++L) (Same (cw r) (σ.set fp (.cells [I (m:Int)])++L)):=fun r m hh L=>by
  have:=Xh w0 n hn t hi hnd r m hh fp (σ++L) (hG hf L);rwa [hS hf]at this
 have hR:∀(n':Nat) (b:aa) (o:Option aa) (q':Nat),ei n' b o q'->(n'<n\/(n'=n/\ax b<ax t))->cg n' b->ax b+4097*n'<=1000000000->∀L,DC prog w0 130 [b.v,.ptr fp 0] (σ.set fp (.cells [I (n':Int)])++L) (Same (cw o) (σ.set fp (.cells [I (q':Int)])++L)):=fun n' b o q' hk hc hb hbn L=>by
  have:=hrec n' b hc hb hbn o q' hk fp (σ.set fp (.cells [I (n':Int)])++L) (fg _ _);rwa [fs]at this
 cases h with
 |bad hh=>
  have hh:=hH _ _ hh;((try refine W.a ?_);simp only[go_sem,c130]);(refine W.c1 (hh _) ?_;simp only[go_sem]);((try refine W.a ?_);simp only[go_sem,cw,aa.none]);refine W.yes rfl (W.a ?_);simp only[go_sem,cw,aa.none];(refine W.fs (hokq) (by simp only[oC,go_sem];rfl) ?_;simp only[ak];try exact V.wk.rfl _)
  all_goals (all_goals exact au)
 |@lam _ m _ _ b o hh hk=>
  obtain⟨k1,k2⟩:=sw hh hn hi;obtain⟨k3,k4,k5⟩:=k2 _ rfl;have hln:=kB b;have hB:=hR m b o q hk (by
   rcases k4 with k4|k4
   ·exact .inl k4
   ·by_cases hm:m<n
    ·exact .inl hm
    ·exact .inr ⟨by omega,by rw[<-k4];omega⟩) k3.body (by omega)
  have hh:=hH _ _ hh;((try refine W.a ?_);simp only[go_sem,c130]);(refine W.c1 (hh _) ?_;simp only[go_sem]);((try refine W.a ?_);simp only[go_sem,cw,kE,kF,kG,je]);refine W.no rfl (W.a ?_);simp only[go_sem,kE,kF,kG,je];refine W.yes rfl (W.a ?_);simp only[go_sem,kE,kF,kG,je];(refine W.c1 (hB _) ?_;simp only[go_sem]);cases o with
  |none=>
   ((try refine W.a ?_);simp only[go_sem,cw,aa.none]);refine W.yes rfl (W.a ?_);simp only[go_sem,cw,aa.none,wc];(refine W.fs (hokq) (by simp only[oC,go_sem];rfl) ?_;simp only[ak];try exact V.wk.rfl _)
   all_goals (all_goals exact au)
  |some v=>
   have hL:=fun σ=>vj w0 v σ;((try refine W.a ?_);simp only[go_sem,cw]);refine W.no rfl (W.a ?_);simp only[go_sem];(refine W.c1 (hL _) ?_;simp only[go_sem]);((try refine W.a ?_);simp only[go_sem,cw,iq]);(refine W.fs (hokq) (by simp only[oC,go_sem];rfl) ?_;simp only[ak];try exact V.wk.rfl _)
   all_goals (all_goals exact au)
 |@kids _ m _ _ u o hh h5 hk=>
  obtain⟨k1,k2⟩:=sw hh hn hi;obtain⟨k3,k4,k5⟩:=k2 _ rfl;have hh:=hH _ _ hh;have hu5:(u.k==5)=false:=by simp[h5]
  have hun:=eO u;by_cases hl0:u.l=[]
  ·rw[hl0]at hk;cases hk;have hcl:=fun σ=>KI w0 [] rfl σ;have hz:¬((0:Int)<0):=by decide
   ((try refine W.a ?_);simp only[go_sem,c130]);(refine W.c1 (hh _) ?_;simp only[go_sem]);((try refine W.a ?_);simp only[go_sem,cw]);refine W.no rfl (W.a ?_);simp only[go_sem,hu5,hl0];refine W.no rfl (W.a ?_);simp only[go_sem,hl0];(refine W.c1 (hcl _) ?_;simp only[go_sem]);((try refine W.a ?_);simp only[go_sem]);refine W.bA (α:=Unit) (fun _=>True) (fun _=>⟨(((((((base.put (some 1) (.ptr fp 0)).put (some 2) (.ptr σ.length 0)).put (some 4) (.ptr (σ.length+1) 0)).put (some 9) (.aF (σ.length+2) [])).put (some 43) (.aF (σ.length+2) [])).put (some 44) (I 0)).put (some 45) (I 0)),σ.set fp (.cells [I (q:Int)])++[.cells u.v.ah,.cells [I 0,S [],I 0,.ab []],.spare 41 4 0]⟩) (fun _=>0) () trivial ?_ (fun _ _=>?_)
   ·simp only[aa.v,hl0,V.ah,List.map_nil];(refine aq.env ?_;exact aE)
   ((try refine W.a ?_);simp only[go_sem,hz]);refine W.no rfl (W.a ?_);simp only[go_sem,cw,iq];(refine W.fs (hokq) (by simp only[oC,go_sem];rfl) ?_;simp only[ak];try exact V.wk.rfl _)
   all_goals (all_goals exact au)
  ·have hlen:=kD u;have hne:u.l.map aa.cs≠[]:=by simpa using hl0
   have hcl:=fun σ=>Xj w0 (u.l.map aa.cs) hne (kz u.l) (by rw[cd];omega) σ;rw[cd]at hcl;have hF0:(u.l.map aa.cs).flatten=aJ u.l:=rfl;rw[hF0]at hcl;have hkid:∀(n':Nat) (x:aa),n'<=m->x∈u.l->∀(r:Option aa) (q':Nat),ei n' x r q'->∀L,DC prog w0 130 [x.v,.ptr fp 0] (σ.set fp (.cells [I (n':Int)])++L) (Same (cw r) (σ.set fp (.cells [I (q':Int)])++L))/\q'<=n':=fun n' x hn' hx r q' hxn L=>by
    have hb:=(k3.dO h5 hx).down hn';have hxs:=k3.bd.kids h5 x hx;have hxu:=jM hx;refine⟨hR n' x r q' hxn ?_ hb (by omega) L,(zk hxn (by omega) hb).1⟩;by_cases hm:n'<n
    ·exact .inl hm
    ·refine .inr ⟨by omega,?_⟩;rcases k4 with k4|k4
     ·omega
     ·rw[<-k4];exact hxu
   ((try refine W.a ?_);simp only[go_sem,c130]);(refine W.c1 (hh _) ?_;simp only[go_sem]);((try refine W.a ?_);simp only[go_sem,cw]);refine W.no rfl (W.a ?_);simp only[go_sem,hu5];refine W.no rfl (W.a ?_);simp only[go_sem];(refine W.c1 (hcl _) ?_;simp only[go_sem]);((try refine W.a ?_);simp only[go_sem]);refine W.bA (α:=MO) (Xi m q u.l o) (fun x=>⟨(((((((base.put (some 1) (.ptr fp 0)).put (some 2) (.ptr σ.length 0)).put (some 4) (.ptr (σ.length+1) 0)).put (some 9) (.vec (σ.length+2) u.l.length)).put (some 43) (.vec (σ.length+2) u.l.length)).put (some 44) (I (u.l.length:Int))).put (some 45) (I (x.done.length:Int))),σ.set fp (.cells [I (x.n:Int)])++[.cells u.v.ah,.cells [I 0,S [],I 0,.ab []],.vec 41 4 (aJ (x.done++x.rest))]⟩) (fun x=>x.rest.length) ⟨m,[],u.l,o⟩ ⟨aA _,by simp,fun _ h=>h,hk,by cases o<;>simp⟩ ?_ (fun x hx=>?_)
   ·(refine aq.env ?_;exact aE)
   obtain⟨n',done,rest,o'⟩:=x;obtain⟨x1,x2,x3,x4,x5⟩:=hx;dsimp only at x1 x2 x3 x4 x5⊢;have hFl:(aJ (done++rest)).length=u.l.length*4:=by rw[lq,bt,x2]
   cases x4 with
   |@bad _ _ y rest hy=>
    have hlt':done.length<(done++y::rest).length:=by simp
    have h1:(done.length:Int)<(u.l.length:Int):=by simp at x2;omega
    have h0:(0:Int)<=(done.length:Int):=by omega
    have hgi:=qa hlt';have hge:(done++y::rest)[done.length]=y:=by simp
    rw[hge]at hgi;have hsi:=C8 hlt' aa.none;have hii:done.length*4+4<=u.l.length*4:=by simp at x2;omega
    have hK:=fun L=>(hkid n' y x1 (x3 y (bp ..)) none q hy L).1;subst x5;((try refine W.a ?_);simp only[go_sem,h1]);refine W.yes rfl (W.a ?_);simp only[go_sem,h1,h0,hgi,hFl,hii];(refine W.c1 (hK _) ?_;simp only[go_sem]);((try refine W.a ?_);simp only[go_sem,cw,aa.none,h1,h0,hsi,hFl,hii]);refine W.yes rfl (W.a ?_);simp only[go_sem,cw,aa.none,wc];(refine W.fs (hokq) (by simp only[oC,go_sem];rfl) ?_;simp only[ak];try exact V.wk.rfl _)
    all_goals (all_goals exact au)
   |@cons _ m' _ y z rest o'' hy hk'=>
    have hlt':done.length<(done++y::rest).length:=by simp
    have h1:(done.length:Int)<(u.l.length:Int):=by simp at x2;omega
    have h0:(0:Int)<=(done.length:Int):=by omega
    have hw:aW.wrap ((done.length:Int)+1)=((done.length+1:Nat):Int):=by rw[bD]<;>omega
    have hgi:=qa hlt';have hge:(done++y::rest)[done.length]=y:=by simp
    rw[hge]at hgi;have hsi:=C8 hlt' z;have hse:(done++y::rest).set done.length z=(done++[z])++rest:=by simp
    rw[hse]at hsi;have hii:done.length*4+4<=u.l.length*4:=by simp at x2;omega
    have hK:=fun L=>(hkid n' y x1 (x3 y (bp ..)) (some z) m' hy L).1;have hm':=(hkid n' y x1 (x3 y (bp ..)) (some z) m' hy []).2;have hdl:(done++[z]).length=done.length+1:=by simp
    have hokm:=ok_int hok fp m';((try refine W.a ?_);simp only[go_sem,h1]);refine W.yes rfl (W.a ?_);simp only[go_sem,h1,h0,hgi,hFl,hii];(refine W.c1 (hK _) ?_;simp only[go_sem]);((try refine W.a ?_);simp only[go_sem,cw,h1,h0,hsi,hFl,hii]);refine W.no rfl (W.a ?_);simp only[go_sem,hw];refine .inv ⟨⟨m',done++[z],rest,o''⟩,⟨by show m'<=m;omega,by simp at x2⊢;omega,fun w hw=>x3 w (bW _ hw),hk',by subst x5;cases o''<;>simp⟩,by simp,?_⟩;dsimp only
    simp only[hdl,dc,List.cons_append,er];(refine aq.eS (hokm) ?_ (by simp) (by simp) ?_ ?_ ?_;exact aE;((try simp only[okB,bu,go_sem,oG])<;>omega);(simp only[bo,cM,dL,ey,dj,bu,and_true];(repeat' (refine fb ?_ ?_))<;>(first|exact ad.wk.rfl _|exact ad.wk.gone _|(refine ad.eT ?_ rfl;(exact au))));(repeat' (first|exact aZ.base _|(refine aZ.put ?_ (by first|exact .c _|((try simp only[okB,bu,go_sem,oG])<;>omega))))))
   |nil=>
    have hdn:done.length=u.l.length:=by simpa using x2
    have h1:¬(done.length:Int)<(u.l.length:Int):=by omega
    have hFn:rowsOf 4 u.l.length (aJ (done++[]))=done.map aa.cs:=by
     have h:=ph (kz done);rw[cd,hdn]at h;rw[cq];exact h
    have hFn2:rowsOf 4 u.l.length (aJ done)=done.map aa.cs:=by
     rw[cq]at hFn;exact hFn
    subst x5;refine W.jD (b:=σ.length+2) (e:=41) (size:=4) (k:=u.l.length) (cs:=aJ (done++[])) 9 rfl (by simp only[go_sem]) (sN hFl.symm) ?_;((try refine W.a ?_);simp only[go_sem,h1,hFn,hFn2]);refine W.no rfl (W.a ?_);simp only[go_sem,hFn,hFn2,cw,iq,cq];(refine W.fs (hokq) (by simp only[oC,go_sem];rfl) ?_;simp only[ak];try exact V.wk.rfl _)
    all_goals (all_goals exact au)
theorem Xl(w0:World)(n:Nat):n<=100000->∀t,cg n t->ax t+4097*n<=1000000000->∀o q,ei n t o q->∀(fp:Nat) (σ:H),σ[fp]?=some (.cells [I (n:Int)])->DC prog w0 130 [t.v,.ptr fp 0] σ (Same (cw o) (σ.set fp (.cells [I (q:Int)]))):=by
 induction n using nO with
 |ind n ihn=>
  intro hn;have key:∀(N:Nat) (t:aa),ax t<N->cg n t->ax t+4097*n<=1000000000->∀o q,ei n t o q->∀(fp:Nat) (σ:H),σ[fp]?=some (.cells [I (n:Int)])->DC prog w0 130 [t.v,.ptr fp 0] σ (Same (cw o) (σ.set fp (.cells [I (q:Int)]))):=by
   intro N;induction N with
   |zero=>intro t h;omega
   |succ N ihN=>
    intro t hN hi hnd o q h fp σ hf;refine Xk w0 n hn t hi hnd (fun n' b hc hb hbn o2 q2 h2 fp2 σ2 hf2=>?_) h fp σ hf;by_cases hlt:n'<n
    ·exact ihn n' hlt (by omega) b hb hbn o2 q2 h2 fp2 σ2 hf2
    ·rcases hc with hc|⟨e,hc⟩
     ·exact absurd hc hlt
     ·subst e;exact ihN b (by omega) hb hbn o2 q2 h2 fp2 σ2 hf2
  intro t hi hnd;exact key (ax t+1) t (by omega) hi hnd
end Go.Proofs.YtdlkenpilhakfaaGreatDoor
namespace Go.Proofs.YtdlkenpilhakfaaGreatDoor
open Go Go.RowKit Go.Lamb
def jf(t:aa):aa:=cv (t.l.headD .none) ((t.l.take (t.l.length-1)).drop 1)
def ie(t:aa):aa:=t.l.getD (t.l.length-1) .none
def ig(t:aa):Option aa:=if t.k=6/\(ie t).k=3/\(ie t).n=0 then(if cu 0 (jf t)=0 then some (nC 0 (-1) (jf t))else none)else none
def MP:List aa->aa
 |[]=>.none
 |b::_=>(ig b).getD (bI b)
def Er:List aa->aa
 |[]=>.none
 |x::r=>cv x r
mutual
def bQ:aa->aa
 | .mk k s n l=>if k=5 then MP (sA l)else if k=6 then Er (sA l)else .mk k s n l
def sA:List aa->List aa
 |[]=>[]
 |x::l=>bQ x::sA l
end
theorem MQ:∀l:List aa,sA l=l.map bQ
 |[]=>by rw[sA];rfl
 |x::l=>by rw[sA,MQ l];rfl
theorem MR(t:aa):bQ t=if t.k=5 then MP (t.l.map bQ)else if t.k=6 then Er (t.l.map bQ)else t:=by
 cases t;rw[bQ,MQ];rfl
theorem Es{i:Int}:∀{l:List aa},cQ i l=0->∀u∈l,cu i u=0
 |[],_,u,hu=>by cases hu
 |x::l,h,u,hu=>by
  rw[cQ]at h;rcases cD.1 hu with rfl|hu
  ·omega
  ·exact Es (l:=l) (by omega) u hu
theorem Xm{M:Int}(hM:1<=M)(t:aa):∀k:Int,0<=k->ba t=true->bM M t=true->cu k t=0->ba (bN (cB 0 (-1)) k t)=true/\bM M (bN (cB 0 (-1)) k t)=true:=by
 refine aa.ind (P:=fun t=>∀k:Int,0<=k->ba t=true->bM M t=true->cu k t=0->ba (bN (cB 0 (-1)) k t)=true/\bM M (bN (cB 0 (-1)) k t)=true) (fun t ih k hk hv hn ho=>?_) t;rw[zi]at ho;by_cases h5:t.k=5
 ·rw[DO hv h5];obtain⟨_,_,b,hl⟩:=pZ hv h5;rw[if_neg (by omega),if_pos h5,hl]at ho;have hb:b∈t.l:=by rw[hl];simp
  obtain⟨a1,a2⟩:=ih b hb (k+1) (by omega) (gi hv b hb) (iJ hn b hb) (Es ho b (by simp));rw[hl];exact⟨rN a1,gZ (.inr (by rw[aV];omega)) (fun u hu=>by simp[aL]at hu;rw[hu];exact a2)⟩
 ·by_cases h6:t.k=6
  ·rw[DN hv h6];rw[if_neg (by omega),if_neg h5]at ho;have hz:=Es ho;obtain⟨_,_,a,b,l,hl,ha⟩:=iK hv h6;have hq:∀u∈t.l,ba (bN (cB 0 (-1)) k u)=true/\bM M (bN (cB 0 (-1)) k u)=true:=fun u hu=>ih u hu k hk (gi hv u hu) (iJ hn u hu) (hz u hu);rw[hl]at hq⊢;have h1:=hq a (bp ..);have h2:∀u∈(b::l).map (bN (cB 0 (-1)) k),ba u=true/\bM M u=true:=fun u hu=>by
    obtain⟨x,hx,rfl⟩:=dK.1 hu;exact hq x (bW _ hx)
   exact⟨uy h1.1 (fun u hu=>(h2 u hu).1),rP (by omega) h1.2 (fun u hu=>(h2 u hu).2)⟩
  ·rw[DP h5 h6];have hl:=ux hv h5 h6;unfold cB;split
   ·rename_i h;obtain⟨e1,e2,e3,e4⟩:=DQ hv h.1;have hne:t.n≠k:=fun e=>by rw[if_pos ⟨h.1,e⟩]at ho;cases ho
    have hnn:=pY hn (by omega);refine⟨uw ?_ (fun x hx=>by rw[aL,hl]at hx;cases hx),gZ (.inr (by rw[aV];omega)) (fun x hx=>by rw[aL,hl]at hx;cases hx)⟩;simp[dP,aY,aV,aL,a7,h.1,e1,e2];omega
   ·exact⟨hv,hn⟩
theorem MS{f:aa->aa}:∀(l:List aa),(∀u∈l,ax (f u)<=ax u)->bg (l.map f)<=bg l
 |[],_=>aA _
 |x::l,h=>by
  have h1:=h x (bp ..);have h2:=MS l (fun u hu=>h u (bW _ hu));rw[cE,bg,bg];omega
theorem MT{M:Int}(hM:0<=M){t:aa}(h6:t.k=6)(hv:ba t=true)(hn:bM M t=true):ba (jf t)=true/\bM M (jf t)=true/\ax (jf t)<=ax t/\(t.l.headD .none).l.length+((t.l.take (t.l.length-1)).drop 1).length<=2*ax t:=by
 obtain⟨_,_,a,b,l,hl,ha⟩:=iK hv h6;have hvk:=gi hv;have hnk:=iJ hn;have hsub:∀u∈(t.l.take (t.l.length-1)).drop 1,u∈t.l:=fun u hu=>List.mem_of_mem_take (List.mem_of_mem_drop hu);have hd:t.l.headD .none=a:=by rw[hl];rfl
 have ham:a∈t.l:=by rw[hl];simp
 unfold jf;rw[hd];have hnd:=DY a ((t.l.take (t.l.length-1)).drop 1);have hle:bg ((t.l.take (t.l.length-1)).drop 1)+ax a<=bg t.l:=by
  have h1:=sq ((t.l.take (t.l.length-1)).take 1) ((t.l.take (t.l.length-1)).drop 1);rw[List.take_append_drop]at h1;have h2:=DT t.l (t.l.length-1);have h3:(t.l.take (t.l.length-1)).take 1=[a]:=by grind
  rw[h3,bg,bg]at h1;omega
 have hk1:=kD a;have hk2:=vx ((t.l.take (t.l.length-1)).drop 1);have hte:=eO t;exact⟨uy (hvk a ham) (fun u hu=>hvk u (hsub u hu)),rP hM (hnk a ham) (fun u hu=>hnk u (hsub u hu)),by omega,by omega⟩
theorem Xn{M:Int}(hM:1<=M){t u:aa}(hv:ba t=true)(hn:bM M t=true)(h:ig t=some u):ba u=true/\bM M u=true/\ax u<=ax t:=by
 unfold ig at h;split at h
 ·rename_i hc;split at h
  ·rename_i ho;injection h with h;subst h;obtain⟨r1,r2,r3,_⟩:=MT (by omega) hc.1 hv hn;obtain⟨s1,s2⟩:=Xm hM (jf t) 0 (eG _) r1 r2 ho;have s3:=DX 0 (-1) (jf t) 0;exact⟨s1,s2,bB s3 r3⟩
  ·cases h
 ·cases h
theorem Et{M:Int}(hM:1<=M)(t:aa):ba t=true->bM M t=true->ba (bQ t)=true/\bM M (bQ t)=true/\ax (bQ t)<=ax t:=by
 refine aa.ind (P:=fun t=>ba t=true->bM M t=true->ba (bQ t)=true/\bM M (bQ t)=true/\ax (bQ t)<=ax t) (fun t ih hv hn=>?_) t;rw[MR];have hq:∀u∈t.l,ba (bQ u)=true/\bM M (bQ u)=true/\ax (bQ u)<=ax u:=fun u hu=>ih u hu (gi hv u hu) (iJ hn u hu);by_cases h5:t.k=5
 ·rw[if_pos h5];obtain⟨b,rfl⟩:=su hv h5;obtain⟨q1,q2,q3⟩:=hq b (by unfold bI;simp[aL]);show ba ((ig (bQ b)).getD (bI (bQ b)))=true/\bM M ((ig (bQ b)).getD (bI (bQ b)))=true/\ax ((ig (bQ b)).getD (bI (bQ b)))<=ax (bI b);have hln:=kB b;have hln2:=kB (bQ b);cases hd:ig (bQ b)with
  |none=>
   exact⟨rN q1,gZ (.inr (by unfold bI;rw[qD,aV];omega)) (fun u hu=>by unfold bI at hu;simp[aL]at hu;rw[hu];exact q2),by rw[qD];omega⟩
  |some u=>
   obtain⟨d1,d2,d3⟩:=Xn hM q1 q2 hd;exact⟨d1,d2,by rw[Option.getD_some];omega⟩
 ·rw[if_neg h5];by_cases h6:t.k=6
  ·rw[if_pos h6];obtain⟨_,_,a,b,l,hl,ha⟩:=iK hv h6;have hms:=MS t.l (fun u hu=>(hq u hu).2.2);have hte:=eO t;rw[hl]at hq hms⊢;show ba (cv (bQ a) ((b::l).map bQ))=true/\bM M (cv (bQ a) ((b::l).map bQ))=true/\ax (cv (bQ a) ((b::l).map bQ))<=_;have h2:∀u∈(b::l).map bQ,ba u=true/\bM M u=true:=fun u hu=>by
    obtain⟨x,hx,rfl⟩:=dK.1 hu;have:=hq x (bW _ hx);exact⟨this.1,this.2.1⟩
   have h1:=hq a (bp ..);have hnd:=DY (bQ a) ((b::l).map bQ);rw[cE,bg]at hms;refine⟨uy h1.1 (fun u hu=>(h2 u hu).1),rP (by omega) h1.2.1 (fun u hu=>(h2 u hu).2),?_⟩;rw[hl]at hte;omega
  ·grind
end Go.Proofs.YtdlkenpilhakfaaGreatDoor
namespace Go.Proofs.YtdlkenpilhakfaaGreatDoor
open Go.RowKit Go.Lamb
def oO:Option aa->V
 |some u=>.av [u.v,B true]
 |none=>.av [aa.none.v,B false]
def lA(q:Nat):Option aa->V
 |some u=>.av [u.v,I (q:Int),I 0]
 |none=>.av [aa.none.v,I 0,I 80]
attribute [local go_sem] aa.v aa.aM aY a7 aV aL aT
theorem Xo(w0:World)(t:aa)(hv:ba t=true)(hn:ax t<=1000000000000)(σ:H):DC prog w0 232 [t.v,I 0] σ (Same (I (cu 0 t:Nat)) σ):=by
 refine Mb.go rfl (fun hok hsz=>?_);have hV:=fun σ=>yx w0 t σ;rw[hv]at hV;have ho:=fun σ=>MK w0 t hn 0 (by omega) σ;have e0:((0:Nat):Int)=0:=rfl;rw[e0]at ho;(refine W.a ?_;simp only[go_sem,c232]);(refine W.c1 (hV _) ?_;simp only[go_sem]);(refine W.a ?_;simp only[go_sem]);refine W.no rfl (W.a ?_);simp only[go_sem];(refine W.c1 (ho _) ?_;simp only[go_sem]);(refine W.a ?_;simp only[go_sem]);(refine W.fs (hok) (by simp only[DH,go_sem];rfl) ?_;simp only[ak];try exact V.wk.rfl _)
 all_goals (all_goals exact au)
theorem Xp(w0:World)(t:aa)(hv:ba t=true)(hn:ax t<=1000000000000)(σ:H):DC prog w0 186 [t.v,I 0] σ (Same (B (!(cu 0 t==0))) σ):=by
 refine Mc.go rfl (fun hok hsz=>?_);have hO:=fun σ=>Xo w0 t hv hn σ;have e:(decide (((cu 0 t:Nat):Int)>0))=(!(cu 0 t==0)):=by
  cases cu 0 t with
  |zero=>rfl
  |succ n=>
   have:(((n+1:Nat):Int)>0):=by omega
   simp
 rw[<-e];generalize cu 0 t=z at*
 (refine W.a ?_;simp only[go_sem,DI]);(refine W.c1 (hO _) ?_;simp only[go_sem]);(refine W.a ?_;simp only[go_sem]);(refine W.fs (hok) (by simp only[DJ,go_sem];rfl) ?_;simp only[ak];try exact V.wk.rfl _)
 all_goals (all_goals exact au)
theorem Xq(w0:World)(t:aa)(hv:ba t=true)(hnr:bM 2305843009213693952 t=true)(hn:ax t<=1000000000)(σ:H):DC prog w0 131 [t.v] σ (Same (oO (ig t)) σ):=by
 refine K4.go rfl (fun hok hsz=>?_);have hlen:=kD t;by_cases h6:t.k=6
 ·have k6:(t.k !=6)=false:=by simp[h6]
  obtain⟨r1,r2,r3,r4⟩:=MT (M:=2305843009213693952) (by omega) h6 hv hnr;obtain⟨_,_,a,b,l,hl,ha⟩:=iK hv h6;have hl0:t.l≠[]:=by rw[hl];simp
  have hll:2<=t.l.length:=by rw[hl];simp
  have hw:aW.wrap ((t.l.length:Int)-1)=((t.l.length-1:Nat):Int):=by rw[bD]<;>omega
  have hx:t.l[t.l.length-1]?=some (ie t):=by unfold ie;rw[List.getD_eq_getElem?_getD,aR (by omega)];rfl
  have g0:(0:Int)<=((t.l.length-1:Nat):Int):=by omega
  have g1:((t.l.length-1:Nat):Int)<(t.l.length:Int):=by omega
  have hx0:t.l[0]?=some (t.l.headD .none):=by rw[hl];rfl
  have g2:(0:Int)<(t.l.length:Int):=by omega
  by_cases hc:(ie t).k=3/\(ie t).n=0
  ·have q3:((ie t).k !=3)=false:=by simp[hc.1]
   have q0:((ie t).n !=0)=false:=by simp[hc.2]
   have hD:ig t=if cu 0 (jf t)=0 then some (nC 0 (-1) (jf t))else none:=by unfold ig;rw[if_pos ⟨h6,hc⟩]
   have hA:=fun σ=>uz w0 (t.l.headD .none) ((t.l.take (t.l.length-1)).drop 1) (by omega) σ;have hAr:cv (t.l.headD .none) ((t.l.take (t.l.length-1)).drop 1)=jf t:=rfl;rw[hAr]at hA;have hF:=fun σ=>Xp w0 (jf t) r1 (by omega) σ;have hS:=fun σ=>MU w0 (jf t) 0 (-1) (by decide) (by decide) (by decide) (by decide) r2 (by omega) σ;have g3:(1:Int)<=((t.l.length-1:Nat):Int):=by omega
   have g4:((t.l.length-1:Nat):Int)<=(t.l.length:Int):=by omega
   have hr4:(∀x,x∈il aa.cs t.l->x.length=4)=True:=eq_true (kz t.l);have hsl:dM (t.l.length-1-1) (fV 1 (il aa.cs t.l))=((t.l.take (t.l.length-1)).drop 1).map aa.cs:=by
    rw[List.map_drop,List.map_take,List.drop_take]
   rw[hD];generalize ie t=y at*;generalize jf t=r at*;generalize nC 0 (-1) r=z at*;generalize t.l.headD .none=x0 at*;clear hD hAr h6 hc hl;(refine W.a ?_;simp only[go_sem,c131,hw,k6,hx,g0,g1,q3,q0]);refine W.no rfl (W.a ?_);simp only[go_sem];apply W.aQ (aS _ _)
   case hc=>
    (apply ae.al;simp only[go_sem,hx0,g2,g0,g1,g3,g4,hr4,hsl]);(apply ae.pn (fun τ=>hA τ);(case hg=>rfl);(case hf=>rfl);(case ha=>first|rfl|simp));(apply ae.al;simp only[go_sem]);exact ae.nil
   (refine W.a ?_;simp only[go_sem]);(refine W.c1 (hF _) ?_;simp only[go_sem]);cases ho:(cu 0 r==0)
   ·rw[if_neg (by simpa using ho)];(refine W.a ?_;simp only[go_sem]);refine W.yes rfl (W.a ?_);simp only[go_sem,oO,aa.none];(refine W.fs (hok) (by simp only[p6,go_sem];rfl) ?_;simp only[ak];try exact V.wk.rfl _)
    all_goals (all_goals exact au)
   ·rw[if_pos (by simpa using ho)];(refine W.a ?_;simp only[go_sem]);refine W.no rfl (W.a ?_);simp only[go_sem];(refine W.c1 (hS _) ?_;simp only[go_sem]);(refine W.a ?_;simp only[go_sem,oO]);(refine W.fs (hok) (by simp only[p6,go_sem];rfl) ?_;simp only[ak];try exact V.wk.rfl _)
    all_goals (all_goals exact au)
  ·have hD:ig t=none:=by unfold ig;rw[if_neg (fun h=>hc h.2)]
   rw[hD];by_cases h3:(ie t).k=3
   ·have q3:((ie t).k !=3)=false:=by simp[h3]
    have q0:((ie t).n !=0)=true:=by
     have:(ie t).n≠0:=fun e=>hc ⟨h3,e⟩;simpa using this
    generalize ie t=y at*;clear h3 hc h6;(refine W.a ?_;simp only[go_sem,c131,hw,k6,hx,g0,g1,q3,q0]);refine W.yes rfl (W.a ?_);simp only[go_sem,oO,aa.none];(refine W.fs (hok) (by simp only[p6,go_sem];rfl) ?_;simp only[ak];try exact V.wk.rfl _)
    all_goals (all_goals exact au)
   ·have q3:((ie t).k !=3)=true:=by simp[h3]
    generalize ie t=y at*;clear h3 hc h6;(refine W.a ?_;simp only[go_sem,c131,hw,k6,hx,g0,g1,q3]);refine W.yes rfl (W.a ?_);simp only[go_sem,oO,aa.none];(refine W.fs (hok) (by simp only[p6,go_sem];rfl) ?_;simp only[ak];try exact V.wk.rfl _)
    all_goals (all_goals exact au)
 ·have k6:(t.k !=6)=true:=by simp[h6]
  have hD:ig t=none:=by unfold ig;rw[if_neg (fun h=>h6 h.1)]
  rw[hD];have hwx:∃z,aW.wrap ((t.l.length:Int)-1)=z:=⟨_,rfl⟩;obtain⟨z,hz⟩:=hwx;clear h6;(refine W.a ?_;simp only[go_sem,c131,k6,hz]);refine W.yes rfl (W.a ?_);simp only[go_sem,oO,aa.none];(refine W.fs (hok) (by simp only[p6,go_sem];rfl) ?_;simp only[ak];try exact V.wk.rfl _)
  all_goals (all_goals exact au)
end Go.Proofs.YtdlkenpilhakfaaGreatDoor
