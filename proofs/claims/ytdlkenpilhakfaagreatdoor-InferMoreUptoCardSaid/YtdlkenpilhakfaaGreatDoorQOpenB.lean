/- . -/
import Derived.Test.YtdlkenpilhakfaaGreatDoorQOpenM
import Derived.Test.YtdlkenpilhakfaaGreatDoorQTm3
set_option linter.unusedSimpArgs false
set_option linter.unusedVariables false
set_option maxHeartbeats 8000000
set_option maxRecDepth 20000
open Bool renaming and_eq_true->bz
open Go.DataW renaming trod->nR
open Go.Proofs.YtdlkenpilhakfaaGreatDoor.Rows renaming uptoBulk->sR,uptoBulkAll->qu
open Go.World renaming cells?_some->nS
open List renaming getD_eq_getElem?_getD->cc,getElem?_eq_getElem->aR,getElem?_map->qB,getElem?_range->Fv,getElem_map->dE,length_append->bt,map_cons->cE,mem_map->dK,mem_range->jW,range->dI,sum_cons->Fu
open Nat renaming zero_le->bx
open Option renaming getD_some->ir
namespace Go.Lamb
open Go Go.RowKit
mutual
def oQ:C->Nat
 | .sl r=>1+mJ r
 |_=>1
def eQ:List C->Nat
 |[]=>0
 |c::l=>oQ c+eQ l
def mJ:List (List C)->Nat
 |[]=>0
 |r::l=>eQ r+mJ l
end
theorem NW:∀(a b:List C),eQ (a++b)=eQ a+eQ b
 |[],b=>by rw[eQ];simp
 |x::l,b=>by rw[List.cons_append,eQ,eQ,NW l b];omega
theorem Zv(n:Nat)(f:Nat->List C)(g:Nat->Nat)(h:∀i,i<n->eQ (f i)<=g i):mJ ((dI n).map f)<=((dI n).map g).sum:=by
 have key:∀(l:List Nat),(∀i∈l,i<n)->mJ (l.map f)<=(l.map g).sum:=by
  intro l;induction l with
  |nil=>intro _;simp only[List.map_nil,mJ];exact bx _
  |cons x l ih=>
   intro hl;have h1:=h x (hl x (List.mem_cons_self ..));have h2:=ih (fun i hi=>hl i (List.mem_cons_of_mem _ hi));simp only[cE,mJ,Fu];omega
 exact key _ (fun i hi=>jW.1 hi)
structure zw {H:Type} (bk:DataW H->Nat):Prop where
 lit:∀l,1<=bk (.lit l)
 nil:1<=bk .nil
 slice:∀e s,(e.map bk).sum+1<=bk (.slice e s)
 agg:∀p,(p.map bk).sum<=bk (.agg p)
theorem NX{P:Program}{m:Mem}{n:Nat}{cs:List Value}:∀(l:List Field) (bs:List Nat) (o:Nat),lF P n l o=true->bs.length=l.length->
  (∀i (hi:i<l.length) (hb:i<bs.length),∃zs:List C,zs.length=P.cellsOf l[i].type/\cV P l[i].type zs/\(∀j (hj:j<zs.length),RC m zs[j] (cs.getD (l[i].offset+j) undef))/\eQ zs<=bs[i])->
  ∃zs:List C,zs.length=n-o/\(∀f∈l,cV P f.type ((zs.drop (f.offset-o)).take (P.cellsOf f.type)))/\(∀j (hj:j<zs.length),RC m zs[j] (cs.getD (o+j) undef))/\eQ zs<=bs.sum
 |[],bs,o,hs,_,_=>by
  simp only[lF,beq_iff_eq]at hs;exact⟨[],by simp;omega,fun f hf=>(by cases hf),fun j hj=>by simp at hj,by rw[eQ];exact bx _⟩
 |f::l,[],o,hs,hl,_=>by simp at hl
 |f::l,b::bs,o,hs,hl,h=>by
  have hs':=hs;simp only[lF,bz,beq_iff_eq]at hs;obtain⟨ho,hs⟩:=hs;obtain⟨p,p1,p2,p3,p4⟩:=h 0 (by simp) (by simp);simp only[List.getElem_cons_zero]at p1 p2 p3 p4;obtain⟨zs,z1,z2,z3,z4⟩:=NX l bs _ hs (by simpa using hl) (fun i hi hb=>by
   have h':=h (i+1) (by simpa using hi) (by simpa using hb);simp only[List.getElem_cons_succ]at h';exact h')
  obtain⟨q1,q2⟩:=vP hs;refine⟨p++zs,by rw[bt,z1,p1];omega,fun g hg=>?_,fun j hj=>?_,by rw[NW,Fu];omega⟩
  ·rcases List.mem_cons.1 hg with rfl|hg
   ·rw[ho,Nat.sub_self,List.drop_zero,<-p1,List.take_left];rw[ho]at*;exact p2
   ·have:=(q2 g hg).1;rw[List.drop_append,List.drop_of_length_le (by omega),List.nil_append];have e:g.offset-o-p.length=g.offset-(o+P.cellsOf f.type):=by omega
    rw[e];exact z2 g hg
  ·by_cases hjp:j<p.length
   ·rw[List.getElem_append_left hjp];have:=p3 j hjp;rwa [ho]at this
   ·rw[List.getElem_append_right (by omega)];have hj':j-p.length<zs.length:=by rw[bt]at hj;omega
    have:=z3 (j-p.length) hj';rwa [show o+P.cellsOf f.type+(j-p.length)=o+j by omega]at this
section
variable {H:Type} {enc:TypeId×Value->H} {P:Program} {w:World} {base:Nat} {spare:Nat->Bool} {held:Bool}
theorem EH{bk:DataW H->Nat}(hB:zw bk){T:TypeId->Bool}(hT:∀t,T t=true->kH P T t=true):∀(fuel:Nat) (t:TypeId) (cs:List Value) (x:DataW H×List MemPlace),T t=true->nR enc P w base spare held fuel t cs=some x->
  ∃zs:List C,zs.length=cs.length/\cV P t zs/\(∀j (hj:j<zs.length),RC (K.start w).m zs[j] (cs.getD j undef))/\eQ zs<=bk x.1
 |0,t,cs,x,_,h=>by simp[nR]at h
 |fuel+1,t,cs,x,ht,h=>by
  have hp:=hT t ht;unfold kH at hp;split at hp
  ·rename_i hu;obtain⟨b,rfl,rfl⟩:=DataW.trod_bool hu h;exact⟨[.bool b],rfl,.bool hu b,fun j hj=>by match j,hj with|0,_=>exact .bool b,by simp only[eQ,oQ];exact hB.lit _⟩
  ·rename_i k hu;obtain⟨n,rfl,rfl,hw⟩:=DataW.trod_int hu h;exact⟨[.int k n],rfl,.int hu n hw,fun j hj=>by match j,hj with|0,_=>exact .int k n,by simp only[eQ,oQ];exact hB.lit _⟩
  ·rename_i hu;obtain⟨s,rfl,rfl,hs⟩:=DataW.trod_string hu h;refine⟨[.str s.data.toList],rfl,.str hu _,fun j hj=>by
    match j,hj with
    |0,_=>
     have:=RC.str (m:=(K.start w).m) s.data.toList (by simpa using hs);rw[<-Bt]at this;exact this,by simp only[eQ,oQ];exact hB.lit _⟩
  ·rename_i e hu;simp only[bz,decide_eq_true_eq]at hp;obtain⟨hTe,he⟩:=hp;cases hx0:nR enc P w base spare held (fuel+1) t cs with
   |none=>rw[hx0]at h;cases h
   |some x'=>
   have hxx:x=x':=by rw[hx0]at h;injection h with h;exact h.symm
   subst hxx;rcases DataW.trod_slice hu hx0 with⟨rfl,rfl⟩|⟨a,len,cap,elems,rest,n,hn,rfl,rfl,hb,hl,hm,hlen,hel,_,_⟩
   ·exact⟨[.sl []],rfl,.sl hu [] (by simp),fun j hj=>by match j,hj with|0,_=>exact RC.nil _,by simp only[eQ,oQ,mJ];exact hB.nil⟩
   ·injection hn with hn;subst hn;have hrow:∀i,i<len->∃(zs:List C) (cs':List Value),zs.length=P.cellsOf e/\cV P e zs/\w.cells? base (a.add (i*P.cellsOf e)) (P.cellsOf e)=some cs'/\(∀j (hj:j<zs.length),RC (K.start w).m zs[j] (cs'.getD j undef))/\eQ zs<=((elems.map fun y=>bk y.1).getD i 0):=fun i hi=>by
     have h1:=hel i hi;rw[aR (by omega)]at h1;obtain⟨cs',h2,h3⟩:=Option.bind_eq_some_iff.1 h1;obtain⟨zs,z1,z2,z3,z4⟩:=EH hB hT fuel e cs' _ hTe h3;exact⟨zs,cs',by rw[z1];exact(nS h2).2.1,z2,h2,z3,by rw[cc,qB,aR (by omega)];exact z4⟩
    obtain⟨R,hR⟩:=Go.Deep.choose_lt (α:=List C×List Value) (p:=fun i r=>r.1.length=P.cellsOf e/\cV P e r.1/\w.cells? base (a.add (i*P.cellsOf e)) (P.cellsOf e)=some r.2/\(∀j (hj:j<r.1.length),RC (K.start w).m r.1[j] (r.2.getD j undef))/\eQ r.1<=((elems.map fun y=>bk y.1).getD i 0)) (fun i hi=>let ⟨zs,cs',h⟩:=hrow i hi;⟨(zs,cs'),h⟩);obtain⟨b,o,sp⟩:=a;have hsp:0<len->sp=none:=fun h0=>by
     have h1:=(nS (hR 0 h0).2.2.1).2;have h2:=h1.2 0 he;rw[aR (by rw[h1.1];exact he)]at h2;simp only[Nat.zero_mul,Addr.add,if_true]at h2;unfold World.cell? at h2;split at h2
     ·cases sp with
      |none=>rfl
      |some q=>simp at h2
     ·cases h2
    have hcell:∀i,i<len->∀j,j<P.cellsOf e->w.cell? ⟨b,o+(i*P.cellsOf e+j),none⟩=(R i).2[j]?:=fun i hi j hj=>by
     have h1:=(nS (hR i hi).2.2.1).2.2 j hj;have hs0:=hsp (by omega);subst hs0;rw[<-h1];congr 1;simp only[Addr.add]
     repeat' split
     all_goals simp_all
     all_goals omega
    refine⟨[.sl ((dI len).map fun i=>(R i).1)],rfl,.sl hu _ (fun r hr=>by
     obtain⟨i,hi,rfl⟩:=dK.1 hr;exact(hR i (jW.1 hi)).2.1),fun j hj=>by
     match j,hj with
     |0,_=>
      show RC _ (C.sl _) (Value.slice _ _ _);have hlr:((dI len).map fun i=>(R i).1).length=len:=by simp
      have key:=RC.sl (m:=(K.start w).m) ((dI len).map fun i=>(R i).1) (P.cellsOf e) (some ⟨b,o,sp⟩) cap ((dI (len*P.cellsOf e)).map fun k=>(w.cell? ⟨b,o+k,none⟩).getD undef)
       (fun r hr=>by
         obtain⟨i,hi,rfl⟩:=dK.1 hr;exact(hR i (jW.1 hi)).1)
       (by rw[hlr];exact hl) hm (by simp)
       (fun hne=>?_) (fun i hi j hj=>?_)
      ·rw[hlr]at key;exact key
      ·have h0:0<len:=by
        rcases Nat.eq_zero_or_pos len with h0|h0
        ·subst h0;exact absurd rfl hne
        ·exact h0
       refine⟨b,o,by rw[hsp h0],fun k hk=>?_⟩;have hk':k<len*P.cellsOf e:=by simpa using hk
       rw[qB,Fv hk'];have hi:k/P.cellsOf e<len:=Nat.div_lt_of_lt_mul (by rw[Nat.mul_comm];exact hk');have hj:=Nat.mod_lt k he;have h1:=hcell _ hi _ hj;rw[Nat.mul_comm,Nat.div_add_mod]at h1;rw[aR (by rw[(nS (hR _ hi).2.2.1).2.1];exact hj)]at h1;show w.cell? ⟨b,o+k,none⟩=some ((w.cell? ⟨b,o+k,none⟩).getD undef);rw[h1];rfl
      ·have hi':i<len:=by simpa using hi
       have hge:((dI len).map fun i=>(R i).1)[i]=(R i).1:=by simp
       simp only[hge]at hj⊢;have hj':j<P.cellsOf e:=by rw[(hR i hi').1]at hj;exact hj
       have h1:=(hR i hi').2.2.2.1 j hj;have h2:=hcell i hi' j hj';have hlt:i*P.cellsOf e+j<len*P.cellsOf e:=by
        have:(i+1)*P.cellsOf e<=len*P.cellsOf e:=Nat.mul_le_mul_right _ hi';rw[Nat.succ_mul]at this;omega
       have hcl:=(nS (hR i hi').2.2.1).2.1;have e1:((dI (len*P.cellsOf e)).map fun k=>(w.cell? ⟨b,o+k,none⟩).getD undef).getD (i*P.cellsOf e+j) undef=(R i).2.getD j undef:=by
        rw[cc,qB,Fv hlt];simp only[Option.map_some,ir];rw[h2,cc]
       rw[e1];exact h1,?_⟩
    have h1:=Zv len (fun i=>(R i).1) (fun i=>(elems.map fun y=>bk y.1).getD i 0) (fun i hi=>(hR i hi).2.2.2.2);have h2:(dI len).map (fun i=>(elems.map fun y=>bk y.1).getD i 0)=elems.map fun y=>bk y.1:=by
     apply List.ext_getElem
     ·simp[hlen]
     ·intro i h3 h4;simp only[dE,List.getElem_range];rw[cc,aR h4,ir,dE]
    rw[h2]at h1;have h3:=hB.slice (elems.map (·.1)) (rest.map (·.1));rw[List.map_map]at h3;simp only[eQ,oQ];have h4:(elems.map fun y=>bk y.1)=elems.map (bk∘fun x=>x.1):=rfl;rw[h4]at h1;show 1+mJ _+0<=bk _;omega
  ·rename_i fs hu;simp only[bz,List.all_eq_true]at hp;obtain⟨hTf,hseq⟩:=hp;cases hx0:nR enc P w base spare held (fuel+1) t cs with
   |none=>rw[hx0]at h;cases h
   |some x'=>
   have hxx:x=x':=by rw[hx0]at h;injection h with h;exact h.symm
   subst hxx;obtain⟨xs,n,hn,rfl,hl,hlen,hf⟩:=DataW.trod_struct hu hx0;injection hn with hn;subst hn;obtain⟨zs,z1,z2,z3,z4⟩:=NX (m:=(K.start w).m) (cs:=cs) fs.toList (xs.map fun y=>bk y.1) 0 hseq (by simp[hlen]) (fun i hi hb=>by
    have hf':=List.getElem_mem hi;have hi':i<fs.size:=by simpa using hi
    have h1:=hf i fs[i] (by simp[hi']);rw[aR (by omega)]at h1;obtain⟨zs,z1,z2,z3,z4⟩:=EH hB hT fuel _ _ _ (hTf _ hf') h1;have hin:=(vP hseq).2 _ hf';simp only[Array.getElem_toList]at hin⊢;have hlt:((cs.drop fs[i].offset).take (P.cellsOf fs[i].type)).length=P.cellsOf fs[i].type:=by
     rw[List.length_take,List.length_drop];omega
    refine⟨zs,by rw[z1,hlt],z2,fun j hj=>?_,by rw[dE];exact z4⟩;have:=z3 j hj;have hjl:j<P.cellsOf fs[i].type:=by rw[z1,hlt]at hj;exact hj
    rw[cc,List.getElem?_take,if_pos hjl,List.getElem?_drop]at this;rwa [cc])
   refine⟨zs,by rw[z1,hl,Nat.sub_zero],.struct hu zs (by rw[z1,Nat.sub_zero]) (fun f hf=>by simpa using z2 f hf),fun j hj=>?_,?_⟩
   ·have:=z3 j hj;rwa [Nat.zero_add]at this
   ·have h3:=hB.agg (xs.map (·.1));rw[List.map_map]at h3;exact Nat.le_trans z4 h3
  ·cases hp
end
end Go.Lamb
namespace Go.Proofs.YtdlkenpilhakfaaGreatDoor
open Go.ChangeShapes Go.WideShapes Go.ChangeAt Go.RowKit Go.Lamb
section
variable {H:Type} {enc:TypeId×Value->H} {w:World} {base:Nat} {spare:Nat->Bool} {held:Bool} {v:Value} {d:DataW H} {ps:List MemPlace} {r:Reach} {b0:Nat}
end
theorem Ox{H:Type}:zw (H:=H) sR where
 lit:=fun l=>by cases l<;>simp[sR]
 nil:=by simp[sR]
 slice:=fun e s=>by
  have h:∀l:List (DataW H),(l.map sR).sum=qu l:=fun l=>by
   induction l with
   |nil=>simp[qu]
   |cons x l ih=>rw[cE,Fu,ih,qu]
  rw[h];simp only[sR];omega
 agg:=fun p=>by
  have h:∀l:List (DataW H),(l.map sR).sum=qu l:=fun l=>by
   induction l with
   |nil=>simp[qu]
   |cons x l ih=>rw[cE,Fu,ih,qu]
  rw[h];simp only[sR];omega
end Go.Proofs.YtdlkenpilhakfaaGreatDoor
