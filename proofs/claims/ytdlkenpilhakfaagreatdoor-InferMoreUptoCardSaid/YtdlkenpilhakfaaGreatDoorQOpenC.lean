/- . -/
import Derived.Test.YtdlkenpilhakfaaGreatDoorQJ14
import Derived.Deep.Slices
import Derived.WideShapes
import Derived.ChangeArms
import Derived.Carry
set_option linter.unusedSimpArgs false
set_option linter.unusedVariables false
set_option maxHeartbeats 8000000
set_option maxRecDepth 20000
open Bool renaming and_eq_true->bz
open Go.DataW renaming trod->nR
open Go.World renaming cells?_some->nS
open List renaming getD_eq_getElem?_getD->cc,getElem?_eq_getElem->aR,getElem?_map->qB,getElem?_range->Fv,length_append->bt,mem_cons->cD,mem_map->dK,mem_range->jW,range->dI
namespace Go.Lamb
open Go Go.RowKit
def lF(P:Program)(n:Nat):List Field->Nat->Bool
 |[],o=>o==n
 |f::l,o=>f.offset==o&&lF P n l (o+P.cellsOf f.type)
def kH(P:Program)(T:TypeId->Bool)(t:TypeId):Bool:=match P.underlying t with
 |some .bool|some (.int _)|some .string=>true
 |some (.slice e)=>T e&&decide (0<P.cellsOf e)
 |some (.struct fs)=>fs.toList.all (fun f=>T f.type)&&lF P (P.cellsOf t) fs.toList 0
 |_=>false
inductive cV (P:Program):TypeId->List C->Prop where
 |bool {t:TypeId} (ht:P.underlying t=some .bool) (b:Bool):cV P t [.bool b]
 |int {t:TypeId} {k:IntKind} (ht:P.underlying t=some (.int k)) (n:Int) (hw:(Lit.int k n).wf=true):cV P t [.int k n]
 |str {t:TypeId} (ht:P.underlying t=some .string) (l:List UInt8):cV P t [.str l]
 |sl {t e:TypeId} (ht:P.underlying t=some (.slice e)) (rows:List (List C)) (h:∀r∈rows,cV P e r):cV P t [.sl rows]
 |struct {t:TypeId} {fs:Array Field} (ht:P.underlying t=some (.struct fs)) (zs:List C) (hl:zs.length=P.cellsOf t) (h:∀f∈fs.toList,cV P f.type ((zs.drop f.offset).take (P.cellsOf f.type))):cV P t zs
theorem vP{P:Program}{n:Nat}:∀{l:List Field} {o:Nat},lF P n l o=true->o<=n/\∀f∈l,o<=f.offset/\f.offset+P.cellsOf f.type<=n
 |[],o,h=>by simp only[lF,beq_iff_eq]at h;exact⟨by omega,fun f hf=>by cases hf⟩
 |f::l,o,h=>by
  simp only[lF,bz,beq_iff_eq]at h;obtain⟨h1,h2⟩:=vP h.2;refine⟨by omega,fun g hg=>?_⟩;rcases cD.1 hg with rfl|hg
  ·omega
  ·have:=h2 g hg;omega
theorem pieces{P:Program}{m:Mem}{n:Nat}{cs:List Value}:∀(l:List Field) (o:Nat),lF P n l o=true->
  (∀f∈l,∃zs:List C,zs.length=P.cellsOf f.type/\cV P f.type zs/\∀j (hj:j<zs.length),RC m zs[j] (cs.getD (f.offset+j) undef))->
  ∃zs:List C,zs.length=n-o/\(∀f∈l,cV P f.type ((zs.drop (f.offset-o)).take (P.cellsOf f.type)))/\∀j (hj:j<zs.length),RC m zs[j] (cs.getD (o+j) undef)
 |[],o,hs,_=>by
  simp only[lF,beq_iff_eq]at hs;exact⟨[],by simp;omega,fun f hf=>(by cases hf),fun j hj=>by simp at hj⟩
 |f::l,o,hs,h=>by
  have hs':=hs;simp only[lF,bz,beq_iff_eq]at hs;obtain⟨ho,hs⟩:=hs;obtain⟨p,p1,p2,p3⟩:=h f (List.mem_cons_self ..);obtain⟨zs,z1,z2,z3⟩:=pieces l _ hs (fun g hg=>h g (List.mem_cons_of_mem _ hg));obtain⟨q1,q2⟩:=vP hs;refine⟨p++zs,by rw[bt,z1,p1];omega,fun g hg=>?_,fun j hj=>?_⟩
  ·rcases cD.1 hg with rfl|hg
   ·rw[ho,Nat.sub_self,List.drop_zero,<-p1,List.take_left];rw[ho]at*;exact p2
   ·have:=(q2 g hg).1;rw[List.drop_append,List.drop_of_length_le (by omega),List.nil_append];have e:g.offset-o-p.length=g.offset-(o+P.cellsOf f.type):=by omega
    rw[e];exact z2 g hg
  ·by_cases hjp:j<p.length
   ·rw[List.getElem_append_left hjp];have:=p3 j hjp;rwa [ho]at this
   ·rw[List.getElem_append_right (by omega)];have hj':j-p.length<zs.length:=by rw[bt]at hj;omega
    have:=z3 (j-p.length) hj';rwa [show o+P.cellsOf f.type+(j-p.length)=o+j by omega]at this
section
variable {H:Type} {enc:TypeId×Value->H} {P:Program} {w:World} {base:Nat} {spare:Nat->Bool} {held:Bool}
theorem EV{T:TypeId->Bool}(hT:∀t,T t=true->kH P T t=true):∀(fuel:Nat) (t:TypeId) (cs:List Value) (x:DataW H×List MemPlace),T t=true->nR enc P w base spare held fuel t cs=some x->
  ∃zs:List C,zs.length=cs.length/\cV P t zs/\∀j (hj:j<zs.length),RC (K.start w).m zs[j] (cs.getD j undef)
 |0,t,cs,x,_,h=>by simp[nR]at h
 |fuel+1,t,cs,x,ht,h=>by
  have hp:=hT t ht;unfold kH at hp;split at hp
  ·rename_i hu;obtain⟨b,rfl,rfl⟩:=DataW.trod_bool hu h;exact⟨[.bool b],rfl,.bool hu b,fun j hj=>by match j,hj with|0,_=>exact .bool b⟩
  ·rename_i k hu;obtain⟨n,rfl,rfl,hw⟩:=DataW.trod_int hu h;exact⟨[.int k n],rfl,.int hu n hw,fun j hj=>by match j,hj with|0,_=>exact .int k n⟩
  ·rename_i hu;obtain⟨s,rfl,rfl,hs⟩:=DataW.trod_string hu h;refine⟨[.str s.data.toList],rfl,.str hu _,fun j hj=>by
    match j,hj with
    |0,_=>
     have:=RC.str (m:=(K.start w).m) s.data.toList (by simpa using hs);rw[<-Bt]at this;exact this⟩
  ·rename_i e hu;simp only[bz,decide_eq_true_eq]at hp;obtain⟨hTe,he⟩:=hp;cases hx0:nR enc P w base spare held (fuel+1) t cs with
   |none=>rw[hx0]at h;cases h
   |some x'=>
   rcases DataW.trod_slice hu hx0 with⟨rfl,_⟩|⟨a,len,cap,elems,rest,n,hn,rfl,_,hb,hl,hm,hlen,hel,_,_⟩
   ·exact⟨[.sl []],rfl,.sl hu [] (by simp),fun j hj=>by match j,hj with|0,_=>exact RC.nil _⟩
   ·injection hn with hn;subst hn;have hrow:∀i,i<len->∃(zs:List C) (cs':List Value),zs.length=P.cellsOf e/\cV P e zs/\w.cells? base (a.add (i*P.cellsOf e)) (P.cellsOf e)=some cs'/\∀j (hj:j<zs.length),RC (K.start w).m zs[j] (cs'.getD j undef):=fun i hi=>by
     have h1:=hel i hi;rw[aR (by omega)]at h1;obtain⟨cs',h2,h3⟩:=Option.bind_eq_some_iff.1 h1;obtain⟨zs,z1,z2,z3⟩:=EV hT fuel e cs' _ hTe h3;exact⟨zs,cs',by rw[z1];exact(nS h2).2.1,z2,h2,z3⟩
    obtain⟨R,hR⟩:=Go.Deep.choose_lt (α:=List C×List Value) (p:=fun i r=>r.1.length=P.cellsOf e/\cV P e r.1/\w.cells? base (a.add (i*P.cellsOf e)) (P.cellsOf e)=some r.2/\∀j (hj:j<r.1.length),RC (K.start w).m r.1[j] (r.2.getD j undef)) (fun i hi=>let ⟨zs,cs',h⟩:=hrow i hi;⟨(zs,cs'),h⟩);obtain⟨b,o,sp⟩:=a;have hsp:0<len->sp=none:=fun h0=>by
     have h1:=(nS (hR 0 h0).2.2.1).2;have h2:=h1.2 0 he;rw[aR (by rw[h1.1];exact he)]at h2;simp only[Nat.zero_mul,Addr.add,if_true]at h2;unfold World.cell? at h2;split at h2
     ·cases sp with
      |none=>rfl
      |some q=>simp at h2
     ·cases h2
    have hcell:∀i,i<len->∀j,j<P.cellsOf e->w.cell? ⟨b,o+(i*P.cellsOf e+j),none⟩=(R i).2[j]?:=fun i hi j hj=>by
     have h1:=(nS (hR i hi).2.2.1).2.2 j hj;have hs0:=hsp (by omega);subst hs0;rw[<-h1];congr 1;simp only[Addr.add]
     repeat' split
     all_goals simp_all
     all_goals omega
    refine⟨[.sl ((dI len).map fun i=>(R i).1)],rfl,.sl hu _ (fun r hr=>by
     obtain⟨i,hi,rfl⟩:=dK.1 hr;exact(hR i (jW.1 hi)).2.1),fun j hj=>by
     match j,hj with
     |0,_=>
      show RC _ (C.sl _) (Value.slice _ _ _);have hlr:((dI len).map fun i=>(R i).1).length=len:=by simp
      have key:=RC.sl (m:=(K.start w).m) ((dI len).map fun i=>(R i).1) (P.cellsOf e) (some ⟨b,o,sp⟩) cap ((dI (len*P.cellsOf e)).map fun k=>(w.cell? ⟨b,o+k,none⟩).getD undef)
       (fun r hr=>by
         obtain⟨i,hi,rfl⟩:=dK.1 hr;exact(hR i (jW.1 hi)).1)
       (by rw[hlr];exact hl) hm (by simp)
       (fun hne=>?_) (fun i hi j hj=>?_)
      ·rw[hlr]at key;exact key
      ·have h0:0<len:=by
        rcases Nat.eq_zero_or_pos len with h0|h0
        ·subst h0;exact absurd rfl hne
        ·exact h0
       refine⟨b,o,by rw[hsp h0],fun k hk=>?_⟩;have hk':k<len*P.cellsOf e:=by simpa using hk
       rw[qB,Fv hk'];have hi:k/P.cellsOf e<len:=Nat.div_lt_of_lt_mul (by rw[Nat.mul_comm];exact hk');have hj:=Nat.mod_lt k he;have h1:=hcell _ hi _ hj;rw[Nat.mul_comm,Nat.div_add_mod]at h1;rw[aR (by rw[(nS (hR _ hi).2.2.1).2.1];exact hj)]at h1;show w.cell? ⟨b,o+k,none⟩=some ((w.cell? ⟨b,o+k,none⟩).getD undef);rw[h1];rfl
      ·have hi':i<len:=by simpa using hi
       have hge:((dI len).map fun i=>(R i).1)[i]=(R i).1:=by simp
       simp only[hge]at hj⊢;have hj':j<P.cellsOf e:=by rw[(hR i hi').1]at hj;exact hj
       have h1:=(hR i hi').2.2.2 j hj;have h2:=hcell i hi' j hj';have hlt:i*P.cellsOf e+j<len*P.cellsOf e:=by
        have:(i+1)*P.cellsOf e<=len*P.cellsOf e:=Nat.mul_le_mul_right _ hi';rw[Nat.succ_mul]at this;omega
       have hcl:=(nS (hR i hi').2.2.1).2.1;have e1:((dI (len*P.cellsOf e)).map fun k=>(w.cell? ⟨b,o+k,none⟩).getD undef).getD (i*P.cellsOf e+j) undef=(R i).2.getD j undef:=by
        rw[cc,qB,Fv hlt];simp only[Option.map_some,Option.getD_some];rw[h2,cc]
       rw[e1];exact h1⟩
  ·rename_i fs hu;simp only[bz,List.all_eq_true]at hp;obtain⟨hTf,hseq⟩:=hp;cases hx0:nR enc P w base spare held (fuel+1) t cs with
   |none=>rw[hx0]at h;cases h
   |some x'=>
   obtain⟨xs,n,hn,_,hl,hlen,hf⟩:=DataW.trod_struct hu hx0;injection hn with hn;subst hn;obtain⟨zs,z1,z2,z3⟩:=pieces (m:=(K.start w).m) (cs:=cs) fs.toList 0 hseq (fun f hf'=>by
    obtain⟨i,hi,rfl⟩:=List.getElem_of_mem hf';have hi':i<fs.size:=by simpa using hi
    have h1:=hf i fs[i] (by simp[hi']);rw[aR (by omega)]at h1;obtain⟨zs,z1,z2,z3⟩:=EV hT fuel _ _ _ (hTf _ hf') h1;have hin:=(vP hseq).2 _ hf';simp only[Array.getElem_toList]at hin⊢;have hlt:((cs.drop fs[i].offset).take (P.cellsOf fs[i].type)).length=P.cellsOf fs[i].type:=by
     rw[List.length_take,List.length_drop];omega
    refine⟨zs,by rw[z1,hlt],z2,fun j hj=>?_⟩;have:=z3 j hj;have hjl:j<P.cellsOf fs[i].type:=by rw[z1,hlt]at hj;exact hj
    rw[cc,List.getElem?_take,if_pos hjl,List.getElem?_drop]at this;rwa [cc])
   refine⟨zs,by rw[z1,hl,Nat.sub_zero],.struct hu zs (by rw[z1,Nat.sub_zero]) (fun f hf=>by simpa using z2 f hf),fun j hj=>?_⟩;have:=z3 j hj;rwa [Nat.zero_add]at this
  ·cases hp
theorem NV{T:TypeId->Bool}(hT:∀t,T t=true->kH P T t=true){t:TypeId}{xs:Array Value}{d:DataW H}{ps:List MemPlace}(ht:T t=true)(h:DataW.Trod enc P w base spare held t (.agg xs) d ps):∃zs:List C,cV P t zs/\RV (K.start w) (.agg (zs.map .c)) (.agg xs):=by
 obtain⟨fuel,h⟩:=h;obtain⟨zs,z1,z2,z3⟩:=EV hT fuel t _ _ ht h;have e:(Value.agg xs).cells.toList=xs.toList:=rfl;rw[e]at z1 z3;refine⟨zs,z2,?_⟩;have:=RV.agg (κ:=K.start w) (vs:=zs.map .c) (xs:=xs.toList) (by simp[z1]) (fun j hj=>by
  rw[List.getElem_map];exact .c (z3 j (by simpa using hj)))
 simpa using this
end
end Go.Lamb
