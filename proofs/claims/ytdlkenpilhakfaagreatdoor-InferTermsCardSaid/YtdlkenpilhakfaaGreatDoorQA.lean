/- . -/
import Derived.Laws.Rows
import Derived.WalkSpells
import Derived.Lib.Hide
import Derived.RangeFuncOwn
import Derived.Deep.LoopGhost
set_option linter.unusedSimpArgs false
set_option linter.unusedVariables false
set_option maxHeartbeats 8000000
set_option maxRecDepth 20000
set_option linter.defProp false
set_option linter.unnecessarySimpa false
set_option linter.constructorNameAsVariable false
open Array renaming getD->nB,getD_eq_getD_getElem?->iV,getElem?_eq_some_iff->eu,ext'->oR,length_toList->Qy,replicate->ft
open Bool renaming false_eq_true->iW
open Go renaming heap_alloc_new->ma,run_underlying->cA
open Go.Builtin renaming len_->GB,append_->oW,firstCells->xi,lenOf->Qx,nextslicecap->aeb,zeroCells->rP
open Go.ByteArray renaming toList_eq->QH
open Go.Instr renaming loadAt->xf,slice->GG,sliceAt->GF,sliceBound->GC,sliceBounds->GD,sureAddr->tT,fill->rQ,findNow->xk,lookup->GH,mapUpdate->GK
open Go.MapKept renaming run_checkKey->GI,run_findKey->GJ,run_getObj_map->A8,run_setObj_map->aed
open Go.Op renaming equalIn->gW
open Go.Region renaming binds->gd,ready->eV
open Go.Result renaming andThen_ok->kL,andThen->me
open Go.RowKit.Below renaming refl->fJ
open Go.Sem renaming run_bind->jU,run_pure->kK
open Go.World renaming cell?_of_block->A6,setRow->A5
open List renaming all_eq_true->cW,getD->mb,getD_eq_getElem?_getD->cx,getElem?_append->aea,getElem?_drop->oO,getElem?_eq_getElem->aN,getElem?_eq_some_iff->aI,getElem?_take->nD,getElem_append_left->cM,getElem_append_right->dY,getElem_cons_zero->di,getElem_drop->GA,getElem_map->eI,getElem_mem->bg,getElem_of_mem->eH,getElem_set_ne->gb,getElem_set_self->gU,getElem_take->pY,length_map->bY,mem_of_mem_drop->Qw,mem_of_mem_take->Gz,all_cons->mg,append_assoc->dq,eq_nil_of_length_eq_zero->fM,flatten_cons->dS,getElem?_append_left->cr,getElem?_append_right->da,length_append->bC,length_cons->bG,length_pos_iff->iX,length_take->dE,map_cons->ck,mem_append->cJ,mem_cons->cD,nil_append->dK,range->ga,size_toArray->pZ,take_left->mh
open Nat renaming add_assoc->jV,add_mul->fK,add_zero->nC,le_refl->aA,le_succ->mc,le_trans->bf,lt_or_ge->eh,mul_le_mul_right->jT,sub_self->cw,zero_le->be,div_lt_iff_lt_mul->aec,zero_add->eJ
open Ne renaming symm->dz
open Option renaming map_some->fc
open Option.some renaming injEq->A9
open UInt8 renaming ofNat->tR
namespace Go.Lamb
open Go Go.RowKit
def eZ(v:Value)(w:World):Ending->World->Prop:=fun e w'=>e= .returned v/\w=w'
def adj(v:Value)(w:World):Ending->World->Prop:=fun e w'=>e= .returned v/\Below w.heap.size w w'
def eT{a b:Bool}{w:World}(h:a=b):eZ (.bool b) w (.returned (.bool a)) w:=⟨by rw[h],rfl⟩
def P4{k:IntKind}{a b:Int}{w:World}(h:a=b):eZ (.int k b) w (.returned (.int k a)) w:=⟨by rw[h],rfl⟩
def after{w W b:World}(h:Below w.heap.size w W)(c:Below W.heap.size W b):Below w.heap.size w b:=h.trans (c.mono h.size)
def bs(l:List UInt8):ByteArray:=⟨l.toArray⟩
@[go_sem] theorem xI (l:List UInt8):(bs l).size=l.length:=rfl
@[go_sem] theorem Qe (l:List UInt8):(bs l).data.toList=l:=rfl
@[go_sem] theorem BF (l:List UInt8):(bs l).toList=l:=by rw[QH];rfl
def xJ{s:ByteArray}{l:List UInt8}(h:s.data.toList=l):s=bs l:=by
 obtain⟨⟨d⟩⟩:=s;simp only at h;subst h;rfl
def adq(s:ByteArray):s=bs s.data.toList:=xJ rfl
@[go_sem] theorem Rp (l:List UInt8) (a b:Nat):(bs l).extract a b=bs ((l.drop a).take (b-a)):=by
  apply xJ;simp[bs,ByteArray.data_extract,List.take_drop]
@[go_sem] theorem Rr (a b:List UInt8):bs a++bs b=bs (a++b):=by
  apply xJ;simp[bs,ByteArray.data_append]
def adr{l:List UInt8}{k:Nat}(h:k<(bs l).size):k<l.length:=h
@[go_sem] theorem Rd (l:List UInt8) (k:Nat) (h:k<(bs l).size):(bs l)[k]=l[k]'(adr h):=rfl
def nn(c:UInt8):Bool:=decide (97<=c.toNat)&&decide (c.toNat<=122)
def wO(c:UInt8):Bool:=(decide (65<=c.toNat)&&decide (c.toNat<=90))||decide (c.toNat=95)
def np(c:UInt8):Bool:=decide (48<=c.toNat)&&decide (c.toNat<=57)
def lq:List UInt8:=[43,45,42,47,60,62,61,38,124,94,126,64,35,36,63,58]
def kB(c:UInt8):Bool:=lq.contains c
def kJ(c:UInt8):Bool:=nn c||wO c||np c||decide (c.toNat=39)
def fq(p:UInt8->Bool):List UInt8->Nat
 |[]=>0
 |c::l=>if p c then fq p l+1 else 0
def P0(s:ByteArray)(k:Nat)(h:k<s.size):s.data.toList.drop k=s[k]::s.data.toList.drop (k+1):=by
 have b:k<s.data.toList.length:=by simpa using h
 rw[List.drop_eq_getElem_cons b];rfl
def ada(s:ByteArray)(k:Nat)(h:s.size<=k):s.data.toList.drop k=[]:=by
 apply List.drop_of_length_le;simpa using h
def Gq(p:UInt8->Bool)(l:List UInt8):fq p l<=l.length:=by
 induction l with
 |nil=>simp[fq]
 |cons c l b=>simp only[fq];split<;>simp<;>omega
def iq(l:List UInt8):Bool:=decide (l≠[])&&decide (l.length<=32)
def pW(p:UInt8->Bool):List UInt8->Bool
 |[]=>false
 |c::_=>p c
def ie(l:List UInt8):Bool:=iq l&&pW nn l&&l.all kJ
def rN:List UInt8:=[44,59,33]
def ld(l:List UInt8):Bool:=iq l&&(l.all kB||(decide (l.length=1)&&pW rN.contains l))
def P5{s:ByteArray}(h:iq s.data.toList=true):0<s.size:=by
 simp[iq]at h;rcases Nat.eq_zero_or_pos s.size with h0|h0
 ·exact absurd (Array.eq_empty_of_size_eq_zero h0) h.1
 ·exact h0
def P6{s:ByteArray}(h:iq s.data.toList=true):s.size<=32:=by
 simp[iq]at h;exact h.2
def P7{p:UInt8->Bool}{s:ByteArray}(h:0<s.size):pW p s.data.toList=p s[0]:=by
 have:=P0 s 0 h;rw[List.drop_zero]at this;rw[this];rfl
def Qb(c:UInt8):Int:=if(c.toNat:Int)==40 then 5 else if(c.toNat:Int)==41 then 6 else if(c.toNat:Int)==46 then 7 else if(c.toNat:Int)==92 then 8 else 0
def ads(p:UInt8->Bool)(l:List UInt8):(fq p l=l.length)↔l.all p=true:=by
 induction l with
 |nil=>simp[fq]
 |cons c l b=>
  simp only[fq,List.all_cons,List.length_cons];by_cases h:p c=true
  ·simp[h,b]
  ·simp[h]
def P8(p:UInt8->Bool)(s:ByteArray):(((fq p s.data.toList:Nat):Int)==(s.size:Int))=s.data.toList.all p:=by
 have h:=ads p s.data.toList;rw[Bool.eq_iff_iff,<-h];simp only[Array.length_toList,beq_iff_eq];exact⟨fun x=>by have:s.data.size=s.size:=rfl;omega,fun x=>by have:s.data.size=s.size:=rfl;omega⟩
def adi{s:ByteArray}(h:s.size=1):s=⟨#[s[0]]⟩:=by
 obtain⟨⟨l⟩⟩:=s
 match l,h with
 |[c],_=>rfl

inductive C where
 |bool (b:Bool)
 |int (k:IntKind) (n:Int)
 |str (l:List UInt8)
 |sl (rows:List (List C))
 |eL
 |ref (cs:List C) (o:Nat)
 |jD
 |err
 deriving Inhabited
abbrev Mem:=Nat->Nat->Option Value
inductive RC (m:Mem):C->Value->Prop where
 |bool (b:Bool):RC m (.bool b) (.bool b)
 |int (k:IntKind) (n:Int):RC m (.int k n) (.int k n)
 |str (l:List UInt8) (h:l.length<=maxLen):RC m (.str l) (.string (bs l))
 |sl (rows:List (List C)) (s:Nat) (A:Option Addr) (cap:Nat) (xs:List Value) (h0:∀r∈rows,r.length=s) (h1:rows.length<=cap) (h2:cap<=maxLen)
   (h3:xs.length=rows.length*s) (h4:rows≠[]->∃b o,A=some ⟨b,o,none⟩/\∀k,k<xs.length->m b (o+k)=xs[k]?)
   (h5:∀i (hi:i<rows.length) j (hj:j<rows[i].length),RC m rows[i][j] (xs.getD (i*s+j) undef)):RC m (.sl rows) (.slice A rows.length cap)
 |eL:RC m .eL (.pointer none)
 |ref (cs:List C) (o b p:Nat) (xs:List Value) (h3:xs.length=cs.length) (h4:∀k,k<xs.length->m b (p+k)=xs[k]?)
   (h5:∀j (hj:j<cs.length),RC m cs[j] (xs.getD j undef)):RC m (.ref cs o) (.pointer (some ⟨b,p+o,none⟩))
 |jD:RC m .jD .nilIface
 |err (t:TypeId) (v:Value):RC m .err (.iface t v)
def Mem.le(m c:Mem):Prop:=∀b o v,m b o=some v->c b o=some v
def Mem.le_refl(m:Mem):m.le m:=fun _ _ _ h=>h
def Mem.le_trans{a b c:Mem}(h:a.le b)(k:b.le c):a.le c:=fun x y v e=>k x y v (h x y v e)
def Mem.GQ{m c:Mem}(h:m.le c){b o:Nat}{xs:List Value}(g:∀k,k<xs.length->m b (o+k)=xs[k]?):∀k,k<xs.length->c b (o+k)=xs[k]?:=by
 intro k e;have:=g k e;rw[aN e]at this⊢;exact h _ _ _ this
def RC.mono{m e:Mem}(h:m.le e){x:C}{v:Value}(r:RC m x v):RC e x v:=by
 induction r with
 |bool b=>exact .bool b
 |int k n=>exact .int k n
 |str l h=>exact .str l h
 |sl rows s A cap xs h0 h1 h2 h3 h4 h5 c=>
  exact .sl rows s A cap xs h0 h1 h2 h3 (fun hn=>let ⟨b,o,g,i⟩:=h4 hn;⟨b,o,g,Mem.GQ h i⟩) c
 |eL=>exact .eL
 |ref cs o b p xs h3 h4 h5 c=>exact .ref cs o b p xs h3 (Mem.GQ h h4) c
 |jD=>exact .jD
 |err t v=>exact .err t v
def RC.one{m:Mem}{x:C}{v:Value}(r:RC m x v):v.oneCell'=true:=by cases r<;>rfl
def RC.nil(m:Mem):RC m (.sl []) (.slice none 0 0):=
 .sl [] 0 none 0 [] (by simp) (aA _) (be _) (by simp) (by simp) (by simp)
structure K where
 m:Mem
 n:Nat
 pos:Nat->Nat
 fr:Nat->Option Nat
 sv:Nat->Value
 sz:Nat->Nat
 rest:Nat->Option Obj:=fun _=>none
 dG:Nat:=0
inductive V where
 |void
 |any
 |c (x:C)
 |ptr (b o:Nat)
 |aC (b:Nat) (rows:List (List C))
 |ae (rows:List (List C))
 |fn (f:FuncId) (caps:List V)
 |cu
 |mp (b:Nat)
 |cN
 |vec (b k:Nat)
 |agg (vs:List V)
 |au (vs:List V)
 deriving Inhabited
inductive RV (κ:K):V->Value->Prop where
 |void:RV κ .void undef
 |any (v:Value):RV κ .any v
 |c {x:C} {v:Value} (h:RC κ.m x v):RV κ (.c x) v
 |ptr {b o:Nat} (h:b<κ.n) (h1:κ.fr b=none):RV κ (.ptr b o) (.pointer (some ⟨κ.pos b,o,none⟩))
 |aC {b f:Nat} {rows:List (List C)} {v:Value} (h:RC κ.m (.sl rows) v) (h1:b<κ.n) (h2:κ.fr b=some f) (h3:rows.length<=f) (h4:rows.length=f->v=κ.sv b) (h5:∀r∈rows,r.length=κ.sz b):RV κ (.aC b rows) v
 |ae {rows:List (List C)} {A:Option Addr} (h:RC κ.m (.sl rows) (.slice A rows.length rows.length)):RV κ (.ae rows) (.slice A rows.length rows.length)
 |fn {f:FuncId} {caps:List V} {vs:List Value} (h:vs.length=caps.length) (h1:∀j (hj:j<caps.length),RV κ caps[j] (vs.getD j undef)):RV κ (.fn f caps) (.func (.func f) #[] vs.toArray)
 |cu:RV κ .cu .nilFunc
 |mp {b:Nat} (h:b<κ.n) (h1:κ.fr b=none):RV κ (.mp b) (.map (some (κ.pos b)))
 |cN:RV κ .cN (.map none)
 |vec {b k n cap:Nat} (h:b<κ.n) (h1:κ.fr b=none) (h2:κ.sv b= .slice (some ⟨κ.pos b,0,none⟩) n cap) (h3:k<=n) (h4:n<=cap) (h5:cap<=maxLen):RV κ (.vec b k) (.slice (some ⟨κ.pos b,0,none⟩) k cap)
 |agg {vs:List V} {xs:List Value} (h:xs.length=vs.length) (h1:∀j (hj:j<vs.length),RV κ vs[j] (xs.getD j undef)):RV κ (.agg vs) (.agg xs.toArray)
 |au {vs:List V} {xs:List Value} (h:xs.length=vs.length) (h1:∀j (hj:j<vs.length),RV κ vs[j] (xs.getD j undef)):RV κ (.au vs) (.tuple xs.toArray)
structure K.le (κ κ':K):Prop where
 m:κ.m.le κ'.m
 n:κ.n<=κ'.n
 cells:∀b,b<κ.n->κ.fr b=none->κ'.fr b=none/\κ'.pos b=κ.pos b
 spare:∀b f,b<κ.n->κ.fr b=some f->∃f',κ'.fr b=some f'/\f<=f'/\(f'=f->κ'.sv b=κ.sv b)/\κ'.sz b=κ.sz b
 ue:∀b,b<κ.n->κ.fr b=none->κ'.sv b=κ.sv b
 rest:κ'.rest=κ.rest
 dG:κ'.dG=κ.dG
def K.le_refl(κ:K):κ.le κ:=⟨Mem.le_refl _,aA _,fun _ _ h=>⟨h,rfl⟩,fun _ f _ h=>⟨f,h,aA _,fun _=>rfl,rfl⟩,fun _ _ _=>rfl,rfl,rfl⟩
def K.le_trans{a b c:K}(h:a.le b)(k:b.le c):a.le c:=by
 refine⟨Mem.le_trans h.m k.m,bf h.n k.n,fun i hi hf=>?_,fun i f hi hf=>?_,fun i hi hf=>(k.ue i (by have:=h.n;omega) (h.cells i hi hf).1).trans (h.ue i hi hf),k.rest.trans h.rest,k.dG.trans h.dG⟩
 ·obtain⟨h1,h2⟩:=h.cells i hi hf;obtain⟨g,j⟩:=k.cells i (by have:=h.n;omega) h1;exact⟨g,j.trans h2⟩
 ·obtain⟨f1,h1,h2,h3,h4⟩:=h.spare i f hi hf;obtain⟨f2,g,j,k3,k4⟩:=k.spare i f1 (by have:=h.n;omega) h1;refine⟨f2,g,by omega,fun e=>?_,k4.trans h4⟩;have p:f1=f:=by omega
  have r:f2=f1:=by omega
  exact(k3 r).trans (h3 p)
def RV.mono{κ κ':K}(h:κ.le κ'){x:V}{v:Value}(r:RV κ x v):RV κ' x v:=by
 induction r with
 |void=>exact .void
 |any v=>exact .any v
 |c h0=>exact .c (h0.mono h.m)
 |ptr h0 h1=>
  obtain⟨g,b⟩:=h.cells _ h0 h1;rw[<-b];exact .ptr (by have:=h.n;omega) g
 |aC h0 h1 h2 h3 h4 h5=>
  obtain⟨f',g,b,k3,k4⟩:=h.spare _ _ h1 h2;refine .aC (h0.mono h.m) (by have:=h.n;omega) g (by omega) (fun e=>?_) (by rw[k4];exact h5);have j:f'=_:=(show f'=_ from by have:f'<=_:=e▸h3;exact Nat.le_antisymm this b);rw[k3 j];exact h4 (by omega)
 |ae h0=>exact .ae (h0.mono h.m)
 |fn h0 h1 i=>exact .fn h0 i
 |cu=>exact .cu
 |mp h0 h1=>
  obtain⟨g,b⟩:=h.cells _ h0 h1;rw[<-b];exact .mp (by have:=h.n;omega) g
 |cN=>exact .cN
 |vec h0 h1 h2 h3 h4 h5=>
  obtain⟨g,b⟩:=h.cells _ h0 h1;have k3:=h.ue _ h0 h1;rw[<-b];rw[<-b]at h2;exact .vec (by have:=h.n;omega) g (k3.trans h2) h3 h4 h5
 |agg h0 h1 i=>exact .agg h0 i
 |au h0 h1 i=>exact .au h0 i
def V.leaf:V->Bool
 | .c _| .ptr ..| .aC ..| .ae ..| .fn ..| .cu| .mp _| .cN| .vec ..=>true
 |_=>false
def RV.one{κ:K}{x:V}{v:Value}(r:RV κ x v)(h:x.leaf=true):v.oneCell'=true:=by
 cases r with
 |c h=>exact h.one
 |aC h=>exact h.one
 |void|any|agg|au=>cases h
 |ptr|ae|fn|cu|mp|cN|vec=>rfl
inductive V.wk:V->V->Prop where
 |rfl (x:V):V.wk x x
 |any (x:V):V.wk x .any
 |aC (b:Nat) (rows:List (List C)):V.wk (.aC b rows) (.c (.sl rows))
 |ae (rows:List (List C)):V.wk (.ae rows) (.c (.sl rows))
 |agg {vs us:List V} (h:us.length=vs.length) (h1:∀j (hj:j<vs.length) (hj':j<us.length),V.wk vs[j] us[j]):V.wk (.agg vs) (.agg us)
 |au {vs us:List V} (h:us.length=vs.length) (h1:∀j (hj:j<vs.length) (hj':j<us.length),V.wk vs[j] us[j]):V.wk (.au vs) (.au us)
def RV.wk{κ:K}{x y:V}{v:Value}(h:V.wk x y)(r:RV κ x v):RV κ y v:=by
 induction h generalizing v with
 |rfl x=>exact r
 |any x=>exact .any v
 |aC b rows=>cases r with|aC h=>exact .c h
 |ae rows=>cases r with|ae h=>exact .c h
 |agg h h1 e=>cases r with|agg k g=>exact .agg (by omega) fun j hj=>e j (by omega) hj (g j (by omega))
 |au h h1 e=>cases r with|au k g=>exact .au (by omega) fun j hj=>e j (by omega) hj (g j (by omega))
def V.gE:V->Option C
 | .c x=>some x
 | .aC _ rows=>some (.sl rows)
 | .ae rows=>some (.sl rows)
 |_=>none
def RV.gE{κ:K}{x:V}{y:C}{v:Value}(r:RV κ x v)(h:x.gE=some y):RC κ.m y v:=by
 cases r with
 |c h0=>simp only[V.gE]at h;injection h with h;subst h;exact h0
 |aC h0=>simp only[V.gE]at h;injection h with h;subst h;exact h0
 |ae h0=>simp only[V.gE]at h;injection h with h;subst h;exact h0
 |_=>cases h
inductive V.low (n:Nat):V->Prop where
 |void:V.low n .void
 |any:V.low n .any
 |c (x:C):V.low n (.c x)
 |ptr {b o:Nat} (h:b<n):V.low n (.ptr b o)
 |aC {b:Nat} {rows:List (List C)} (h:b<n):V.low n (.aC b rows)
 |ae (rows:List (List C)):V.low n (.ae rows)
 |fn {f:FuncId} {caps:List V} (h:∀x∈caps,V.low n x):V.low n (.fn f caps)
 |cu:V.low n .cu
 |mp {b:Nat} (h:b<n):V.low n (.mp b)
 |cN:V.low n .cN
 |vec {b k:Nat} (h:b<n):V.low n (.vec b k)
 |agg {vs:List V} (h:∀x∈vs,V.low n x):V.low n (.agg vs)
 |au {vs:List V} (h:∀x∈vs,V.low n x):V.low n (.au vs)
def K.cut(κ:K)(n:Nat):K:={κ with n:=n}
def RV.cut{κ:K}{n:Nat}{x:V}{v:Value}(h:V.low n x)(r:RV κ x v):RV (κ.cut n) x v:=by
 induction r with
 |void=>exact .void
 |any v=>exact .any v
 |c h0=>exact .c h0
 |ptr h0 h1=>cases h with|ptr hb=>exact .ptr (κ:=κ.cut n) hb h1
 |aC h0 h1 h2 h3 h4 h5=>cases h with|aC hb=>exact .aC (κ:=κ.cut n) h0 hb h2 h3 h4 h5
 |ae h0=>exact .ae h0
 |fn h0 h1 b=>cases h with|fn hc=>exact .fn h0 fun j hj=>b j hj (hc _ (bg hj))
 |cu=>exact .cu
 |mp h0 h1=>cases h with|mp hb=>exact .mp (κ:=κ.cut n) hb h1
 |cN=>exact .cN
 |vec h0 h1 h2 h3 h4 h5=>cases h with|vec hb=>exact .vec (κ:=κ.cut n) hb h1 h2 h3 h4 h5
 |agg h0 h1 b=>cases h with|agg hc=>exact .agg h0 fun j hj=>b j hj (hc _ (bg hj))
 |au h0 h1 b=>cases h with|au hc=>exact .au h0 fun j hj=>b j hj (hc _ (bg hj))
def RV.low{κ:K}{x:V}{v:Value}(r:RV κ x v):V.low κ.n x:=by
 induction r with
 |void=>exact .void
 |any v=>exact .any
 |c h0=>exact .c _
 |ptr h0 h1=>exact .ptr h0
 |aC h0 h1 h2 h3 h4 h5=>exact .aC h1
 |ae h0=>exact .ae _
 |fn h0 h1 b=>exact .fn fun x e=>by obtain⟨j,hj,rfl⟩:=eH e;exact b j hj
 |cu=>exact .cu
 |mp h0 h1=>exact .mp h0
 |cN=>exact .cN
 |vec h0=>exact .vec h0
 |agg h0 h1 b=>exact .agg fun x e=>by obtain⟨j,hj,rfl⟩:=eH e;exact b j hj
 |au h0 h1 b=>exact .au fun x e=>by obtain⟨j,hj,rfl⟩:=eH e;exact b j hj
inductive ad where
 |cells (cs:List V) (tg:Option TypeId:=none)
 |spare (e:TypeId) (size n:Nat)
 |mp (kvs:List (C×C))
 |vec (e:TypeId) (size:Nat) (cs:List C)
 |gone
 deriving Inhabited
abbrev H:=List ad
def heldBy:Value->Option Nat
 | .slice (some a) _ (_+1)=>some a.block
 |_=>none
def xz{v:Value}{g:Nat}(h:heldBy v=some g):v.ownBlock=some g:=by
 unfold heldBy at h;split at h
 ·exact h
 ·cases h
def GR{w:World}{base e size n g:Nat}{v:Value}{xs:List Value}(h:w.ownsRow base e size v n xs)(hn:0<n)(hg:v.ownBlock=some g):heldBy v=some g:=by
 rcases h.2 with⟨_,h0⟩|⟨b,cap,cur,rfl,_,_,hc,_⟩
 ·omega
 ·cases cap with
  |zero=>omega
  |succ c=>exact hg
def ad.bo(κ:K)(b:Nat):ad->Option Nat
 | .cells _ _=>some (κ.pos b)
 | .spare _ _ _=>heldBy (κ.sv b)
 | .mp _=>some (κ.pos b)
 | .vec _ _ _=>some (κ.pos b)
 | .gone=>none
structure ad.dk (w0:World) (κ:K) (w:World) (b:Nat) (cs:List V) (tg:Option TypeId):Prop where
 fr:κ.fr b=none
 row:∃vs t,w.heap[κ.pos b]?=some (.cells vs t (0,0))/\vs.size=cs.length/\∀j (hj:j<cs.length),cs[j].leaf=true/\RV κ cs[j] (vs.getD j undef)
 own:w0.heap.size<=κ.pos b
 free:∀o,κ.m (κ.pos b) o=none
 ty:∀T,tg=some T->∃vs,w.heap[κ.pos b]?=some (.cells vs T (0,0))
structure ad.QW (w0:World) (κ:K) (w:World) (b:Nat) (e:TypeId) (size n:Nat):Prop where
 fr:κ.fr b=some n
 sz:κ.sz b=size
 row:(n=0/\∃A,κ.sv b= .slice A 0 0)\/(∃xs,w.ownsRow w0.heap.size e size (κ.sv b) n xs)
 free:∀g,heldBy (κ.sv b)=some g->∀o,n*size<=o->κ.m g o=none
structure ad.mapped (w0:World) (κ:K) (w:World) (b:Nat) (kvs:List (C×C)):Prop where
 fr:κ.fr b=none
 row:∃es clock,w.heap[κ.pos b]?=some (.map es clock)/\es.toList.length=kvs.length/\∀j (hj:j<kvs.length) (hj':j<es.toList.length),RC κ.m kvs[j].1 (es.toList[j]).key/\RC κ.m kvs[j].2 (es.toList[j]).val
 own:w0.heap.size<=κ.pos b
 free:∀o,κ.m (κ.pos b) o=none
def ad.mapped.le{w0 w:World}{κ κ':K}{b:Nat}{kvs:List (C×C)}(h:ad.mapped w0 κ w b kvs)(e:κ.m.le κ'.m)(hf:κ'.fr b=none)(hp:κ'.pos b=κ.pos b)(c:∀o,κ'.m (κ.pos b) o=none):ad.mapped w0 κ' w b kvs:=by
 obtain⟨es,clock,h1,h2,h3⟩:=h.row;exact⟨hf,⟨es,clock,by rw[hp];exact h1,h2,fun j hj hj'=>⟨(h3 j hj hj').1.mono e,(h3 j hj hj').2.mono e⟩⟩,by rw[hp];exact h.own,by rw[hp];exact c⟩
structure ad.mw (w0:World) (κ:K) (w:World) (b:Nat) (e size:Nat) (cs:List C):Prop where
 fr:κ.fr b=none
 row:∃vs n cap,κ.sv b= .slice (some ⟨κ.pos b,0,none⟩) n cap/\w.heap[κ.pos b]?=some (.cells vs e (0,0))/\cs.length=n*size/\n<=cap/\cap<=maxLen/\vs.size=cap*size/\∀j (hj:j<cs.length),RC κ.m cs[j] (vs.getD j undef)
 own:w0.heap.size<=κ.pos b
 free:∀o,κ.m (κ.pos b) o=none
def ad.mw.le{w0 w:World}{κ κ':K}{b e size:Nat}{cs:List C}(h:ad.mw w0 κ w b e size cs)(g:κ.m.le κ'.m)(hf:κ'.fr b=none)(hp:κ'.pos b=κ.pos b)(i:κ'.sv b=κ.sv b)(c:∀o,κ'.m (κ.pos b) o=none):ad.mw w0 κ' w b e size cs:=by
 obtain⟨vs,n,cap,h1,h2,h3,h4,h5,p,r⟩:=h.row;exact⟨hf,⟨vs,n,cap,by rw[i,hp];exact h1,by rw[hp];exact h2,h3,h4,h5,p,fun j hj=>(r j hj).mono g⟩,by rw[hp];exact h.own,by rw[hp];exact c⟩
def ad.mw.lt{w0 w:World}{κ:K}{b e size:Nat}{cs:List C}(h:ad.mw w0 κ w b e size cs){j:Nat}(hj:j<cs.length){vs:Array Value}(c:w.heap[κ.pos b]?=some (.cells vs e (0,0))):j<vs.size:=by
 obtain⟨g,n,cap,h1,h2,h3,h4,h5,i,p⟩:=h.row;rw[c]at h2;injection h2 with h2;injection h2 with h2;subst h2;have:=jT size h4;omega
def ad.is(w0:World)(κ:K)(w:World)(b:Nat):ad->Prop
 | .cells cs tg=>ad.dk w0 κ w b cs tg
 | .spare e size n=>ad.QW w0 κ w b e size n
 | .mp kvs=>ad.mapped w0 κ w b kvs
 | .vec e size cs=>ad.mw w0 κ w b e size cs
 | .gone=>True
structure aB (w0:World) (κ:K) (σ:H) (w:World):Prop where
 n:κ.n=σ.length
 ext:Below w0.heap.size w0 w
 mem:∀b o v,κ.m b o=some v->w.cell? ⟨b,o,none⟩=some v
 cg:∀b (h:b<σ.length),(σ[b]).is w0 κ w b
 apart:∀a b (ha:a<σ.length) (hb:b<σ.length) g,a≠b->(σ[a]).bo κ a=some g->(σ[b]).bo κ b≠some g
 rest:∀l o,κ.rest l=some o->w.heap[l]?=some o/\o.isCells=false/\∀b (hb:b<σ.length),(σ[b]).bo κ b≠some l
 dG:κ.dG<=w.heap.size
def V.xA{n e:Nat}(h:n<=e){x:V}(r:V.low n x):V.low e x:=by
 induction r with
 |void=>exact .void
 |any=>exact .any
 |c x=>exact .c x
 |ptr h0=>exact .ptr (by omega)
 |aC h0=>exact .aC (by omega)
 |ae r=>exact .ae r
 |fn h0 b=>exact .fn b
 |cu=>exact .cu
 |mp h0=>exact .mp (by omega)
 |cN=>exact .cN
 |vec h0=>exact .vec (by omega)
 |agg h0 b=>exact .agg b
 |au h0 b=>exact .au b
def H.ok(σ:H):Prop:=∀b∈σ,∀cs tg,b= .cells cs tg->∀x∈cs,V.low σ.length x
def aB.ok{w0 w:World}{κ:K}{σ:H}(h:aB w0 κ σ w):H.ok σ:=by
 intro b hb cs tg hc x c;obtain⟨i,hi,rfl⟩:=eH hb;have:=h.cg i hi;rw[hc]at this;obtain⟨vs,t,_,_,e⟩:=this.row;obtain⟨j,hj,rfl⟩:=eH c;rw[<-h.n];exact(e j hj).2.low
def aB.cut{w0 w:World}{κ:K}{σ:H}(h:aB w0 κ σ w)(n:Nat)(hn:n<=σ.length)(i:H.ok (σ.take n)):aB w0 (κ.cut n) (σ.take n) w:=by
 have hl:(σ.take n).length=n:=by simp[hn]
 refine⟨by rw[hl];rfl,h.ext,h.mem,fun b hb=>?_,fun a b ha hb g p=>?_,fun l o r=>⟨(h.rest l o r).1,(h.rest l o r).2.1,fun b hb=>by simp only[pY];exact(h.rest l o r).2.2 b (by omega)⟩,h.dG⟩
 ·have u:b<σ.length:=by omega
  have hg:(σ.take n)[b]=σ[b]:=pY;have:=h.cg b u;have c:(σ.take n)[b]∈σ.take n:=bg hb;rw[hg]at c⊢;cases hσ:σ[b]with
  |cells cs tg=>
   rw[hσ]at this c;obtain⟨vs,t,h1,h2,h3⟩:=this.row;refine⟨this.fr,⟨vs,t,h1,h2,fun j hj=>⟨(h3 j hj).1,(h3 j hj).2.cut ?_⟩⟩,this.own,this.free,this.ty⟩;have:=i _ c cs tg rfl cs[j] (bg hj);rwa [hl]at this
  |spare e size k=>
   rw[hσ]at this;exact⟨this.fr,this.sz,this.row,this.free⟩
  |mp kvs=>
   rw[hσ]at this;exact⟨this.fr,this.row,this.own,this.free⟩
  |vec e size cs=>
   rw[hσ]at this;exact⟨this.fr,this.row,this.own,this.free⟩
  |gone=>trivial
 ·simp only[pY];exact h.apart a b (by omega) (by omega) g p
def K.Br{κ κ':K}{n:Nat}(h:κ.le κ')(hn:κ.n<=n):κ.le (κ'.cut n):=⟨h.m,hn,h.cells,h.spare,h.ue,h.rest,h.dG⟩
abbrev Env:=Nat->V
inductive ah where
 |t (n:Nat)
 |k (v:V)
 deriving Inhabited
def ah.ev(ρ:Env):ah->V
 | .t n=>ρ n
 | .k v=>v
inductive KD where
 |b
 |i (k:IntKind)
 |s
 deriving Inhabited
def nH:TypeDesc->Option KD
 | .bool=>some .b
 | .int k=>some (.i k)
 | .string=>some .s
 |_=>none
def KD.ok:KD->C->Bool
 | .b,.bool _=>true
 | .i k,.int c _=>c==k
 | .s,.str _=>true
 |_,_=>false
def jE:C->C->Bool
 | .bool a,.bool b=>a==b
 | .int _ a,.int _ b=>a==b
 | .str a,.str b=>a==b
 |_,_=>false
def ja(k:C):List (C×C)->Option C
 |[]=>none
 |(x,v)::l=>if jE k x then some v else ja k l
def jb(k v:C):List (C×C)->List (C×C)
 |[]=>[(k,v)]
 |(x,u)::l=>if jE k x then(k,v)::l else(x,u)::jb k v l
def o5(ok:Bool)(z:C)(r:Option C):V:=if ok then .au [.c (r.getD z),.c (.bool r.isSome)]else .c (r.getD z)
inductive bB where
 |jc (x:ah)
 |pick (c a b:ah)
 |box (x:ah) (tg:Option TypeId:=none)
 |build (zero:List V) (parts:List (Nat×Nat×ah))
 |o6 (size:Nat) (parts:List ah)
 |my (x:ah)
 |ez (n:Nat) (x:ah)
 |store (n:Nat) (x y:ah)
 |iD (x:ah)
 |bin (op:BinOp) (x y:ah)
 |qb (neg:Bool) (x y:ah)
 |lz (neg:Bool) (k:Nat) (x:ah)
 |eqs (neg:Bool) (ks:List Nat) (x y:ah)
 |un (op:UnOp) (x:ah)
 |conv (k:IntKind) (x:ah)
 |gZ (f:FuncId) (caps:List ah)
 |rY (x:ah)
 |uf (x:ah)
 |lA (x:ah) (lo hi:Option ah)
 |gk (size:Nat) (x:ah) (lo hi mx:Option ah)
 |o7 (off:Nat) (x:ah)
 |j0 (off:Nat) (x:ah)
 |ug (off n:Nat) (x:ah)
 |dm (size:Nat) (x i:ah)
 |index (x i:ah)
 |ext (x:ah) (i:Nat)
 |lens (x:ah)
 |eM (x:ah)
 |app (e:TypeId) (size bytes:Nat) (x y:ah)
 |mz (e:TypeId) (bytes:Nat) (x y:ah)
 |mx (x y:ah)
 |mn (x y:ah)
 |jd (neg:Bool) (x:ah)
 |lB
 |kP (e:TypeId) (bytes:Nat) (z:C) (x:ah)
 |look (ok:Bool) (q:KD) (z:C) (x k:ah)
 |kQ (q:KD) (x k y:ah)
 |qc (x:ah)
 |call (f:ah) (args:List ah)
 |bad
 deriving Inhabited
def V.af:V->List V
 | .agg vs=>vs
 |x=>[x]
def leaves(l:List V):Bool:=l.all V.leaf
def fx:List V->Option (List C)
 |[]=>some []
 |x::l=>match x.gE,fx l with
  |some a,some r=>some (a::r)
  |_,_=>none
def je(σ:H):V->Option (List V×Nat)
 | .ptr b o=>match σ[b]? with
   |some (.cells cs _)=>some (cs,o)
   |some (.vec _ _ cs)=>some (cs.map .c,o)
   |_=>none
 | .c (.ref cs o)=>some (cs.map .c,o)
 |_=>none
def V.rows:V->Option (List (List C))
 | .c (.sl r)=>some r
 | .aC _ r=>some r
 | .ae r=>some r
 |_=>none
def V.sub(lo mx:Option ah):V->Option (Nat×Nat)
 | .vec b k=>match lo,mx with
   |none,none=>some (b,k)
   |_,_=>none
 |_=>none
def o8:List (List C)->Option (List UInt8)
 |[]=>some []
 |[.int .u8 n]::r=>match o8 r with
  |some l=>some (tR n.toNat::l)
  |none=>none
 |_::_=>none
def lC(ρ:Env):List V->List (Nat×Nat×ah)->Option (List V)
 |cs,[]=>some cs
 |cs,(off,size,x)::l=>
  if leaves (x.ev ρ).af=true/\(x.ev ρ).af.length=size/\off+size<=cs.length then lC ρ (cs.take off++(x.ev ρ).af++cs.drop (off+size)) l else none
def jF(ρ:Env)(size:Nat):List ah->Option (List (List C))
 |[]=>some []
 |x::l=>match fx (x.ev ρ).af,jF ρ size l with
  |some a,some r=>if a.length=size then some (a::r)else none
  |_,_=>none
def ia(ρ:Env)(n:Nat):Option ah->Option Nat
 |none=>some n
 |some x=>match x.ev ρ with
  | .c (.int _ i)=>if 0<=i/\i<=n then some i.toNat else none
  |_=>none
def ka(ρ:Env)(n:Nat):Option ah->Option Nat
 |none=>some 0
 |some x=>match x.ev ρ with
  | .c (.int _ i)=>if 0<=i/\i<=n then some i.toNat else none
  |_=>none
def xB(op:BinOp)(k:IntKind)(a b:Int):Option C:=
 match op with
 | .add=>some (.int k (k.wrap (a+b)))
 | .sub=>some (.int k (k.wrap (a-b)))
 | .mul=>some (.int k (k.wrap (a*b)))
 | .quo=>if b=0 then none else some (.int k (k.wrap (a.tdiv b)))
 | .rem=>if b=0 then none else some (.int k (a.tmod b))
 | .eql=>some (.bool (a==b))
 | .neq=>some (.bool (a !=b))
 | .lss=>some (.bool (a<b))
 | .leq=>some (.bool (a<=b))
 | .gtr=>some (.bool (a>b))
 | .geq=>some (.bool (a>=b))
 |_=>none
def Bt(op:BinOp)(a b:List UInt8):Option C:=
 match op with
 | .add=>if a.length+b.length<=9223372036854775807 then some (.str (a++b))else none
 | .eql=>some (.bool (a==b))
 | .neq=>some (.bool (!(a==b)))
 | .lss=>some (.bool (Op.bytesLess a b))
 |_=>none
def uh(op:BinOp):V->V->Option V
 | .c (.int k a),.c (.int e b)=>if k=e then(xB op k a b).map .c else none
 | .c (.str a),.c (.str b)=>(Bt op a b).map .c
 |_,_=>none
def V.isNil:Nat->V->Option Bool
 |0,.c .eL=>some true
 |0,.ptr ..=>some false
 |0,.c (.ref ..)=>some false
 |1,.c .jD=>some true
 |1,.c .err=>some false
 |2,.cu=>some true
 |2,.fn ..=>some false
 |_,_=>none
def rZ:Nat->C->C->Option Bool
 |0,.bool a,.bool b=>some (a==b)
 |1,.int k a,.int c b=>if k=c then some (a==b)else none
 |2,.str a,.str b=>some (a==b)
 |_,_,_=>none
def lD:List Nat->List V->List V->Option Bool
 |[],[],[]=>some true
 |k::ks,.c x::l,.c y::r=>match rZ k x y,lD ks l r with
  |some a,some b=>some (a&&b)
  |_,_=>none
 |_,_,_=>none
def nI(l:List UInt8):List (List C):=l.map fun b=>[.int .u8 b.toNat]
def mA(e:TypeId)(size bytes:Nat)(x:V)(news:List (List C))(σ:H):Option (V×H):=match x with
 | .vec b k=>match news with
   |[]=>some (.vec b k,σ)
   |_::_=>match σ[b]? with
   |some (.vec g c cs)=>if g=e/\c=size/\k*size<=cs.length/\news≠[]/\(∀r∈news,r.length=size)/\(k+news.length)*bytes<=140737488355328/\k+news.length<=140737488355328 then
     some (.vec σ.length (k+news.length),σ.set b .gone++[.vec e size (cs.take (k*size)++news.flatten)])else none
   |_=>none
 | .aC b rows=>match σ[b]? with
   |some (.spare g c n)=>if g=e/\c=size/\rows.length=n/\(∀r∈news,r.length=size)/\(n+news.length)*bytes<=140737488355328/\n+news.length<=140737488355328 then
     some (.aC b (rows++news),σ.set b (.spare e size (n+news.length)))else none
   |_=>none
 | .ae olds=>if(olds=[]\/news≠[])/\(∀r∈olds,r.length=size)/\(∀r∈news,r.length=size)/\(olds.length+news.length)*bytes<=140737488355328/\olds.length+news.length<=140737488355328 then
    some (.aC σ.length (olds++news),σ++[.spare e size (olds.length+news.length)])else none
 |_=>none
def step(ρ:Env)(σ:H):bB->Option (V×H)
 | .jc x=>some (x.ev ρ,σ)
 | .pick c a b=>match c.ev ρ with
   | .c (.bool t)=>some (if t then a.ev ρ else b.ev ρ,σ)
   |_=>none
 | .box x tg=>if leaves (x.ev ρ).af then some (.ptr σ.length 0,σ++[.cells (x.ev ρ).af tg])else none
 | .build zero parts=>match lC ρ zero parts with
   |some cs=>some (.agg cs,σ)
   |none=>none
 | .o6 size parts=>match jF ρ size parts with
   |some rows=>some (.ae rows,σ)
   |none=>none
 | .my x=>match je σ (x.ev ρ)with
   |some (cs,o)=>match cs[o]? with
    |some u=>some (u,σ)
    |none=>none
   |none=>none
 | .ez n x=>match je σ (x.ev ρ)with
   |some (cs,o)=>if o+n<=cs.length then some (.agg ((cs.drop o).take n),σ)else none
   |none=>none
 | .store n x y=>match x.ev ρ with
   | .ptr b o=>match σ[b]? with
     |some (.cells cs tg)=>if(y.ev ρ).af.length=n/\o+n<=cs.length/\leaves (y.ev ρ).af=true then some (.void,σ.set b (.cells (cs.take o++(y.ev ρ).af++cs.drop (o+n)) tg))else none
     |some (.vec e size cs)=>match fx (y.ev ρ).af with
      |some ys=>if ys.length=n/\o+n<=cs.length then some (.void,σ.set b (.vec e size (cs.take o++ys++cs.drop (o+n))))else none
      |none=>none
     |_=>none
   |_=>none
 | .iD x=>match x.ev ρ with
   | .ptr b o=>some (.ptr b o,σ)
   | .c (.ref cs o)=>some (.c (.ref cs o),σ)
   | .fn f caps=>some (.fn f caps,σ)
   |_=>none
 | .bin op x y=>match uh op (x.ev ρ) (y.ev ρ)with
   |some v=>some (v,σ)
   |none=>none
 | .qb neg x y=>match x.ev ρ,y.ev ρ with
   | .c (.bool p),.c (.bool q)=>some (.c (.bool (if neg then !(p==q)else p==q)),σ)
   |_,_=>none
 | .lz neg k x=>match(x.ev ρ).isNil k with
   |some p=>some (.c (.bool (if neg then !p else p)),σ)
   |none=>none
 | .eqs neg ks x y=>match x.ev ρ,y.ev ρ with
   | .agg xs,.agg ys=>match lD ks xs ys with
     |some p=>some (.c (.bool (if neg then !p else p)),σ)
     |none=>none
   |_,_=>none
 | .un op x=>match op,x.ev ρ with
   | .not,.c (.bool b)=>some (.c (.bool (!b)),σ)
   | .neg,.c (.int k n)=>some (.c (.int k (k.wrap (0-n))),σ)
   |_,_=>none
 | .conv k x=>match x.ev ρ with
   | .c (.int _ n)=>some (.c (.int k (k.wrap n)),σ)
   |_=>none
 | .gZ f caps=>some (.fn f (caps.map (·.ev ρ)),σ)
 | .rY x=>match x.ev ρ with
   | .c (.str l)=>some (.c (.str l),σ)
   |_=>none
 | .uf x=>match(x.ev ρ).rows with
   |some r=>match o8 r with
    |some l=>some (.c (.str l),σ)
    |none=>none
   |none=>none
 | .lA x lo hi=>match x.ev ρ with
   | .c (.str l)=>match ia ρ l.length hi with
     |some h=>match ka ρ h lo with
      |some a=>some (.c (.str ((l.drop a).take (h-a))),σ)
      |none=>none
     |none=>none
   |_=>none
 | .gk size x lo hi mx=>match(x.ev ρ).sub lo mx with
   |some (b,k)=>match ia ρ k hi with
    |some h=>some (.vec b h,σ)
    |none=>none
   |none=>match(x.ev ρ).rows with
   |some r=>if∀cs∈r,cs.length=size then match ia ρ r.length hi with
    |some h=>match ka ρ h lo with
     |some a=>match mx with
      |none=>some (.c (.sl ((r.drop a).take (h-a))),σ)
      |some m=>match ia ρ r.length (some m)with
       |some w=>if w=h then some (.ae ((r.drop a).take (h-a)),σ)else none
       |none=>none
     |none=>none
    |none=>none else none
   |none=>none
 | .o7 off x=>match x.ev ρ with
   | .ptr b o=>some (.ptr b (o+off),σ)
   | .c (.ref cs o)=>some (.c (.ref cs (o+off)),σ)
   |_=>none
 | .j0 off x=>match x.ev ρ with
   | .agg vs=>match vs[off]? with
     |some u=>some (u,σ)
     |none=>none
   |_=>none
 | .ug off n x=>match x.ev ρ with
   | .agg vs=>if off+n<=vs.length then some (.agg ((vs.drop off).take n),σ)else none
   |_=>none
 | .dm size x i=>match i.ev ρ with
   | .c (.int _ j)=>match x.ev ρ with
     | .vec b k=>if 0<=j/\j<k then some (.ptr b (j.toNat*size),σ)else none
     |u=>match u.rows with
      |some r=>if 0<=j/\j<r.length then match r[j.toNat]? with
        |some cs=>if cs.length=size then some (.c (.ref cs 0),σ)else none
        |none=>none
       else none
      |none=>none
   |_=>none
 | .index x i=>match x.ev ρ,i.ev ρ with
   | .c (.str l),.c (.int _ j)=>if 0<=j/\j<l.length then match l[j.toNat]? with
      |some b=>some (.c (.int .u8 b.toNat),σ)
      |none=>none
     else none
   |_,_=>none
 | .ext x i=>match x.ev ρ with
   | .au vs=>match vs[i]? with
     |some u=>some (u,σ)
     |none=>none
   |_=>none
 | .lens x=>match x.ev ρ with
   | .c (.str l)=>some (.c (.int .i64 l.length),σ)
   |_=>none
 | .eM x=>match x.ev ρ with
   | .vec _ k=>some (.c (.int .i64 k),σ)
   |u=>match u.rows with
    |some r=>some (.c (.int .i64 r.length),σ)
    |none=>none
 | .app e size bytes x y=>match(y.ev ρ).rows with
   |some news=>mA e size bytes (x.ev ρ) news σ
   |none=>none
 | .mz e bytes x y=>match y.ev ρ with
   | .c (.str l)=>mA e 1 bytes (x.ev ρ) (nI l) σ
   |_=>none
 | .mx x y=>match x.ev ρ,y.ev ρ with
   | .c (.int k a),.c (.int _ b)=>some (.c (.int k (if b>a then b else a)),σ)
   |_,_=>none
 | .mn x y=>match x.ev ρ,y.ev ρ with
   | .c (.int k a),.c (.int _ b)=>some (.c (.int k (if b<a then b else a)),σ)
   |_,_=>none
 | .jd _ _=>none
 | .lB=>some (.mp σ.length,σ++[.mp []])
 | .kP e bytes z x=>match x.ev ρ with
   | .c (.int _ n)=>if 0<=n/\bytes*n<=140737488355328/\n<=140737488355328 then some (.vec σ.length n.toNat,σ++[.vec e 1 (List.replicate n.toNat z)])else none
   |_=>none
 | .look ok q z x k=>match x.ev ρ,k.ev ρ with
   | .mp b,.c g=>match σ[b]? with
     |some (.mp kvs)=>if q.ok g=true/\(kvs.all fun p=>q.ok p.1)=true then some (o5 ok z (ja g kvs),σ)else none
     |_=>none
   |_,_=>none
 | .kQ q x k y=>match x.ev ρ,k.ev ρ,(y.ev ρ).gE with
   | .mp b,.c g,some A=>match σ[b]? with
     |some (.mp kvs)=>if q.ok g=true/\(kvs.all fun p=>q.ok p.1)=true then some (.void,σ.set b (.mp (jb g A kvs)))else none
     |_=>none
   |_,_,_=>none
 | .qc x=>match x.ev ρ with
   | .mp b=>match σ[b]? with
     |some (.mp kvs)=>some (.c (.int .i64 kvs.length),σ)
     |_=>none
   |_=>none
 | .call _ _=>none
 | .bad=>none
def gm:Value->Option V
 | .bool b=>some (.c (.bool b))
 | .int k n=>some (.c (.int k n))
 | .string s=>if s.data.toList.length<=maxLen then some (.c (.str s.data.toList))else none
 | .pointer none=>some (.c .eL)
 | .slice none 0 0=>some (.ae [])
 | .nilFunc=>some .cu
 | .nilIface=>some (.c .jD)
 | .map none=>some .cN
 |_=>none
def sa:Value->Option V
 | .agg xs=>(xs.toList.mapM gm).map .agg
 | .func (.func f) ⟨[]⟩ ⟨[]⟩=>some (.fn f [])
 |v=>gm v
def bK:Operand->Option ah
 | .tmp t=>some (.t t)
 | .const v=>(sa v).map .k
 | .func f=>some (.k (.fn f []))
 | .global _=>none
def iE:Option Operand->Option (Option ah)
 |none=>some none
 |some x=>match bK x with
  |some y=>some (some y)
  |none=>none
def dH(f:ah->bB)(x:Operand):Option bB:=match bK x with
 |some a=>some (f a)
 |none=>none
def eA(f:ah->ah->bB)(x y:Operand):Option bB:=match bK x,bK y with
 |some a,some b=>some (f a b)
 |_,_=>none
def ba(P:Program)(t:TypeId):Option Nat:=(P.info? t).map (·.size)
def sb(P:Program):List Field->Option (List (Nat×Nat))
 |[]=>some []
 |f::l=>match ba P f.type,sb P l with
  |some s,some r=>some ((f.offset,s)::r)
  |_,_=>none
def sc(b:List (Nat×Nat)):List (Nat×Operand)->Option (List (Nat×Nat×ah))
 |[]=>some []
 |(i,x)::l=>match b[i]?,bK x,sc b l with
  |some (o,s),some y,some r=>some ((o,s,y)::r)
  |_,_,_=>none
def nJ:Nat->List (Nat×Operand)->Option (List ah)
 |_,[]=>some []
 |k,(i,x)::l=>if i=k then match bK x,nJ (k+1) l with
   |some y,some r=>some (y::r)
   |_,_=>none
  else none
def kb:TypeDesc->Bool
 | .struct _| .array ..=>true
 |_=>false
def mB(P:Program)(t:TypeId):Option V:=match P.info? t with
 |some i=>match i.zero with
  |some z=>sa z
  |none=>none
 |none=>none
def GS(P:Program)(name:String)(t:TypeId):Bool:=match P.underlying t with
 |some (.struct fs)=>fs.any fun f=>f.name==name
 |_=>false
def QX(P:Program)(t:TypeId):Bool:=GS P "addr" t||(match P.underlying t with|some (.struct fs)=>fs.any fun f=>GS P "addr" f.type|_=>false)
def qd(P:Program)(t:TypeId):Option TypeId:=if QX P t then some t else none
def mC(P:Program)(b:Builtin)(args:List Operand)(c:List TypeId):Option bB:=
 match b,args,c with
 | .len,[x],[t]=>match P.underlying t with
   |some .string=>dH .lens x
   |some (.slice _)=>dH .eM x
   |some (.map _ _)=>dH .qc x
   |_=>none
 | .append,[x,y],[t,g]=>if t=g then match P.underlying t with
    |some (.slice e)=>match P.info? e with
     |some i=>match i.zero with
      |some z=>if z.cells.size=i.size/\0<i.size then eA (.app e i.size i.bytes) x y else none
      |none=>none
     |none=>none
    |_=>none
   else match P.underlying t,P.underlying g with
    |some (.slice e),some .string=>match P.info? e with
     |some i=>match i.zero with
      |some z=>if z.cells.size=i.size/\i.size=1 then eA (.mz e i.bytes) x y else none
      |none=>none
     |none=>none
    |_,_=>none
 | .max,[x,y],_=>eA .mx x y
 | .min,[x,y],_=>eA .mn x y
 |_,_,_=>none
def _root_.Go.BinOp.plain:BinOp->Bool
 | .add| .sub| .mul| .quo| .rem| .eql| .neq| .lss| .leq| .gtr| .geq=>true
 |_=>false
def Bu:Operand->Bool
 | .const (.slice none 0 0)=>true
 |_=>false
def ui(op:BinOp)(x:Operand):Option bB:=match op with
 | .eql=>dH (.jd false) x
 | .neq=>dH (.jd true) x
 |_=>none
def o9(k:Nat)(op:BinOp)(x:Operand):Option bB:=match op with
 | .eql=>dH (.lz false k) x
 | .neq=>dH (.lz true k) x
 |_=>none
def xC:TypeDesc->Option Nat
 | .bool=>some 0
 | .int _=>some 1
 | .string=>some 2
 |_=>none
def sd(P:Program):Nat->List Field->Option (List Nat)
 |_,[]=>some []
 |k,f::l=>if f.offset=k/\f.name≠ "_" then match P.underlying f.type with
   |some d=>match xC d,sd P (k+1) l with
    |some q,some r=>some (q::r)
    |_,_=>none
   |none=>none
  else none
def xD(P:Program)(t:TypeId):Option (KD×C):=match P.underlying t with
 |some (.map b e)=>match P.underlying b,mB P e with
  |some d,some (.c z)=>match nH d with
   |some q=>some (q,z)
   |none=>none
  |_,_=>none
 |_=>none
def xE(P:Program)(t:TypeId):Option KD:=match P.underlying t with
 |some (.map b _)=>match P.underlying b with
  |some d=>nH d
  |none=>none
 |_=>none
def ke(P:Program)(t:TypeId):Operand->Operand->Option bB
 | .tmp l,.tmp c=>if l=c then match P.underlying t with
    |some (.slice e)=>match P.info? e with
     |some i=>match i.zero with
      |some z=>match gm z with
       |some (.c b)=>if i.size=1/\z.cells.size=1 then some (.kP e i.bytes b (.t l))else none
       |_=>none
      |none=>none
     |none=>none
    |_=>none
   else none
 |_,_=>none
def Bv{P:Program}{t:TypeId}{l c:Operand}{i:bB}(h:ke P t l c=some i):∃e b z x,i= .kP e b z x:=by
 unfold ke at h
 repeat' split at h
 all_goals first
  |(cases h;done)
  |(injection h with h;exact⟨_,_,_,_,h.symm⟩)
def bp(P:Program)(o:Op):Option bB:=
 match o with
 | .move x=>dH .jc x
 | .assign x=>dH .jc x
 | .pick c a b=>match bK c,bK a,bK b with
   |some c,some a,some b=>some (.pick c a b)
   |_,_,_=>none
 | .alloc t=>match mB P t with
   |some z=>some (.box (.k z) (qd P t))
   |none=>none
 | .box t x=>dH (fun y=>.box y (qd P t)) x
 | .build t parts=>match P.underlying t,mB P t with
   |some (.struct fields),some z=>match sb P fields.toList with
    |some p=>match sc p parts.toList with
     |some j=>if leaves z.af=true then some (.build z.af j)else none
     |none=>none
    |none=>none
   |_,_=>none
 | .buildSlice t n parts=>match P.underlying t with
   |some (.slice e)=>match P.info? e with
    |some i=>match i.zero,nJ 0 parts.toList with
     |some z,some j=>if z.cells.size=i.size/\j.length=n/\0<i.size/\n*i.size<=16777216 then some (.o6 i.size j)else none
     |_,_=>none
    |none=>none
   |_=>none
 | .load t x=>match P.underlying t,P.info? t with
   |some d,some i=>if kb d then dH (.ez i.size) x else dH .my x
   |_,_=>none
 | .store t x y=>match P.info? t with
   |some i=>eA (.store i.size) x y
   |none=>none
 | .nilCheck x=>dH .iD x
 | .binOp op t x y _=>match P.underlying t with
   |some (.int _)=>if op.plain then eA (.bin op) x y else none
   |some .string=>if op.plain then eA (.bin op) x y else none
   |some .bool=>match op with
    | .eql=>eA (.qb false) x y
    | .neq=>eA (.qb true) x y
    |_=>none
   |some (.pointer _)=>match y with
    | .const (.pointer none)=>o9 0 op x
    |_=>none
   |some (.interface _)=>match y with
    | .const .nilIface=>o9 1 op x
    |_=>none
   |some (.func ..)=>match y with
    | .const .nilFunc=>o9 2 op x
    |_=>none
   |some (.slice _)=>if Bu y then ui op x else none
   |some (.struct fields)=>match sd P 0 fields.toList with
    |some ks=>if P.stoodInHeld t||P.eqGuardType P.depth t then none else match op with
     | .eql=>eA (.eqs false ks) x y
     | .neq=>eA (.eqs true ks) x y
     |_=>none
    |none=>none
   |_=>none
 | .unOp op _ x=>dH (.un op) x
 | .convert s t x=>match P.underlying s,P.underlying t with
   |some (.int _),some (.int k)=>dH (.conv k) x
   |some .string,some .string=>dH .rY x
   |some (.slice e),some .string=>match P.underlying e with
    |some (.int .u8)=>dH .uf x
    |_=>none
   |_,_=>none
 | .makeFunc (.func f) ⟨[]⟩ caps=>match caps.toList.mapM bK with
   |some cs=>some (.gZ f cs)
   |none=>none
 | .slice t x lo hi mx=>match P.underlying t with
   |some .string=>match mx,bK x,iE lo,iE hi with
    |none,some x,some lo,some hi=>some (.lA x lo hi)
    |_,_,_,_=>none
   |some (.slice e)=>match P.info? e,bK x,iE lo,iE hi,iE mx with
    |some i,some x,some lo,some hi,some mx=>if mx.isSome&&hi.isNone then none else some (.gk i.size x lo hi mx)
    |_,_,_,_,_=>none
   |_=>none
 | .fieldAddr s x f=>match P.underlying s with
   |some (.struct fields)=>match fields[f]? with
    |some h=>match ba P h.type with
     |some k=>if k=0 then none else dH (.o7 h.offset) x
     |none=>none
    |none=>none
   |_=>none
 | .field s x f=>match P.underlying s with
   |some (.struct fields)=>match fields[f]? with
    |some h=>match P.underlying h.type,ba P h.type with
     |some d,some k=>if kb d then dH (.ug h.offset k) x else dH (.j0 h.offset) x
     |_,_=>none
    |none=>none
   |_=>none
 | .indexAddr t x i=>match P.underlying t with
   |some (.slice e)=>match ba P e with
    |some k=>eA (.dm k) x i
    |none=>none
   |_=>none
 | .index t x i=>match P.underlying t with
   |some .string=>eA .index x i
   |_=>none
 | .extract x i=>dH (fun a=>.ext a i) x
 | .makeMap _ r=>if r.isNone then some .lB else none
 | .makeSlice t l c=>ke P t l c
 | .lookup t x k ok=>match xD P t with
   |some (q,z)=>eA (.look ok q z) x k
   |none=>none
 | .mapUpdate t x k y=>match xE P t,bK x,bK k,bK y with
   |some q,some x,some k,some y=>some (.kQ q x k y)
   |_,_,_,_=>none
 | .call c=>match c.callee with
   | .builtin b=>mC P b c.args.toList c.argTypes.toList
   | .value f=>match bK f,c.args.toList.mapM bK with
     |some f,some g=>some (.call f g)
     |_,_=>none
   |_=>none
 |_=>none
section
variable {P:Program} {w0 w:World} {κ:K} {σ σ':H} {a:Act} {ρ:Env}
def Bw{v:Value}{x:V}(h:gm v=some x):RV κ x v:=by
 cases v with
 |bool b=>simp only[gm]at h;injection h with h;subst h;exact .c (.bool _)
 |int k n=>simp only[gm]at h;injection h with h;subst h;exact .c (.int _ _)
 |string s=>
  simp only[gm]at h;split at h
  ·rename_i hl;injection h with h;subst h;have:=RC.str (m:=κ.m) s.data.toList hl;exact .c this
  ·cases h
 |pointer p=>
  cases p with
  |none=>simp only[gm]at h;injection h with h;subst h;exact .c .eL
  |some a=>simp only[gm]at h;cases h
 |slice p n c=>
  unfold gm at h;split at h
  all_goals first
   |(cases h;done)
   |skip
  all_goals first
   |(rename_i e;cases e;done)
   |skip
  rename_i e;injection e with h1 h2 h3;subst h1 h2 h3;injection h with h;subst h;exact .ae (A:=none) (RC.nil _)
 |nilFunc=>simp only[gm]at h;injection h with h;subst h;exact .cu
 |nilIface=>simp only[gm]at h;injection h with h;subst h;exact .c .jD
 |map r=>
  cases r with
  |none=>simp only[gm]at h;injection h with h;subst h;exact .cN
  |some r=>simp only[gm]at h;cases h
 |_=>simp only[gm]at h;cases h
def mapM_some{α c:Type}{f:α->Option c}:∀{l:List α} {r:List c},l.mapM f=some r->r.length=l.length/\∀j (hj:j<l.length) (hj':j<r.length),f l[j]=some r[j]
 |[],r,h=>by
  simp at h;subst h;exact⟨rfl,fun j hj=>by simp at hj⟩
 |x::l,r,h=>by
  simp only[List.mapM_cons]at h;cases b:f x with
  |none=>rw[b]at h;cases h
  |some y=>
   rw[b]at h;cases hl:l.mapM f with
   |none=>rw[hl]at h;cases h
   |some ys=>
    rw[hl]at h;have h:y::ys=r:=by simpa using h
    subst h;obtain⟨h1,h2⟩:=mapM_some hl;refine⟨by simp[h1],fun j hj hj'=>?_⟩;cases j with
    |zero=>exact b
    |succ j=>exact h2 j (by simpa using hj) (by simpa using hj')
def iF{xs:List Value}{j:Nat}(h:j<xs.length):xs.getD j undef=xs[j]:=by simp[mb,h]
def xF{v:Value}{x:V}(h:sa v=some x):RV κ x v:=by
 unfold sa at h;split at h
 ·rename_i xs;cases b:xs.toList.mapM gm with
  |none=>rw[b]at h;cases h
  |some vs=>
   rw[b]at h;injection h with h;subst h;obtain⟨h1,h2⟩:=mapM_some b;have:=RV.agg (κ:=κ) (vs:=vs) (xs:=xs.toList) h1.symm fun j hj=>by
    have hj':j<xs.toList.length:=by omega
    rw[iF hj'];exact Bw (κ:=κ) (h2 j hj' hj)
   simpa using this
 ·injection h with h;subst h;exact .fn (caps:=[]) (vs:=[]) rfl (fun j hj=>by simp at hj)
 ·exact Bw h
def cj(κ:K)(ρ:Env)(a:Act):Prop:=∀k,RV κ (ρ k) (a.tmps.getD k undef)
def cj.mono{κ':K}(h:κ.le κ')(b:cj κ ρ a):cj κ' ρ a:=fun k=>(b k).mono h
def bN(c:cj κ ρ a){x:Operand}{y:ah}(h:bK x=some y):RV κ (y.ev ρ) (a.eval x):=by
 cases x with
 |tmp t=>simp only[bK]at h;injection h with h;subst h;exact c t
 |const v=>
  simp only[bK]at h;cases b:sa v with
  |none=>rw[b]at h;cases h
  |some u=>rw[b]at h;injection h with h;subst h;exact xF b
 |global g=>cases h
 |func f=>
  simp only[bK]at h;injection h with h;subst h;exact .fn (caps:=[]) (vs:=[]) rfl (fun j hj=>by simp at hj)
def br(w0:World)(κ:K)(σ:H)(v:V)(r:Result Next):Prop:=
 ∃κ' v' w',(r= .ok (.value v') w'\/(r= .ok .skip w'/\v'=undef))/\κ.le κ'/\aB w0 κ' σ w'/\RV κ' v v'
def br.still{v:V}{v':Value}{r:Result Next}(c:r= .ok (.value v') w)(b:aB w0 κ σ w)(e:RV κ v v'):br w0 κ σ v r:=
 ⟨κ,v',w,.inl c,K.le_refl κ,b,e⟩
def add_lit(b o n:Nat):(⟨b,o,none⟩:Addr).add n=⟨b,o+n,none⟩:=by unfold Addr.add;split<;>simp_all
def By{x:V}{v:Value}{cs:List V}{o:Nat}(g:aB w0 κ σ w)(h:je σ x=some (cs,o))(G:RV κ x v):
  ∃b p,v= .pointer (some ⟨b,p+o,none⟩)/\∀j (hj:j<cs.length),∃u,w.cell? ⟨b,p+j,none⟩=some u/\RV κ cs[j] u:=by
 cases G with
 |ptr h0 h1=>
  rename_i A J;simp only[je]at h;cases hb:σ[A]? with
  |none=>rw[hb]at h;cases h
  |some cg=>
   rw[hb]at h;cases cg with
   |cells cs' tg=>
    injection h with h;injection h with h2 h3;subst h2 h3;obtain⟨i,r⟩:=aI.1 hb;have:=g.cg A i;rw[r]at this;obtain⟨vs,t,F,D,k3⟩:=this.row;refine⟨κ.pos A,0,by simp,fun j hj=>⟨vs.getD j undef,?_,(k3 j hj).2⟩⟩;have hj':j<vs.size:=by omega
    simp[World.cell?,F,hj']
   |vec e size cs'=>
    injection h with h;injection h with h2 h3;subst h2 h3;obtain⟨i,r⟩:=aI.1 hb;have:=g.cg A i;rw[r]at this;obtain⟨vs,n,cap,F,D,k3,k4,k5,k6,k7⟩:=this.row;refine⟨κ.pos A,0,by simp,fun j hj=>?_⟩;have E:j<cs'.length:=by simpa using hj
    have hj':j<vs.size:=this.lt E D;refine⟨vs.getD j undef,by simp[World.cell?,D,hj'],?_⟩;rw[eI];exact .c (k7 j E)
   |spare|mp|gone=>cases h
 |c hc=>
  cases hc with
  |ref cs' J b p xs h3 h4 h5=>
   injection h with h;injection h with D k3;subst D k3;refine⟨b,p,rfl,fun j hj=>⟨xs.getD j undef,?_,?_⟩⟩
   ·have hj':j<xs.length:=by simpa[h3]using hj
    have:=h4 j hj';rw[aN hj']at this;have:=g.mem _ _ _ this;simpa[mb,hj']using this
   ·have hj':j<cs'.length:=by simpa using hj
    have:=h5 j hj';simpa using RV.c this
  |_=>cases h
 |_=>cases h
def pa{t:TypeId}{d:TypeDesc}(h:P.underlying t=some d):(isAgg t).run P w= .ok (kb d) w:=by
 simp only[isAgg,jU,cA h];cases d<;>rfl
def run_sizeOf{t:TypeId}{i:TypeInfo}(h:P.info? t=some i):(sizeOf t).run P w= .ok i.size w:=by
 simp[sizeOf,typeInfo,h]
def GU{t:TypeId}{d:TypeDesc}{x:V}{v:Value}{cs:List V}{o:Nat}{u:V}(c:aB w0 κ σ w)(hd:P.underlying t=some d)(hg:kb d=false)
  (h:je σ x=some (cs,o)) (g:RV κ x v) (i:cs[o]?=some u):∃v',(xf t v).run P w= .ok v' w/\RV κ u v':=by
 obtain⟨b,p,rfl,hc⟩:=By c h g;obtain⟨j,e⟩:=aI.1 i;obtain⟨v',h1,h2⟩:=hc o j;refine⟨v',?_,e▸h2⟩;simp[xf,tT,loadVar,pa hd,hg,h1]
def GV{t:TypeId}{d:TypeDesc}{i:TypeInfo}{x:V}{v:Value}{cs:List V}{o:Nat}(c:aB w0 κ σ w)(hd:P.underlying t=some d)(hg:kb d=true)
  (hi:P.info? t=some i) (h:je σ x=some (cs,o)) (r:RV κ x v) (A:o+i.size<=cs.length):
  ∃v',(xf t v).run P w= .ok v' w/\RV κ (.agg ((cs.drop o).take i.size)) v':=by
 obtain⟨b,p,rfl,hc⟩:=By c h r;have hf:∀j,j<i.size->∃u,w.cell? ⟨b,p+o+j,none⟩=some u/\∀hj:o+j<cs.length,RV κ cs[o+j] u:=fun j hj=>by
  obtain⟨u,h1,h2⟩:=hc (o+j) (by omega);exact⟨u,by rw[<-h1,jV],fun _=>h2⟩
 have g:∃f:Nat->Value,∀j,j<i.size->w.cell? ⟨b,p+o+j,none⟩=some (f j)/\∀hj:o+j<cs.length,RV κ cs[o+j] (f j):=
  ⟨fun j=>if hj:j<i.size then(hf j hj).choose else undef,fun j hj=>by simp only[hj];exact(hf j hj).choose_spec⟩
 obtain⟨f,hf⟩:=g;refine⟨.agg ((List.range i.size).map f).toArray,?_,?_⟩
 ·have:=run_loadCells (P:=P) w ⟨b,p+o,none⟩ i.size f (fun j hj=>by rw[add_lit];exact(hf j hj).1);simp only[xf,tT,jU,kK,kL,loadVar,pa hd,hg,if_true,run_sizeOf hi,this]
 ·refine .agg (by simp;omega) fun j hj=>?_;have e:j<i.size:=by simp at hj;omega
  have:=(hf j e).2 (by omega);simpa[mb,e]using this
end
section
variable {P:Program} {w0 w w':World} {κ:K} {σ σ':H} {a:Act} {ρ:Env}
def aB.iG(h:aB w0 κ σ w){b g:Nat}(hb:b<σ.length)(hl:(σ[b]).bo κ b=some g):w0.heap.size<=g/\g<w.heap.size:=by
 have:=h.cg b hb;cases hσ:σ[b]with
 |cells cs=>
  rw[hσ]at this hl;simp only[ad.bo]at hl;injection hl with hl;obtain⟨vs,t,h1,_⟩:=this.row;rw[<-hl];exact⟨this.own,(eu.1 h1).1⟩
 |spare e size n=>
  rw[hσ]at this hl;simp only[ad.bo]at hl;rcases this.row with⟨_,A,h0⟩|⟨xs,c⟩
  ·rw[h0]at hl;cases A<;>cases hl
  ·exact c.lt g (xz hl)
 |mp kvs=>
  rw[hσ]at this hl;simp only[ad.bo]at hl;injection hl with hl;obtain⟨es,clock,h1,_⟩:=this.row;rw[<-hl];exact⟨this.own,(eu.1 h1).1⟩
 |vec e size cs=>
  rw[hσ]at this hl;simp only[ad.bo]at hl;injection hl with hl;obtain⟨vs,n,cap,_,h1,_⟩:=this.row;rw[<-hl];exact⟨this.own,(eu.1 h1).1⟩
 |gone=>rw[hσ]at hl;cases hl
def aB.nK(h:aB w0 κ σ w){b o:Nat}{v:Value}(c:κ.m b o=some v):b<w.heap.size:=
 World.block_lt_of_cell? w ⟨b,o,none⟩ (h.mem b o v c)
def aB.fresh(h:aB w0 κ σ w){b:Nat}(hb:w.heap.size<=b)(o:Nat):κ.m b o=none:=by
 cases c:κ.m b o with
 |none=>rfl
 |some v=>have:=h.nK c;omega
def ad.se{κ:K}{b:Nat}{x:ad}(h:x.is w0 κ w b)(i:∀g,x.bo κ b=some g->w'.heap[g]?=w.heap[g]?):x.is w0 κ w' b:=by
 cases x with
 |cells cs=>
  obtain⟨vs,t,h1,h2,h3⟩:=h.row;exact⟨h.fr,⟨vs,t,(i _ rfl).trans h1,h2,h3⟩,h.own,h.free,fun T r=>let ⟨us,u⟩:=h.ty T r;⟨us,(i _ rfl).trans u⟩⟩
 |spare e size n=>
  refine⟨h.fr,h.sz,?_,h.free⟩;rcases h.row with h0|⟨xs,j⟩
  ·exact .inl h0
  ·rcases j.2 with A|⟨g,cap,cur,p,hg,D,rest⟩
   ·exact .inr ⟨xs,j.1,.inl A⟩
   ·cases cap with
    |zero=>exact .inl ⟨Nat.le_zero.1 rest.1,some ⟨g,0,none⟩,by rw[p,Nat.le_zero.1 rest.1]⟩
    |succ c=>
     refine .inr ⟨xs,j.1,.inr ⟨g,c+1,cur,p,hg,(i g ?_).trans D,rest⟩⟩;simp only[ad.bo];rw[p];rfl
 |mp kvs=>
  obtain⟨es,clock,h1,h2⟩:=h.row;exact⟨h.fr,⟨es,clock,(i _ rfl).trans h1,h2⟩,h.own,h.free⟩
 |vec e size cs=>
  obtain⟨vs,n,cap,h0,h1,h2⟩:=h.row;exact⟨h.fr,⟨vs,n,cap,h0,(i _ rfl).trans h1,h2⟩,h.own,h.free⟩
 |gone=>trivial
def aB.grow(h:aB w0 κ σ w)(hb:Below w.heap.size w w'):aB w0 κ σ w':=
 ⟨h.n,h.ext.trans (hb.mono h.ext.size),fun b o v i=>(hb.cell (p:=⟨b,o,none⟩) (h.nK i)).trans (h.mem b o v i),
   fun b c=>ad.se (h.cg b c) fun g hg=>hb.block g (h.iG c hg).2,h.apart,fun l o e=>⟨(hb.block l (eu.1 (h.rest l o e).1).1).trans (h.rest l o e).1,(h.rest l o e).2⟩,bf h.dG hb.size⟩
def aB.drawn(h:aB w0 κ σ w)(n:Nat):aB w0 κ σ {w with drawn:=n}:=h.grow ⟨rfl,rfl,rfl,aA _,fun _ _=>rfl⟩
def aB.alloc(h:aB w0 κ σ w)(o:Obj):aB w0 κ σ (w.alloc o):=h.grow (Below.alloc (Below.refl _ _) (aA _) o)
def RV.same{κ':K}(h:κ.m.le κ'.m)(hn:κ.n<=κ'.n)(hp:∀b,b<κ.n->κ'.pos b=κ.pos b)(hf:∀b,b<κ.n->κ'.fr b=κ.fr b)(g:∀b,b<κ.n->κ'.sv b=κ.sv b)(i:∀b,b<κ.n->κ'.sz b=κ.sz b)(j:κ'.rest=κ.rest:=by rfl)(e:κ'.dG=κ.dG:=by rfl):κ.le κ':=
 ⟨h,hn,fun b hb c=>⟨(hf b hb).trans c,hp b hb⟩,fun b f hb c=>⟨f,(hf b hb).trans c,aA _,fun _=>g b hb,i b hb⟩,fun b hb _=>g b hb,j,e⟩
def K.froze(κ:K)(g:Nat)(xs:List Value):K:={κ with m:=fun b o=>if b=g then xs[o]? else κ.m b o}
def K.Bz{g:Nat}{xs:List Value}(hg:∀o,κ.m g o=none):κ.le (κ.froze g xs):=
 RV.same (fun b o v h=>by
  unfold K.froze;by_cases hb:b=g
  ·subst hb;rw[hg]at h;cases h
  ·simpa[hb]using h) (aA _) (fun _ _=>rfl) (fun _ _=>rfl) (fun _ _=>rfl) (fun _ _=>rfl)
def aB.froze(h:aB w0 κ σ w){g:Nat}{xs:List Value}(hg:∀o,κ.m g o=none)(F:∀o v,xs[o]?=some v->w.cell? ⟨g,o,none⟩=some v)
  (hl:∀b (hb:b<σ.length),(σ[b]).bo κ b≠some g):aB w0 (κ.froze g xs) σ w:=by
 have p:κ.le (κ.froze g xs):=K.Bz hg;refine⟨h.n,h.ext,fun b o v r=>?_,fun b hb=>?_,fun a b ha hb=>h.apart a b ha hb,fun l o G=>h.rest l o G,h.dG⟩
 ·unfold K.froze at r;by_cases u:b=g
  ·subst u;simp only[if_true]at r;exact F o v r
  ·simp only[u,if_false]at r;exact h.mem b o v r
 ·have:=h.cg b hb;have c:=hl b hb;cases hσ:σ[b]with
  |cells cs=>
   rw[hσ]at this c;obtain⟨vs,t,h1,h2,h3⟩:=this.row;refine⟨this.fr,⟨vs,t,h1,h2,fun j hj=>⟨(h3 j hj).1,(h3 j hj).2.mono p⟩⟩,this.own,fun o=>?_,this.ty⟩;have:κ.pos b≠g:=fun e=>c (by simp[ad.bo,e]);show(if κ.pos b=g then _ else _)=none;rw[if_neg this];exact ad.dk.free ‹_› o
  |spare e size n=>
   rw[hσ]at this c;refine⟨this.fr,this.sz,this.row,fun D A o J=>?_⟩;have E:D≠g:=fun e=>c (by simp only[ad.bo];exact(show heldBy (κ.sv b)=some D from A).trans (by rw[e]));show(if D=g then _ else _)=none;rw[if_neg E];exact this.free D A o J
  |mp kvs=>
   rw[hσ]at this c;have i:κ.pos b≠g:=fun e=>c (by simp[ad.bo,e]);exact ad.mapped.le this p.m this.fr rfl (fun o=>by
    show(if κ.pos b=g then _ else _)=none;rw[if_neg i];exact this.free o)
  |vec e size cs=>
   rw[hσ]at this c;have i:κ.pos b≠g:=fun e=>c (by simp[ad.bo,e]);exact ad.mw.le this p.m this.fr rfl rfl (fun o=>by
    show(if κ.pos b=g then _ else _)=none;rw[if_neg i];exact this.free o)
  |gone=>trivial
def K.more(κ:K)(g:Nat):K:={κ with n:=κ.n+1,pos:=fun b=>if b=κ.n then g else κ.pos b,fr:=fun b=>if b=κ.n then none else κ.fr b}
def K.uj{g:Nat}:κ.le (κ.more g):=
 RV.same (Mem.le_refl _) (mc _) (fun b hb=>by show(if b=κ.n then _ else _)=_;rw[if_neg (by omega)]) (fun b hb=>by show(if b=κ.n then _ else _)=_;rw[if_neg (by omega)]) (fun _ _=>rfl) (fun _ _=>rfl)
def ad.is_le{κ':K}{b:Nat}{x:ad}(c:κ'.m=κ.m)(g:κ.le κ')(hp:κ'.pos b=κ.pos b)(hf:κ'.fr b=κ.fr b)(i:κ'.sv b=κ.sv b)(p:κ'.sz b=κ.sz b)(h:x.is w0 κ w b):x.is w0 κ' w b:=by
 cases x with
 |cells cs=>
  obtain⟨vs,t,h1,h2,h3⟩:=h.row;exact⟨hf.trans h.fr,⟨vs,t,by rw[hp];exact h1,h2,fun j hj=>⟨(h3 j hj).1,(h3 j hj).2.mono g⟩⟩,by rw[hp];exact h.own,by rw[hp,c];exact h.free,by rw[hp];exact h.ty⟩
 |spare e size n=>exact⟨hf.trans h.fr,p.trans h.sz,by rw[i];exact h.row,by rw[i,c];exact h.free⟩
 |mp kvs=>exact ad.mapped.le h (by rw[c];exact Mem.le_refl _) (hf.trans h.fr) hp (by rw[c];exact h.free)
 |vec e size cs=>exact ad.mw.le h (by rw[c];exact Mem.le_refl _) (hf.trans h.fr) hp i (by rw[c];exact h.free)
 |gone=>trivial
def ad.kR{κ':K}{b:Nat}{x:ad}(hp:κ'.pos b=κ.pos b)(c:κ'.sv b=κ.sv b):x.bo κ' b=x.bo κ b:=by
 cases x<;>simp[ad.bo,hp,c]
def aB.GW(h:aB w0 κ σ w){b g:Nat}(hb:b<σ.length)(hl:(σ[b]).bo κ b=some g):κ.rest g=none:=by
 cases c:κ.rest g with
 |none=>rfl
 |some o=>exact absurd hl ((h.rest g o c).2.2 b hb)
def aB.GX(h:aB w0 κ σ w){g:Nat}(hg:w.heap.size<=g):κ.rest g=none:=by
 cases b:κ.rest g with
 |none=>rfl
 |some o=>have:=(eu.1 (h.rest g o b).1).1;omega
def uk{κ':K}{X:ad}{l:Nat}(e:∀b (hb:b<σ.length),(σ[b]).bo κ' b=(σ[b]).bo κ b)(h:∀b (hb:b<σ.length),(σ[b]).bo κ b≠some l)(i:X.bo κ' σ.length≠some l):
  ∀b (hb:b<(σ++[X]).length),((σ++[X])[b]).bo κ' b≠some l:=fun b hb=>by
 rcases eh b σ.length with c|c
 ·rw[cM c,e b c];exact h b c
 ·have g:b=σ.length:=by simp at hb;omega
  subst g;rw[dY (aA _)];simp only[cw,di];exact i
def um{κ':K}{X:ad}{l c:Nat}(e:∀b (hb:b<σ.length),b≠c->(σ[b]).bo κ' b=(σ[b]).bo κ b)(h:∀b (hb:b<σ.length),(σ[b]).bo κ b≠some l)(j:X.bo κ' c≠some l):
  ∀b (hb:b<(σ.set c X).length),((σ.set c X)[b]).bo κ' b≠some l:=fun b hb=>by
 have i:b<σ.length:=by simpa using hb
 by_cases g:b=c
 ·subst g;rw[gU];exact j
 ·rw[gb (dz g),e b i g];exact h b i
def aB.box(h:aB w0 κ σ w){cs:List V}{vs:List Value}(t:TypeId){tg:Option TypeId}(L:∀T,tg=some T->T=t)(hl:leaves cs=true)(A:vs.length=cs.length)(X:∀j (hj:j<cs.length),RV κ cs[j] (vs.getD j undef)):
  aB w0 (κ.more w.heap.size) (σ++[.cells cs tg]) (w.alloc (.cells vs.toArray t))/\RV (κ.more w.heap.size) (.ptr σ.length 0) (.pointer (some ⟨w.heap.size,0,none⟩)):=by
 have G:κ.le (κ.more w.heap.size):=K.uj;have F:=h.alloc (.cells vs.toArray t);have D:∀b,b<σ.length->(κ.more w.heap.size).pos b=κ.pos b:=fun b hb=>by show(if b=κ.n then _ else _)=_;rw[if_neg (by rw[h.n];omega)]
 have M:∀b,b<σ.length->(κ.more w.heap.size).fr b=κ.fr b:=fun b hb=>by show(if b=κ.n then _ else _)=_;rw[if_neg (by rw[h.n];omega)]
 have c:(κ.more w.heap.size).pos σ.length=w.heap.size:=by show(if σ.length=κ.n then _ else _)=_;rw[if_pos h.n.symm]
 have E:(κ.more w.heap.size).fr σ.length=none:=by show(if σ.length=κ.n then _ else _)=_;rw[if_pos h.n.symm]
 have i:∀b (hb:b<σ.length),(σ[b]).bo (κ.more w.heap.size) b=(σ[b]).bo κ b:=fun b hb=>ad.kR (D b hb) rfl;refine⟨⟨by show κ.n+1=_;rw[h.n];simp,F.ext,F.mem,fun b hb=>?_,fun x y R U g N=>?_,fun l o J=>⟨(F.rest l o J).1,(F.rest l o J).2.1,uk i (h.rest l o J).2.2 (by simp only[ad.bo,c];intro e;injection e with e;have:=(eu.1 (h.rest l o J).1).1;omega)⟩,F.dG⟩,?_⟩
 ·rcases eh b σ.length with u|u
  ·rw[cM u];exact ad.is_le (κ:=κ) rfl G (D b u) (M b u) rfl rfl (F.cg b u)
  ·have O:b=σ.length:=by simp at hb;omega
   subst O;rw[dY (aA _)];simp only[cw,di];refine⟨E,⟨vs.toArray,t,by rw[c];exact ma w _,by simpa using A,fun j hj=>⟨by unfold leaves at hl;rw[cW]at hl;exact hl _ (bg hj),?_⟩⟩,by rw[c];exact h.ext.size,fun o=>by rw[c];exact h.fresh (aA _) o,fun T Y=>⟨vs.toArray,by rw[c,L T Y];exact ma w _⟩⟩;have:=(X j hj).mono G;simpa[mb,nB,A,hj]using this
 ·rcases eh x σ.length with p|p<;>rcases eh y σ.length with r|r
  ·rw[cM p,cM r,i x p,i y r];exact h.apart x y p r g N
  ·have P:y=σ.length:=by simp at U;omega
   subst P;rw[cM p,i x p,dY (aA _)];simp only[cw,di,ad.bo,c];intro h1 h2;have:=(h.iG p h1).2;injection h2;omega
  ·have Q:x=σ.length:=by simp at R;omega
   subst Q;rw[cM r,i y r,dY (aA _)];simp only[cw,di,ad.bo,c];intro h1 h2;have:=(h.iG r h2).2;injection h1;omega
  ·simp at R U;omega
 ·have:=RV.ptr (κ:=κ.more w.heap.size) (b:=σ.length) (o:=0) (by show _<κ.n+1;rw[h.n];omega) E;rwa [c]at this
def aB.wrote(h:aB w0 κ σ w){b:Nat}{cs cs':List V}{vs:List Value}{tg:Option TypeId}(hb:σ[b]?=some (.cells cs tg))(hl:leaves cs'=true)(D:vs.length=cs'.length)
  (U:∀j (hj:j<cs'.length),RV κ cs'[j] (vs.getD j undef)):aB w0 κ (σ.set b (.cells cs' tg)) (w.setRow (κ.pos b) vs.toArray):=by
 obtain⟨E,A⟩:=aI.1 hb;have c:=h.cg b E;rw[A]at c;obtain⟨us,t,R,k2,k3⟩:=c.row;have i:∀g,g≠κ.pos b->(w.setRow (κ.pos b) vs.toArray).heap[g]?=w.heap[g]?:=fun g hg=>setRow_other w (κ.pos b) g _ hg;have r:=setRow_heap w (κ.pos b) us vs.toArray t (0,0) R;refine⟨by simpa using h.n,?_,fun x o v O=>?_,fun x P=>?_,fun x y P X g F=>?_,fun l o Y=>?_,by simpa[A5]using h.dG⟩
 rotate_right
 ·obtain⟨Z,a2,a3⟩:=h.rest l o Y;have G:=a3 b E;rw[A]at G;exact⟨(i l (fun e=>G (by rw[e];rfl))).trans Z,a2,um (fun _ _ _=>rfl) a3 G⟩
 ·exact h.ext.trans ⟨rfl,rfl,rfl,by simp[A5],fun k hk=>i k (by have:=c.own;omega)⟩
 ·have F:x≠κ.pos b:=fun e=>by rw[e,c.free]at O;cases O
  rw[A6 (w:=w) (a:=⟨x,o,none⟩) (i x F)];exact h.mem x o v O
 ·by_cases J:x=b
  ·subst J;rw[gU];refine⟨c.fr,⟨vs.toArray,t,r,by simpa using D,fun j hj=>⟨by unfold leaves at hl;rw[cW]at hl;exact hl _ (bg hj),?_⟩⟩,c.own,c.free,fun T hT=>by
    obtain⟨us',L⟩:=c.ty T hT;rw[R]at L;injection L with L;injection L with _ L;subst L;exact⟨_,r⟩⟩
   simpa[mb,nB,D,hj]using U j hj
  ·have u:x<σ.length:=by simpa using P
   rw[gb (dz J)];refine ad.se (h.cg x u) fun g hg=>i g fun e=>?_;subst e;exact h.apart x b u E _ J hg (by rw[A];rfl)
 ·have u:x<σ.length:=by simpa using P
  have M:y<σ.length:=by simpa using X
  have p:∀z (hz:z<σ.length) (Q:z<(σ.set b (.cells cs' tg)).length),((σ.set b (.cells cs' tg))[z]).bo κ z=(σ[z]).bo κ z:=fun z hz Q=>by
   by_cases N:z=b
   ·subst N;rw[gU,A];rfl
   ·rw[gb (dz N)]
  rw[p x u,p y M];exact h.apart x y u M g F
end
section
variable {P:Program} {w0 w w':World} {κ:K} {σ σ':H} {a:Act} {ρ:Env}
def GY:∀{l:List V} {r:List C},fx l=some r->r.length=l.length
 |[],r,h=>by simp only[fx]at h;injection h with h;subst h;rfl
 |x::l,r,h=>by
  simp only[fx]at h;split at h
  ·rename_i a0 b _ h2;injection h with h;subst h;simp[GY h2]
  ·cases h
def GZ:∀{l:List V} {r:List C} {xs:List Value},fx l=some r->xs.length=l.length->(∀j (hj:j<l.length),RV κ l[j] (xs.getD j undef))->∀j (hj:j<r.length),RC κ.m r[j] (xs.getD j undef)
 |[],r,xs,h,_,_,j,hj=>by simp only[fx]at h;injection h with h;subst h;simp at hj
 |x::l,r,xs,h,hl,b,j,hj=>by
  simp only[fx]at h;split at h
  ·rename_i a0 c h1 h2;injection h with h;subst h;cases xs with
   |nil=>simp at hl
   |cons u us=>
    cases j with
    |zero=>exact(b 0 (by simp)).gE h1
    |succ j=>exact GZ h2 (by simpa using hl) (fun i hi=>b (i+1) (by simpa using hi)) j (by simpa using hj)
  ·cases h
def G0:∀{l:List V} {r:List C},fx l=some r->∀x∈l,x.leaf=true
 |[],r,h,x,hx=>by cases hx
 |y::l,r,h,x,hx=>by
  simp only[fx]at h;split at h
  ·rename_i a0 b h1 h2;rcases List.mem_cons.1 hx with rfl|hx
   ·cases x<;>first|rfl|(cases h1;done)
   ·exact G0 h2 x hx
  ·cases h
def aB.G1(h:aB w0 κ σ w)(b:Nat):aB w0 κ (σ.set b .gone) w:=by
 refine⟨by simpa using h.n,h.ext,h.mem,fun x p=>?_,fun x y p A g r=>?_,fun l o t=>⟨(h.rest l o t).1,(h.rest l o t).2.1,um (fun _ _ _=>rfl) (h.rest l o t).2.2 (fun e=>by cases e)⟩,h.dG⟩
 ·have i:x<σ.length:=by simpa using p
  by_cases c:x=b
  ·subst c;rw[gU];trivial
  ·rw[gb (dz c)];exact h.cg x i
 ·have i:x<σ.length:=by simpa using p
  have u:y<σ.length:=by simpa using A
  by_cases c:x=b
  ·subst c;rw[gU];intro e;cases e
  ·rw[gb (dz c)];by_cases j:y=b
   ·subst j;rw[gU];intro _ e;cases e
   ·rw[gb (dz j)];exact h.apart x y i u g r
def aB.QY(h:aB w0 κ σ w){g:Nat}(hg:w.grownBy w' (some g))(hb:Below w0.heap.size w0 w')(u:∀o,κ.m g o=none)(hl:∀x (i:x<σ.length),(σ[x]).bo κ x≠some g)(r:κ.rest g=none):aB w0 κ σ w':=by
 have b:∀x,x<w.heap.size->x≠g->w'.heap[x]?=w.heap[x]?:=fun x i c=>hg.block x i (by simpa using c);refine⟨h.n,hb,fun x o v p=>?_,fun x i=>?_,h.apart,fun l o j=>⟨(b l (eu.1 (h.rest l o j).1).1 (fun e=>by rw[e,r]at j;cases j)).trans (h.rest l o j).1,(h.rest l o j).2⟩,bf h.dG hg.size⟩
 ·have c:x≠g:=fun e=>by rw[e,u]at p;cases p
  rw[A6 (w:=w) (a:=⟨x,o,none⟩) (b x (h.nK p) c)];exact h.mem x o v p
 ·exact ad.se (h.cg x i) fun z t=>b z (h.iG i t).2 fun e=>hl x i (by rw[t,e])
def K.kS(κ:K)(g:Nat)(v:Value):K:={κ with n:=κ.n+1,pos:=fun b=>if b=κ.n then g else κ.pos b,fr:=fun b=>if b=κ.n then none else κ.fr b,sv:=fun b=>if b=κ.n then v else κ.sv b}
def K.BA{g:Nat}{v:Value}:κ.le (κ.kS g v):=
 RV.same (Mem.le_refl _) (mc _) (fun b hb=>by show(if b=κ.n then _ else _)=_;rw[if_neg (by omega)]) (fun b hb=>by show(if b=κ.n then _ else _)=_;rw[if_neg (by omega)]) (fun b hb=>by show(if b=κ.n then _ else _)=_;rw[if_neg (by omega)]) (fun _ _=>rfl)
def aB.G2(h:aB w0 κ σ w){g e size n cap:Nat}{cs:List C}{cur:Array Value}(hg:w0.heap.size<=g)(Z:∀o,κ.m g o=none)(hl:∀x (L:x<σ.length),(σ[x]).bo κ x≠some g)
  (U:w.heap[g]?=some (.cells cur e (0,0))) (hc:cs.length=n*size) (hn:n<=cap) (u:cap<=maxLen) (M:cur.size=cap*size) (hv:∀j (hj:j<cs.length),RC κ.m cs[j] (cur.getD j undef)):
  aB w0 (κ.kS g (.slice (some ⟨g,0,none⟩) n cap)) (σ++[.vec e size cs]) w/\∀k,k<=n->RV (κ.kS g (.slice (some ⟨g,0,none⟩) n cap)) (.vec σ.length k) (.slice (some ⟨g,0,none⟩) k cap):=by
 have N:κ.le (κ.kS g (.slice (some ⟨g,0,none⟩) n cap)):=K.BA;have A:∀b,b<σ.length->(κ.kS g (.slice (some ⟨g,0,none⟩) n cap)).pos b=κ.pos b:=fun b hb=>by show(if b=κ.n then _ else _)=_;rw[if_neg (by rw[h.n];omega)]
 have O:∀b,b<σ.length->(κ.kS g (.slice (some ⟨g,0,none⟩) n cap)).fr b=κ.fr b:=fun b hb=>by show(if b=κ.n then _ else _)=_;rw[if_neg (by rw[h.n];omega)]
 have F:∀b,b<σ.length->(κ.kS g (.slice (some ⟨g,0,none⟩) n cap)).sv b=κ.sv b:=fun b hb=>by show(if b=κ.n then _ else _)=_;rw[if_neg (by rw[h.n];omega)]
 have c:(κ.kS g (.slice (some ⟨g,0,none⟩) n cap)).pos σ.length=g:=by show(if σ.length=κ.n then _ else _)=_;rw[if_pos h.n.symm]
 have D:(κ.kS g (.slice (some ⟨g,0,none⟩) n cap)).fr σ.length=none:=by show(if σ.length=κ.n then _ else _)=_;rw[if_pos h.n.symm]
 have E:(κ.kS g (.slice (some ⟨g,0,none⟩) n cap)).sv σ.length= .slice (some ⟨g,0,none⟩) n cap:=by show(if σ.length=κ.n then _ else _)=_;rw[if_pos h.n.symm]
 have i:∀b (hb:b<σ.length),(σ[b]).bo (κ.kS g (.slice (some ⟨g,0,none⟩) n cap)) b=(σ[b]).bo κ b:=fun b hb=>ad.kR (A b hb) (F b hb);refine⟨⟨by show κ.n+1=_;rw[h.n];simp,h.ext,h.mem,fun b hb=>?_,fun x y L X z P=>?_,fun l o G=>⟨(h.rest l o G).1,(h.rest l o G).2.1,uk i (h.rest l o G).2.2 (by simp only[ad.bo,c];intro e;injection e with e;have J:=(h.rest l o G).1;have Y:=(h.rest l o G).2.1;rw[<-e,U]at J;injection J with J;rw[<-J]at Y;cases Y)⟩,h.dG⟩,fun k hk=>?_⟩
 ·rcases eh b σ.length with t|t
  ·rw[cM t];exact ad.is_le (κ:=κ) rfl N (A b t) (O b t) (F b t) rfl (h.cg b t)
  ·have Q:b=σ.length:=by simp at hb;omega
   subst Q;rw[dY (aA _)];simp only[cw,di];exact⟨D,⟨cur,n,cap,by rw[E,c],by rw[c];exact U,hc,hn,u,M,hv⟩,by rw[c];exact hg,fun o=>by rw[c];exact Z o⟩
 ·rcases eh x σ.length with p|p<;>rcases eh y σ.length with r|r
  ·rw[cM p,cM r,i x p,i y r];exact h.apart x y p r z P
  ·have R:y=σ.length:=by simp at X;omega
   subst R;rw[cM p,i x p,dY (aA _)];simp only[cw,di,ad.bo,c];intro h1 h2;exact hl x p (h1.trans h2.symm)
  ·have T:x=σ.length:=by simp at L;omega
   subst T;rw[cM r,i y r,dY (aA _)];simp only[cw,di,ad.bo,c];intro h1 h2;exact hl y r (h2.trans h1.symm)
  ·simp at L X;omega
 ·have:=RV.vec (κ:=κ.kS g (.slice (some ⟨g,0,none⟩) n cap)) (b:=σ.length) (k:=k) (n:=n) (cap:=cap) (by show _<κ.n+1;rw[h.n];omega) D (by rw[E,c]) hk hn u;rwa [c]at this
def aB.QZ(h:aB w0 κ σ w){b e size:Nat}{cs cs':List C}{us:Array Value}{vs:List Value}(hb:σ[b]?=some (.vec e size cs))(J:w.heap[κ.pos b]?=some (.cells us e (0,0)))(L:vs.length=us.size)(O:cs'.length=cs.length)
  (T:∀j (hj:j<cs'.length),RC κ.m cs'[j] (vs.getD j undef)):aB w0 κ (σ.set b (.vec e size cs')) (w.setRow (κ.pos b) vs.toArray):=by
 obtain⟨u,t⟩:=aI.1 hb;have i:=h.cg b u;rw[t]at i;obtain⟨U,n,cap,k0,G,X,k3,k4,k5,k6⟩:=i.row;rw[J]at G;injection G with G;injection G with G;subst G;have c:∀g,g≠κ.pos b->(w.setRow (κ.pos b) vs.toArray).heap[g]?=w.heap[g]?:=fun g hg=>setRow_other w (κ.pos b) g _ hg;have A:=setRow_heap w (κ.pos b) us vs.toArray e (0,0) J;refine⟨by simpa using h.n,?_,fun x o v P=>?_,fun x Q=>?_,fun x y Q Y g D=>?_,fun l o Z=>?_,by simpa[A5]using h.dG⟩
 rotate_right
 ·obtain⟨a1,a2,a3⟩:=h.rest l o Z;have E:=a3 b u;rw[t]at E;exact⟨(c l (fun e=>E (by rw[e];rfl))).trans a1,a2,um (fun _ _ _=>rfl) a3 E⟩
 ·exact h.ext.trans ⟨rfl,rfl,rfl,by simp[A5],fun k hk=>c k (by have:=i.own;omega)⟩
 ·have D:x≠κ.pos b:=fun e=>by rw[e,i.free]at P;cases P
  rw[A6 (w:=w) (a:=⟨x,o,none⟩) (c x D)];exact h.mem x o v P
 ·by_cases F:x=b
  ·subst F;rw[gU];refine⟨i.fr,⟨vs.toArray,n,cap,k0,A,O.trans X,k3,k4,by simp[L,k5],fun j hj=>?_⟩,i.own,i.free⟩;simpa[iV,cx]using T j hj
  ·have r:x<σ.length:=by simpa using Q
   rw[gb (dz F)];refine ad.se (h.cg x r) fun g hg=>c g fun e=>?_;subst e;exact h.apart x b r u _ F hg (by rw[t];rfl)
 ·have r:x<σ.length:=by simpa using Q
  have M:y<σ.length:=by simpa using Y
  have p:∀z (hz:z<σ.length) (R:z<(σ.set b (.vec e size cs')).length),((σ.set b (.vec e size cs'))[z]).bo κ z=(σ[z]).bo κ z:=fun z hz R=>by
   by_cases N:z=b
   ·subst N;rw[gU,t];rfl
   ·rw[gb (dz N)]
  rw[p x r,p y M];exact h.apart x y r M g D
end
section
variable {P:Program} {w0 w w':World} {κ:K} {σ σ':H} {a:Act} {ρ:Env}
def eN{f:ah->bB}{x:Operand}{i:bB}(h:dH f x=some i):∃y,bK x=some y/\i=f y:=by
 unfold dH at h;split at h
 ·rename_i y b;injection h with h;exact⟨y,b,h.symm⟩
 ·cases h
def jf{f:ah->ah->bB}{x e:Operand}{i:bB}(h:eA f x e=some i):∃y b,bK x=some y/\bK e=some b/\i=f y b:=by
 unfold eA at h;split at h
 ·rename_i y b g c;injection h with h;exact⟨y,b,g,c,h.symm⟩
 ·cases h
def qe{x:V}{v:Value}(r:RV κ x v):∀(_:leaves x.af=true),v.cells.toList.length=x.af.length/\∀j (hj:j<x.af.length),RV κ x.af[j] (v.cells.toList.getD j undef):=by
 intro hl;have b:∀{x:V} {v:Value},RV κ x v->x.af=[x]->v.cells=#[v]->v.cells.toList.length=x.af.length/\∀j (hj:j<x.af.length),RV κ x.af[j] (v.cells.toList.getD j undef):=by
  intro x v r h1 h2;rw[h2];refine⟨by rw[h1];rfl,fun j hj=>?_⟩;have e:j=0:=by rw[h1]at hj;simpa using hj
  subst e;simp only[h1,di];exact r
 cases r with
 |agg h h1=>exact⟨h,h1⟩
 |void=>simp[leaves,V.af,V.leaf]at hl
 |any=>simp[leaves,V.af,V.leaf]at hl
 |au=>simp[leaves,V.af,V.leaf]at hl
 |c h=>exact b (.c h) rfl (by cases h<;>rfl)
 |ptr h h1=>exact b (.ptr h h1) rfl rfl
 |aC h h1 h2 h3 h4 h5=>exact b (.aC h h1 h2 h3 h4 h5) rfl (by cases h<;>rfl)
 |ae h=>exact b (.ae h) rfl rfl
 |fn h h1=>exact b (.fn h h1) rfl rfl
 |cu=>exact b .cu rfl rfl
 |mp h h1=>exact b (.mp h h1) rfl rfl
 |cN=>exact b .cN rfl rfl
 |vec h0 h1 h2 h3 h4 h5=>exact b (.vec h0 h1 h2 h3 h4 h5) rfl rfl
def G3{o:Oper}{x:Operand}{y:ah}(ho:o.op= .move x\/o.op= .assign x)(c:bK x=some y)(b:aB w0 κ σ w)(e:cj κ ρ a):
  br w0 κ σ (y.ev ρ) ((execOp a.eval o).run P w):=by
 refine br.still (v':=a.eval x) ?_ b (bN e c);rcases ho with ho|ho<;>simp[execOp,ho]
def RV.sf{b:Bool}{v:Value}(r:RV κ (.c (.bool b)) v):v= .bool b:=by cases r with|c h=>cases h;rfl
def RV.jg{k:IntKind}{n:Int}{v:Value}(r:RV κ (.c (.int k n)) v):v= .int k n:=by cases r with|c h=>cases h;rfl
def RV.qf{l:List UInt8}{v:Value}(r:RV κ (.c (.str l)) v):v= .string (bs l):=by cases r with|c h=>cases h;rfl
def RV.G4{l:List UInt8}{v:Value}(r:RV κ (.c (.str l)) v):l.length<=maxLen:=by cases r with|c h=>cases h;assumption
def Q0{o:Oper}{c x y:Operand}{g h i:ah}{t:Bool}(j:o.op= .pick c x y)(hc:bK c=some g)(p:bK x=some h)(r:bK y=some i)(u:g.ev ρ= .c (.bool t))
  (b:aB w0 κ σ w) (e:cj κ ρ a):br w0 κ σ (if t then h.ev ρ else i.ev ρ) ((execOp a.eval o).run P w):=by
 have h1:=bN e hc;rw[u]at h1;have h1:=h1.sf;refine br.still (v':=if t then a.eval x else a.eval y) ?_ b ?_
 ·simp[execOp,j,h1,asBool]
 ·cases t
  ·exact bN e r
  ·exact bN e p
def G5{P:Program}{t:TypeId}:∀T,qd P t=some T->T=t:=fun T h=>by
 unfold qd at h;split at h
 ·injection h with h;exact h.symm
 ·cases h
def Q1{o:Oper}{t:TypeId}{z:V}(g:o.op= .alloc t)(b:mB P t=some z)(hl:leaves z.af=true)(e:aB w0 κ σ w):
  br w0 κ (σ++[.cells z.af (qd P t)]) (.ptr σ.length 0) ((execOp a.eval o).run P w):=by
 unfold mB at b;cases hi:P.info? t with
 |none=>rw[hi]at b;cases b
 |some i=>
  rw[hi]at b;simp only at b;cases c:i.zero with
  |none=>rw[c]at b;cases b
  |some r=>
   rw[c]at b;have h:=xF (κ:=κ) b;obtain⟨h1,h2⟩:=qe h hl;obtain⟨j,p⟩:=e.box t (G5 (P:=P)) hl h1 h2;refine⟨_,_,_,.inl ?_,K.uj,j,p⟩;simp[execOp,g,Instr.alloc,zeroValue,typeInfo,hi,c,newVar,newRow]
def Q2{o:Oper}{t:TypeId}{x:Operand}{y:ah}(c:o.op= .box t x)(e:bK x=some y)(hl:leaves (y.ev ρ).af=true)(b:aB w0 κ σ w)(g:cj κ ρ a):
  br w0 κ (σ++[.cells (y.ev ρ).af (qd P t)]) (.ptr σ.length 0) ((execOp a.eval o).run P w):=by
 obtain⟨h1,h2⟩:=qe (bN g e) hl;obtain⟨h,i⟩:=b.box t (G5 (P:=P)) hl h1 h2;refine⟨_,_,_,.inl ?_,K.uj,h,i⟩;simp[execOp,c,Instr.box,newVar,newRow]
def Q3{o:Oper}{t:TypeId}{x:Operand}{i:bB}{v:V}(r:o.op= .load t x)(e:bp P (.load t x)=some i)(b:step ρ σ i=some (v,σ'))(c:aB w0 κ σ w)(A:cj κ ρ a):
  br w0 κ σ' v ((execOp a.eval o).run P w):=by
 simp only[bp]at e;cases hd:P.underlying t with
 |none=>rw[hd]at e;cases e
 |some d=>
  cases hi:P.info? t with
  |none=>rw[hd,hi]at e;cases e
  |some D=>
   rw[hd,hi]at e;simp only at e;cases hg:kb d
   ·rw[hg]at e;obtain⟨y,g,rfl⟩:=eN e;simp only[step]at b;split at b
    ·rename_i cs o' hc;split at b
     ·rename_i u E;injection b with b;injection b with h1 h2;subst h1 h2;obtain⟨v',h,j⟩:=GU c hd hg hc (bN A g) E;exact br.still (by simp[execOp,r,h]) c j
     ·cases b
    ·cases b
   ·rw[hg]at e;obtain⟨y,g,rfl⟩:=eN e;simp only[step]at b;split at b
    ·rename_i cs o' hc;split at b
     ·rename_i p;injection b with b;injection b with h1 h2;subst h1 h2;obtain⟨v',h,j⟩:=GV c hd hg hi hc (bN A g) p;exact br.still (by simp[execOp,r,h]) c j
     ·cases b
    ·cases b
def BB{l:List V}{xs:List Value}(hl:leaves l=true)(h:∀j (hj:j<l.length),RV κ l[j] (xs.getD j undef))(b:xs.length=l.length):∀v∈xs,v.oneCell'=true:=by
 intro v c;obtain⟨j,hj,rfl⟩:=eH c;have:=h j (by omega);rw[iF hj]at this;refine this.one ?_;unfold leaves at hl;rw[cW]at hl;exact hl _ (bg _)
def G6{l r:List V}:leaves (l++r)=(leaves l&&leaves r):=by simp[leaves]
def G7{l:List V}(h:leaves l=true){r:List V}(b:∀x∈r,x∈l):leaves r=true:=by
 unfold leaves at*
 rw[cW]at*
 exact fun x c=>h x (b x c)
def xG{α:Type}(l ys:List α)(o:Nat)(h:o+ys.length<=l.length)(j:Nat):
  (l.take o++ys++l.drop (o+ys.length))[j]?=if j<o then l[j]? else if j<o+ys.length then ys[j-o]? else l[j]?:=by
 rw[List.append_assoc,aea,List.length_take,Nat.min_eq_left (by omega)];by_cases h1:j<o
 ·simp[h1]
 ·rw[if_neg h1,if_neg h1,aea];by_cases h2:j<o+ys.length
  ·rw[if_pos (by omega),if_pos h2]
  ·rw[if_neg (by omega),if_neg h2,oO];congr 1;omega
def qg{α:Type}(l ys:List α)(o:Nat)(h:o+ys.length<=l.length):(l.take o++ys++l.drop (o+ys.length)).length=l.length:=by
 simp;omega
def Fits(κ:K)(l:List V)(xs:List Value):Prop:=xs.length=l.length/\∀j (hj:j<l.length),RV κ l[j] (xs.getD j undef)
def Fits.G8{l ys:List V}{xs us:List Value}{o:Nat}(h:Fits κ l xs)(k:Fits κ ys us)(g:o+ys.length<=l.length):
  Fits κ (l.take o++ys++l.drop (o+ys.length)) (xs.take o++us++xs.drop (o+us.length)):=by
 refine⟨by rw[qg _ _ _ g,qg _ _ _ (by rw[k.1,h.1];exact g)];exact h.1,fun j hj=>?_⟩;have hj':j<l.length:=by rwa [qg _ _ _ g]at hj
 have b:=xG l ys o g j;have c:=xG xs us o (by rw[k.1,h.1];exact g) j;rw[aN hj]at b;have i:j<(xs.take o++us++xs.drop (o+us.length)).length:=by rw[qg _ _ _ (by rw[k.1,h.1];exact g),h.1];exact hj'
 rw[iF i];rw[aN i]at c;have e:j<xs.length:=by rw[h.1];exact hj'
 by_cases h1:j<o
 ·rw[if_pos h1,aN hj']at b;rw[if_pos h1,aN e]at c;injection b with b;injection c with c;rw[b,c];have:=h.2 j hj';rwa [iF e]at this
 ·rw[if_neg h1]at b c;by_cases h2:j<o+ys.length
  ·have p:j-o<us.length:=by rw[k.1];omega
   rw[if_pos h2,aN (by omega)]at b;rw[if_pos (by rw[k.1];exact h2),aN p]at c;injection b with b;injection c with c;rw[b,c];have:=k.2 (j-o) (by omega);rwa [iF p]at this
  ·rw[if_neg h2,aN hj']at b;rw[if_neg (by rw[k.1];exact h2),aN e]at c;injection b with b;injection c with c;rw[b,c];have:=h.2 j hj';rwa [iF e]at this
def Q4{o:Oper}{t:TypeId}{x y:Operand}{i:bB}{v:V}(ho:o.op= .store t x y)(R:bp P (.store t x y)=some i)(r:step ρ σ i=some (v,σ'))(E:aB w0 κ σ w)(he:cj κ ρ a):
  br w0 κ σ' v ((execOp a.eval o).run P w):=by
 simp only[bp]at R;cases hi:P.info? t with
 |none=>rw[hi]at R;cases R
 |some u=>
  rw[hi]at R;obtain⟨x',y',hx,hy,rfl⟩:=jf R;simp only[step]at r;split at r
  ·rename_i b off T;split at r
   ·rename_i cs tg hb;split at r
    ·rename_i hc;obtain⟨c1,c2,c3⟩:=hc;injection r with r;injection r with h1 h2;subst h1 h2;have g:=bN he hx;rw[T]at g;obtain⟨L,M⟩:=aI.1 hb;have A:=E.cg b L;rw[M]at A;obtain⟨us,tt,k1,k2,k3⟩:=A.row;have c:=qe (bN he hy) c3;cases h:a.eval x with
     |pointer p=>
      rw[h]at g;cases g with
      |ptr q0 q1=>
       have U:leaves cs=true:=by
        unfold leaves;rw[cW];intro z X;obtain⟨j,hj,rfl⟩:=eH X;exact(k3 j hj).1
       have Y:Fits κ cs us.toList:=⟨by simpa using k2,fun j hj=>by have:=(k3 j hj).2;simpa[nB,mb,k2,hj]using this⟩;have N:Fits κ (y'.ev ρ).af (a.eval y).cells.toList:=c;have Z:=Y.G8 N (o:=off) (by omega);have F:=run_storeCells_at P (κ.pos b) off tt (a.eval y).cells.toList 0 us w k1 (by have:=c.1;omega) (BB c3 c.2 c.1);simp only[nC]at F;have hw:=E.wrote (cs':=cs.take off++(y'.ev ρ).af++cs.drop (off+u.size)) hb (by
        rw[G6,G6];simp only[Bool.and_eq_true];exact⟨⟨G7 U fun z X=>Gz X,c3⟩,G7 U fun z X=>Qw X⟩) (by have:=Z.1;rw[c1]at this;exact this) (by
         have:=Z.2;rw[c1]at this;exact this)
       refine⟨κ,undef,_,.inr ⟨?_,rfl⟩,K.le_refl κ,hw,.void⟩;have O:(a.eval y).cells.size=u.size:=by have:=c.1;simp at this;omega
       have G:¬(a.eval y).cells.size≠u.size:=by simpa using O
       simp only[execOp,ho,Instr.storeAt,h,tT,jU,kK,kL,storeVar,run_sizeOf hi,if_neg G,F]
     |_=>rw[h]at g;cases g
    ·cases r
   ·rename_i e size cs hb;split at r
    ·rename_i ys Q;split at r
     ·rename_i hc;obtain⟨c1,c2⟩:=hc;injection r with r;injection r with h1 h2;subst h1 h2;have g:=bN he hx;rw[T]at g;obtain⟨L,M⟩:=aI.1 hb;have A:=E.cg b L;rw[M]at A;obtain⟨us,n,cap,k0,k1,k2,k3,k4,k5,k6⟩:=A.row;have c3:leaves (y'.ev ρ).af=true:=by unfold leaves;rw[cW];exact G0 Q
      have c:=qe (bN he hy) c3;have hyl:=GY Q;have hyr:=GZ Q c.1 c.2;cases h:a.eval x with
      |pointer p=>
       rw[h]at g;cases g with
       |ptr q0 q1=>
        have hcu:cs.length<=us.size:=by rw[k2,k5];exact jT _ k3
        have hol:off+(a.eval y).cells.toList.length<=us.size:=by have:=c.1;omega
        have F:=run_storeCells_at P (κ.pos b) off e (a.eval y).cells.toList 0 us w k1 (by have:=c.1;omega) (BB c3 c.2 c.1);simp only[nC]at F;have hl1:(us.toList.take off++(a.eval y).cells.toList++us.toList.drop (off+(a.eval y).cells.toList.length)).length=us.size:=by
         have:=qg us.toList (a.eval y).cells.toList off (by simpa using hol);simpa using this
        have hl2:(cs.take off++ys++cs.drop (off+u.size)).length=cs.length:=by
         have:=qg cs ys off (by omega);rwa [c1]at this
        have hw:=E.QZ (cs':=cs.take off++ys++cs.drop (off+u.size)) (vs:=us.toList.take off++(a.eval y).cells.toList++us.toList.drop (off+(a.eval y).cells.toList.length)) hb k1 hl1 hl2 (fun j hj=>by
         have J:j<cs.length:=by rw[<-hl2];exact hj
         have D:=xG cs ys off (by omega) j;rw[c1,aN hj]at D;have e2:=xG us.toList (a.eval y).cells.toList off (by simpa using hol) j;rw[cx,e2];have hyl':(a.eval y).cells.toList.length=ys.length:=by have:=c.1;omega
         by_cases g1:j<off
         ·rw[if_pos g1]at D⊢;rw[aN J]at D;injection D with D;rw[D];simpa[iV]using k6 j J
         ·rw[if_neg g1]at D⊢;by_cases g2:j<off+u.size
          ·rw[if_pos g2]at D;rw[if_pos (by omega)];have hjy:j-off<ys.length:=by omega
           rw[aN hjy]at D;injection D with D;rw[D];have:=hyr (j-off) hjy;rwa [cx]at this
          ·rw[if_neg g2,aN J]at D;rw[if_neg (by omega)];injection D with D;rw[D];simpa[iV]using k6 j J)
        refine⟨κ,undef,_,.inr ⟨?_,rfl⟩,K.le_refl κ,hw,.void⟩;have O:(a.eval y).cells.size=u.size:=by have:=c.1;simp at this;omega
        have G:¬(a.eval y).cells.size≠u.size:=by simpa using O
        simp only[execOp,ho,Instr.storeAt,h,tT,jU,kK,kL,storeVar,run_sizeOf hi,if_neg G,F]
      |_=>rw[h]at g;cases g
     ·cases r
    ·cases r
   ·cases r
  ·cases r
def Q5{o:Oper}{x:Operand}{i:bB}{v:V}(u:o.op= .nilCheck x)(A:bp P (.nilCheck x)=some i)(g:step ρ σ i=some (v,σ'))(j:aB w0 κ σ w)(D:cj κ ρ a):
  br w0 κ σ' v ((execOp a.eval o).run P w):=by
 obtain⟨y,E,rfl⟩:=eN A;have e:=bN D E;simp only[step]at g;split at g
 ·rename_i b off t;injection g with g;injection g with h1 h2;subst h1 h2;rw[t]at e;refine br.still (v':=a.eval x) ?_ j e;cases r:a.eval x with
  |pointer p=>rw[r]at e;cases e;simp[execOp,u,r]
  |_=>rw[r]at e;cases e
 ·rename_i cs off t;injection g with g;injection g with h1 h2;subst h1 h2;rw[t]at e;refine br.still (v':=a.eval x) ?_ j e;cases r:a.eval x with
  |pointer p=>rw[r]at e;cases e with|c h=>cases h;simp[execOp,u,r]
  |_=>rw[r]at e;cases e with|c h=>cases h
 ·rename_i f caps t;injection g with g;injection g with h1 h2;subst h1 h2;rw[t]at e;refine br.still (v':=a.eval x) ?_ j e;cases r:a.eval x with
  |func fn first cap=>rw[r]at e;cases e;simp[execOp,u,r]
  |_=>rw[r]at e;cases e
 ·cases g
def Q6{o:Oper}{s f:Nat}{x:Operand}{i:bB}{v:V}(G:o.op= .fieldAddr s x f)(e:bp P (.fieldAddr s x f)=some i)(j:step ρ σ i=some (v,σ'))(r:aB w0 κ σ w)(J:cj κ ρ a):
  br w0 κ σ' v ((execOp a.eval o).run P w):=by
 simp only[bp]at e;split at e
 ·rename_i fields L;split at e
  ·rename_i D hf;split at e
   ·rename_i k u;split at e
    ·cases e
    ·rename_i M;obtain⟨y,N,rfl⟩:=eN e;have g:=bN J N;unfold ba at u;cases hi:P.info? D.type with
     |none=>rw[hi]at u;cases u
     |some A=>
      rw[hi]at u;have u:A.size=k:=by simpa using u
      have E:¬A.size=0:=by omega
      have key:∀b p,a.eval x= .pointer (some ⟨b,p,none⟩)->(execOp a.eval o).run P w= .ok (.value (.pointer (some ⟨b,p+D.offset,none⟩))) w:=by
       intro b p hp;simp[execOp,G,Instr.fieldAt,cA L,hf,hp,tT,fieldPlace,run_sizeOf hi,E,add_lit]
      simp only[step]at j;split at j
      ·rename_i b off F;injection j with j;injection j with h1 h2;subst h1 h2;rw[F]at g;cases t:a.eval x with
       |pointer p=>
        rw[t]at g;cases g with
        |ptr O Q=>exact br.still (key _ _ t) r (.ptr O Q)
       |_=>rw[t]at g;cases g
      ·rename_i cs off F;injection j with j;injection j with h1 h2;subst h1 h2;rw[F]at g;cases t:a.eval x with
       |pointer p=>
        rw[t]at g;cases g with
        |c h=>
         cases h with
         |ref cs o b p xs h3 h4 h5=>
          refine br.still (key _ _ t) r (.c ?_);have:=RC.ref (m:=κ.m) cs (off+D.offset) b p xs h3 h4 h5;rwa [<-jV]at this
       |_=>rw[t]at g;cases g with|c h=>cases h
      ·cases j
   ·cases e
  ·cases e
 ·cases e
end
section
variable {P:Program} {w0 w w':World} {κ:K} {σ σ':H} {a:Act} {ρ:Env}
def RV.xH{vs:List V}{v:Value}(r:RV κ (.agg vs) v):∃xs:List Value,v= .agg xs.toArray/\Fits κ vs xs:=by cases r with|agg h h1=>exact⟨_,rfl,h,h1⟩
def RV.Q7{vs:List V}{v:Value}(r:RV κ (.au vs) v):∃xs:List Value,v= .tuple xs.toArray/\Fits κ vs xs:=by cases r with|au h h1=>exact⟨_,rfl,h,h1⟩
def Fits.at_{l:List V}{xs:List Value}(h:Fits κ l xs){j:Nat}{u:V}(c:l[j]?=some u):∃v,xs[j]?=some v/\RV κ u v:=by
 obtain⟨hj,e⟩:=aI.1 c;have b:j<xs.length:=by rw[h.1];exact hj
 refine⟨xs[j],aN b,?_⟩;have:=h.2 j hj;rw[iF b,e]at this;exact this
def Fits.sub{l:List V}{xs:List Value}(h:Fits κ l xs)(o n:Nat)(c:o+n<=l.length):Fits κ ((l.drop o).take n) ((xs.drop o).take n):=by
 have e:=h.1;refine⟨by simp[e],fun j hj=>?_⟩;have g:j<n:=by simp at hj;omega
 have b:j<((xs.drop o).take n).length:=by simp;omega
 rw[iF b,pY,pY,GA,GA];have:=h.2 (o+j) (by omega);rwa [iF (by omega)]at this
def Q8{o:Oper}{s f:Nat}{x:Operand}{i:bB}{v:V}(N:o.op= .field s x f)(e:bp P (.field s x f)=some i)(b:step ρ σ i=some (v,σ'))(g:aB w0 κ σ w)(O:cj κ ρ a):
  br w0 κ σ' v ((execOp a.eval o).run P w):=by
 simp only[bp]at e;split at e
 ·rename_i fields Q;split at e
  ·rename_i r hf;split at e
   ·rename_i d k hd j;unfold ba at j;cases hi:P.info? r.type with
    |none=>rw[hi]at j;cases j
    |some t=>
     rw[hi]at j;have j:t.size=k:=by simpa using j
     split at e
     ·rename_i hg;obtain⟨y,A,rfl⟩:=eN e;have p:=bN O A;simp only[step]at b;split at b
      ·rename_i vs D;split at b
       ·rename_i E;injection b with b;injection b with h1 h2;subst h1 h2;rw[D]at p;obtain⟨xs,F,c⟩:=p.xH;have h:=c.sub r.offset k E;refine br.still (v':=.agg ((xs.drop r.offset).take k).toArray) ?_ g (.agg h.1 h.2);simp[execOp,N,Instr.field,cA Q,hf,F,asAgg,part,pa hd,hg,run_sizeOf hi,j]
       ·cases b
      ·cases b
     ·rename_i hg;obtain⟨y,A,rfl⟩:=eN e;have p:=bN O A;simp only[step]at b;split at b
      ·rename_i vs D;split at b
       ·rename_i u G;injection b with b;injection b with h1 h2;subst h1 h2;rw[D]at p;obtain⟨xs,F,c⟩:=p.xH;obtain⟨v',J,L⟩:=c.at_ G;refine br.still (v':=v') ?_ g L;have M:kb d=false:=by simpa using hg
        simp[execOp,N,Instr.field,cA Q,hf,F,asAgg,part,pa hd,M,J]
       ·cases b
      ·cases b
   ·cases e
  ·cases e
 ·cases e
def Q9{o:Oper}{x:Operand}{k:Nat}{i:bB}{v:V}(p:o.op= .extract x k)(r:bp P (.extract x k)=some i)(b:step ρ σ i=some (v,σ'))(c:aB w0 κ σ w)(t:cj κ ρ a):
  br w0 κ σ' v ((execOp a.eval o).run P w):=by
 obtain⟨y,A,rfl⟩:=eN r;have j:=bN t A;simp only[step]at b;split at b
 ·rename_i vs D;split at b
  ·rename_i u E;injection b with b;injection b with h1 h2;subst h1 h2;rw[D]at j;obtain⟨xs,F,e⟩:=j.Q7;obtain⟨v',g,h⟩:=e.at_ E;exact br.still (v':=v') (by simp[execOp,p,Instr.extract,F,g]) c h
  ·cases b
 ·cases b
def RV.lF{x:V}{r:List (List C)}{v:Value}(h:RV κ x v)(b:x.rows=some r):RC κ.m (.sl r) v:=by
 cases h with
 |c h0=>
  cases h0 with
  |sl rows s A cap xs k0 e g k3 k4 k5=>simp only[V.rows]at b;injection b with b;subst b;exact .sl _ s A cap xs k0 e g k3 k4 k5
  |_=>cases b
 |aC h0=>simp only[V.rows]at b;injection b with b;subst b;exact h0
 |ae h0=>simp only[V.rows]at b;injection b with b;subst b;exact h0
 |_=>cases b
def RC.kT{m:Mem}{rows:List (List C)}{v:Value}(h:RC m (.sl rows) v):∃(s:Nat) (A:Option Addr) (cap:Nat) (xs:List Value),v= .slice A rows.length cap/\(∀r∈rows,r.length=s)/\rows.length<=cap/\cap<=maxLen/\
  xs.length=rows.length*s/\(rows≠[]->∃b o,A=some ⟨b,o,none⟩/\∀k,k<xs.length->m b (o+k)=xs[k]?)/\(∀i (hi:i<rows.length) j (hj:j<rows[i].length),RC m rows[i][j] (xs.getD (i*s+j) undef)):=by
 cases h with|sl _ s A cap xs h0 h1 h2 h3 h4 h5=>exact⟨s,A,cap,xs,rfl,h0,h1,h2,h3,h4,h5⟩
def mul_lt{i n s j:Nat}(hi:i<n)(hj:j<s):i*s+j<n*s:=by
 have:(i+1)*s<=n*s:=jT _ hi;rw[fK]at this;omega
def RC.Ra{m:Mem}{rows:List (List C)}{s b o:Nat}{xs:List Value}(h0:∀r∈rows,r.length=s)(h3:xs.length=rows.length*s)(h4:∀k,k<xs.length->m b (o+k)=xs[k]?)
  (h5:∀i (hi:i<rows.length) j (hj:j<rows[i].length),RC m rows[i][j] (xs.getD (i*s+j) undef)) {i:Nat} (hi:i<rows.length):RC m (.ref rows[i] 0) (.pointer (some ⟨b,o+i*s,none⟩)):=by
 have hl:rows[i].length=s:=h0 _ (bg hi);have c:((xs.drop (i*s)).take s).length=s:=by
  have:=mul_lt (s:=s+1) hi (Nat.lt_succ_self s);have g:(i+1)*s<=rows.length*s:=jT _ hi;rw[fK]at g;simp;omega
 have key:∀k,k<s->((xs.drop (i*s)).take s)[k]?=xs[i*s+k]?:=fun k e=>by rw[nD,if_pos e,oO]
 have:=RC.ref (m:=m) rows[i] 0 b (o+i*s) ((xs.drop (i*s)).take s) (by rw[c,hl]) (fun k e=>by
  rw[c]at e;rw[key k e,<-h4 (i*s+k) (by rw[h3];exact mul_lt hi e),jV]) (fun j hj=>by
  have hj':j<s:=by omega
  have:=h5 i hi j hj;rw[cx]at this⊢;rwa [key j hj'])
 simpa using this
def Rb{o:Oper}{t:Nat}{x k:Operand}{i:bB}{v:V}(X:o.op= .indexAddr t x k)(N:bp P (.indexAddr t x k)=some i)(g:step ρ σ i=some (v,σ'))(G:aB w0 κ σ w)(Y:cj κ ρ a):
  br w0 κ σ' v ((execOp a.eval o).run P w):=by
 simp only[bp]at N;split at N
 ·rename_i e Z;split at N
  ·rename_i sz h;obtain⟨x',k',hx,hk,rfl⟩:=jf N;unfold ba at h;cases hi:P.info? e with
   |none=>rw[hi]at h;cases h
   |some O=>
    rw[hi]at h;have h:O.size=sz:=by simpa using h
    have D:=bN Y hx;have E:=bN Y hk;simp only[step]at g;split at g
    case h_2=>cases g
    rename_i q j hj;split at g
    ·rename_i b n Q;split at g
     ·rename_i hb;injection g with g;injection g with h1 h2;subst h1 h2;rw[hj]at E;have M:=E.jg;rw[Q]at D;generalize R:a.eval x=va at D;cases D with
      |vec q0 q1 q2 q3 q4 q5=>
       refine br.still (v':=.pointer (some ⟨κ.pos b,0+j.toNat*sz,none⟩)) ?_ G (by rw[Nat.zero_add];exact .ptr q0 q1);simp[execOp,X,Instr.indexAt,cA Z,R,M,asIntOf,hb,run_sizeOf hi,h,add_lit]
     ·cases g
    split at g
    ·rename_i u hnar r hr;split at g
     ·rename_i hb;split at g
      ·rename_i cs T;split at g
       ·rename_i hl;injection g with g;injection g with h1 h2;subst h1 h2;rw[hj]at E;have M:=E.jg;obtain⟨s,A,cap,xs,hv,h0,h1,h2,h3,h4,h5⟩:=(D.lF hr).kT;obtain⟨F,J⟩:=aI.1 T;obtain⟨b,p,rfl,k4⟩:=h4 (by intro e;rw[e]at F;simp at F);have U:s=O.size:=by rw[h,<-hl,<-J,h0 _ (bg F)]
        have L:=RC.Ra h0 h3 k4 h5 F;rw[J]at L;refine br.still (v':=.pointer (some ⟨b,p+j.toNat*s,none⟩)) ?_ G (.c L);simp[execOp,X,Instr.indexAt,cA Z,hv,M,asIntOf,hb,run_sizeOf hi,U,add_lit]
       ·cases g
      ·cases g
     ·cases g
    ·cases g
  ·cases N
 ·cases N
def Rc{o:Oper}{t:Nat}{x k:Operand}{i:bB}{v:V}(F:o.op= .index t x k)(p:bp P (.index t x k)=some i)(b:step ρ σ i=some (v,σ'))(e:aB w0 κ σ w)(E:cj κ ρ a):
  br w0 κ σ' v ((execOp a.eval o).run P w):=by
 simp only[bp]at p;split at p
 ·rename_i G;obtain⟨M,N,J,L,rfl⟩:=jf p;have g:=bN E J;have h:=bN E L;simp only[step]at b;split at b
  ·rename_i l q j hl hj;split at b
   ·rename_i hb;split at b
    ·rename_i c hc;injection b with b;injection b with h1 h2;subst h1 h2;rw[hl]at g;rw[hj]at h;have r:=h.jg;have u:=g.qf;obtain⟨A,D⟩:=aI.1 hc;have bx:(bs l)[j.toNat]?=some c:=by
      rw[getElem?_pos (bs l) j.toNat (by rw[xI];exact A),Rd];rw[D]
     refine br.still (v':=.int .u8 c.toNat) ?_ e (.c (.int _ _));simp[execOp,F,Instr.index,cA G,u,r,asIntOf,hb.1,bx]
    ·cases b
   ·cases b
  ·cases b
 ·cases p
def Re{o:Oper}{op:UnOp}{t:Nat}{x:Operand}{i:bB}{v:V}(p:o.op= .unOp op t x)(r:bp P (.unOp op t x)=some i)(e:step ρ σ i=some (v,σ'))(g:aB w0 κ σ w)(u:cj κ ρ a):
  br w0 κ σ' v ((execOp a.eval o).run P w):=by
 obtain⟨y,A,rfl⟩:=eN r;have h:=bN u A;simp only[step]at e;split at e
 ·rename_i b j;injection e with e;injection e with h1 h2;subst h1 h2;rw[j]at h;exact br.still (v':=.bool (!b)) (by simp[execOp,p,h.sf,Op.unary]) g (.c (.bool _))
 ·rename_i k n j;injection e with e;injection e with h1 h2;subst h1 h2;rw[j]at h;exact br.still (v':=.int k (k.wrap (0-n))) (by simp[execOp,p,h.jg,Op.unary,Op.intArith]) g (.c (.int _ _))
 ·cases e
def BC:∀{rows:List (List C)} {l:List UInt8},o8 rows=some l->∃ns:List Int,rows=ns.map (fun n=>[C.int .u8 n])/\l=ns.map (fun n=>tR n.toNat)
 |[],l,h=>by simp only[o8]at h;injection h with h;subst h;exact⟨[],rfl,rfl⟩
 |r::rows,l,h=>by
  unfold o8 at h;split at h
  ·rename_i h0;cases h0
  ·rename_i n b h0;injection h0 with h1 h2;subst h1 h2;split at h
   ·rename_i c hl;injection h with h;subst h;obtain⟨ns,rfl,rfl⟩:=BC hl;exact⟨n::ns,rfl,rfl⟩
   ·cases h
  ·cases h
def G9:∀(ns:List Int) (s:ByteArray),(ns.foldl (fun r n=>r.push (tR n.toNat)) s).data.toList=s.data.toList++ns.map (fun n=>tR n.toNat)
 |[],s=>by simp
 |n::ns,s=>by
  rw[List.foldl_cons,G9 ns];simp[ByteArray.push]
def Rf(e:aB w0 κ σ w){rows:List (List C)}{l:List UInt8}{v:Value}(h:RC κ.m (.sl rows) v)(hb:o8 rows=some l):(Conv.bytesToString v).run P w= .ok (.string (bs l)) w:=by
 obtain⟨ns,rfl,rfl⟩:=BC hb;obtain⟨s,A,cap,xs,rfl,h0,h1,h2,h3,h4,h5⟩:=h.kT;have g:(ns.foldl (fun r n=>r.push (tR n.toNat)) ByteArray.empty)=bs (ns.map (fun n=>tR n.toNat)):=xJ (by rw[G9];rfl);cases c:ns with
 |nil=>
  subst c;cases A with
  |none=>simp[Conv.bytesToString];rfl
  |some a=>
   have:=run_bytesToString (P:=P) w a 0 cap [] (by have:=run_loadCells_list (P:=P) w a [] (by simp);simpa using this);rw[show(List.map (fun n=>[C.int IntKind.u8 n]) ([]:List Int)).length=0 from rfl];rw[this];rfl
 |cons n0 J=>
  have D:ns.map (fun n=>[C.int .u8 n])≠[]:=by rw[c];simp
  have L:s=1:=by
   have:=h0 [C.int .u8 n0] (by rw[c];simp);simpa using this.symm
  subst L;obtain⟨b,o,M,N⟩:=h4 D;have i:xs=ns.map (Value.int .u8):=by
   apply List.ext_getElem (by rw[h3];simp);intro k O E;have F:k<ns.length:=by simpa using E
   have:=h5 k (by simpa using F) 0 (by simp);simp only[eI,di,Nat.mul_one,nC]at this;rw[iF O]at this;generalize xs[k]=u at this;cases this;simp
  have p:=run_loadCells_list (P:=P) w ⟨b,o,none⟩ xs (fun j v hj=>by
   rw[add_lit];have G:=(aI.1 hj).1;have:=N j G;rw[hj]at this;exact e.mem _ _ _ this)
  have t:xs.length=ns.length:=by rw[i];simp
  rw[t,i]at p;have:=run_bytesToString (P:=P) w ⟨b,o,none⟩ ns.length cap ns p;rw[M,<-c,bY,this,g]
def Rg{o:Oper}{s t:Nat}{x:Operand}{i:bB}{v:V}(J:o.op= .convert s t x)(h:bp P (.convert s t x)=some i)(b:step ρ σ i=some (v,σ'))(g:aB w0 κ σ w)(L:cj κ ρ a):
  br w0 κ σ' v ((execOp a.eval o).run P w):=by
 simp only[bp]at h;split at h
 ·rename_i k0 k h1 h2;obtain⟨y,u,rfl⟩:=eN h;have j:=bN L u;simp only[step]at b;split at b
  ·rename_i q n D;injection b with b;injection b with E F;subst E F;rw[D]at j;exact br.still (v':=.int k (k.wrap n)) (by simp[execOp,J,j.jg,convert,cA h1,cA h2,Conv.intToInt]) g (.c (.int _ _))
  ·cases b
 ·rename_i h1 h2;obtain⟨y,u,rfl⟩:=eN h;have j:=bN L u;simp only[step]at b;split at b
  ·rename_i l D;injection b with b;injection b with E F;subst E F;rw[D]at j;exact br.still (v':=.string (bs l)) (by simp[execOp,J,j.qf,convert,cA h1,cA h2]) g (.c (.str _ j.G4))
  ·cases b
 ·rename_i e h1 h2;split at h
  ·rename_i h3;obtain⟨y,u,rfl⟩:=eN h;have j:=bN L u;simp only[step]at b;split at b
   ·rename_i r D;split at b
    ·rename_i l hl;injection b with b;injection b with E F;subst E F;have G:=j.lF D;obtain⟨Q,A,cap,xs,N,R,O,T,_⟩:=G.kT;have p:=Rf (P:=P) g G hl;have M:l.length<=maxLen:=by
      obtain⟨ns,rfl,rfl⟩:=BC hl;simp only[bY]at O⊢;omega
     rw[N]at p;exact br.still (v':=.string (bs l)) (by simp[execOp,J,N,run_convert_bytes_string w s t e A r.length cap h1 h3 h2,p]) g (.c (.str _ M))
    ·cases b
   ·cases b
  ·cases h
 ·cases h
def Rh{o:Oper}{f:FuncId}{caps:Array Operand}{i:bB}{v:V}(r:o.op= .makeFunc (.func f) #[] caps)(b:bp P (.makeFunc (.func f) #[] caps)=some i)(g:step ρ σ i=some (v,σ'))(c:aB w0 κ σ w)(t:cj κ ρ a):
  br w0 κ σ' v ((execOp a.eval o).run P w):=by
 simp only[bp]at b;split at b
 ·rename_i cs h;injection b with b;subst b;simp only[step]at g;injection g with g;injection g with h1 h2;subst h1 h2;obtain⟨hl,hc⟩:=mapM_some h;refine br.still (v':=.func (.func f) #[] (caps.toList.map a.eval).toArray) ?_ c (.fn (by simp[hl]) fun j hj=>?_)
  ·simp only[execOp,r,Instr.makeFunc,jU,kK,kL,List.map_toArray,List.map_nil];congr 3;apply Array.ext';simp
  ·have p:j<cs.length:=by simpa using hj
   have e:j<caps.toList.length:=by omega
   rw[iF (by simpa using e),eI,eI];exact bN t (hc j e p)
 ·cases b
def Ri{o:Oper}{h:Array TypeId}{x y:Operand}{i j:ah}{k r:IntKind}{m n:Int}(t:o.op= .call {callee:=.builtin .max,args:=#[x,y],argTypes:=h})(u:bK x=some i)(A:bK y=some j)
  (h1:i.ev ρ= .c (.int k m)) (h2:j.ev ρ= .c (.int r n)) (b:aB w0 κ σ w) (p:cj κ ρ a):br w0 κ σ (.c (.int k (if n>m then n else m))) ((execOp a.eval o).run P w):=by
 have e:=bN p u;have g:=bN p A;rw[h1]at e;rw[h2]at g;exact br.still (v':=.int k (if n>m then n else m)) (by simp[execOp,t,resolve,invoke,builtin,e.jg,g.jg,Builtin.max_,Builtin.max2]) b (.c (.int _ _))
def Rj{o:Oper}{h:Array TypeId}{x y:Operand}{i j:ah}{k r:IntKind}{m n:Int}(t:o.op= .call {callee:=.builtin .min,args:=#[x,y],argTypes:=h})(u:bK x=some i)(A:bK y=some j)
  (h1:i.ev ρ= .c (.int k m)) (h2:j.ev ρ= .c (.int r n)) (b:aB w0 κ σ w) (p:cj κ ρ a):br w0 κ σ (.c (.int k (if n<m then n else m))) ((execOp a.eval o).run P w):=by
 have e:=bN p u;have g:=bN p A;rw[h1]at e;rw[h2]at g;exact br.still (v':=.int k (if n<m then n else m)) (by simp[execOp,t,resolve,invoke,builtin,e.jg,g.jg,Builtin.min_,Builtin.min2]) b (.c (.int _ _))
def Rk{o:Oper}{t:TypeId}{x:Operand}{i:bB}{v:V}(N:o.op= .call {callee:=.builtin .len,args:=#[x],argTypes:=#[t]})(J:mC P .len [x] [t]=some i)(g:step ρ σ i=some (v,σ'))(h:aB w0 κ σ w)(O:cj κ ρ a):
  br w0 κ σ' v ((execOp a.eval o).run P w):=by
 simp only[mC]at J;split at J
 ·rename_i L;obtain⟨y,M,rfl⟩:=eN J;have j:=bN O M;simp only[step]at g;split at g
  ·rename_i l D;injection g with g;injection g with E F;subst E F;rw[D]at j;exact br.still (v':=.int .i64 l.length) (by simp[execOp,N,resolve,invoke,builtin,j.qf,GB,cA L,goInt,xI]) h (.c (.int _ _))
  ·cases g
 ·rename_i e L;obtain⟨y,M,rfl⟩:=eN J;have j:=bN O M;simp only[step]at g;split at g
  ·rename_i b n D;injection g with g;injection g with E F;subst E F;rw[D]at j;generalize G:a.eval x=U at j;cases j with
   |vec q0 q1 q2 q3 q4 q5=>exact br.still (v':=.int .i64 n) (by simp[execOp,N,resolve,invoke,builtin,G,GB,cA L,goInt]) h (.c (.int _ _))
  split at g
  ·rename_i u T r D;injection g with g;injection g with E F;subst E F;obtain⟨s,A,cap,xs,X,_⟩:=(j.lF D).kT;exact br.still (v':=.int .i64 r.length) (by simp[execOp,N,resolve,invoke,builtin,X,GB,cA L,goInt]) h (.c (.int _ _))
  ·cases g
 ·rename_i kt et L;obtain⟨y,M,rfl⟩:=eN J;have j:=bN O M;simp only[step]at g;split at g
  ·rename_i b D;split at g
   ·rename_i kvs hb;injection g with g;injection g with E F;subst E F;rw[D]at j;obtain⟨Q,R⟩:=aI.1 hb;have p:=h.cg b Q;rw[R]at p;obtain⟨es,clock,Y,Z,k3⟩:=p.row;generalize G:a.eval x=U at j;cases j with
    |mp h0 h1=>
     have k4:es.size=kvs.length:=by rw[<-Z];simp
     exact br.still (v':=.int .i64 kvs.length) (by simp[execOp,N,resolve,invoke,builtin,G,GB,cA L,goInt,MapKept.run_getObj_map Y,k4,Result.andThen]) h (.c (.int _ _))
   ·cases g
  ·cases g
 ·cases J
end
section
variable {P:Program} {w0 w w':World} {κ:K} {σ σ':H} {a:Act} {ρ:Env}
def qh{x:Option Operand}{y:Option ah}(h:iE x=some y):(x=none/\y=none)\/∃b c,x=some b/\y=some c/\bK b=some c:=by
 unfold iE at h;split at h
 ·injection h with h;exact .inl ⟨rfl,h.symm⟩
 ·split at h
  ·rename_i b c e;injection h with h;exact .inr ⟨_,_,rfl,h.symm,e⟩
  ·cases h
def BD{y:ah}{n h:Nat}(hb:ia ρ n (some y)=some h):∃k i,y.ev ρ= .c (.int k i)/\0<=i/\i<=n/\i.toNat=h:=by
 simp only[ia]at hb;split at hb
 ·rename_i k i hi;split at hb
  ·rename_i hc;injection hb with hb;exact⟨k,i,hi,hc.1,hc.2,hb⟩
  ·cases hb
 ·cases hb
def Rm{y:ah}{n h:Nat}(hb:ka ρ n (some y)=some h):∃k i,y.ev ρ= .c (.int k i)/\0<=i/\i<=n/\i.toNat=h:=by
 simp only[ka]at hb;split at hb
 ·rename_i k i hi;split at hb
  ·rename_i hc;injection hb with hb;exact⟨k,i,hi,hc.1,hc.2,hb⟩
  ·cases hb
 ·cases hb
def xK{k:IntKind}{i:Int}{y:Nat}{c:BoundsCode}(h0:0<=i)(h1:i<=y):(GC (.int k i) y c).run P w= .ok i.toNat w:=by
 simp[GC,asIntOf,h0,h1]
def Ha{n h:Nat}{lo:Option Operand}{b:Option ah}{c:BoundsCode}(g:cj κ ρ a)(j:iE lo=some b)(hb:ka ρ n b=some h):
  (match lo.map a.eval with|some v=>GC v n c|none=>pure 0:Sem Nat).run P w= .ok h w/\h<=n:=by
 rcases qh j with⟨rfl,rfl⟩|⟨x,y,rfl,rfl,p⟩
 ·simp only[ka]at hb;injection hb with hb;subst hb;exact⟨rfl,be _⟩
 ·obtain⟨k,i,hi,h0,h1,rfl⟩:=Rm hb;have e:=bN g p;rw[hi]at e;refine⟨?_,by omega⟩;simp only[fc,e.jg];exact xK h0 h1
def Rn{n cap h:Nat}{hi:Option Operand}{b:Option ah}{c:BoundsCode}(g:cj κ ρ a)(j:iE hi=some b)(hb:ia ρ n b=some h)(hc:n<=cap):
  (match hi.map a.eval with|some v=>GC v cap c|none=>pure n:Sem Nat).run P w= .ok h w/\h<=n:=by
 rcases qh j with⟨rfl,rfl⟩|⟨x,y,rfl,rfl,p⟩
 ·simp only[ia]at hb;injection hb with hb;subst hb;exact⟨rfl,aA _⟩
 ·obtain⟨k,i,hi,h0,h1,rfl⟩:=BD hb;have e:=bN g p;rw[hi]at e;refine⟨?_,by omega⟩;simp only[fc,e.jg];exact xK h0 (by omega)
def BE{isS:Bool}{n cap h l:Nat}{lo hi:Option Operand}{b e:Option ah}(t:cj κ ρ a)(g:iE lo=some b)(i:iE hi=some e)(hb:ia ρ n e=some h)(hl:ka ρ h b=some l)(hc:n<=cap):
  (GD isS n cap (lo.map a.eval) (hi.map a.eval) none).run P w= .ok (l,h,cap) w/\l<=h/\h<=n:=by
 obtain⟨j,u⟩:=Rn (P:=P) (w:=w) (c:=if isS then .sliceAcap else .sliceAlen) t i hb hc;obtain⟨k3,k4⟩:=Ha (P:=P) (w:=w) (c:=.sliceB) t g hl;refine⟨?_,k4,u⟩;unfold GD;cases p:hi.map a.eval<;>cases r:lo.map a.eval<;>simp only[p,r]at j k3<;>simp[j,k3]
 all_goals simp at j k3
 all_goals simp[*]
def Ro{o:Oper}{t:TypeId}{x:Operand}{lo hi:Option Operand}{p:ah}{e g:Option ah}{v:V}(u:o.op= .slice t x lo hi none)(A:P.underlying t=some .string)(D:bK x=some p)(h1:iE lo=some e)(h2:iE hi=some g)
  (b:step ρ σ (.lA p e g)=some (v,σ')) (i:aB w0 κ σ w) (r:cj κ ρ a):br w0 κ σ' v ((execOp a.eval o).run P w):=by
 have j:=bN r D;simp only[step]at b;split at b
 ·rename_i l hl;split at b
  ·rename_i h E;split at b
   ·rename_i q F;injection b with b;injection b with G J;subst G J;rw[hl]at j;obtain⟨k,_,_⟩:=BE (P:=P) (w:=w) (isS:=false) (cap:=l.length) r h1 h2 E F (aA _);refine br.still (v':=.string (bs ((l.drop q).take (h-q)))) ?_ i (.c (.str _ (bf (by simp;omega) j.G4)));simp[execOp,u,GF,cA A,j.qf,GG,xI,k,Rp]
   ·cases b
  ·cases b
 ·cases b
def RC.sub{m:Mem}{rows:List (List C)}{A:Option Addr}{cap s l k c:Nat}(h:RC m (.sl rows) (.slice A rows.length cap))(E:∀cs∈rows,cs.length=s)(hl:l+k<=rows.length)(hc:k<=c)(F:c+l<=cap):
  RC m (.sl ((rows.drop l).take k)) (.slice (if c+l=l then A else A.map (·.add (l*s))) k c):=by
 obtain⟨s',R,D,xs,G,h0,h1,h2,h3,h4,h5⟩:=h.kT;injection G with J _ L;subst J L;have g:((rows.drop l).take k).length=k:=by simp;omega
 by_cases M:k=0
 ·subst M;have:(rows.drop l).take 0=[]:=rfl;rw[this];exact .sl [] s _ c [] (by simp) (be _) (by omega) (by simp) (by simp) (by simp)
 ·have gF:s'=s:=by
   have t:0<rows.length:=by omega
   rw[<-h0 _ (bg t),E _ (bg t)]
  subst gF;obtain⟨b,o,rfl,N⟩:=h4 (by intro e;rw[e]at hl;simp at hl;omega);have p:((xs.drop (l*s')).take (k*s')).length=k*s':=by
   have:(l+k)*s'<=rows.length*s':=jT _ hl;rw[fK]at this;simp;omega
  have:=RC.sl (m:=m) ((rows.drop l).take k) s' (if c+l=l then some ⟨b,o,none⟩else(some (⟨b,o,none⟩:Addr)).map (·.add (l*s'))) c ((xs.drop (l*s')).take (k*s'))
   (fun r O=>h0 r (Qw (Gz O))) (by rw[g];exact hc) (by omega) (by rw[g,p]) (fun _=>⟨b,o+l*s',by
     rw[if_neg (by omega)];simp[add_lit],fun j hj=>by
     rw[p]at hj;have t:l*s'+j<xs.length:=by
      have:(l+k)*s'<=rows.length*s':=jT _ hl;rw[fK]at this;omega
     rw[nD,if_pos hj,oO,<-N _ t,jV]⟩) (fun i hi j hj=>by
     have u:i<k:=by omega
     have e:((rows.drop l).take k)[i]=rows[l+i]'(by omega):=by rw[pY,GA]
     have hj':j<(rows[l+i]'(by omega)).length:=by rw[<-e];exact hj
     have P:=h5 (l+i) (by omega) j hj';have w:j<s':=by rw[<-h0 _ (bg (show l+i<rows.length by omega))];exact hj'
     have Q:((xs.drop (l*s')).take (k*s')).getD (i*s'+j) undef=xs.getD ((l+i)*s'+j) undef:=by
      rw[cx,cx,nD,if_pos (mul_lt u w),oO,fK,jV]
     rw[Q];simpa[e]using P)
  rwa [g]at this
def Rq{o:Oper}{t e:TypeId}{p:TypeInfo}{x:Operand}{lo hi mx:Option Operand}{x':ah}{L M F:Option ah}{v:V}(ho:o.op= .slice t x lo hi mx)(hu:P.underlying t=some (.slice e))(N:P.info? e=some p)(hx:bK x=some x')
  (h1:iE lo=some L) (h2:iE hi=some M) (h3:iE mx=some F) (hmh:¬(F.isSome&&M.isNone)=true)
  (j:step ρ σ (.gk p.size x' L M F)=some (v,σ')) (D:aB w0 κ σ w) (Y:cj κ ρ a):br w0 κ σ' v ((execOp a.eval o).run P w):=by
 have hr:=bN Y hx;simp only[step]at j;split at j
 ·rename_i b n g;split at j
  ·rename_i h hh;injection j with j;injection j with O Q;subst O Q;have g:x'.ev ρ= .vec b n/\L=none/\F=none:=by
    generalize x'.ev ρ=u at g;cases u<;>simp only[V.sub]at g<;>first|(cases g;done)|skip
    split at g
    ·injection g with g;injection g with O Q;subst O Q;exact⟨rfl,rfl,rfl⟩
    ·cases g
   obtain⟨hx',rfl,rfl⟩:=g;have R:mx=none:=by
    rcases qh h3 with⟨h,_⟩|⟨_,_,_,h,_⟩
    ·exact h
    ·cases h
   subst R;have T:lo=none:=by
    rcases qh h1 with⟨h,_⟩|⟨_,_,_,h,_⟩
    ·exact h
    ·cases h
   subst T;rw[hx']at hr;generalize hva:a.eval x=va at hr;cases hr with
   |vec q0 q1 q2 q3 q4 q5=>
    rename_i n0 cap;obtain⟨k,k1,k2⟩:=BE (P:=P) (w:=w) (isS:=true) (cap:=cap) (l:=0) Y h1 h2 hh rfl (by omega);simp only[Option.map_none]at k;refine br.still (v':=_) ?_ D (RV.vec q0 q1 q2 (k:=h) (by omega) q4 q5);simp[execOp,ho,GF,cA hu,hva,GG,k,run_sizeOf N,add_lit]
  ·cases j
 split at j
 ·rename_i r U;split at j
  ·rename_i Z;split at j
   ·rename_i h hh;split at j
    ·rename_i q hq;have G:=hr.lF U;obtain⟨s,A,cap,xs,hv,_,hcap,_⟩:=G.kT;rw[hv]at G;split at j
     ·injection j with j;injection j with O Q;subst O Q;have R:mx=none:=by
       rcases qh h3 with⟨h,_⟩|⟨_,_,_,h,_⟩
       ·exact h
       ·cases h
      subst R;obtain⟨k,k1,k2⟩:=BE (P:=P) (w:=w) (isS:=true) (cap:=cap) Y h1 h2 hh hq hcap;have g:=G.sub (s:=p.size) (l:=q) (k:=h-q) (c:=cap-q) Z (by omega) (by omega) (by omega);rw[show cap-q+q=cap from by omega]at g;refine br.still (v':=_) ?_ D (.c g);simp[execOp,ho,GF,cA hu,hv,GG,k,run_sizeOf N]
     ·rename_i m;split at j
      ·rename_i E hm';split at j
       ·rename_i hmeq;injection j with j;injection j with O Q;subst O Q;subst hmeq;rcases qh h3 with⟨_,h⟩|⟨xm,ym,rfl,X,hxm⟩
        ·cases h
        injection X with X;subst X;rcases qh h2 with⟨_,rfl⟩|⟨xh,yh,rfl,rfl,hxh⟩
        ·simp at hmh
        obtain⟨km,im,him,m0,m1,m2⟩:=BD hm';obtain⟨kh,ih,hih,n0,n1,n2⟩:=BD hh;have hmr:=bN Y hxm;rw[him]at hmr;have hhr:=bN Y hxh;rw[hih]at hhr;obtain⟨k3,k4⟩:=Ha (P:=P) (w:=w) (c:=.slice3C) Y h1 hq;have b1:=xK (P:=P) (w:=w) (k:=km) (i:=im) (y:=cap) (c:=.slice3Acap) m0 (by omega);have b2:=xK (P:=P) (w:=w) (k:=kh) (i:=ih) (y:=im.toNat) (c:=.slice3B) n0 (by omega);rw[m2]at b1 b2;rw[n2]at b2;have hb:(GD true r.length cap (lo.map a.eval) (some (.int kh ih)) (some (.int km im))).run P w= .ok (q,E,E) w:=by
         unfold GD;cases T:lo.map a.eval<;>simp only[T]at k3<;>simp[b1,b2]
         ·simp at k3;simp[k3]
         ·simp[k3]
        have g:=G.sub (s:=p.size) (l:=q) (k:=E-q) (c:=E-q) Z (by omega) (by omega) (by omega);rw[show E-q+q=E from by omega]at g;have J:((r.drop q).take (E-q)).length=E-q:=by simp;omega
        have hcs:=RV.ae (κ:=κ) (rows:=(r.drop q).take (E-q)) (A:=if E=q then A else A.map (·.add (q*p.size))) (by rw[J];exact g);rw[J]at hcs;refine br.still (v':=_) ?_ D hcs;simp[execOp,ho,GF,cA hu,hv,GG,hmr.jg,hhr.jg,hb,run_sizeOf N]
       ·cases j
      ·cases j
    ·cases j
   ·cases j
  ·cases j
 ·cases j
def Hb{o:Oper}{op:BinOp}{t J:Nat}{x y:Operand}{E F:ah}{v:V}(A:o.op= .binOp op t x y J)(L:bK x=some E)(M:bK y=some F)(p:step ρ σ (.bin op E F)=some (v,σ'))(b:aB w0 κ σ w)(G:cj κ ρ a):
  br w0 κ σ' v ((execOp a.eval o).run P w):=by
 have i:=bN G L;have j:=bN G M;simp only[step]at p;split at p
 ·rename_i u hb;injection p with p;injection p with N O;subst N O;unfold uh at hb;split at hb
  ·rename_i k m T n h1 h2;rw[h1]at i;rw[h2]at j;have e:=i.jg;have h:=j.jg;split at hb
   ·rename_i Q;subst Q;have g:∀u,(eqGuard op t x y (.int k m) (.int k n)).run P u= .ok () u:=fun u=>by unfold eqGuard;split<;>simp
    cases op<;>simp only[xB]at hb
    case quo|rem=>
     split at hb
     ·cases hb
     ·rename_i hn;simp only[fc,A9]at hb;subst hb;refine br.still (v':=_) ?_ b (.c (.int _ _));simp[execOp,A,e,h,g,binOp,Op.intDiv,hn]
    case add|sub|mul=>
     simp only[fc,A9]at hb;subst hb;refine br.still (v':=_) ?_ b (.c (.int _ _));simp[execOp,A,e,h,g,binOp,Op.intArith]
    case eql|neq|lss|leq|gtr|geq=>
     simp only[fc,A9]at hb;subst hb;refine br.still (v':=_) ?_ b (.c (.bool _));simp[execOp,A,e,h,g,binOp,Op.intCmp]
    all_goals cases hb
   ·cases hb
  ·rename_i l r h1 h2;rw[h1]at i;rw[h2]at j;have e:=i.qf;have h:=j.qf;have g:∀u,(eqGuard op t x y (.string (bs l)) (.string (bs r))).run P u= .ok () u:=fun u=>by unfold eqGuard;split<;>simp
   cases op<;>simp only[Bt]at hb
   case add=>
    split at hb
    ·rename_i R;simp only[fc,A9]at hb;subst hb;refine br.still (v':=.string (bs (l++r))) ?_ b (.c (.str _ (by unfold maxLen;simp;omega)));have D:((l.length:Int)+(r.length:Int))<=9223372036854775807:=by omega
     simp[execOp,A,e,h,g,binOp,Op.stringOp,xI,D,Rr]
    ·cases hb
   case eql|neq|lss=>
    simp only[fc,A9]at hb;subst hb;refine br.still (v':=_) ?_ b (.c (.bool _));simp[execOp,A,e,h,g,binOp,Op.stringOp,BF]
   all_goals cases hb
  ·cases hb
 ·cases p
def run_equalIn_bool{t:Nat}(d:Nat)(p q:Bool)(b:P.underlying t=some .bool):(gW (d+1) t (.bool p) (.bool q)).run P w= .ok (p==q) w:=by
 simp[gW,cA b]
def Hc{o:Oper}{op:BinOp}{t L:Nat}{x y:Operand}{D E:ah}{v:V}{neg:Bool}(F:o.op= .binOp op t x y L)(M:P.underlying t=some .bool)(b:op=if neg then .neq else .eql)(N:bK x=some D)(O:bK y=some E)
  (e:step ρ σ (.qb neg D E)=some (v,σ')) (h:aB w0 κ σ w) (G:cj κ ρ a):br w0 κ σ' v ((execOp a.eval o).run P w):=by
 have i:=bN G N;have j:=bN G O;simp only[step]at e;split at e
 ·rename_i p q h1 h2;injection e with e;injection e with Q R;subst Q R;rw[h1]at i;rw[h2]at j;have r:=i.sf;have A:=j.sf;have g:∀u,(eqGuard op t x y (.bool p) (.bool q)).run P u= .ok () u:=fun u=>by unfold eqGuard;split<;>simp
  have J:(Op.equal t (.bool p) (.bool q)).run P w= .ok (p==q) w:=run_equalIn_bool 9999 p q M;refine br.still (v':=.bool (if neg then !(p==q)else p==q)) ?_ h (.c (.bool _));cases neg
  ·simp only[iW,if_false]at b;subst b;simp only[execOp,F,r,A,jU,g,kL,binOp,J,kK,iW,if_false]
  ·simp only[if_true]at b;subst b;simp only[execOp,F,r,A,jU,g,kL,binOp,J,kK,if_true]
 ·cases e

end
section
variable {P:Program} {w0 w w':World} {κ:K} {σ σ':H} {a:Act} {ρ:Env}
def BG{k:Nat}{op:BinOp}{x:Operand}{i:bB}(h:o9 k op x=some i):∃neg y,op=(if neg then .neq else .eql)/\bK x=some y/\i= .lz neg k y:=by
 unfold o9 at h;split at h
 ·obtain⟨y,hy,rfl⟩:=eN h;exact⟨false,y,rfl,hy,rfl⟩
 ·obtain⟨y,hy,rfl⟩:=eN h;exact⟨true,y,rfl,hy,rfl⟩
 ·cases h
def qi{o:Oper}{op:BinOp}{t j:Nat}{x y:Operand}{neg p:Bool}{u v:Value}(c:o.op= .binOp op t x y j)(b:op=if neg then .neq else .eql)(e:a.eval x=u)(g:a.eval y=v)
  (hg:(eqGuard op t x y u v).run P w= .ok () w) (h:(Op.equal t u v).run P w= .ok p w) (i:∀op,(op= .eql->binOp op t u v=(do pure (.bool (<-Op.equal t u v))))/\(op= .neq->binOp op t u v=(do pure (.bool (!(<-Op.equal t u v)))))):
  (execOp a.eval o).run P w= .ok (.value (.bool (if neg then !p else p))) w:=by
 cases neg
 ·simp only[iW,if_false]at b;subst b;simp only[execOp,c,e,g,jU,hg,kL,(i _).1 rfl,h,kK,iW,if_false]
 ·simp only[if_true]at b;subst b;simp only[execOp,c,e,g,jU,hg,kL,(i _).2 rfl,h,kK,if_true]
def BH{o:Oper}{op:BinOp}{t O:Nat}{x y:Operand}{i:bB}{v:V}(J:o.op= .binOp op t x y O)(hs:step ρ σ i=some (v,σ'))(L:aB w0 κ σ w)(he:cj κ ρ a)
  {neg:Bool} {k:Nat} {M:ah} (E:op=if neg then .neq else .eql) (hx:bK x=some M) (hi:i= .lz neg k M)
  (hk:(k=0/\y= .const (.pointer none)/\∃e,P.underlying t=some (.pointer e))\/(k=1/\y= .const .nilIface/\∃N,P.underlying t=some (.interface N))\/(k=2/\y= .const .nilFunc/\∃p q r,P.underlying t=some (.func p q r))):
  br w0 κ σ' v ((execOp a.eval o).run P w):=by
 have g:=bN he hx;subst hi;simp only[step]at hs;split at hs
 ·rename_i p hp;injection hs with hs;injection hs with Q R;subst Q R;refine br.still (v':=.bool (if neg then !p else p)) ?_ L (.c (.bool _));rcases hk with⟨rfl,rfl,e,F⟩|⟨rfl,rfl,N,F⟩|⟨rfl,rfl,X,Y,Z,F⟩
  ·have key:∀A:Option Addr,a.eval x= .pointer A->A.isNone=p->(execOp a.eval o).run P w= .ok (.value (.bool (if neg then !p else p))) w:=by
    intro A U hp;refine qi J E U (v:=.pointer none) rfl ?_ ?_ (fun op=>⟨fun h=>by subst h;rfl,fun h=>by subst h;rfl⟩)
    ·unfold eqGuard;split<;>simp
    ·have:∀d,(gW (d+1) t (.pointer A) (.pointer none)).run P w= .ok A.isNone w:=fun d=>by cases A<;>simp[gW,cA F]
     rw[<-hp];exact this 9999
   cases D:M.ev ρ with
   |c z=>
    rw[D]at g hp;generalize j:a.eval x=u at g;cases g with
    |c G=>
     cases G<;>simp only[V.isNil]at hp<;>first|(cases hp;done)|(injection hp with hp;subst hp)
     ·exact key none j rfl
     ·exact key _ j rfl
   |ptr b o=>
    rw[D]at g hp;simp only[V.isNil]at hp;injection hp with hp;subst hp;cases j:a.eval x with
    |pointer A=>rw[j]at g;cases g;exact key _ j rfl
    |_=>rw[j]at g;cases g
   |_=>rw[D]at hp;cases hp
  ·have hg:∀u,(eqGuard op t x (.const .nilIface) u .nilIface).run P w= .ok () w:=fun u=>by
    unfold eqGuard;split<;>cases u<;>simp
   cases D:M.ev ρ with
   |c z=>
    rw[D]at g hp;cases j:a.eval x with
    |nilIface=>
     rw[j]at g;cases g with
     |c G=>
      cases G;simp only[V.isNil]at hp;injection hp with hp;subst hp;refine qi J E j (v:=.nilIface) rfl (hg _) ?_ (fun op=>⟨fun h=>by subst h;rfl,fun h=>by subst h;rfl⟩);have:∀d,(gW (d+1) t .nilIface .nilIface).run P w= .ok true w:=fun d=>by simp[gW,cA F]
      exact this 9999
    |iface T u=>
     rw[j]at g;cases g with
     |c G=>
      cases G;simp only[V.isNil]at hp;injection hp with hp;subst hp;refine qi J E j (v:=.nilIface) rfl (hg _) ?_ (fun op=>⟨fun h=>by subst h;rfl,fun h=>by subst h;rfl⟩);have:∀d,(gW (d+1) t (.iface T u) .nilIface).run P w= .ok false w:=fun d=>by simp[gW,cA F]
      exact this 9999
    |_=>rw[j]at g;cases g with|c G=>cases G<;>cases hp
   |_=>rw[D]at hp;cases hp
  ·have hg:∀u,(∀q,u≠ .agg q)->u≠ .nilIface->(eqGuard op t x (.const .nilFunc) u .nilFunc).run P w= .ok () w:=fun u h1 h2=>by
    unfold eqGuard;split<;>cases u<;>simp
   cases D:M.ev ρ with
   |cu=>
    rw[D]at g hp;simp only[V.isNil]at hp;injection hp with hp;subst hp;cases j:a.eval x with
    |nilFunc=>
     refine qi J E j (v:=.nilFunc) rfl (hg _ (by simp) (by simp)) ?_ (fun op=>⟨fun h=>by subst h;rfl,fun h=>by subst h;rfl⟩);have:∀d,(gW (d+1) t .nilFunc .nilFunc).run P w= .ok true w:=fun d=>by simp[gW,cA F]
     exact this 9999
    |_=>rw[j]at g;cases g
   |fn f caps=>
    rw[D]at g hp;simp only[V.isNil]at hp;injection hp with hp;subst hp;cases j:a.eval x with
    |func f1 f2 f3=>
     refine qi J E j (v:=.nilFunc) rfl (hg _ (by simp) (by simp)) ?_ (fun op=>⟨fun h=>by subst h;rfl,fun h=>by subst h;rfl⟩);have:∀d,(gW (d+1) t (.func f1 f2 f3) .nilFunc).run P w= .ok false w:=fun d=>by simp[gW,cA F]
     exact this 9999
    |_=>rw[j]at g;cases g
   |_=>rw[D]at hp;cases hp
 ·cases hs
def Hd(l r:List UInt8):(bs l==bs r)=(l==r):=by rw[beq_toListBytes,BF,BF]
def Rs{x y:C}{u v:Value}{m:Mem}{p:Bool}{t k:Nat}{b:TypeDesc}(d:Nat)(hx:RC m x u)(hy:RC m y v)(hp:rZ k x y=some p)(c:P.underlying t=some b)(hk:xC b=some k):
  (gW (d+1) t u v).run P w= .ok p w:=by
 cases b<;>simp only[xC]at hk<;>try (cases hk;done)
 ·injection hk with hk;subst hk;cases x<;>cases y<;>simp only[rZ]at hp<;>first|(cases hp;done)|(injection hp with hp;subst hp)
  cases hx;cases hy;simp[gW,cA c]
 ·injection hk with hk;subst hk;cases x<;>cases y<;>simp only[rZ]at hp<;>try (cases hp;done)
  split at hp
  ·rename_i e;subst e;injection hp with hp;subst hp;cases hx;cases hy;simp[gW,cA c]
  ·cases hp
 ·injection hk with hk;subst hk;cases x<;>cases y<;>simp only[rZ]at hp<;>first|(cases hp;done)|(injection hp with hp;subst hp)
  cases hx;cases hy;simp[gW,cA c,Hd]
def He{xs ys:List Value}(d:Nat):∀(fs:List Field) (n:Nat) (E:List Nat) (l r:List V) (p:Bool),sd P n fs=some E->lD E l r=some p->
  (∀j (t:j<l.length),∃v,xs[n+j]?=some v/\RV κ l[j] v)->(∀j (t:j<r.length),∃v,ys[n+j]?=some v/\RV κ r[j] v)->
  (Op.eqFields (d+1) xs.toArray ys.toArray fs).run P w= .ok p w
 |[],n,E,l,r,p,b,hp,_,_=>by
  simp only[sd]at b;injection b with b;subst b;unfold lD at hp;split at hp
  ·injection hp with hp;subst hp;rfl
  ·rename_i h _ _;cases h
  ·cases hp
 |f::fs,n,E,l,r,p,b,hp,hl,L=>by
  simp only[sd]at b;split at b
  ·rename_i hf;split at b
   ·rename_i M F;split at b
    ·rename_i q rest N i;injection b with b;subst b;cases l with
     |nil=>simp[lD]at hp
     |cons a0 T=>
     cases r with
     |nil=>cases a0<;>simp[lD]at hp
     |cons b0 U=>
     cases a0 with
     |c x=>
      cases b0 with
      |c y=>
      simp only[lD]at hp;split at hp
      ·rename_i X Y G J;injection hp with hp;subst hp;obtain⟨u,A,e⟩:=hl 0 (by simp);obtain⟨v,D,g⟩:=L 0 (by simp);simp only[di]at e g;cases e with
       |c e=>
        cases g with
        |c g=>
         have O:=Rs (P:=P) (w:=w) d e g G F N;have hg:kb M=false:=by cases M<;>simp[xC,kb]at N⊢
         have Q:(part f.type xs.toArray f.offset).run P w= .ok u w:=by
          rw[hf.1];simp at A;simp[part,pa F,hg,A]
         have R:(part f.type ys.toArray f.offset).run P w= .ok v w:=by
          rw[hf.1];simp at D;simp[part,pa F,hg,D]
         have Z:=He d fs (n+1) rest T U Y i J (fun j t=>by
          have:=hl (j+1) (by simpa using t);rwa [show n+(j+1)=n+1+j from by omega]at this) (fun j t=>by
          have:=L (j+1) (by simpa using t);rwa [show n+(j+1)=n+1+j from by omega]at this)
         unfold Op.eqFields;rw[if_pos hf.2];cases X
         ·simp[Q,R,O]
         ·simp[Q,R,O,Z]
      ·cases hp
      |_=>simp[lD]at hp
     |_=>simp[lD]at hp
    ·cases b
   ·cases b
  ·cases b
def Hf{o:Oper}{op:BinOp}{t O:Nat}{x y:Operand}{L M:ah}{v:V}{neg:Bool}{r:List Nat}{fields:Array Field}(Q:o.op= .binOp op t x y O)(N:P.underlying t=some (.struct fields))(u:sd P 0 fields.toList=some r)
  (hg:P.stoodInHeld t=false) (R:P.eqGuardType P.depth t=false) (A:op=if neg then .neq else .eql) (hx:bK x=some L) (hy:bK y=some M)
  (hs:step ρ σ (.eqs neg r L M)=some (v,σ')) (b:aB w0 κ σ w) (he:cj κ ρ a):br w0 κ σ' v ((execOp a.eval o).run P w):=by
 have e:=bN he hx;have g:=bN he hy;simp only[step]at hs;split at hs
 ·rename_i xs ys h1 h2;split at hs
  ·rename_i p hp;injection hs with hs;injection hs with T U;subst T U;rw[h1]at e;rw[h2]at g;obtain⟨us,D,E⟩:=e.xH;obtain⟨vs,F,G⟩:=g.xH;have i:P.fieldsOf t=fields:=by unfold Program.fieldsOf;rw[N]
   have q:(Op.equal t (.agg us.toArray) (.agg vs.toArray)).run P w= .ok p w:=by
    have:=run_equalIn_struct (P:=P) w 9999 t us.toArray vs.toArray (by rw[i];exact N) hg;rw[i,He (κ:=κ) 9998 fields.toList 0 r xs ys p u hp (fun j J=>by simpa using E.at_ (aN J)) (fun j J=>by simpa using G.at_ (aN J))]at this;exact this
   exact br.still (v':=.bool (if neg then !p else p)) (qi Q A D F (run_eqGuard_agg w op t x y _ _ R) q (fun op=>⟨fun h=>by subst h;rfl,fun h=>by subst h;rfl⟩)) b (.c (.bool _))
  ·cases hs
 ·cases hs
end
section
variable {P:Program} {w0 w w':World} {κ:K} {σ σ':H} {a:Act} {ρ:Env}
def Hg(off:Nat):∀(us:List Value) (k:Nat) (arr:Array Value),off+k+us.length<=arr.size->
  (us.zipIdx k).foldl (fun cs (x:Value×Nat)=>cs.setIfInBounds (off+x.2) x.1) arr=(arr.toList.take (off+k)++us++arr.toList.drop (off+k+us.length)).toArray
 |[],k,arr,_=>by simp
 |u::us,k,arr,h=>by
  simp only[List.zipIdx_cons,List.foldl_cons];have b:off+(k+1)+us.length<=(arr.setIfInBounds (off+k) u).size:=by simp at h⊢;omega
  rw[Hg off us (k+1) _ b];congr 1;have e:=list_seg_step arr.toList (off+k) u us (by simp at h⊢;omega);simpa[Array.toList_setIfInBounds,jV]using e
def Hh{b:Nat->Option (Nat×Nat)}{i off size:Nat}{v:Value}{arr:Array Value}{rest:List (Nat×Value)}(hp:b i=some (off,size))(e:v.cells.size=size)(c:off+size<=arr.size):
  rQ b arr ((i,v)::rest)=rQ b (arr.toList.take off++v.cells.toList++arr.toList.drop (off+v.cells.toList.length)).toArray rest:=by
 have:=Hg off v.cells.toList 0 arr (by simp;omega);simp only[nC]at this;rw[rQ,hp];simp only
 rw[if_neg (by simp;omega),<-this];congr 1;rw[<-Array.foldl_toList,Array.toList_zipIdx]
def Hi{t:List (Nat×Nat)}(he:cj κ ρ a):∀{parts:List (Nat×Operand)} {j:List (Nat×Nat×ah)},sc t parts=some j->∀{cs cs':List V} {xs:List Value},Fits κ cs xs->lC ρ cs j=some cs'->
  ∃c,rQ (t.toArray[·]?) xs.toArray (parts.map fun(i,x)=>(i,a.eval x))=some c.toArray/\Fits κ cs' c
 |[],j,h,cs,cs',xs,hf,b=>by
  simp only[sc]at h;injection h with h;subst h;simp only[lC]at b;injection b with b;subst b;exact⟨xs,rfl,hf⟩
 |(i,x)::parts,j,h,cs,cs',xs,hf,b=>by
  simp only[sc]at h;split at h
  ·rename_i off size y r p hy u;injection h with h;subst h;simp only[lC]at b;split at b
   ·rename_i hc;obtain⟨w,c1,A⟩:=hc;have e:=qe (bN he hy) w;have g:=hf.G8 (ys:=(y.ev ρ).af) (us:=(a.eval x).cells.toList) e (o:=off) (by omega);rw[c1]at g;obtain⟨c,h1,h2⟩:=Hi he u g b;refine⟨c,?_,h2⟩;simp only[ck];have hs:(a.eval x).cells.size=size:=by have:=e.1;simp at this;omega
    rw[Hh (off:=off) (size:=size) (by simpa using p) hs (by simp[hf.1];omega)];exact h1
   ·cases b
  ·cases h
def Hj{P:Program}:∀{l:List Field} {b:List (Nat×Nat)},sb P l=some b->l.mapM (fun f=>(P.info? f.type).map fun i=>(f.offset,i.size))=some b
 |[],b,h=>by simp only[sb]at h;injection h with h;subst h;rfl
 |f::l,b,h=>by
  simp only[sb]at h;split at h
  ·rename_i s r hs c;injection h with h;subst h;have e:=Hj c;unfold ba at hs;cases hi:P.info? f.type with
   |none=>rw[hi]at hs;cases hs
   |some i=>
    rw[hi]at hs;have hs:i.size=s:=by simpa using hs
    simp[List.mapM_cons,hi,e,hs]
  ·cases h
def Rt{z:V}{b:Value}(h:sa b=some z)(hl:leaves z.af=true):Fits κ z.af b.cells.toList:=qe (xF h) hl
def Ru{o:Oper}{t:Nat}{parts:Array (Nat×Operand)}{fields:Array Field}{z:V}{j:List (Nat×Nat)}{p:List (Nat×Nat×ah)}{cs:List V}(r:o.op= .build t parts)(u:P.underlying t=some (.struct fields))(b:mB P t=some z)
  (hl:leaves z.af=true) (g:sb P fields.toList=some j) (h:sc j parts.toList=some p) (hf:lC ρ z.af p=some cs) (e:aB w0 κ σ w) (he:cj κ ρ a):br w0 κ σ (.agg cs) ((execOp a.eval o).run P w):=by
 unfold mB at b;cases hi:P.info? t with
 |none=>rw[hi]at b;cases b
 |some i=>
  rw[hi]at b;simp only at b;cases c:i.zero with
  |none=>rw[c]at b;cases b
  |some D=>
   rw[c]at b;simp only at b;obtain⟨xs,h1,h2⟩:=Hi he h (Rt (κ:=κ) b hl) hf;have A:P.built t (parts.map fun(i,x)=>(i,a.eval x)).toList=some xs.toArray:=by
    unfold Program.built;simp only[hi,u,c,Hj g];simpa using h1
   exact br.still (v':=.agg xs.toArray) (by simp only[execOp,r,jU,run_build w t _ _ A,kL,kK]) e (.agg h2.1 h2.2)
def BI{α:Type}{s:Nat}:∀(l:List (List α)) (i j:Nat),(∀r∈l,r.length=s)->j<s->l.flatten[i*s+j]?=(l[i]?).bind (·[j]?)
 |[],i,j,_,_=>by simp
 |x::l,0,j,h,b=>by
  have hx:=h x (by simp);simp only[dS,Nat.zero_mul,eJ,List.getElem?_cons_zero,Option.bind_some];rw[cr (by omega)]
 |x::l,i+1,j,h,b=>by
  have hx:=h x (by simp);simp only[dS,List.getElem?_cons_succ];rw[da (by rw[hx,fK];omega),hx,show(i+1)*s+j-s=i*s+j from by rw[fK];omega];exact BI l i j (fun r c=>h r (by simp[c])) b
def uo{α:Type}{s:Nat}:∀(l:List (List α)),(∀r∈l,r.length=s)->l.flatten.length=l.length*s
 |[],_=>by simp
 |x::l,h=>by
  simp only[dS,bC,bG,h x (by simp),uo l (fun r b=>h r (by simp[b])),fK];omega
def uq:∀{l:List V} {r:List C},fx l=some r->r.length=l.length/\leaves l=true/\∀j (c:j<l.length) (b:j<r.length),l[j].gE=some r[j]
 |[],r,h=>by simp only[fx]at h;injection h with h;subst h;exact⟨rfl,rfl,fun j c=>by simp at c⟩
 |x::l,r,h=>by
  simp only[fx]at h;split at h
  ·rename_i y i hy e;injection h with h;subst h;obtain⟨h1,h2,g⟩:=uq e;refine⟨by simp[h1],?_,fun j c b=>?_⟩
   ·unfold leaves at*
    simp only[mg,h2,Bool.and_true];cases x<;>simp only[V.gE]at hy<;>first|(cases hy;done)|rfl
   ·cases j with
    |zero=>exact hy
    |succ j=>exact g j (by simpa using c) (by simpa using b)
  ·cases h
def xL(m:Mem)(l:List C)(xs:List Value):Prop:=xs.length=l.length/\∀j (b:j<l.length),RC m l[j] (xs.getD j undef)
def Fits.gE{l:List V}{r:List C}{xs:List Value}(h:Fits κ l xs)(b:fx l=some r):xL κ.m r xs:=by
 obtain⟨h1,_,c⟩:=uq b;exact⟨by rw[h.1,h1],fun j e=>(h.2 j (by omega)).gE (c j (by omega) e)⟩
def Hk{size:Nat}(he:cj κ ρ a):∀{k:Nat} {parts:List (Nat×Operand)} {G:List ah} {rows:List (List C)},nJ k parts=some G->jF ρ size G=some rows->
  ∃e:List (List Value),e.length=rows.length/\(∀i (hi:i<rows.length) (R:i<e.length),xL κ.m rows[i] e[i])/\(∀r∈rows,r.length=size)/\(∀r∈e,r.length=size)/\(∀u∈e.flatten,u.oneCell'=true)/\
   ∀arr:Array Value,(k+rows.length)*size<=arr.size->rQ (fun i=>some (i*size,size)) arr (parts.map fun(i,x)=>(i,a.eval x))=some (arr.toList.take (k*size)++e.flatten++arr.toList.drop ((k+rows.length)*size)).toArray
 |k,[],G,rows,h,c=>by
  simp only[nJ]at h;injection h with h;subst h;simp only[jF]at c;injection c with c;subst c;exact⟨[],rfl,fun i hi=>by simp at hi,by simp,by simp,by simp,fun arr _=>by simp[rQ]⟩
 |k,(i,x)::parts,G,rows,h,c=>by
  simp only[nJ]at h;split at h
  ·rename_i J;subst J;split at h
   ·rename_i y r hy A;injection h with h;subst h;simp only[jF]at c;split at c
    ·rename_i L b t D;split at c
     ·rename_i w;injection c with c;subst c;obtain⟨e,T,U,X,Y,Z,q5⟩:=Hk he A D;obtain⟨t1,t2,t3⟩:=uq t;have E:=qe (bN he hy) t2;have F:xL κ.m L (a.eval x).cells.toList:=Fits.gE (l:=(y.ev ρ).af) E t;have g:(a.eval x).cells.toList.length=size:=by rw[F.1,w]
      refine⟨(a.eval x).cells.toList::e,by simp[T],fun j hj M=>?_,fun r c=>?_,fun r c=>?_,fun u hu=>?_,fun arr p=>?_⟩
      ·cases j with
       |zero=>exact F
       |succ j=>exact U j (by simpa using hj) (by simpa using M)
      ·rcases cD.1 c with rfl|c
       ·exact w
       ·exact X r c
      ·rcases cD.1 c with rfl|c
       ·exact g
       ·exact Y r c
      ·simp only[dS,cJ]at hu;rcases hu with hu|hu
       ·exact BB t2 E.2 E.1 u hu
       ·exact Z u hu
      ·simp only[ck,bG]at p⊢;have e1:(i+(b.length+1))*size=i*size+size+b.length*size:=by rw[show i+(b.length+1)=i+1+b.length from by omega,fK,fK];omega
       have O:(i+1)*size=i*size+size:=by rw[fK];omega
       have P:(i+1+b.length)*size=i*size+size+b.length*size:=by rw[fK,O]
       rw[e1]at p⊢;rw[Hh (off:=i*size) (size:=size) rfl (by simpa using g) (by omega)];have N:(arr.toList.take (i*size)++(a.eval x).cells.toList++arr.toList.drop (i*size+(a.eval x).cells.toList.length)).length=arr.size:=by
        rw[qg _ _ _ (by simp[g]at*;omega)];simp
       rw[q5 _ (by rw[pZ,N,P];exact p)];congr 2;rw[O,P,dS];have Q:(arr.toList.take (i*size)).length=i*size:=by simp;omega
       rw[show i*size+size=(arr.toList.take (i*size)++(a.eval x).cells.toList).length from by rw[bC,Q,g]];rw[mh];rw[List.drop_append,List.drop_eq_nil_of_le (by omega),dK,List.drop_drop,dq (arr.toList.take (i*size))];congr 2;rw[bC,Q,g];omega
     ·cases c
    ·cases c
   ·cases h
  ·cases h
end
section
variable {P:Program} {w0 w w':World} {κ:K} {σ σ':H} {a:Act} {ρ:Env}
def BJ{m:Mem}{rows:List (List C)}{size:Nat}{xs:List Value}(hl:xs.length=rows.length*size)(e:∀r∈rows,r.length=size)
  (h:∀i (hi:i<rows.length) j (p:j<rows[i].length),RC m rows[i][j] (xs.getD (i*size+j) undef)) {b o cap:Nat} (g:∀k,k<xs.length->m b (o+k)=xs[k]?) (hc:rows.length<=cap) (c:cap<=maxLen):
  RC m (.sl rows) (.slice (some ⟨b,o,none⟩) rows.length cap):=
 .sl rows size _ cap xs e hc c hl (fun _=>⟨b,o,rfl,g⟩) h
def Rv{g:Nat}{xs:List Value}(k:Nat):(κ.froze g xs).m g k=xs[k]?:=by simp[K.froze]
def Rw{m:Mem}{rows:List (List C)}{b:List (List Value)}{size:Nat}(u:b.length=rows.length)(h:∀i (hi:i<rows.length) (c:i<b.length),xL m rows[i] b[i])(p:∀r∈rows,r.length=size)(t:∀r∈b,r.length=size):
  ∀i (hi:i<rows.length) j (e:j<rows[i].length),RC m rows[i][j] (b.flatten.getD (i*size+j) undef):=by
 intro i hi j e;have c:i<b.length:=by omega
 have g:j<size:=by rw[<-p _ (bg hi)];exact e
 have:=(h i hi c).2 j e;rw[cx,BI b i j t g,aN c];simpa using this
def Rx{o:Oper}{t n e:Nat}{parts:Array (Nat×Operand)}{i:TypeInfo}{z:Value}{Q:List ah}{rows:List (List C)}(ho:o.op= .buildSlice t n parts)(hu:P.underlying t=some (.slice e))(hi:P.info? e=some i)(hz:i.zero=some z)
  (M:nJ 0 parts.toList=some Q) (E:Q.length=n) (N:0<i.size) (hle:n*i.size<=16777216) (hr:jF ρ i.size Q=some rows) (p:aB w0 κ σ w) (he:cj κ ρ a):
  br w0 κ σ (.ae rows) ((execOp a.eval o).run P w):=by
 obtain⟨c,q1,q2,q3,q4,_,q5⟩:=Hk he M hr;have u:rows.length=n:=by
  have:∀{l:List ah} {r:List (List C)},jF ρ i.size l=some r->r.length=l.length:=by
   intro l;induction l with
   |nil=>intro r h;simp only[jF]at h;injection h with h;subst h;rfl
   |cons x l R=>
    intro r h;simp only[jF]at h;split at h
    ·rename_i a0 r0 _ h2;split at h
     ·injection h with h;subst h;simp[R h2]
     ·cases h
    ·cases h
  rw[this hr,E]
 have O:c.flatten.length=n*i.size:=by rw[uo c q4,q1,u]
 have J:=q5 ((Array.range (n*i.size)).map (z.cells[·%z.cells.size]!)) (by simp[u]);have D:rQ (fun k=>some (k*i.size,i.size)) ((Array.range (n*i.size)).map (z.cells[·%z.cells.size]!)) (parts.toList.map fun(i,x)=>(i,a.eval x))=some c.flatten.toArray:=by
  rw[J];simp[u]
 have hA:=p.alloc (.cells c.flatten.toArray e);have A:∀o,κ.m w.heap.size o=none:=fun o=>p.fresh (aA _) o;have hF:=hA.froze (g:=w.heap.size) (xs:=c.flatten) A (fun o v hv=>by
  rw[cell_of_row _ w.heap.size o c.flatten.toArray e (0,0) (ma w _)];simpa using hv) (fun b hb hl=>by have:=(p.iG hb hl).2;omega)
 have F:κ.le (κ.froze w.heap.size c.flatten):=K.Bz A;have T:=BJ (m:=(κ.froze w.heap.size c.flatten).m) (rows:=rows) (size:=i.size) (xs:=c.flatten) (by rw[O,u]) q3
  (fun i' U j hj=>RC.mono F.m (Rw q1 q2 q3 q4 i' U j hj)) (b:=w.heap.size) (o:=0) (cap:=rows.length) (fun k hk=>by rw[eJ];exact Rv k) (aA _) (by
    have:n*1<=n*i.size:=Nat.mul_le_mul_left _ N;unfold maxLen;omega)
 have G:=RV.ae (κ:=κ.froze w.heap.size c.flatten) T;rw[u]at G;refine⟨_,_,_,.inl ?_,F,hF,G⟩;by_cases X:n=0
 ·subst X;have Y:c.flatten=[]:=fM (by rw[O];simp);have Z:parts=#[]:=by
   have:∀{k:Nat} {l:List (Nat×Operand)} {r:List ah},nJ k l=some r->r.length=l.length:=by
    intro k l;induction l generalizing k with
    |nil=>intro r h;simp only[nJ]at h;injection h with h;subst h;rfl
    |cons x l R=>
     intro r h;obtain⟨q,x⟩:=x;simp only[nJ]at h;split at h
     ·split at h
      ·rename_i h2;injection h with h;subst h;simp[R h2]
      ·cases h
     ·cases h
   have:=this M;apply oR;exact fM (by rw[<-this,E])
  rw[Y];simp[execOp,ho,Instr.buildSlice,cA hu,run_sizeOf hi,Z,rQ,newRow];congr 2;apply oR;simp
 have h0:¬(n*i.size=0):=by
  have:n*1<=n*i.size:=Nat.mul_le_mul_left _ N;intro e;omega
 have L:¬(16777216<n*i.size):=by omega
 simp[execOp,ho,Instr.buildSlice,cA hu,run_sizeOf hi,L,zeroValue,typeInfo,hi,hz,D,newRow];exact fun h=>absurd h h0
def o4{size n:Nat}{A:Option Addr}{c:Nat}{news:List Value}(hl:news.length=n*size)(h:n≠0->∃b o,A=some ⟨b,o,none⟩/\∀k,k<news.length->w.cell? ⟨b,o+k,none⟩=news[k]?):
  (xi size n (.slice A n c)).run P w= .ok news.toArray w:=by
 by_cases hn:n=0
 ·subst hn;have:news=[]:=fM (by simpa using hl);subst this;cases A with
  |none=>simp[xi]
  |some a=>
   have:=run_loadCells_list (P:=P) w a [] (by simp);simpa[xi]using this
 ·obtain⟨b,o,rfl,hc⟩:=h hn;have:=run_loadCells_list (P:=P) w ⟨b,o,none⟩ news (fun j v e=>by
   rw[add_lit];have g:=(aI.1 e).1;rw[hc j g,e])
  rw[hl]at this;simpa[xi]using this
structure Src (P:Program) (w:World) (t2:TypeId) (u:Value) (size m:Nat) (news:List Value):Prop where
 kind:(∃e,P.underlying t2=some (.slice e))\/P.underlying t2=some .string
 len:∀w',(Qx u).run P w'= .ok m w'
 first:∀w',(∀b o,w'.cell? ⟨b,o,none⟩=w.cell? ⟨b,o,none⟩)->(xi size m u).run P w'= .ok news.toArray w'
def Src.slice{t2 e size m c:Nat}{A:Option Addr}{news:List Value}(g:P.underlying t2=some (.slice e))(hl:news.length=m*size)(h:m≠0->∃b o,A=some ⟨b,o,none⟩/\∀k,k<news.length->w.cell? ⟨b,o+k,none⟩=news[k]?):Src P w t2 (.slice A m c) size m news:=
 ⟨.inl ⟨e,g⟩,fun w'=>by simp[Qx],fun w' hw=>o4 hl (fun i=>by obtain⟨b,o,h1,h2⟩:=h i;exact⟨b,o,h1,fun k hk=>by rw[hw];exact h2 k hk⟩)⟩
def Src.str{t2:TypeId}{l:List UInt8}(c:P.underlying t2=some .string):Src P w t2 (.string (bs l)) 1 l.length (l.map fun b=>Value.int .u8 b.toNat):=
 ⟨.inr c,fun w'=>by simp[Qx];rfl,fun w' _=>by
   simp[xi];apply oR;simp[bs];exact List.take_of_length_le (by simp)⟩
def Ry{t t2 ty e n cap m g:Nat}{i:TypeInfo}{u:Value}{news:List Value}{cur:Array Value}(p:P.underlying t=some (.slice e))(hi:P.info? e=some i)(hg:w.heap[g]?=some (.cells cur e (0,0)))
  (hl:news.length=m*i.size) (hs:Src P w t2 u i.size m news) (h1:∀u∈news,u.oneCell'=true) (b:n+m<=cap) (c:n*i.size+news.length<=cur.size):
  (oW #[t,t2] ty #[.slice (some ⟨g,0,none⟩) n cap,u]).run P w=
    .ok (.slice (some ⟨g,0,none⟩) (n+m) cap) (w.setRow g (cur.toList.take (n*i.size)++news++cur.toList.drop (n*i.size+news.length)).toArray):=by
 have hf:=hs.first w (fun _ _=>rfl);have j:=hs.len w;have h:=run_storeCells_at P g (n*i.size) e news 0 cur w hg (by simpa using c) h1;simp only[nC]at h;rcases hs.kind with⟨r,hk⟩|hk
 all_goals simp[oW,cA p,cA hk,sizeOf,typeInfo,hi,j,b,hf,add_lit,h]
def Hl{t t2 ty e n cap m:Nat}{i:TypeInfo}{z u:Value}{A0:Option Addr}{olds news:List Value}(E:P.underlying t=some (.slice e))(hi:P.info? e=some i)(F:i.zero=some z)
  (j:olds.length=n*i.size) (G:n≠0->∃b o,A0=some ⟨b,o,none⟩/\∀k,k<olds.length->w.cell? ⟨b,o+k,none⟩=olds[k]?)
  (hl:news.length=m*i.size) (hs:Src P w t2 u i.size m news) (hg:cap<n+m) (J:((n+m:Nat):Int)<=9223372036854775807) (D:aeb (n+m) cap*i.bytes<=281474976710656):
  (oW #[t,t2] ty #[.slice A0 n cap,u]).run P w=
    .ok (.slice (some ⟨w.heap.size,0,none⟩) (n+m) (grownCap w (n+m) cap e)) (w.drew.alloc (.cells (olds.toArray++news.toArray++rP z.cells (grownCap w (n+m) cap e-(n+m))) e)):=by
 have hn:¬(n+m<=cap):=by omega
 have g:¬(9223372036854775807<((n:Int)+(m:Int))):=by omega
 have h:¬(281474976710656<aeb (n+m) cap*i.bytes):=by omega
 have hf:=hs.first w.drew (fun b o=>by simp);have p:=hs.len w;have r:=o4 (P:=P) (w:=w.drew) (c:=cap) (A:=A0) j (fun L=>by obtain⟨b,o,h1,h2⟩:=G L;exact⟨b,o,h1,fun k hk=>by simpa using h2 k hk⟩);rcases hs.kind with⟨M,hk⟩|hk
 all_goals
  simp[oW,cA E,cA hk,sizeOf,typeInfo,zeroValue,hi,F,p,hn,g,h,Question.forced,hf,r,newRow,grownCap];congr 2;apply oR;simp[dq]
def K.iH(κ:K)(b k g:Nat)(v:Value)(xs:List Value):K:=
 {κ with m:=fun x o=>if x=g/\o<xs.length then xs[o]? else κ.m x o,fr:=fun x=>if x=b then some k else κ.fr x,sv:=fun x=>if x=b then v else κ.sv x}
def K.Rz{b k g n:Nat}{v:Value}{xs:List Value}(hf:κ.fr b=some n)(hn:n<k)(j:∀o u,κ.m g o=some u->o<xs.length->xs[o]?=some u):κ.le (κ.iH b k g v xs):=by
 refine⟨fun x o u h=>?_,aA _,fun x hx c=>⟨?_,rfl⟩,fun x f hx c=>?_,fun x hx c=>by
  show(if x=b then _ else _)=_;rw[if_neg (fun e=>by rw[e,hf]at c;cases c)],rfl,rfl⟩
 ·show(if x=g/\o<xs.length then _ else _)=_;by_cases hc:x=g/\o<xs.length
  ·rw[if_pos hc];obtain⟨rfl,p⟩:=hc;exact j o u h p
  ·rw[if_neg hc];exact h
 ·show(if x=b then _ else _)=_;rw[if_neg (fun e=>by rw[e,hf]at c;cases c)];exact c
 ·by_cases i:x=b
  ·subst i;rw[hf]at c;injection c with c;subst c;exact⟨k,by show(if x=x then _ else _)=_;rw[if_pos rfl],by omega,fun e=>by omega,rfl⟩
  ·exact⟨f,by show(if x=b then _ else _)=_;rw[if_neg i];exact c,aA _,fun _=>by show(if x=b then _ else _)=_;rw[if_neg i],rfl⟩
def aB.iH(h:aB w0 κ σ w){b n k g:Nat}{e:TypeId}{size:Nat}{v:Value}{xs:List Value}(hb:σ[b]?=some (.spare e size n))(hn:n<k)
  (D:w'.ownsRow w0.heap.size e size v k xs) (hv:v.ownBlock=some g) (hg:w.grownBy w' (some g)) (hbw:Below w0.heap.size w0 w')
  (Q:∀x (hx:x<σ.length),x≠b->(σ[x]).bo κ x≠some g) (G:∀o u,κ.m g o=some u->o<n*size/\xs[o]?=some u) (hgr:κ.rest g=none):
  aB w0 (κ.iH b k g v xs) (σ.set b (.spare e size k)) w'/\κ.le (κ.iH b k g v xs):=by
 obtain⟨hlt,hb'⟩:=aI.1 hb;have J:=h.cg b hlt;rw[hb']at J;have L:κ.le (κ.iH b k g v xs):=K.Rz J.fr hn fun o u hu _=>(G o u hu).2;have hlen:xs.length=k*size:=D.1;have r:∀x,x<w.heap.size->x≠g->w'.heap[x]?=w.heap[x]?:=fun x hx c=>hg.block x hx (by simpa using c);have frb:(κ.iH b k g v xs).fr b=some k:=by show(if b=b then _ else _)=_;rw[if_pos rfl]
 have R:(κ.iH b k g v xs).sv b=v:=by show(if b=b then _ else _)=_;rw[if_pos rfl]
 have M:∀x,x≠b->(κ.iH b k g v xs).fr x=κ.fr x:=fun x hx=>by show(if x=b then _ else _)=_;rw[if_neg hx]
 have N:∀x,x≠b->(κ.iH b k g v xs).sv x=κ.sv x:=fun x hx=>by show(if x=b then _ else _)=_;rw[if_neg hx]
 have Z:∀x o,x≠g->(κ.iH b k g v xs).m x o=κ.m x o:=fun x o hx=>by show(if x=g/\_ then _ else _)=_;rw[if_neg (fun e=>hx e.1)]
 have A:(ad.spare e size k).bo (κ.iH b k g v xs) b=some g:=by simp only[ad.bo];rw[R];exact GR D (by omega) hv
 have i:∀x (hx:x<σ.length),x≠b->(σ[x]).bo (κ.iH b k g v xs) x=(σ[x]).bo κ x:=fun x hx c=>ad.kR rfl (N x c);refine⟨⟨by show κ.n=_;simpa using h.n,hbw,fun x o u Y=>?_,fun x hx=>?_,fun x y hx hy z c=>?_,fun l o hr=>?_,bf h.dG hg.size⟩,L⟩
 rotate_right
 ·obtain⟨a1,a2,a3⟩:=h.rest l o hr;have hlg:l≠g:=fun e=>by have hr':κ.rest l=some o:=hr;rw[e,hgr]at hr';cases hr'
  exact⟨(r l (eu.1 a1).1 hlg).trans a1,a2,um i a3 (by rw[A];intro e;injection e with e;exact hlg e.symm)⟩
 ·by_cases T:x=g
  ·subst T;have O:(if x=x/\o<xs.length then xs[o]? else κ.m x o)=some u:=Y;by_cases ho:o<xs.length
   ·rw[if_pos ⟨rfl,ho⟩]at O;have:=D.cells hv o u O;rwa [add_lit,eJ]at this
   ·rw[if_neg (fun e=>ho e.2)]at O;have:=(G o u O).1;have:n*size<=k*size:=jT _ (by omega);omega
  ·rw[Z x o T]at Y;rw[A6 (w:=w) (a:=⟨x,o,none⟩) (r x (h.nK Y) T)];exact h.mem x o u Y
 ·by_cases p:x=b
  ·subst p;rw[gU];refine⟨frb,J.sz,.inr ⟨xs,by rw[R];exact D⟩,fun g' E o ho=>?_⟩;rw[R,GR D (by omega) hv]at E;injection E with E;subst E;show(if g=g/\o<xs.length then _ else _)=_;rw[if_neg (by omega)];cases Y:κ.m g o with
   |none=>rfl
   |some u=>
    have:=(G o u Y).1;have:n*size<=k*size:=jT _ (by omega);omega
  ·have F:x<σ.length:=by simpa using hx
   rw[gb (dz p)];have h1:=h.cg x F;have c:=Q x F p;have h2:=ad.se (w':=w') h1 fun z hz=>r z (h.iG F hz).2 (fun e=>c (by rw[hz,e]));cases hσ:σ[x]with
   |cells cs=>
    rw[hσ]at h2 c;obtain⟨vs,t,k1,k2,k3⟩:=h2.row;refine⟨(M x p).trans h2.fr,⟨vs,t,k1,k2,fun j hj=>⟨(k3 j hj).1,(k3 j hj).2.mono L⟩⟩,h2.own,fun o=>?_,h2.ty⟩;rw[Z _ o (fun e=>c (by simp[ad.bo];exact e))];exact h2.free o
   |spare U s1 n1=>
    rw[hσ]at h2 c;refine⟨(M x p).trans h2.fr,h2.sz,by rw[N x p];exact h2.row,fun g' E o ho=>?_⟩;rw[N x p]at E;rw[Z _ o (fun e=>c (by simp only[ad.bo];rw[E,e]))];exact h2.free g' E o ho
   |mp kvs=>
    rw[hσ]at h2 c;refine ad.mapped.le h2 L.m ((M x p).trans h2.fr) rfl (fun o=>?_);rw[Z _ o (fun e=>c (by simp[ad.bo];exact e))];exact h2.free o
   |vec U s1 cs1=>
    rw[hσ]at h2 c;refine ad.mw.le h2 L.m ((M x p).trans h2.fr) rfl (N x p) (fun o=>?_);rw[Z _ o (fun e=>c (by simp[ad.bo];exact e))];exact h2.free o
   |gone=>trivial
 ·have F:x<σ.length:=by simpa using hx
  have P:y<σ.length:=by simpa using hy
  by_cases p:x=b
  ·subst p;rw[gU,A,gb c,i y P (dz c)];intro U;injection U with U;subst U;exact Q y P (dz c)
  ·by_cases X:y=b
   ·subst X;rw[gU,A,gb (dz c),i x F c];intro U e2;injection e2 with e2;subst e2;exact Q x F c U
   ·rw[gb (dz p),gb (dz X),i x F p,i y P X];exact h.apart x y F P z c
end
section
variable {P:Program} {w0 w w':World} {κ:K} {σ σ':H} {a:Act} {ρ:Env}
def RC.source(p:aB w0 κ σ w){rows:List (List C)}{size:Nat}{v:Value}(h:RC κ.m (.sl rows) v)(hs:∀r∈rows,r.length=size):
  ∃(A:Option Addr) (c:Nat) (news:List Value),v= .slice A rows.length c/\news.length=rows.length*size/\(rows.length≠0->∃b o,A=some ⟨b,o,none⟩/\∀k,k<news.length->w.cell? ⟨b,o+k,none⟩=news[k]?)/\(∀u∈news,u.oneCell'=true)/\
   (∀i (hi:i<rows.length) j (D:j<rows[i].length),RC κ.m rows[i][j] (news.getD (i*size+j) undef)):=by
 obtain⟨s,A,cap,xs,rfl,h0,h1,h2,t,F,E⟩:=h.kT;by_cases hn:rows=[]
 ·subst hn;exact⟨A,cap,[],rfl,by simp,by simp,by simp,fun i hi=>by simp at hi⟩
 ·have g:0<rows.length:=iX.2 hn;have gF:s=size:=by rw[<-h0 _ (bg g),hs _ (bg g)]
  subst gF;obtain⟨b,o,rfl,G⟩:=F hn;have hc:∀k,k<xs.length->w.cell? ⟨b,o+k,none⟩=xs[k]?:=fun k hk=>by
   have:=G k hk;rw[aN hk]at this⊢;exact p.mem _ _ _ this
  refine⟨some ⟨b,o,none⟩,cap,xs,rfl,t,fun _=>⟨b,o,rfl,hc⟩,fun u J=>?_,E⟩;obtain⟨k,hk,rfl⟩:=List.getElem_of_mem J;by_cases e:s=0
  ·subst e;simp at t;subst t;simp at hk
  ·have e:0<s:=by omega
   have hi:k/s<rows.length:=by rw[aec e];omega
   have D:k%s<rows[k/s].length:=by rw[h0 _ (bg hi)];exact Nat.mod_lt _ e
   have:=E (k/s) hi (k%s) D;rw[show k/s*s+k%s=k from by rw[Nat.mul_comm];exact Nat.div_add_mod k s,iF hk]at this;exact this.one
def BK{m:Mem}{l r:List (List C)}{size:Nat}{xs ys:List Value}(hl:xs.length=l.length*size)(h:∀q∈l,q.length=size)
  (h1:∀i (hi:i<l.length) j (g:j<l[i].length),RC m l[i][j] (xs.getD (i*size+j) undef)) (h2:∀i (hi:i<r.length) j (g:j<r[i].length),RC m r[i][j] (ys.getD (i*size+j) undef)):
  ∀i (hi:i<(l++r).length) j (g:j<(l++r)[i].length),RC m (l++r)[i][j] ((xs++ys).getD (i*size+j) undef):=by
 intro i hi j g;rw[cx];by_cases b:i<l.length
 ·have e:(l++r)[i]=l[i]:=cM b;have c:j<l[i].length:=by rw[<-e];exact g
  have p:j<size:=by rw[<-h _ (bg b)];exact c
  have:=h1 i b j c;rw[cx]at this;rw[cr (by rw[hl];exact mul_lt b p)];simpa[e]using this
 ·have t:i-l.length<r.length:=by simp at hi;omega
  have e:(l++r)[i]=r[i-l.length]:=dY (by omega);have c:j<r[i-l.length].length:=by rw[<-e];exact g
  have:=h2 (i-l.length) t j c;rw[cx]at this;have u:l.length*size<=i*size:=jT _ (by omega);have w:(i-l.length)*size=i*size-l.length*size:=Nat.sub_mul _ _ _;rw[da (by omega),hl,show i*size+j-l.length*size=(i-l.length)*size+j from by omega];simpa[e]using this
def Hm{e:Nat}{i:TypeInfo}{z:Value}{n m:Nat}{news:List Value}(j:z.cells.size=i.size)(hl:news.length=m*i.size)(r:n+m<=140737488355328)(g:w0.heap.size<=w.heap.size)(b:Nat)(xs:List Value)(h:xs.length=n*i.size):
  (w.drew.alloc (.cells (xs.toArray++news.toArray++rP z.cells (grownCap w (n+m) b e-(n+m))) e)).ownsRow w0.heap.size e i.size (.slice (some ⟨w.heap.size,0,none⟩) (n+m) (grownCap w (n+m) b e)) (n+m) (xs++news):=by
 have p:=grownCap_ge w (n+m) b e;have c:(xs++news).length=(n+m)*i.size:=by rw[bC,h,hl,fK]
 refine⟨c,.inr ⟨w.heap.size,_,_,rfl,g,ma w.drew _,p,grownCap_le_maxLen w (n+m) b e (by unfold maxLen;omega),?_,?_⟩⟩
 ·simp only[Array.size_append,pZ,size_zeroCells,j,h,hl,<-fK];congr 1;omega
 ·simp only[Array.toList_append,dq];rw[<-dq,<-c];exact mh
def BL{t t2 ty e:Nat}{i:TypeInfo}{z u:Value}{n m:Nat}{A0:Option Addr}{xs news:List Value}(A:P.underlying t=some (.slice e))(hi:P.info? e=some i)(D:i.zero=some z)(j:z.cells.size=i.size)
  (g:xs.length=n*i.size) (p:n≠0->∃b o,A0=some ⟨b,o,none⟩/\∀k,k<xs.length->w.cell? ⟨b,o+k,none⟩=xs[k]?) (hl:news.length=m*i.size) (h:Src P w t2 u i.size m news)
  (G:0<m) (E:(n+m)*i.bytes<=140737488355328) (r:n+m<=140737488355328) (c:w0.heap.size<=w.heap.size):
  ∃v' w',(oW #[t,t2] ty #[.slice A0 n n,u]).run P w= .ok v' w'/\w'.ownsRow w0.heap.size e i.size v' (n+m) (xs++news)/\v'.ownBlock=some w.heap.size/\Below w.heap.size w w':=by
 have F:=Hl (P:=P) (w:=w) (t:=t) (t2:=t2) (ty:=ty) (n:=n) (cap:=n) (A0:=A0) (olds:=xs) A hi D g p hl h (by omega) (by omega) (growslice_fits (by omega) E);exact⟨_,_,F,Hm j hl r c n xs g,rfl,Below.alloc (Below.drew (fJ _ _)) (aA _) _⟩
def Hn{t t2 ty e:Nat}{i:TypeInfo}{z R:Value}{n m:Nat}{v:Value}{xs news:List Value}(L:P.underlying t=some (.slice e))(hi:P.info? e=some i)(T:i.zero=some z)(E:z.cells.size=i.size)
  (M:(n=0/\xs=[]/\∃A0,v= .slice A0 0 0)\/w.ownsRow w0.heap.size e i.size v n xs) (hl:news.length=m*i.size) (h:Src P w t2 R i.size m news)
  (h1:∀u∈news,u.oneCell'=true) (X:0<m) (U:(n+m)*i.bytes<=140737488355328) (F:n+m<=140737488355328) (p:w0.heap.size<=w.heap.size):
  ∃v' w' g,(oW #[t,t2] ty #[v,R]).run P w= .ok v' w'/\w'.ownsRow w0.heap.size e i.size v' (n+m) (xs++news)/\v'.ownBlock=some g/\
   ((heldBy v=some g/\w.grownBy w' (some g)/\w0.heap.size<=g)\/(g=w.heap.size/\Below w.heap.size w w')):=by
 have M:(n=0/\xs=[]/\∃A0,v= .slice A0 0 0)\/∃g cap cur,v= .slice (some ⟨g,0,none⟩) n cap/\w0.heap.size<=g/\w.heap[g]?=some (.cells cur e (0,0))/\n<=cap/\cap<=maxLen/\cur.size=cap*i.size/\cur.toList.take (n*i.size)=xs/\w.ownsRow w0.heap.size e i.size v n xs:=by
  rcases M with h0|b
  ·exact .inl h0
  ·rcases b.2 with⟨rfl,rfl⟩|⟨g,cap,cur,Y,Z,q3,q4,q5,q6,q7⟩
   ·exact .inl ⟨rfl,fM (by have:=b.1;simpa using this),none,rfl⟩
   ·exact .inr ⟨g,cap,cur,Y,Z,q3,q4,q5,q6,q7,b⟩
 rcases M with⟨rfl,rfl,A0,rfl⟩|⟨g,cap,cur,rfl,G,hg,hnc,N,O,A,b⟩
 ·obtain⟨v',w',h1,h2,h3,h4⟩:=BL (P:=P) (w0:=w0) (w:=w) (t:=t) (t2:=t2) (ty:=ty) (n:=0) (m:=m) (A0:=A0) (xs:=[]) (news:=news) L hi T E (by simp) (fun h=>absurd rfl h) hl h X U F p;exact⟨v',w',_,h1,h2,h3,.inr ⟨rfl,h4⟩⟩
 ·by_cases j:n+m<=cap
  ·have J:n*i.size+news.length<=cur.size:=by rw[hl,O,<-fK];exact jT _ j
   have Q:=Ry (P:=P) (w:=w) (t2:=t2) (ty:=ty) L hi hg hl h h1 j J;have r:(xs++news).length=(n+m)*i.size:=by rw[bC,b.1,hl,fK]
   refine⟨_,_,g,Q,⟨r,.inr ⟨g,cap,_,rfl,G,setRow_heap w g cur _ e _ hg,j,N,?_,?_⟩⟩,rfl,.inl ⟨?_,⟨rfl,rfl,rfl,by simp[World.setRow],fun k _ hk=>setRow_other w g k _ (fun e=>hk (by rw[e]))⟩,G⟩⟩
   ·simp only[pZ,bC,dE,List.length_drop,Qy];omega
   ·rw[A,<-r];exact mh
   ·cases cap with
    |zero=>omega
    |succ c=>rfl
  ·have D:∀k,k<xs.length->w.cell? ⟨g,0+k,none⟩=xs[k]?:=fun k hk=>by
    have:=b.cells (g:=g) rfl k xs[k] (aN hk);rw[add_lit]at this;rw[this,aN hk]
   have Q:=Hl (P:=P) (w:=w) (t:=t) (t2:=t2) (ty:=ty) (n:=n) (cap:=cap) (A0:=some ⟨g,0,none⟩) (olds:=xs) L hi T b.1 (fun _=>⟨g,0,rfl,D⟩) hl h (by omega) (by omega) (growslice_fits (by omega) U);exact⟨_,_,w.heap.size,Q,Hm E hl F p cap xs b.1,rfl,.inr ⟨rfl,Below.alloc (Below.drew (fJ _ _)) (aA _) _⟩⟩
def BM{t t2 ty e:Nat}{i:TypeInfo}{n cap:Nat}{A0:Option Addr}{c:Value}(g:P.underlying t=some (.slice e))(hi:P.info? e=some i)(hc:n<=cap)(h:Src P w t2 c i.size 0 []):
  (oW #[t,t2] ty #[.slice A0 n cap,c]).run P w= .ok (.slice A0 n cap) w:=by
 have hf:=h.first w (fun _ _=>rfl);have b:=h.len w;rcases h.kind with⟨j,hk⟩|hk
 all_goals
  cases A0 with
  |none=>simp[oW,cA g,cA hk,sizeOf,typeInfo,hi,b,hc,hf]
  |some a=>simp[oW,cA g,cA hk,sizeOf,typeInfo,hi,b,hc,hf,storeCells]
def K.own(κ:K)(v:Value)(size:Nat):K:={κ with n:=κ.n+1,fr:=fun b=>if b=κ.n then some 0 else κ.fr b,sv:=fun b=>if b=κ.n then v else κ.sv b,sz:=fun b=>if b=κ.n then size else κ.sz b}
def K.sg{v:Value}{size:Nat}:κ.le (κ.own v size):=
 RV.same (Mem.le_refl _) (Nat.le_succ _) (fun _ _=>rfl) (fun b c=>by show(if b=κ.n then _ else _)=_;rw[if_neg (by omega)]) (fun b c=>by show(if b=κ.n then _ else _)=_;rw[if_neg (by omega)])
  (fun b c=>by show(if b=κ.n then _ else _)=_;rw[if_neg (by omega)])
def aB.own(h:aB w0 κ σ w)(e:TypeId)(size:Nat)(A:Option Addr):aB w0 (κ.own (.slice A 0 0) size) (σ++[.spare e size 0]) w:=by
 have D:κ.le (κ.own (.slice A 0 0) size):=K.sg;have E:∀b,b<σ.length->(κ.own (.slice A 0 0) size).fr b=κ.fr b:=fun b u=>by show(if b=κ.n then _ else _)=_;rw[if_neg (by rw[h.n];omega)]
 have p:∀b,b<σ.length->(κ.own (.slice A 0 0) size).sv b=κ.sv b:=fun b u=>by show(if b=κ.n then _ else _)=_;rw[if_neg (by rw[h.n];omega)]
 have F:∀b,b<σ.length->(κ.own (.slice A 0 0) size).sz b=κ.sz b:=fun b u=>by show(if b=κ.n then _ else _)=_;rw[if_neg (by rw[h.n];omega)]
 have G:(κ.own (.slice A 0 0) size).fr σ.length=some 0:=by show(if σ.length=κ.n then _ else _)=_;rw[if_pos h.n.symm]
 have r:(κ.own (.slice A 0 0) size).sv σ.length= .slice A 0 0:=by show(if σ.length=κ.n then _ else _)=_;rw[if_pos h.n.symm]
 have J:(κ.own (.slice A 0 0) size).sz σ.length=size:=by show(if σ.length=κ.n then _ else _)=_;rw[if_pos h.n.symm]
 refine⟨by show κ.n+1=_;rw[h.n];simp,h.ext,h.mem,fun b u=>?_,fun x y hx hy g L=>?_,fun l o M=>⟨(h.rest l o M).1,(h.rest l o M).2.1,uk (κ:=κ) (fun b u=>ad.kR (κ:=κ) rfl (p b u)) (h.rest l o M).2.2 (by simp only[ad.bo];rw[r];cases A<;>(intro e;cases e))⟩,h.dG⟩
 ·rcases eh b σ.length with c|c
  ·rw[cM c];exact ad.is_le (κ:=κ) rfl D rfl (E b c) (p b c) (F b c) (h.cg b c)
  ·have N:b=σ.length:=by simp at u;omega
   subst N;rw[dY (aA _)];simp only[cw,di];exact⟨G,J,.inl ⟨rfl,A,r⟩,fun g hg=>by rw[r]at hg;cases A<;>cases hg⟩
 ·have t:∀z (P:z<(σ++[ad.spare e size 0]).length),σ.length<=z->((σ++[ad.spare e size 0])[z]).bo (κ.own (.slice A 0 0) size) z=none:=fun z P Q=>by
   have O:z=σ.length:=by simp at P;omega
   subst O;rw[dY (aA _)];simp only[cw,di,ad.bo];rw[r];cases A<;>rfl
  rcases eh x σ.length with i|i
  ·rcases eh y σ.length with j|j
   ·rw[cM i,cM j,ad.kR (κ:=κ) (κ':=κ.own (.slice A 0 0) size) rfl (p x i),ad.kR (κ:=κ) (κ':=κ.own (.slice A 0 0) size) rfl (p y j)];exact h.apart x y i j g L
   ·rw[t y hy j];intro _ e;cases e
  ·rw[t x hx i];intro e;cases e
def Ho{m:Mem}{cs:List C}{news:List (List C)}{size:Nat}{xs ys:List Value}(hl:xs.length=cs.length)(hn:∀q∈news,q.length=size)(h1:∀j (p:j<cs.length),RC m cs[j] (xs.getD j undef))
  (h2:∀i (hi:i<news.length) j (p:j<news[i].length),RC m news[i][j] (ys.getD (i*size+j) undef)):∀j (p:j<(cs++news.flatten).length),RC m (cs++news.flatten)[j] ((xs++ys).getD j undef):=by
 intro j p;by_cases c:j<cs.length
 ·rw[cM c,cx,cr (by omega),<-cx];exact h1 j c
 ·have r:=uo news hn;have b:j-cs.length<news.length*size:=by rw[bC,r]at p;omega
  have e:0<size:=by
   rcases Nat.eq_zero_or_pos size with h|h
   ·rw[h]at b;simp at b
   ·exact h
  have hi:(j-cs.length)/size<news.length:=by rw[aec e];exact b
  have t:(j-cs.length)%size<size:=Nat.mod_lt _ e;have he:(j-cs.length)/size*size+(j-cs.length)%size=j-cs.length:=by rw[Nat.mul_comm];exact Nat.div_add_mod _ _
  have g:(j-cs.length)%size<news[(j-cs.length)/size].length:=by rw[hn _ (bg hi)];exact t
  have hg:=BI news ((j-cs.length)/size) ((j-cs.length)%size) hn t;rw[he,aN hi,Option.bind_some,aN g]at hg;have u:=h2 _ hi _ g;rw[he]at u;rw[dY (by omega),cx,da (by omega),hl,<-cx];obtain⟨_,hg⟩:=aI.1 hg;rw[hg];exact u
def aB.Hp(h:aB w0 κ σ w){g e size n:Nat}{v:Value}{xs:List Value}{cs:List C}(hn:n≠0)(b:w.ownsRow w0.heap.size e size v n xs)(p:v.ownBlock=some g)(A:∀o,κ.m g o=none)(hl:∀x (hx:x<σ.length),(σ[x]).bo κ x≠some g)
  (hc:∀j (r:j<cs.length),RC κ.m cs[j] (xs.getD j undef)) (c:cs.length=n*size):∃κ',κ.le κ'/\aB w0 κ' (σ++[.vec e size cs]) w/\RV κ' (.vec σ.length n) v:=by
 rcases b.2 with⟨_,h0⟩|⟨O,cap,cur,rfl,D,E,F,G,J,u⟩
 ·exact absurd h0 hn
 ·injection p with p;subst p;obtain⟨L,M⟩:=h.G2 (cs:=cs) (n:=n) (cap:=cap) D A hl E c F G J (fun j r=>by
   have:=hc j r;have i:j<xs.length:=by rw[b.1,<-c];exact r
   have N:cur.getD j undef=xs.getD j undef:=by
    rw[<-u]at i;have t:j<n*size:=by simp at i;omega
    rw[<-u,iV,cx,nD,if_pos t];simp
   rw[N];exact this)
  exact⟨_,K.BA,L,M n (aA _)⟩
def qj{o:Oper}{t t2:Nat}{x y:Operand}{v u v':Value}(b:o.op= .call {callee:=.builtin .append,args:=#[x,y],argTypes:=#[t,t2]})(hx:a.eval x=v)(hy:a.eval y=u)
  (c:(oW #[t,t2] o.type #[v,u]).run P w= .ok v' w'):(execOp a.eval o).run P w= .ok (.value v') w':=by
 simp[execOp,b,resolve,invoke,builtin,hx,hy,c]
def Hq{o:Oper}{t t2 e:Nat}{x y:Operand}{x':ah}{i:TypeInfo}{z:Value}{v:V}{news:List (List C)}{ns:List Value}(ho:o.op= .call {callee:=.builtin .append,args:=#[x,y],argTypes:=#[t,t2]})(hu:P.underlying t=some (.slice e))(hi:P.info? e=some i)(hz:i.zero=some z)
  (hzs:z.cells.size=i.size) (hx:bK x=some x') (hna:Src P w t2 (a.eval y) i.size news.length ns) (A:(∀r∈news,r.length=i.size)->ns.length=news.length*i.size) (hn1:∀u∈ns,u.oneCell'=true) (O:(∀r∈news,r.length=i.size)->∀k (hk:k<news.length) j (hj:j<news[k].length),RC κ.m news[k][j] (ns.getD (k*i.size+j) undef))
  (hs:mA e i.size i.bytes (x'.ev ρ) news σ=some (v,σ')) (c:aB w0 κ σ w) (he:cj κ ρ a):br w0 κ σ' v ((execOp a.eval o).run P w):=by
 have M:=bN he hx;have hyv:a.eval y=a.eval y:=rfl;unfold mA at hs;split at hs
 ·rename_i b k hxe;rw[hxe]at M;by_cases hnn:news=[]
  ·subst hnn;simp only at hs;injection hs with hs;injection hs with e1 e2;subst e1 e2;generalize Q:a.eval x=u at M;cases M with
   |vec r1 r2 r3 r4 r5 r6=>
    rename_i n cap;have hns:ns=[]:=fM (by simpa using A (by simp));subst hns;have hr:=BM (P:=P) (w:=w) (t:=t) (t2:=t2) (ty:=o.type) (A0:=some ⟨κ.pos b,0,none⟩) (n:=k) (cap:=cap) hu hi (bf r4 r5) hna;exact⟨κ,_,w,.inl (qj ho Q hyv hr),K.le_refl κ,c,.vec r1 r2 r3 r4 r5 r6⟩
  have hs:(match σ[b]? with
   |some (.vec e' size' cs)=>if e'=e/\size'=i.size/\k*i.size<=cs.length/\news≠[]/\(∀r∈news,r.length=i.size)/\(k+news.length)*i.bytes<=140737488355328/\k+news.length<=140737488355328 then
     some (V.vec σ.length (k+news.length),σ.set b .gone++[.vec e i.size (cs.take (k*i.size)++news.flatten)])else none
   |_=>none)=some (v,σ'):=by
   cases news with
   |nil=>exact absurd rfl hnn
   |cons q r=>exact hs
  split at hs
  ·rename_i e' size' cs hb;split at hs
   ·rename_i hc;obtain⟨he1,rfl,hkc,R,J,hby,hmx⟩:=hc;have he1:=he1.symm;subst he1;injection hs with hs;injection hs with e1 e2;subst e1 e2;have A:=A J;have O:=O J;have hmp:0<news.length:=iX.2 R;obtain⟨hlt,X⟩:=aI.1 hb;have E:=c.cg b hlt;rw[X]at E;obtain⟨vs,n1,N,k0,k1,k2,k3,k4,k5,k6⟩:=E.row;generalize Q:a.eval x=u at M;cases M with
    |vec r1 r2 r3 r4 r5 r6=>
     rename_i n cap;rw[k0]at r3;injection r3 with _ e1 e2;subst e1 e2;have hvl:(vs.toList.take (k*i.size)).length=k*i.size:=by
      have:=jT i.size (bf r4 r5);rw[dE,Qy,k5];omega
     have hown0:w.ownsRow w0.heap.size e i.size (.slice (some ⟨κ.pos b,0,none⟩) k N) k (vs.toList.take (k*i.size)):=
      ⟨hvl,.inr ⟨κ.pos b,N,vs,rfl,E.own,k1,bf r4 r5,k4,k5,rfl⟩⟩
     obtain⟨v',w',g,hr,D,L,hcase⟩:=Hn (P:=P) (w0:=w0) (w:=w) (t:=t) (t2:=t2) (ty:=o.type) (n:=k) (m:=news.length) (xs:=vs.toList.take (k*i.size)) (news:=ns) hu hi hz hzs (.inr hown0) A hna hn1 hmp hby hmx c.ext.size;have hR0:=c.G1 b;have hfree:∀x (hx:x<(σ.set b .gone).length),((σ.set b .gone)[x]).bo κ x≠some (κ.pos b):=fun x hx=>by
      have hx':x<σ.length:=by simpa using hx
      by_cases hxb:x=b
      ·subst hxb;rw[gU];intro e;cases e
      ·rw[gb (dz hxb)];intro e;exact c.apart x b hx' hlt _ hxb e (by rw[X];rfl)
     have hR1:aB w0 κ (σ.set b .gone) w'/\(∀o,κ.m g o=none)/\∀x (hx:x<(σ.set b .gone).length),((σ.set b .gone)[x]).bo κ x≠some g:=by
      rcases hcase with⟨c1,c3,c4⟩|⟨rfl,c2⟩
      ·have hg:g=κ.pos b:=by
        have:=xz c1;injection this with this;exact this.symm
       subst hg;exact⟨hR0.QY c3 (Below.grown c.ext c3 c.ext.size (fun k hk=>by injection hk with hk;omega)) E.free hfree (c.GW hlt (by rw[X];rfl)),E.free,hfree⟩
      ·exact⟨hR0.grow c2,fun o=>c.fresh (aA _) o,fun x hx hl=>by have:=(hR0.iG hx hl).2;omega⟩
     obtain⟨κ',q1,q2,q3⟩:=hR1.1.Hp (cs:=cs.take (k*i.size)++news.flatten) (by omega) D L hR1.2.1 hR1.2.2 (Ho (by rw[hvl,dE];omega) J (fun j hj=>by
      have hj':j<k*i.size:=by rw[dE]at hj;omega
      have hjc:j<cs.length:=by omega
      have:=k6 j hjc;rw[List.getElem_take,cx,nD,if_pos hj'];simpa[iV]using this) O) (by rw[bC,dE,uo news J,fK];omega)
     rw[List.length_set]at q3;exact⟨κ',v',w',.inl (qj ho Q hyv hr),q1,q2,q3⟩
   ·cases hs
  ·cases hs
 ·rename_i b rows hxe;rw[hxe]at M;split at hs
  ·rename_i e' size' n hb;split at hs
   ·rename_i hc;obtain⟨he1,rfl,hrn,J,hby,hmx⟩:=hc;have he1:=he1.symm;subst he1;injection hs with hs;injection hs with e1 e2;subst e1 e2;have A:=A J;have O:=O J;obtain⟨hlt,X⟩:=aI.1 hb;have E:=c.cg b hlt;rw[X]at E;generalize Q:a.eval x=u at M;cases M with
    |aC r1 r2 r3 r4 r5 r6=>
     rename_i f;have hff:f=n:=by have:=E.fr;rw[r3]at this;injection this
     subst hff;have hu':=r5 hrn;have hrs:∀q∈rows,q.length=i.size:=fun q G=>(r6 q G).trans E.sz;by_cases hm:news.length=0
     ·have:news=[]:=fM hm;subst this;obtain⟨s1,A1,N,xs1,F,_,hcap1,_⟩:=r1.kT;have hns:ns=[]:=fM (by simpa using A);subst hns;have hr:=BM (P:=P) (w:=w) (t:=t) (t2:=t2) (ty:=o.type) (A0:=A1) (n:=rows.length) (cap:=N) hu hi hcap1 hna;refine⟨κ,u,w,.inl (qj ho Q hyv (by rw[F];exact hr)),K.le_refl κ,?_,?_⟩
      ·simp only[List.length_nil,nC];rw[<-X,List.set_getElem_self];exact c
      ·rw[List.append_nil];exact .aC r1 r2 r3 r4 r5 r6
     ·have hmp:0<news.length:=by omega
      have hv:∃xs:List Value,xs.length=rows.length*i.size/\(∀k (hk:k<rows.length) j (hj:j<rows[k].length),RC κ.m rows[k][j] (xs.getD (k*i.size+j) undef))/\
        ((rows.length=0/\xs=[]/\∃A0,u= .slice A0 0 0)\/w.ownsRow w0.heap.size e i.size u rows.length xs):=by
       rcases E.row with⟨h0,A0,hA0⟩|⟨xs,T⟩
       ·have hr0:rows=[]:=fM (by omega);subst hr0;exact⟨[],by simp,fun k hk=>by simp at hk,.inl ⟨rfl,rfl,A0,by rw[hu',hA0]⟩⟩
       ·rw[<-hu',<-hrn]at T;obtain⟨s1,A1,N,xs1,F,k0,_,_,k3,k4,k5⟩:=r1.kT;by_cases R:rows=[]
        ·subst R;exact⟨xs,T.1,fun k hk=>by simp at hk,.inr T⟩
        have Y:0<rows.length:=iX.2 R;have hs1:s1=i.size:=by rw[<-k0 _ (bg Y),hrs _ (bg Y)]
        subst hs1;obtain⟨bb,oo,hA1,k4⟩:=k4 R;rcases T.2 with⟨_,h0⟩|⟨g,cap,cur,Z,hbg,hg,hnc,hcm,hcs,htake⟩
        ·omega
        ·rw[Z]at F;injection F with F _ _;rw[hA1]at F;injection F with F;injection F with hg1 ho1 _;subst hg1 ho1;have hxx:xs1=xs:=by
          apply List.ext_getElem (by rw[k3,T.1]);intro k hk1 hk2;have q1:=k4 k hk1;rw[aN hk1]at q1;have q2:=c.mem _ _ _ q1;have q3:=T.cells (g:=g) (by rw[Z];rfl) k xs[k] (aN hk2);rw[add_lit]at q3;rw[q2]at q3;injection q3
         subst hxx;exact⟨xs1,k3,k5,.inr T⟩
      obtain⟨xs,hxl,hxr',hv⟩:=hv;obtain⟨v',w',g,hr,D,L,hcase⟩:=Hn (P:=P) (w0:=w0) (w:=w) (t:=t) (t2:=t2) (ty:=o.type) (n:=rows.length) (m:=news.length) (v:=u) (xs:=xs) (news:=ns) hu hi hz hzs hv A hna hn1 hmp (by rw[hrn];exact hby) (by rw[hrn];exact hmx) c.ext.size;have hgb:w.grownBy w' (some g)/\Below w0.heap.size w0 w'/\(∀x (hx:x<σ.length),x≠b->(σ[x]).bo κ x≠some g)/\(∀p q,κ.m g p=some q->p<f*i.size/\(xs++ns)[p]?=some q)/\κ.rest g=none:=by
       rcases hcase with⟨c1,c3,c4⟩|⟨rfl,c2⟩
       ·refine⟨c3,Below.grown c.ext c3 c.ext.size (fun k hk=>by injection hk with hk;omega),fun x hx R hl=>?_,fun p q G=>?_,c.GW hlt (by rw[X];simp only[ad.bo];rw[<-hu',c1])⟩
        ·refine c.apart x b hx hlt g R hl ?_;rw[X];simp only[ad.bo];rw[<-hu',c1]
        ·have hlt':p<f*i.size:=by
          rcases eh p (f*i.size)with h'|h'
          ·exact h'
          ·rw[E.free g (by rw[<-hu',c1]) p h']at G;cases G
         refine⟨hlt',?_⟩;rcases hv with⟨h0,_⟩|T
         ·rw[<-hrn,h0]at hlt';simp at hlt'
         ·have hpx:p<xs.length:=by rw[hxl,hrn];exact hlt'
          have q3:=T.cells (xz c1) p xs[p] (aN hpx);rw[add_lit,eJ,c.mem _ _ _ G]at q3;injection q3 with q3;rw[cr hpx,aN hpx,q3]
       ·refine⟨⟨c2.os,c2.tape,c2.output,c2.size,fun k hk _=>c2.block k hk⟩,c.ext.trans (c2.mono c.ext.size),fun x hx _ hl=>?_,fun p q G=>?_,c.GX (aA _)⟩
        ·have:=(c.iG hx hl).2;omega
        ·rw[c.fresh (aA _)]at G;cases G
      obtain⟨g1,g2,g3,g4,g5⟩:=hgb;obtain⟨U,hle⟩:=c.iH (k:=f+news.length) hb (by omega) (by rw[<-hrn];exact D) L g1 g2 g3 g4 g5;refine⟨_,v',w',.inl (qj ho Q hyv hr),hle,U,?_⟩;have hv'':∃cap,v'= .slice (some ⟨g,0,none⟩) (rows++news).length cap/\(rows++news).length<=cap/\cap<=maxLen:=by
       rcases D.2 with⟨_,h0⟩|⟨g',cap,cur,Z,_,_,hnc,hcm,_,_⟩
       ·omega
       ·rw[Z]at L;injection L with L;subst L;exact⟨cap,by rw[Z,bC],by rw[bC];exact hnc,hcm⟩
      obtain⟨cap',F,hv2,hv3⟩:=hv'';have hrc:=BJ (m:=(κ.iH b (f+news.length) g v' (xs++ns)).m) (rows:=rows++news) (size:=i.size) (xs:=xs++ns) (by rw[D.1,bC]) (fun q G=>by
       rcases cJ.1 G with G|G
       ·exact hrs q G
       ·exact J q G) (fun k hk j hj=>RC.mono hle.m (BK hxl hrs hxr' O k hk j hj)) (b:=g) (o:=0) (cap:=cap') (fun k hk=>by
       rw[eJ];show(if g=g/\k<(xs++ns).length then _ else _)=_;rw[if_pos ⟨rfl,hk⟩]) hv2 hv3
      rw[<-F]at hrc;refine .aC (f:=f+news.length) hrc r2 (by show(if b=b then _ else _)=_;rw[if_pos rfl]) (by rw[bC];omega) (fun _=>by show _=(if b=b then _ else _);rw[if_pos rfl]) (fun q G=>?_);rcases cJ.1 G with G|G
      ·exact r6 q G
      ·exact(J q G).trans E.sz.symm
   ·cases hs
  ·cases hs
 ·rename_i olds hxe;rw[hxe]at M;split at hs
  ·rename_i hc;obtain⟨R,hol,J,hby,hmx⟩:=hc;injection hs with hs;injection hs with e1 e2;subst e1 e2;have A:=A J;have O:=O J;generalize Q:a.eval x=u at M;cases M with
   |ae r1=>
    rename_i A0;have hold:∃xs:List Value,xs.length=olds.length*i.size/\(∀k (hk:k<olds.length) j (hj:j<olds[k].length),RC κ.m olds[k][j] (xs.getD (k*i.size+j) undef))/\
      (olds.length≠0->∃b o,A0=some ⟨b,o,none⟩/\∀k,k<xs.length->w.cell? ⟨b,o+k,none⟩=xs[k]?):=by
     obtain⟨s1,A1,N,xs1,F,k0,_,_,k3,k4,k5⟩:=r1.kT;by_cases h0:olds=[]
     ·subst h0;exact⟨[],by simp,fun k hk=>by simp at hk,fun h=>absurd rfl h⟩
     ·have Y:0<olds.length:=iX.2 h0;have hs1:s1=i.size:=by rw[<-k0 _ (bg Y),hol _ (bg Y)]
      subst hs1;obtain⟨bb,oo,hA1,k4⟩:=k4 h0;injection F with F _ _;refine⟨xs1,k3,k5,fun _=>⟨bb,oo,by rw[F,hA1],fun k hk=>?_⟩⟩;have q:=k4 k hk;rw[aN hk]at q⊢;exact c.mem _ _ _ q
    obtain⟨xo,hxo,hxor,hxoc⟩:=hold;have hO:=c.own e i.size A0;have hleO:κ.le (κ.own (.slice A0 0 0) i.size):=K.sg;have frn:(κ.own (.slice A0 0 0) i.size).fr σ.length=some 0:=by show(if σ.length=κ.n then _ else _)=_;rw[if_pos c.n.symm]
    have svn:(κ.own (.slice A0 0 0) i.size).sv σ.length= .slice A0 0 0:=by show(if σ.length=κ.n then _ else _)=_;rw[if_pos c.n.symm]
    have szn:(κ.own (.slice A0 0 0) i.size).sz σ.length=i.size:=by show(if σ.length=κ.n then _ else _)=_;rw[if_pos c.n.symm]
    have hnn:σ.length<(κ.own (.slice A0 0 0) i.size).n:=by show _<κ.n+1;rw[c.n];omega
    have hal:∀q∈olds++news,q.length=i.size:=fun q G=>by
     rcases cJ.1 G with G|G
     ·exact hol q G
     ·exact J q G
    by_cases hm:news.length=0
    ·have:news=[]:=fM hm;subst this;have:olds=[]:=by rcases R with h|h;exact h;exact absurd rfl h
     subst this;have hns:ns=[]:=fM (by simpa using A);subst hns;have hr:=BM (P:=P) (w:=w) (t:=t) (t2:=t2) (ty:=o.type) (A0:=A0) (n:=0) (cap:=0) hu hi (aA _) hna;refine⟨_,_,w,.inl (qj ho Q hyv hr),hleO,hO,?_⟩;exact .aC (hleO.m|>fun q=>r1.mono q) hnn frn (aA _) (fun _=>svn.symm) (by simp)
    ·have hmp:0<news.length:=by omega
     obtain⟨v',w',hr,D,L,c2⟩:=BL (P:=P) (w0:=w0) (w:=w) (t:=t) (t2:=t2) (ty:=o.type) (n:=olds.length) (m:=news.length) (A0:=A0) (xs:=xo) (news:=ns) hu hi hz hzs hxo hxoc A hna hmp hby hmx c.ext.size;obtain⟨U,hle⟩:=hO.iH (k:=olds.length+news.length) (n:=0) (b:=σ.length) (e:=e) (size:=i.size) (by simp) (by omega) D L ⟨c2.os,c2.tape,c2.output,c2.size,fun k hk _=>c2.block k hk⟩ (c.ext.trans (c2.mono c.ext.size))
      (fun x hx _ hl=>by have:=(hO.iG hx hl).2;omega) (fun p q G=>by rw[hO.fresh (aA _)]at G;cases G) (hO.GX (aA _))
     rw[show(σ++[ad.spare e i.size 0]).set σ.length (.spare e i.size (olds.length+news.length))=σ++[.spare e i.size (olds.length+news.length)]from by simp]at U;refine⟨_,v',w',.inl (qj ho Q hyv hr),K.le_trans hleO hle,U,?_⟩;have hv'':∃cap,v'= .slice (some ⟨w.heap.size,0,none⟩) (olds++news).length cap/\(olds++news).length<=cap/\cap<=maxLen:=by
      rcases D.2 with⟨_,h0⟩|⟨g',cap,cur,Z,_,_,hnc,hcm,_,_⟩
      ·omega
      ·rw[Z]at L;injection L with L;subst L;exact⟨cap,by rw[Z,bC],by rw[bC];exact hnc,hcm⟩
     obtain⟨cap',F,hv2,hv3⟩:=hv'';have hrc:=BJ (m:=((κ.own (.slice A0 0 0) i.size).iH σ.length (olds.length+news.length) w.heap.size v' (xo++ns)).m) (rows:=olds++news) (size:=i.size) (xs:=xo++ns) (by rw[D.1,bC]) hal (fun k hk j hj=>RC.mono (K.le_trans hleO hle).m (BK hxo hol hxor O k hk j hj)) (b:=w.heap.size) (o:=0) (cap:=cap') (fun k hk=>by
      rw[eJ];show(if w.heap.size=w.heap.size/\k<(xo++ns).length then _ else _)=_;rw[if_pos ⟨rfl,hk⟩]) hv2 hv3
     rw[<-F]at hrc;exact .aC (f:=olds.length+news.length) hrc hnn (by show(if σ.length=σ.length then _ else _)=_;rw[if_pos rfl]) (by rw[bC];omega) (fun _=>by show _=(if σ.length=σ.length then _ else _);rw[if_pos rfl]) (fun q G=>(hal q G).trans szn.symm)
  ·cases hs
 ·cases hs
def RA{o:Oper}{t e:Nat}{x y:Operand}{M N:ah}{i:TypeInfo}{z:Value}{v:V}(Q:o.op= .call {callee:=.builtin .append,args:=#[x,y],argTypes:=#[t,t]})(O:P.underlying t=some (.slice e))(hi:P.info? e=some i)(R:i.zero=some z)
  (u:z.cells.size=i.size) (hx:bK x=some M) (hy:bK y=some N) (hs:step ρ σ (.app e i.size i.bytes M N)=some (v,σ')) (j:aB w0 κ σ w) (he:cj κ ρ a):br w0 κ σ' v ((execOp a.eval o).run P w):=by
 have D:=bN he hy;simp only[step]at hs;split at hs
 ·rename_i news p;have E:=D.lF p;by_cases b:∀r∈news,r.length=i.size
  ·obtain⟨A,c,ns,F,g,G,J,L⟩:=RC.source j E b;exact Hq Q O hi R u hx (by rw[F];exact Src.slice O g G) (fun _=>g) J (fun _=>L) hs j he
  ·unfold mA at hs;split at hs
   ·split at hs
    ·exact absurd (by simp) b
    ·split at hs
     ·rw[if_neg (fun h=>b h.2.2.2.2.1)]at hs;cases hs
     ·cases hs
   ·split at hs
    ·rw[if_neg (fun h=>b h.2.2.2.1)]at hs;cases hs
    ·cases hs
   ·rw[if_neg (fun h=>b h.2.2.1)]at hs;cases hs
   ·cases hs
 ·cases hs
def xM{o:Oper}{t e:Nat}{x y:Operand}{x' y':ah}{i:TypeInfo}{z:Value}{olds news:List (List C)}(ho:o.op= .call {callee:=.builtin .append,args:=#[x,y],argTypes:=#[t,t]})(hu:P.underlying t=some (.slice e))(hi:P.info? e=some i)(hz:i.zero=some z)
  (U:z.cells.size=i.size) (hx:bK x=some x') (hy:bK y=some y') (X:x'.ev ρ= .ae olds) (Y:(y'.ev ρ).rows=some news) (Z:news≠[]) (E:∀r∈olds,r.length=i.size) (L:∀r∈news,r.length=i.size)
  (hby:(olds.length+news.length)*i.bytes<=140737488355328) (hmx:olds.length+news.length<=140737488355328) (g:aB w0 κ σ w) (he:cj κ ρ a):br w0 κ (σ++[.vec e i.size (olds++news).flatten]) (.vec σ.length (olds.length+news.length)) ((execOp a.eval o).run P w):=by
 have F:=bN he hx;have hyr:=bN he hy;have hyc:=hyr.lF Y;obtain⟨A,c,ns,hyv,p,hna,hn1,hnr⟩:=RC.source g hyc L;have hmp:0<news.length:=iX.2 Z;rw[X]at F;generalize hxv:a.eval x=u at F;cases F with
 |ae r1=>
  rename_i A0;have M:∃xs:List Value,xs.length=olds.length*i.size/\(∀k (hk:k<olds.length) j (hj:j<olds[k].length),RC κ.m olds[k][j] (xs.getD (k*i.size+j) undef))/\
    (olds.length≠0->∃b o,A0=some ⟨b,o,none⟩/\∀k,k<xs.length->w.cell? ⟨b,o+k,none⟩=xs[k]?):=by
   obtain⟨s1,A1,cap1,xs1,G,k0,_,_,k3,k4,k5⟩:=r1.kT;by_cases h0:olds=[]
   ·subst h0;exact⟨[],by simp,fun k hk=>by simp at hk,fun h=>absurd rfl h⟩
   ·have D:0<olds.length:=iX.2 h0;have hs1:s1=i.size:=by rw[<-k0 _ (bg D),E _ (bg D)]
    subst hs1;obtain⟨bb,oo,hA1,k4⟩:=k4 h0;injection G with G _ _;refine⟨xs1,k3,k5,fun _=>⟨bb,oo,by rw[G,hA1],fun k hk=>?_⟩⟩;have q:=k4 k hk;rw[aN hk]at q⊢;exact g.mem _ _ _ q
  obtain⟨xo,N,O,Q⟩:=M;obtain⟨v',w',hr,J,hvb,c2⟩:=BL (P:=P) (w0:=w0) (w:=w) (t:=t) (t2:=t) (ty:=o.type) (n:=olds.length) (m:=news.length) (A0:=A0) (xs:=xo) (news:=ns) hu hi hz U N Q p (Src.slice (P:=P) (w:=w) hu p hna) hmp hby hmx g.ext.size;have R:∀q∈olds++news,q.length=i.size:=fun q T=>by
   rcases cJ.1 T with T|T
   ·exact E q T
   ·exact L q T
  obtain⟨κ',q1,q2,q3⟩:=(g.grow c2).Hp (cs:=[]++(olds++news).flatten) (by omega) J hvb (fun o=>g.fresh (aA _) o) (fun x hx hl=>by have:=(g.iG hx hl).2;omega)
   (Ho (xs:=[]) rfl R (fun j hj=>by simp at hj) (BK N E O hnr)) (by rw[dK,uo _ R,bC])
  exact⟨κ',v',w',.inl (qj ho hxv hyv hr),q1,q2,q3⟩
def RB{o:Oper}{t t2 e:Nat}{x y:Operand}{G J:ah}{i:TypeInfo}{z:Value}{v:V}(M:o.op= .call {callee:=.builtin .append,args:=#[x,y],argTypes:=#[t,t2]})(p:P.underlying t=some (.slice e))(r:P.underlying t2=some .string)(hi:P.info? e=some i)(N:i.zero=some z)
  (A:z.cells.size=i.size) (h1:i.size=1) (hx:bK x=some G) (hy:bK y=some J) (hs:step ρ σ (.mz e i.bytes G J)=some (v,σ')) (g:aB w0 κ σ w) (he:cj κ ρ a):br w0 κ σ' v ((execOp a.eval o).run P w):=by
 have h:=bN he hy;simp only[step]at hs;split at hs
 ·rename_i l hl;rw[hl]at h;have D:=h.qf;have c:(nI l).length=l.length:=by simp[nI]
  refine Hq (news:=nI l) (ns:=l.map fun b=>Value.int .u8 b.toNat) M p hi N A hx (by rw[D,c,h1];exact Src.str r) (fun _=>by rw[c,h1];simp) (fun u p=>?_) (fun _ k hk j L=>?_) (by rw[h1];exact hs) g he
  ·obtain⟨b,_,rfl⟩:=List.mem_map.1 p;rfl
  ·have E:k<l.length:=by rw[c]at hk;exact hk
   have F:j=0:=by simp[nI]at L;exact L
   subst F;have O:(nI l)[k]=[.int .u8 l[k].toNat]:=by simp[nI]
   simp only[O,di,h1,Nat.mul_one,nC];rw[iF (by simpa using E),List.getElem_map];exact .int _ _
 ·cases hs
end
section
variable {P:Program} {w0 w w':World} {κ:K} {σ σ':H} {a:Act} {ρ:Env}
def aB.RD(h:aB w0 κ σ w):aB w0 (κ.more w.heap.size) (σ++[.mp []]) (w.alloc (.map #[] 0))/\RV (κ.more w.heap.size) (.mp σ.length) (.map (some w.heap.size)):=by
 have G:κ.le (κ.more w.heap.size):=K.uj;have D:=h.alloc (.map #[] 0);have u:∀b,b<σ.length->(κ.more w.heap.size).pos b=κ.pos b:=fun b E=>by show(if b=κ.n then _ else _)=_;rw[if_neg (by rw[h.n];omega)]
 have J:∀b,b<σ.length->(κ.more w.heap.size).fr b=κ.fr b:=fun b E=>by show(if b=κ.n then _ else _)=_;rw[if_neg (by rw[h.n];omega)]
 have c:(κ.more w.heap.size).pos σ.length=w.heap.size:=by show(if σ.length=κ.n then _ else _)=_;rw[if_pos h.n.symm]
 have A:(κ.more w.heap.size).fr σ.length=none:=by show(if σ.length=κ.n then _ else _)=_;rw[if_pos h.n.symm]
 have i:∀b (E:b<σ.length),(σ[b]).bo (κ.more w.heap.size) b=(σ[b]).bo κ b:=fun b E=>ad.kR (u b E) rfl;refine⟨⟨by show κ.n+1=_;rw[h.n];simp,D.ext,D.mem,fun b E=>?_,fun x y hx hy g L=>?_,fun l o F=>⟨(D.rest l o F).1,(D.rest l o F).2.1,uk i (h.rest l o F).2.2 (by simp only[ad.bo,c];intro e;injection e with e;have:=(eu.1 (h.rest l o F).1).1;omega)⟩,D.dG⟩,?_⟩
 ·rcases eh b σ.length with t|t
  ·rw[cM t];exact ad.is_le (κ:=κ) rfl G (u b t) (J b t) rfl rfl (D.cg b t)
  ·have M:b=σ.length:=by simp at E;omega
   subst M;rw[dY (aA _)];simp only[cw,di];exact⟨A,⟨#[],0,by rw[c];exact ma w _,rfl,fun j P=>by simp at P⟩,by rw[c];exact h.ext.size,fun o=>by rw[c];exact h.fresh (aA _) o⟩
 ·rcases eh x σ.length with p|p<;>rcases eh y σ.length with r|r
  ·rw[cM p,cM r,i x p,i y r];exact h.apart x y p r g L
  ·have N:y=σ.length:=by simp at hy;omega
   subst N;rw[cM p,i x p,dY (aA _)];simp only[cw,di,ad.bo,c];intro h1 h2;have:=(h.iG p h1).2;injection h2;omega
  ·have O:x=σ.length:=by simp at hx;omega
   subst O;rw[cM r,i y r,dY (aA _)];simp only[cw,di,ad.bo,c];intro h1 h2;have:=(h.iG r h2).2;injection h1;omega
  ·simp at hx hy;omega
 ·have:=RV.mp (κ:=κ.more w.heap.size) (b:=σ.length) (by show _<κ.n+1;rw[h.n];omega) A;rwa [c]at this
def RE{o:Oper}{t:TypeId}(c:o.op= .makeMap t none)(b:aB w0 κ σ w):br w0 κ (σ++[.mp []]) (.mp σ.length) ((execOp a.eval o).run P w):=by
 obtain⟨h1,h2⟩:=b.RD;refine⟨_,_,_,.inl ?_,K.uj,h1,h2⟩;simp[execOp,c,Instr.makeMap,me]
def RF{z:Value}{c:C}(h:gm z=some (.c c)):z.cells=#[z]:=by
 unfold gm at h;split at h<;>first|(cases h;done)|rfl|(split at h<;>first|rfl|cases h)
def RG{o:Oper}{t e:TypeId}{l:Nat}{i:TypeInfo}{z:Value}{D:C}(M:o.op= .makeSlice t (.tmp l) (.tmp l))(N:P.underlying t=some (.slice e))(hi:P.info? e=some i)(O:i.zero=some z)(p:gm z=some (.c D))(r:i.size=1)
  {v:V} (hs:step ρ σ (.kP e i.bytes D (.t l))=some (v,σ')) (b:aB w0 κ σ w) (he:cj κ ρ a):br w0 κ σ' v ((execOp a.eval o).run P w):=by
 simp only[step]at hs;split at hs
 ·rename_i k n hx;split at hs
  ·rename_i hn;obtain⟨h0,hb,hm⟩:=hn;injection hs with hs;injection hs with Q R;subst Q R;have E:=he l;have hx:ρ l= .c (.int k n):=hx;rw[hx]at E;have F:a.eval (.tmp l)= .int k n:=by
    have T:a.eval (.tmp l)=a.tmps.getD l undef:=rfl;rw[T];generalize a.tmps.getD l undef=u at E;cases E with
    |c hc=>cases hc;rfl
   have A:=run_make (P:=P) w t e i z N hi O k k n n h0 (Int.le_refl _) (by omega) (by omega);have U:=b.alloc (.cells (madeCells z.cells (n.toNat*i.size)) e);have G:=RF p;have J:RC κ.m D z:=by
    have:=Bw (κ:=κ) p;cases this with
    |c h=>exact h
   obtain⟨X,Y⟩:=U.G2 (g:=w.heap.size) (e:=e) (size:=1) (n:=n.toNat) (cap:=n.toNat) (cs:=List.replicate n.toNat D) (cur:=madeCells z.cells (n.toNat*i.size)) b.ext.size (fun o=>b.fresh (aA _) o) (fun x hx hl=>by have:=(b.iG hx hl).2;omega) (ma w _) (by simp) (aA _) (by unfold maxLen;omega) (by rw[size_madeCells,r]) (fun j Z=>by
    have L:j<n.toNat:=by simpa using Z
    rw[r,G];simp only[List.getElem_replicate];have:(madeCells #[z] (n.toNat*1)).getD j undef=z:=by
     simp[madeCells,iV,L,Nat.mod_one]
    rw[this];exact J)
   refine⟨_,_,_,.inl ?_,K.BA,X,Y _ (aA _)⟩;simp[execOp,M,F,A,me]
  ·cases hs
 ·cases hs
def xN{d:TypeDesc}{q:KD}(h:nH d=some q){x:C}{v:Value}{m:Mem}(hx:RC m x v)(b:q.ok x=true):MapKept.IsKey d v:=by
 cases d<;>simp only[nH]at h<;>first|(cases h;done)|skip
 all_goals injection h with h;subst h
 all_goals cases hx<;>simp_all [KD.ok,MapKept.IsKey]
def RH{d:TypeDesc}{q:KD}(h:nH d=some q){x y:C}{u v:Value}{m:Mem}(hx:RC m x u)(hy:RC m y v)(b:q.ok x=true)(c:q.ok y=true):Instr.sameNow d u v=some (jE x y):=by
 cases d<;>simp only[nH]at h<;>first|(cases h;done)|skip
 all_goals injection h with h;subst h
 all_goals cases hx<;>first|(simp[KD.ok]at b;done)|skip
 all_goals cases hy<;>first|(simp[KD.ok]at c;done)|skip
 all_goals simp_all [KD.ok,Instr.sameNow,jE,Hd]
def RI{q:KD}{x y:C}(b:q.ok x=true)(c:q.ok y=true)(h:jE x y=true):x=y:=by
 cases q<;>cases x<;>simp[KD.ok]at b<;>cases y<;>simp[KD.ok]at c<;>simp_all [jE]
def kf(m:Mem)(b:List (C×C))(c:List MapEntry):Prop:=c.length=b.length/\∀j (g:j<b.length) (e:j<c.length),RC m b[j].1 (c[j]).key/\RC m b[j].2 (c[j]).val
def kf.cons_inv{m:Mem}{p:C×C}{b:List (C×C)}{c:List MapEntry}(h:kf m (p::b) c):∃e r,c=e::r/\RC m p.1 e.key/\RC m p.2 e.val/\kf m b r:=by
 cases c with
 |nil=>have:=h.1;simp at this
 |cons e r=>
  have h0:=h.2 0 (by simp) (by simp);exact⟨e,r,rfl,h0.1,h0.2,by have:=h.1;simpa using this,fun j i g=>h.2 (j+1) (by simpa using i) (by simpa using g)⟩
def BN{m:Mem}{d:TypeDesc}{q:KD}(hd:nH d=some q){k:C}{t:Value}(hk:RC m k t)(w:q.ok k=true):∀{b:List (C×C)} {g:List MapEntry} (i:Nat),kf m b g->(b.all fun p=>q.ok p.1)=true->
  (ja k b=none/\xk d t g i=some none/\∀v,jb k v b=b++[(k,v)])\/
  ∃j x e,ja k b=some x/\xk d t g i=some (some (i+j,e.val))/\g[j]?=some e/\RC m x e.val/\e.key=t/\∀v,jb k v b=b.set j (k,v)
 |[],g,i,h,_=>by
  have:g=[]:=fM h.1;subst this;exact .inl ⟨rfl,rfl,fun v=>rfl⟩
 |p::b,g,i,h,ha=>by
  obtain⟨e,r,rfl,h1,h2,D⟩:=h.cons_inv;rw[mg,Bool.and_eq_true]at ha;obtain⟨E,F⟩:=p;simp only at h1 h2 ha;have hs:=RH hd hk h1 w ha.1;cases he:jE k E with
  |true=>
   right;have G:=RI w ha.1 he;refine⟨0,F,e,by rw[ja,he];rfl,by rw[xk,hs,he];rfl,rfl,h2,?_,fun v=>by rw[jb,he];rfl⟩;obtain⟨O,c,u⟩:=MapKept.sameNow_of_keys (xN hd hk w) (xN hd h1 ha.1);rw[hs,he]at c;injection c with c;exact(u.1 c.symm).symm
  |false=>
   rcases BN hd hk w (i+1) D ha.2 with⟨c,u,A⟩|⟨j,x,J,c,u,A,L,M,N⟩
   ·left;refine⟨by rw[ja,he];exact c,by rw[xk,hs,he];exact u,fun v=>by rw[jb,he];show _::jb k v b=_;rw[A];rfl⟩
   ·right;refine⟨j+1,x,J,by rw[ja,he];exact c,?_,A,L,M,fun v=>by rw[jb,he];show _::jb k v b=_;rw[N];rfl⟩;rw[xk,hs,he];show xk d t r (i+1)=_;rw[u,jV,Nat.add_comm 1 j]
def RJ{t:TypeId}{q:KD}{z:C}(h:xD P t=some (q,z)):∃b e d,P.underlying t=some (.map b e)/\P.underlying b=some d/\nH d=some q/\mB P e=some (.c z):=by
 unfold xD at h;split at h
 ·rename_i b e g;split at h
  ·rename_i d p hk i;split at h
   ·rename_i r j;injection h with h;injection h with h1 h2;subst h1 h2;exact⟨b,e,d,g,hk,j,i⟩
   ·cases h
  ·cases h
 ·cases h
def RL{t:TypeId}{q:KD}(h:xE P t=some q):∃b c d,P.underlying t=some (.map b c)/\P.underlying b=some d/\nH d=some q:=by
 unfold xE at h;split at h
 ·rename_i b c e;split at h
  ·rename_i d hk;exact⟨b,c,d,e,hk,h⟩
  ·cases h
 ·cases h
def RM{t:TypeId}{x:V}(h:mB P t=some x):∃z,(zeroValue t).run P w= .ok z w/\RV κ x z:=by
 unfold mB at h;split at h
 ·rename_i i hi;split at h
  ·rename_i z b;refine⟨z,?_,xF h⟩;simp[zeroValue,typeInfo,hi,b,me]
  ·cases h
 ·cases h
def RV.Hr{b:Nat}{v:Value}(r:RV κ (.mp b) v):v= .map (some (κ.pos b)):=by cases r;rfl
def RV.Hs{x:C}{v:Value}(r:RV κ (.c x) v):RC κ.m x v:=by cases r;assumption
def RN{o:Oper}{t:TypeId}{x k:Operand}{ok:Bool}{q:KD}{z:C}{L k':ah}{v:V}(M:o.op= .lookup t x k ok)(X:xD P t=some (q,z))(hx:bK x=some L)(hk:bK k=some k')(hs:step ρ σ (.look ok q z L k')=some (v,σ'))(g:aB w0 κ σ w)(he:cj κ ρ a):br w0 κ σ' v ((execOp a.eval o).run P w):=by
 obtain⟨kt,et,d,N,i,O,Y⟩:=RJ X;simp only[step]at hs;split at hs
 ·rename_i b kc Z e2;split at hs
  ·rename_i kvs hb;split at hs
   ·rename_i hc;injection hs with hs;injection hs with q1 q2;subst q1 q2;have Q:=bN he hx;have R:=bN he hk;rw[Z]at Q;rw[e2]at R;have u:=Q.Hr;have A:=R.Hs;obtain⟨E,F⟩:=aI.1 hb;have p:=g.cg b E;rw[F]at p;obtain⟨es,G,T,k2,k3⟩:=p.row;have r:=xN O A hc.1;rcases BN O A hc.1 0 ⟨k2,k3⟩ hc.2 with⟨f1,f2,_⟩|⟨j,y,e,f1,f2,_,f4,_⟩
    ·obtain⟨D,z1,U⟩:=RM (w:=w) (κ:=κ) Y;have h:(GH t (a.eval x) (a.eval k) ok).run P w= .ok (if ok then .tuple #[D,.bool false]else D) w:=by
      rw[u];cases ok<;>simp[GH,cA N,A8 T,GI i r,GJ i f2,z1,me]
     refine br.still (v':=if ok then .tuple #[D,.bool false]else D) (by simp[execOp,M,h,me]) g ?_;rw[f1];unfold o5;cases ok
     ·exact U
     ·refine .au (xs:=[D,.bool false]) rfl fun j J=>?_
      match j,J with
      |0,_=>exact U
      |1,_=>exact .c (.bool _)
    ·have h:(GH t (a.eval x) (a.eval k) ok).run P w= .ok (if ok then .tuple #[e.val,.bool true]else e.val) w:=by
      rw[u];cases ok<;>simp[GH,cA N,A8 T,GI i r,GJ i f2,me]
     refine br.still (v':=if ok then .tuple #[e.val,.bool true]else e.val) (by simp[execOp,M,h,me]) g ?_;rw[f1];unfold o5;cases ok
     ·exact .c f4
     ·refine .au (xs:=[e.val,.bool true]) rfl fun j J=>?_
      match j,J with
      |0,_=>exact .c f4
      |1,_=>exact .c (.bool _)
   ·cases hs
  ·cases hs
 ·cases hs
def aB.Ht(h:aB w0 κ σ w){b:Nat}{Q r:List (C×C)}{U u:Array MapEntry}{E p:Nat}(X:σ[b]?=some (.mp Q))(N:w.heap[κ.pos b]?=some (.map U E))(D:kf κ.m r u.toList):
  aB w0 κ (σ.set b (.mp r)) {w with heap:=w.heap.setIfInBounds (κ.pos b) (.map u p)}:=by
 obtain⟨F,A⟩:=aI.1 X;have i:=h.cg b F;rw[A]at i;obtain⟨G,c⟩:=MapKept.heap_set (w:=w) (o':=.map u p) N;refine⟨by simpa using h.n,?_,fun x o v R=>?_,fun x hx=>?_,fun x y hx hy g J=>?_,fun l o Y=>?_,by simpa using h.dG⟩
 rotate_right
 ·obtain⟨Z,a2,a3⟩:=h.rest l o Y;have L:=a3 b F;rw[A]at L;exact⟨(c l (fun e=>L (by rw[e];rfl))).trans Z,a2,um (fun _ _ _=>rfl) a3 L⟩
 ·exact h.ext.trans ⟨rfl,rfl,rfl,by simp,fun k hk=>c k (by have:=i.own;omega)⟩
 ·have J:x≠κ.pos b:=fun e=>by rw[e,i.free]at R;cases R
  rw[A6 (w:=w) (a:=⟨x,o,none⟩) (c x J)];exact h.mem x o v R
 ·by_cases M:x=b
  ·subst M;rw[gU];exact⟨i.fr,⟨u,p,G,D.1,D.2⟩,i.own,i.free⟩
  ·have t:x<σ.length:=by simpa using hx
   rw[gb (dz M)];refine ad.se (h.cg x t) fun g hg=>c g fun e=>?_;subst e;exact h.apart x b t F _ M hg (by rw[A];rfl)
 ·have t:x<σ.length:=by simpa using hx
  have O:y<σ.length:=by simpa using hy
  have j:∀z (hz:z<σ.length) (T:z<(σ.set b (.mp r)).length),((σ.set b (.mp r))[z]).bo κ z=(σ[z]).bo κ z:=fun z hz T=>by
   by_cases P:z=b
   ·subst P;rw[gU,A];rfl
   ·rw[gb (dz P)]
  rw[j x t,j y O];exact h.apart x y t O g J
def kf.snoc{m:Mem}{b:List (C×C)}{g:List MapEntry}{k v:C}{e:MapEntry}(h:kf m b g)(h1:RC m k e.key)(h2:RC m v e.val):kf m (b++[(k,v)]) (g++[e]):=by
 refine⟨by simp[h.1],fun j p r=>?_⟩;rcases eh j b.length with hl|hl
 ·have c:j<g.length:=by rw[h.1];exact hl
  rw[cM hl,cM c];exact h.2 j hl c
 ·have i:j=b.length:=by simp at p;omega
  subst i;have t:(b++[(k,v)])[b.length]=(k,v):=by simp
  have u:(g++[e])[b.length]=e:=by
   rw[dY (by rw[h.1];exact aA _)];simp[h.1]
  rw[t,u];exact⟨h1,h2⟩
def kf.put{m:Mem}{b:List (C×C)}{c:List MapEntry}{k v:C}{f:MapEntry->MapEntry}{i:Nat}(h:kf m b c)(hf:∀e,RC m k (f e).key/\RC m v (f e).val):kf m (b.set i (k,v)) (c.modify i f):=by
 refine⟨by simp[h.1],fun j u w=>?_⟩;have p:j<b.length:=by simpa using u
 have r:j<c.length:=by rw[h.1];exact p
 by_cases g:i=j
 ·subst g;have t:(c.modify i f)[i]=f c[i]:=by rw[List.getElem_modify];simp
  rw[gU,t];exact hf _
 ·have t:(c.modify i f)[j]=c[j]:=by rw[List.getElem_modify,if_neg g]
  rw[gb g,t];exact h.2 j p r
def RO{o:Oper}{t:TypeId}{x k y:Operand}{q:KD}{O k' Q:ah}{v:V}(R:o.op= .mapUpdate t x k y)(hm:xE P t=some q)(hx:bK x=some O)(hk:bK k=some k')(hy:bK y=some Q)(hs:step ρ σ (.kQ q O k' Q)=some (v,σ'))(g:aB w0 κ σ w)(he:cj κ ρ a):br w0 κ σ' v ((execOp a.eval o).run P w):=by
 obtain⟨kt,et,d,T,p,U⟩:=RL hm;simp only[step]at hs;split at hs
 ·rename_i b kc vc e1 e2 e3;split at hs
  ·rename_i kvs F;split at hs
   ·rename_i hc;injection hs with hs;injection hs with q1 q2;subst q1 q2;have X:=bN he hx;have Y:=bN he hk;have Z:=(bN he hy).gE e3;rw[e1]at X;rw[e2]at Y;have E:=X.Hr;have r:=Y.Hs;obtain⟨G,J⟩:=aI.1 F;have u:=g.cg b G;rw[J]at u;obtain⟨A,c,D,L,k3⟩:=u.row;have h:=xN U r hc.1;rcases BN U r hc.1 0 ⟨L,k3⟩ hc.2 with⟨f1,f2,f3⟩|⟨j,z,e,f1,f2,M,f4,f5,f6⟩
    ·have i:(GK t (a.eval x) (a.eval k) (a.eval y)).run P w= .ok () {w with heap:=w.heap.setIfInBounds (κ.pos b) (.map (A.push {key:=a.eval k,val:=a.eval y,born:=c}) (c+1))}:=by
      rw[E];simp[GK,cA T,A8 D,GI p h,GJ p f2,aed _ D,me]
     rw[f3];exact⟨κ,undef,{w with heap:=w.heap.setIfInBounds (κ.pos b) (.map (A.push {key:=a.eval k,val:=a.eval y,born:=c}) (c+1))},.inr ⟨by simp[execOp,R,i,me],rfl⟩,K.le_refl κ,g.Ht F D (by rw[Array.toList_push];exact kf.snoc (e:={key:=a.eval k,val:=a.eval y,born:=c}) ⟨L,k3⟩ r Z),.void⟩
    ·have N:(Instr.keyThatStays (((A[j]?).map (·.key)).getD (a.eval k)) (a.eval k)).run P w= .ok (a.eval k) w:=by
      have:A[j]?=some e:=by rw[<-Array.getElem?_toList];exact M
      rw[this];simp only[Option.map_some,Option.getD_some,f5];exact MapKept.run_keyThatStays h
     have i:(GK t (a.eval x) (a.eval k) (a.eval y)).run P w= .ok () {w with heap:=w.heap.setIfInBounds (κ.pos b) (.map (A.modify j fun e=>{e with key:=a.eval k,val:=a.eval y}) c)}:=by
      rw[E];rw[eJ]at f2;simp[GK,cA T,A8 D,GI p h,GJ p f2,N,aed _ D,me]
     rw[f6];exact⟨κ,undef,{w with heap:=w.heap.setIfInBounds (κ.pos b) (.map (A.modify j fun e=>{e with key:=a.eval k,val:=a.eval y}) c)},.inr ⟨by simp[execOp,R,i,me],rfl⟩,K.le_refl κ,g.Ht F D (by rw[Array.toList_modify];exact kf.put (f:=fun e=>{e with key:=a.eval k,val:=a.eval y}) ⟨L,k3⟩ fun e=>⟨r,Z⟩),.void⟩
   ·cases hs
  ·cases hs
 ·cases hs
end
section
variable {P:Program} {w0 w w':World} {κ:K} {σ σ':H} {a:Act} {ρ:Env}
def Hu{α:Type}{l:Array α}{x:α}(h:l.toList=[x]):l=#[x]:=by apply oR;simpa using h
def sh{α:Type}{l:Array α}{x y:α}(h:l.toList=[x,y]):l=#[x,y]:=by apply oR;simpa using h
def RP{o:Oper}{b:Builtin}{args:Array Operand}{j:Array TypeId}{ins:bB}{v:V}(h:o.op= .call {callee:=.builtin b,args,argTypes:=j})(c:mC P b args.toList j.toList=some ins)
  (hs:step ρ σ ins=some (v,σ')) (g:aB w0 κ σ w) (he:cj κ ρ a):br w0 κ σ' v ((execOp a.eval o).run P w):=by
 unfold mC at c;split at c
 ·rename_i x t h1 h2;rw[Hu h1,Hu h2]at h;exact Rk h (by unfold mC;exact c) hs g he
 ·rename_i x y t N h1 h2;split at c
  ·rename_i M;subst M;rw[sh h1,sh h2]at h;split at c
   ·rename_i e r;split at c
    ·rename_i i hi;split at c
     ·rename_i z u;split at c
      ·rename_i hc;obtain⟨A,D,hx,hy,rfl⟩:=jf c;exact RA h r hi u hc.1 hx hy hs g he
      ·cases c
     ·cases c
    ·cases c
   ·cases c
  ·rw[sh h1,sh h2]at h;split at c
   ·rename_i e r E;split at c
    ·rename_i i hi;split at c
     ·rename_i z u;split at c
      ·rename_i hc;obtain⟨A,D,hx,hy,rfl⟩:=jf c;exact RB h r E hi u hc.1 hc.2 hx hy hs g he
      ·cases c
     ·cases c
    ·cases c
   ·cases c
 ·rename_i x y h1;rw[sh h1]at h;obtain⟨A,D,hx,hy,rfl⟩:=jf c;simp only[step]at hs;split at hs
  ·rename_i k p k' q F G;injection hs with hs;injection hs with J L;subst J L;exact Ri h hx hy F G g he
  ·cases hs
 ·rename_i x y h1;rw[sh h1]at h;obtain⟨A,D,hx,hy,rfl⟩:=jf c;simp only[step]at hs;split at hs
  ·rename_i k p k' q F G;injection hs with hs;injection hs with J L;subst J L;exact Rj h hx hy F G g he
  ·cases hs
 ·cases c
def ur{o:Oper}{ins:bB}{v:V}(g:bp P o.op=some ins)(hs:step ρ σ ins=some (v,σ'))(j:aB w0 κ σ w)(he:cj κ ρ a):br w0 κ σ' v ((execOp a.eval o).run P w):=by
 cases u:o.op with
 |move x=>
  rw[u]at g;obtain⟨y,hy,rfl⟩:=eN g;simp only[step]at hs;injection hs with hs;injection hs with D E;subst D E;exact G3 (.inl u) hy j he
 |assign x=>
  rw[u]at g;obtain⟨y,hy,rfl⟩:=eN g;simp only[step]at hs;injection hs with hs;injection hs with D E;subst D E;exact G3 (.inr u) hy j he
 |pick c x y=>
  rw[u]at g;simp only[bp]at g;split at g
  ·rename_i c' F L hc hx hy;injection g with g;subst g;simp only[step]at hs;split at hs
   ·rename_i t ht;injection hs with hs;injection hs with D E;subst D E;exact Q0 u hc hx hy ht j he
   ·cases hs
  ·cases g
 |alloc t=>
  rw[u]at g;simp only[bp]at g;split at g
  ·rename_i z M;injection g with g;subst g;have G:(if leaves z.af=true then some (V.ptr σ.length 0,σ++[ad.cells z.af (qd P t)])else none)=some (v,σ'):=hs;by_cases hl:leaves z.af=true
   ·rw[if_pos hl]at G;injection G with G;injection G with D E;subst D E;exact Q1 u M hl j
   ·rw[if_neg hl]at G;cases G
  ·cases g
 |box t x=>
  rw[u]at g;obtain⟨y,hy,rfl⟩:=eN g;simp only[step]at hs;split at hs
  ·rename_i hl;injection hs with hs;injection hs with D E;subst D E;exact Q2 u hy hl j he
  ·cases hs
 |build t parts=>
  rw[u]at g;simp only[bp]at g;split at g
  ·rename_i fields z A M;split at g
   ·rename_i pl Q;split at g
    ·rename_i ps N;split at g
     ·rename_i hl;injection g with g;subst g;simp only[step]at hs;split at hs
      ·rename_i cs hf;injection hs with hs;injection hs with D E;subst D E;exact Ru u A M hl Q N hf j he
      ·cases hs
     ·cases g
    ·cases g
   ·cases g
  ·cases g
 |buildSlice t n parts=>
  rw[u]at g;simp only[bp]at g;split at g
  ·rename_i e A;split at g
   ·rename_i i hi;split at g
    ·rename_i z ps M N;split at g
     ·rename_i hc;injection g with g;subst g;simp only[step]at hs;split at hs
      ·rename_i rows hr;injection hs with hs;injection hs with D E;subst D E;exact Rx u A hi M N hc.2.1 hc.2.2.1 hc.2.2.2 hr j he
      ·cases hs
     ·cases g
    ·cases g
   ·cases g
  ·cases g
 |load t x=>rw[u]at g;exact Q3 u g hs j he
 |store t x y=>rw[u]at g;exact Q4 u g hs j he
 |nilCheck x=>rw[u]at g;exact Q5 u g hs j he
 |binOp op t x y t'=>
  rw[u]at g;simp only[bp]at g;split at g
  ·split at g
   ·obtain⟨F,L,hx,hy,rfl⟩:=jf g;exact Hb u hx hy hs j he
   ·cases g
  ·split at g
   ·obtain⟨F,L,hx,hy,rfl⟩:=jf g;exact Hb u hx hy hs j he
   ·cases g
  ·rename_i A;split at g
   ·obtain⟨F,L,hx,hy,rfl⟩:=jf g;exact Hc u A rfl hx hy hs j he
   ·obtain⟨F,L,hx,hy,rfl⟩:=jf g;exact Hc u A rfl hx hy hs j he
   ·cases g
  ·rename_i e A;split at g
   ·obtain⟨neg,F,J,hx,rfl⟩:=BG g;exact BH u hs j he J hx rfl (.inl ⟨rfl,rfl,e,A⟩)
   ·cases g
  ·rename_i ms A;split at g
   ·obtain⟨neg,F,J,hx,rfl⟩:=BG g;exact BH u hs j he J hx rfl (.inr (.inl ⟨rfl,rfl,ms,A⟩))
   ·cases g
  ·rename_i p q r A;split at g
   ·obtain⟨neg,F,J,hx,rfl⟩:=BG g;exact BH u hs j he J hx rfl (.inr (.inr ⟨rfl,rfl,p,q,r,A⟩))
   ·cases g
  ·split at g
   ·unfold ui at g;split at g
    ·obtain⟨L,R,rfl⟩:=eN g;cases hs
    ·obtain⟨L,R,rfl⟩:=eN g;cases hs
    ·cases g
   ·cases g
  ·rename_i fields A;split at g
   ·rename_i ks O;split at g
    ·cases g
    ·rename_i hg;simp only[Bool.or_eq_true,not_or,Bool.not_eq_true]at hg;split at g
     ·obtain⟨F,L,hx,hy,rfl⟩:=jf g;exact Hf u A O hg.1 hg.2 rfl hx hy hs j he
     ·obtain⟨F,L,hx,hy,rfl⟩:=jf g;exact Hf u A O hg.1 hg.2 rfl hx hy hs j he
     ·cases g
   ·cases g
  ·cases g
 |unOp op t x=>rw[u]at g;exact Re u g hs j he
 |convert s t x=>rw[u]at g;exact Rg u g hs j he
 |makeFunc fn first caps=>
  rw[u]at g;unfold bp at g;split at g
  all_goals first|(rename_i h;cases h;done)|skip
  all_goals first|(cases g;done)|skip
  rename_i f T hh;injection hh with h1 h2 U;subst h1 h2 U;exact Rh u (by unfold bp;exact g) hs j he
 |slice t x lo hi mx=>
  rw[u]at g;simp only[bp]at g;split at g
  ·rename_i A;split at g
   ·rename_i F X Y hx h1 h2;injection g with g;subst g;exact Ro u A hx h1 h2 hs j he
   ·cases g
  ·rename_i e A;split at g
   ·rename_i i F X Y mx' Z hx h1 h2 U;split at g
    ·cases g
    ·rename_i hmh;injection g with g;subst g;exact Rq u A Z hx h1 h2 U hmh hs j he
   ·cases g
  ·cases g
 |fieldAddr s x f=>rw[u]at g;exact Q6 u g hs j he
 |field s x f=>rw[u]at g;exact Q8 u g hs j he
 |indexAddr t x k=>rw[u]at g;exact Rb u g hs j he
 |index t x k=>rw[u]at g;exact Rc u g hs j he
 |extract x k=>rw[u]at g;exact Q9 u g hs j he
 |makeMap t r=>
  rw[u]at g;cases r with
  |none=>
   have g:some bB.lB=some ins:=g;injection g with g;subst g;simp only[step]at hs;injection hs with hs;injection hs with D E;subst D E;exact RE u j
  |some r=>have g:none=some ins:=g;cases g
 |makeSlice t l c=>
  rw[u]at g;cases l with
  |tmp l=>
   cases c with
   |tmp c=>
    simp only[bp,ke]at g;split at g
    ·rename_i hlc;subst hlc;split at g
     ·rename_i e A;split at g
      ·rename_i i hi;split at g
       ·rename_i z M;split at g
        ·rename_i zc hzc;split at g
         ·rename_i hsz;injection g with g;subst g;exact RG u A hi M hzc hsz.1 hs j he
         ·cases g
        ·cases g
       ·cases g
      ·cases g
     ·cases g
    ·cases g
   |const _=>simp[bp,ke]at g
   |func _=>simp[bp,ke]at g
   |global _=>simp[bp,ke]at g
  |const _=>simp[bp,ke]at g
  |func _=>simp[bp,ke]at g
  |global _=>simp[bp,ke]at g
 |lookup t x k ok=>
  rw[u]at g;simp only[bp]at g;split at g
  ·rename_i q z hm;obtain⟨F,k',hx,hk,rfl⟩:=jf g;exact RN u hm hx hk hs j he
  ·cases g
 |mapUpdate t x k y=>
  rw[u]at g;simp only[bp]at g;split at g
  ·rename_i q F k' L hm hx hk hy;injection g with g;subst g;exact RO u hm hx hk hy hs j he
  ·cases g
 |call c=>
  rw[u]at g;simp only[bp]at g;obtain⟨callee,args,ats⟩:=c;cases callee with
  |builtin b=>exact RP u g hs j he
  |value f=>
   simp only at g;split at g
   ·injection g with g;subst g;simp only[step]at hs;cases hs
   ·cases g
  |invoke r m=>cases g
 |_=>rw[u]at g;cases g
end
structure ai where
 dst:Option Nat
 ins:bB
 guard:Option (Nat×Bool):=none
 deriving Inhabited
structure cE where
 op:ai
 bL:Bool
 lo:Nat
 deriving Inhabited
inductive AC where
 |skip
 |ax (ops:List ai)
 |ff (ops:List ai) (e:List cE)
 |seq (a b:AC)
 |cond (c:ah) (x y:AC)
 |block (id:Nat) (c:AC)
 |loop (c:AC)
 |exit (id:Nat)
 |ret
 |bad
 deriving Inhabited
def Env.put(ρ:Env)(d:Option Nat)(v:V):Env:=match d with
 |none=>ρ
 |some d=>fun k=>if k=d then v else ρ k
def bQ(ρ:Env):Option (Nat×Bool)->Option Bool
 |none=>some true
 |some (d,want)=>match ρ d with
  | .c (.bool b)=>some (b==want)
  | .void=>some false
  |_=>none
def ah.tmps:ah->List Nat
 | .t n=>[n]
 | .k _=>[]
def si:Option ah->List Nat
 |none=>[]
 |some x=>x.tmps
def bB.looks:bB->List Nat
 | .bad| .lB=>[]
 | .jd _ x| .qc x| .kP _ _ _ x| .jc x| .box x _| .my x| .ez _ x| .iD x| .lz _ _ x| .un _ x| .conv _ x| .rY x| .uf x| .o7 _ x| .j0 _ x| .ug _ _ x| .ext x _| .lens x| .eM x=>x.tmps
 | .pick c a b=>c.tmps++a.tmps++b.tmps
 | .kQ _ a b c=>a.tmps++b.tmps++c.tmps
 | .build _ g=>g.flatMap fun p=>p.2.2.tmps
 | .o6 _ g=>g.flatMap ah.tmps
 | .look _ _ _ x y| .store _ x y| .bin _ x y| .qb _ x y| .eqs _ _ x y| .dm _ x y| .index x y| .app _ _ _ x y| .mz _ _ x y| .mx x y| .mn x y=>x.tmps++y.tmps
 | .gZ _ cs=>cs.flatMap ah.tmps
 | .lA x lo hi=>x.tmps++si lo++si hi
 | .gk _ x lo hi q=>x.tmps++si lo++si hi++si q
 | .call f e=>f.tmps++e.flatMap ah.tmps
def ai.looks(o:ai):List Nat:=o.ins.looks++(match o.guard with|some (d,_)=>[d]|none=>[])
def jG(x y:ai):Bool:=
 (match x.dst with
  |some d=>!y.looks.contains d&&y.dst !=some d
  |none=>true)&&
 (match y.dst with
  |some d=>!x.looks.contains d
  |none=>true)
def xO(ops:Array Oper)(aops:Array ai)(b:Array Bool)(i:Nat):Bool:=
 (ga ops.size).all fun j=>(j==i)||b.getD j true||(match ops[j]? with
   |some o=>o.after.any fun e=>gd .any e&&e.on==i
   |none=>true)||(match aops[i]?,aops[j]? with
   |some x,some y=>jG x y
   |_,_=>false)
def lG(ops:Array Oper)(aops:Array ai):Nat->Nat->Array Bool->Bool
 |0,_,b=>(eV .any ops b).isEmpty
 |fuel+1,k,b=>(eV .any ops b).contains k&&xO ops aops b k&&lG ops aops fuel (k+1) (b.setIfInBounds k true)
def ai.bL(o:ai)(q:Bool):Bool:=match o.ins with
 | .store ..| .app ..| .mz ..| .box ..| .lB| .kP ..| .kQ ..=>true
 | .call ..=>q
 |_=>false
def qk(ops:Array Oper):Array Nat:=Region.before ops
def ib(an:Array Nat)(k j:Nat):Bool:=(an.getD k 0).testBit j
def uu(q:Bool)(an:Array Nat)(aops:Array ai):List Nat:=
 let n:=aops.size
 let bL:=(ga n).filter fun k=>((aops.getD k default).bL q)
 let step:=fun(b:List Nat) k=>b++((ga n).filter fun j=>(j==k||ib an k j)&&!b.contains j)
 let b:=bL.foldl step []
 b++(ga n).filter fun j=>!b.contains j
def ic(q:Bool)(an:Array Nat)(aops:Array ai)(k:Nat):Nat:=((ga aops.size).filter fun j=>((aops.getD j default).bL q)&&ib an k j).length
def BO(q:Bool)(ops:Array Oper)(an:Array Nat)(aops:Array ai)(b:Array Bool)(k:Nat):Bool:=
 (ga ops.size).all fun j=>(j==k)||b.getD j true||!((aops.getD j default).bL q)||ib an j k
def iI(q:Bool)(aops:Array ai)(b:Array Bool):Nat:=((ga aops.size).filter fun j=>((aops.getD j default).bL q)&&b.getD j false).length
def pb(q:Bool)(ops:Array Oper)(an:Array Nat)(aops:Array ai):List Nat->Array Bool->Bool
 |[],b=>(eV .any ops b).isEmpty
 |k::l,b=>(eV .any ops b).contains k&&xO ops aops b k&&BO q ops an aops b k&&pb q ops an aops l (b.setIfInBounds k true)
def mD(ops:Array Oper)(an:Array Nat):Bool:=
 (ga ops.size).all fun k=>match ops[k]? with
   |none=>true
   |some o=>(ga ops.size).all fun j=>!ib an k j||o.after.any fun e=>gd .any e&&(e.on==j||ib an e.on j)&&decide (e.on<k)
def pc(q:Bool)(ops:Array Oper)(aops:Array ai):List cE:=
 let an:=qk ops
 let b:=uu q an aops
 if mD ops an&&pb q ops an aops b (ft ops.size false)&&b.length==ops.size then b.map fun k=>⟨aops.getD k default,((aops.getD k default).bL q),ic q an aops k⟩else[]
def BP(ops:Array Oper)(aops:Array ai):List cE:=match pc true ops aops with
 |[]=>pc false ops aops
 |p=>p
def uv(n:Nat):Option Nat->Bool
 |none=>true
 |some d=>decide (d<n)
def xP(ops:Array Oper)(n:Nat):Option (Nat×Bool)->Option (Option (Nat×Bool))
 |none=>some none
 |some (j,want)=>match(ops[j]?).bind (·.dst)with
  |some d=>if d<n then some (some (d,want))else none
  |none=>none
def uw(P:Program)(n:Nat)(ops:Array Oper)(o:Oper):Option ai:=
 match xP ops n o.guard with
 |some g=>if uv n o.dst then some ⟨o.dst,(bp P o.op).getD .bad,g⟩else none
 |none=>none
def jH(P:Program)(n:Nat)(ops:Array Oper):List Oper->Option (List ai)
 |[]=>some []
 |o::l=>match uw P n ops o,jH P n ops l with
  |some x,some r=>some (x::r)
  |_,_=>none
def tr(P:Program)(n:Nat):Code->Option AC
 | .skip=>some .skip
 | .region _ ops e=>match jH P n ops ops.toList with
   |some l=>if e then(if lG ops l.toArray ops.size 0 (ft ops.size false)then some (.ff l (BP ops l.toArray))else some .bad)else some (.ax l)
   |none=>none
 | .seq a b=>match tr P n a,tr P n b with
   |some x,some y=>some (.seq x y)
   |_,_=>none
 | .cond c a b=>match bK c,tr P n a,tr P n b with
   |some z,some x,some y=>some (.cond z x y)
   |_,_,_=>none
 | .block id c=>match tr P n c with
   |some x=>some (.block id x)
   |none=>none
 | .loop c=>match tr P n c with
   |some x=>some (.loop x)
   |none=>none
 | .exit id=>some (.exit id)
 | .ret=>some .ret
 | .scope c=>tr P n c
 | .label _=>some .skip
 |_=>some .bad
structure St where
 ρ:Env
 σ:H
inductive It where
 |code (c:AC)
 |ops (l:List ai)
 |gn (id:Nat)
 |inv (I:St->Prop)
def jh(id:Nat):List It->Option (List It)
 |[]=>none
 | .gn j::k=>if j=id then some k else jh id k
 |_::k=>jh id k
def Enters(P:Program)(f:FuncId):Prop:=∀(args:Array Value) (w:World),(callFunc f args).run P w= .ok (.enter f args) w
structure DC (P:Program) (w0:World) (f:FuncId) (args:List V) (σ:H) (R:V->H->Prop):Prop where
 enters:Enters P f
 run:∀κ w (vs:List Value),aB w0 κ σ w->Fits κ args vs->Calls P f vs.toArray w (fun e w'=>∃v d σ' κ',e= .returned v/\R d σ'/\κ.le κ'/\aB w0 κ' σ' w'/\RV κ' d v)
def DC.mono{P:Program}{w0:World}{f:FuncId}{args:List V}{σ:H}{R c:V->H->Prop}(h:DC P w0 f args σ R)(e:∀d σ',R d σ'->c d σ'):DC P w0 f args σ c:=
 ⟨h.enters,fun κ w vs b hf=>(h.run κ w vs b hf).mono fun _ _ ⟨v,d,σ',κ',h1,h2,g⟩=>⟨v,d,σ',κ',h1,e _ _ h2,g⟩⟩
structure Rel (w0:World) (κ0:K) (n:Nat) (κ:K) (s:St) (a:Act) (w:World):Prop where
 dk:aB w0 κ s.σ w
 env:cj κ s.ρ a
 size:a.tmps.size=n
 defers:a.defers=[]
 le:κ0.le κ
def aV(n0:Nat)(t s:St):Prop:=∀w0 κ0 n κ a w,κ0.n=n0->Rel w0 κ0 n κ s a w->∃κ',Rel w0 κ0 n κ' t a w
def aV.refl(n0:Nat)(s:St):aV n0 s s:=fun _ _ _ κ _ _ _ h=>⟨κ,h⟩
def aV.trans{n0:Nat}{r t s:St}(h:aV n0 r t)(k:aV n0 t s):aV n0 r s:=fun w0 κ0 n κ a w e c=>
 let ⟨b,h1⟩:=k w0 κ0 n κ a w e c
 h w0 κ0 n b a w e h1
inductive dN (P:Program) (w0:World) (σ:H) (o:ai) (ρ:Env):V->Prop where
 |skip (hg:bQ ρ o.guard=some false):dN P w0 σ o ρ .void
 |step {v:V} (hg:bQ ρ o.guard=some true) (hs:step ρ σ o.ins=some (v,σ)):dN P w0 σ o ρ v
 |call {f:ah} {as1:List ah} {fid:FuncId} {caps:List V} {v:V} (hg:bQ ρ o.guard=some true) (hi:o.ins= .call f as1) (hf:f.ev ρ= .fn fid caps)
   (hc:DC P w0 fid (as1.map (·.ev ρ)++caps) σ (fun d σ'=>d=v/\σ'=σ)):dN P w0 σ o ρ v
inductive Canon (P:Program) (w0:World) (σ:H):List ai->Env->Env->Prop where
 |nil {ρ:Env}:Canon P w0 σ [] ρ ρ
 |cons {o:ai} {l:List ai} {ρ ρ':Env} {v:V} (h:dN P w0 σ o ρ v) (k:Canon P w0 σ l (ρ.put o.dst v) ρ'):Canon P w0 σ (o::l) ρ ρ'
inductive fh (P:Program) (w0:World) (σ:H) (o:ai) (ρ:Env):V->H->Prop where
 |skip (hg:bQ ρ o.guard=some false):fh P w0 σ o ρ .void σ
 |step {v:V} {σ':H} (hg:bQ ρ o.guard=some true) (hs:step ρ σ o.ins=some (v,σ')):fh P w0 σ o ρ v σ'
 |call {f:ah} {as1:List ah} {fid:FuncId} {caps:List V} {v:V} {σ':H} (hg:bQ ρ o.guard=some true) (hi:o.ins= .call f as1) (hf:f.ev ρ= .fn fid caps)
   (hc:DC P w0 fid (as1.map (·.ev ρ)++caps) σ (fun d τ=>d=v/\τ=σ')):fh P w0 σ o ρ v σ'
 |vec {e size bytes:Nat} {x y:ah} {olds news:List (List C)} (hg:bQ ρ o.guard=some true) (hi:o.ins= .app e size bytes x y) (hx:x.ev ρ= .ae olds) (hy:(y.ev ρ).rows=some news) (hc:news≠[]/\(∀r∈olds,r.length=size)/\(∀r∈news,r.length=size)/\(olds.length+news.length)*bytes<=140737488355328/\olds.length+news.length<=140737488355328):
   fh P w0 σ o ρ (.vec σ.length (olds.length+news.length)) (σ++[.vec e size (olds++news).flatten])
inductive ab (P:Program) (w0:World):List cE->Env->H->List H->Env->H->List H->Prop where
 |nil {ρ:Env} {σ:H} {past:List H}:ab P w0 [] ρ σ past ρ σ past
 |bL {o:ai} {lo:Nat} {l:List cE} {ρ ρ':Env} {σ σ1 σ':H} {past past':List H} {v:V} (h:fh P w0 σ o ρ v σ1) (k:ab P w0 l (ρ.put o.dst v) σ1 (σ::past) ρ' σ' past'):ab P w0 (⟨o,true,lo⟩::l) ρ σ past ρ' σ' past'
 |quiet {o:ai} {lo:Nat} {l:List cE} {ρ ρ':Env} {σ σ':H} {past past':List H} {v:V} (h:dN P w0 σ o ρ v) (hp:∀τ∈past.take (past.length-lo),dN P w0 τ o ρ v) (k:ab P w0 l (ρ.put o.dst v) σ past ρ' σ' past'):ab P w0 (⟨o,false,lo⟩::l) ρ σ past ρ' σ' past'
inductive dt (P:Program) (w0:World) (S S':H->Prop) (o:ai) (ρ:Env):V->Prop where
 |skip (hg:bQ ρ o.guard=some false) (hS:∀σ,S σ->S' σ):dt P w0 S S' o ρ .void
 |step {v:V} (hg:bQ ρ o.guard=some true) (hs:∀σ,S σ->∃σ',step ρ σ o.ins=some (v,σ')/\S' σ'):dt P w0 S S' o ρ v
 |call {f:ah} {as1:List ah} {fid:FuncId} {caps:List V} {v:V} (hg:bQ ρ o.guard=some true) (hi:o.ins= .call f as1) (hf:f.ev ρ= .fn fid caps)
   (hc:∀σ,S σ->DC P w0 fid (as1.map (·.ev ρ)++caps) σ (fun d σ'=>d=v/\S' σ')):dt P w0 S S' o ρ v
 |vec {e size bytes N:Nat} {x y:ah} {olds news:List (List C)} (hg:bQ ρ o.guard=some true) (hi:o.ins= .app e size bytes x y) (hx:x.ev ρ= .ae olds) (hy:(y.ev ρ).rows=some news) (hc:news≠[]/\(∀r∈olds,r.length=size)/\(∀r∈news,r.length=size)/\(olds.length+news.length)*bytes<=140737488355328/\olds.length+news.length<=140737488355328)
   (hs:∀σ,S σ->σ.length=N/\S' (σ++[.vec e size (olds++news).flatten])):dt P w0 S S' o ρ (.vec N (olds.length+news.length))
inductive nL (P:Program) (w0:World):List cE->Env->(H->Prop)->List (H->Prop)->Env->(H->Prop)->List (H->Prop)->Prop where
 |nil {ρ:Env} {S:H->Prop} {past:List (H->Prop)}:nL P w0 [] ρ S past ρ S past
 |bL {o:ai} {lo:Nat} {l:List cE} {ρ ρ':Env} {S S1 S':H->Prop} {past past':List (H->Prop)} {v:V} (h:dt P w0 S S1 o ρ v) (k:nL P w0 l (ρ.put o.dst v) S1 (S::past) ρ' S' past'):nL P w0 (⟨o,true,lo⟩::l) ρ S past ρ' S' past'
 |quiet {o:ai} {lo:Nat} {l:List cE} {ρ ρ':Env} {S S':H->Prop} {past past':List (H->Prop)} {v:V} (h:dt P w0 S S o ρ v) (hp:∀T∈past.take (past.length-lo),dt P w0 T T o ρ v) (k:nL P w0 l (ρ.put o.dst v) S past ρ' S' past'):nL P w0 (⟨o,false,lo⟩::l) ρ S past ρ' S' past'
def qm(l:List ai)(k:Nat):List Nat:=(ga k).filter fun j=>!(jG (l.getD j default) (l.getD k default))
def BQ(l:List ai)(L:Nat->Bool):Prop:=∀k,k<l.length->L k=true->∀j∈qm l k,L j=true
def fi(L:Nat->Bool)(k:Nat):Nat->Bool:=fun j=>j==k||L j
def YG(P:Program)(w0:World)(l0:List ai)(S:(Nat->Bool)->H->Prop)(k:Nat)(o:ai)(ρ:Env)(v:V):Prop:=
 ∀L,BQ l0 L->L k=false->(∀j∈qm l0 k,L j=true)->dt P w0 (S L) (S (fi L k)) o ρ v
inductive nM (P:Program) (w0:World) (l0:List ai) (S:(Nat->Bool)->H->Prop):Nat->List ai->Env->Env->Prop where
 |nil {k:Nat} {ρ:Env}:nM P w0 l0 S k [] ρ ρ
 |cons {k:Nat} {o:ai} {l:List ai} {ρ ρ':Env} {v:V} (h:YG P w0 l0 S k o ρ v) (hk:nM P w0 l0 S (k+1) l (ρ.put o.dst v) ρ'):nM P w0 l0 S k (o::l) ρ ρ'
inductive W (P:Program) (w0:World) (n0:Nat) (Q:St->Prop):List It->St->Prop where
 |done {s:St} (h:Q s):W P w0 n0 Q [] s
 |skip {k:List It} {s:St} (h:W P w0 n0 Q k s):W P w0 n0 Q (.code .skip::k) s
 |ax {l:List ai} {k:List It} {s:St} (h:W P w0 n0 Q (.ops l::k) s):W P w0 n0 Q (.code (.ax l)::k) s
 |ff {l:List ai} {e:List cE} {k:List It} {s:St} {ρ:Env} (hc:Canon P w0 s.σ l s.ρ ρ) (h:W P w0 n0 Q k ⟨ρ,s.σ⟩):W P w0 n0 Q (.code (.ff l e)::k) s
 |aD {l:List ai} {e:List cE} {k:List It} {s:St} {ρ:Env} {σ:H} {hs:List H} (he:e≠[]) (hc:ab P w0 e s.ρ s.σ [] ρ σ hs) (h:W P w0 n0 Q k ⟨ρ,σ⟩):W P w0 n0 Q (.code (.ff l e)::k) s
 |RQ {l:List ai} {e:List cE} {k:List It} {s:St} {ρ:Env} {S0 S:H->Prop} {hs:List (H->Prop)} (he:e≠[]) (h0:S0 s.σ) (hc:nL P w0 e s.ρ S0 [] ρ S hs) (h:∀σ,S σ->W P w0 n0 Q k ⟨ρ,σ⟩):W P w0 n0 Q (.code (.ff l e)::k) s
 |ux {l:List ai} {e:List cE} {k:List It} {s:St} {ρ:Env} (S:(Nat->Bool)->H->Prop) (h0:S (fun _=>false) s.σ) (hc:nM P w0 l S 0 l s.ρ ρ) (h:∀L,(∀j,j<l.length->L j=true)->∀σ,S L σ->W P w0 n0 Q k ⟨ρ,σ⟩):W P w0 n0 Q (.code (.ff l e)::k) s
 |seq {a b:AC} {k:List It} {s:St} (h:W P w0 n0 Q (.code a:: .code b::k) s):W P w0 n0 Q (.code (.seq a b)::k) s
 |cond {c:ah} {x y:AC} {k:List It} {s:St} {t:Bool} (hc:c.ev s.ρ= .c (.bool t)) (h1:t=true->W P w0 n0 Q (.code x::k) s) (h2:t=false->W P w0 n0 Q (.code y::k) s):W P w0 n0 Q (.code (.cond c x y)::k) s
 |block {id:Nat} {c:AC} {k:List It} {s:St} (h:W P w0 n0 Q (.code c:: .gn id::k) s):W P w0 n0 Q (.code (.block id c)::k) s
 |gn {id:Nat} {k:List It} {s:St} (h:W P w0 n0 Q k s):W P w0 n0 Q (.gn id::k) s
 |exit {id:Nat} {k k':List It} {s:St} (hp:jh id k=some k') (h:W P w0 n0 Q k' s):W P w0 n0 Q (.code (.exit id)::k) s
 |ret {k:List It} {s:St} (h:Q s):W P w0 n0 Q (.code .ret::k) s
 |loop {c:AC} {k:List It} {s:St} {α:Type} (S:α->St) (μ:α->Nat) (x0:α) (h0:aV n0 (S x0) s) (h:∀x,W P w0 n0 Q (.code c:: .inv (fun s'=>∃y,μ y<μ x/\aV n0 (S y) s')::k) (S x)):W P w0 n0 Q (.code (.loop c)::k) s
 |inv {I:St->Prop} {k:List It} {s:St} (h:I s):W P w0 n0 Q (.inv I::k) s
 |xQ {k:List It} {s:St} (h:W P w0 n0 Q k s):W P w0 n0 Q (.ops []::k) s
 |BR {o:ai} {l:List ai} {k:List It} {s:St} (hg:bQ s.ρ o.guard=some false) (h:W P w0 n0 Q (.ops l::k) ⟨s.ρ.put o.dst .void,s.σ⟩):W P w0 n0 Q (.ops (o::l)::k) s
 |kg {o:ai} {l:List ai} {k:List It} {s:St} {v:V} {σ':H} (hg:bQ s.ρ o.guard=some true) (hs:step s.ρ s.σ o.ins=some (v,σ')) (h:W P w0 n0 Q (.ops l::k) ⟨s.ρ.put o.dst v,σ'⟩):W P w0 n0 Q (.ops (o::l)::k) s
 |xR {o:ai} {l:List ai} {k:List It} {s:St} {f:ah} {as1:List ah} {fid:FuncId} {caps:List V} {R:V->H->Prop} (hg:bQ s.ρ o.guard=some true) (hi:o.ins= .call f as1) (hf:f.ev s.ρ= .fn fid caps)
   (hc:DC P w0 fid (as1.map (·.ev s.ρ)++caps) s.σ R) (h:∀d σ',R d σ'->W P w0 n0 Q (.ops l::k) ⟨s.ρ.put o.dst d,σ'⟩):W P w0 n0 Q (.ops (o::l)::k) s
 |lH {o:ai} {l:List ai} {k:List It} {s:St} {neg:Bool} {x:ah} {r:List (List C)} (hg:bQ s.ρ o.guard=some true) (hi:o.ins= .jd neg x) (hx:(x.ev s.ρ).rows=some r)
   (h:∀b:Bool,(b=true->r=[])->W P w0 n0 Q (.ops l::k) ⟨s.ρ.put o.dst (.c (.bool (if neg then !b else b))),s.σ⟩):W P w0 n0 Q (.ops (o::l)::k) s
 |nN {o:ai} {l:List ai} {k:List It} {s:St} {e size bytes:Nat} {x y:ah} {olds news:List (List C)} (hg:bQ s.ρ o.guard=some true) (hi:o.ins= .app e size bytes x y) (hx:x.ev s.ρ= .ae olds) (hy:(y.ev s.ρ).rows=some news) (hc:news≠[]/\(∀r∈olds,r.length=size)/\(∀r∈news,r.length=size)/\(olds.length+news.length)*bytes<=140737488355328/\olds.length+news.length<=140737488355328)
   (h:W P w0 n0 Q (.ops l::k) ⟨s.ρ.put o.dst (.vec s.σ.length (olds.length+news.length)),s.σ++[.vec e size (olds++news).flatten]⟩):W P w0 n0 Q (.ops (o::l)::k) s
 |ek {k:List It} {t s:St} (hl:aV n0 t s) (h:W P w0 n0 Q k t):W P w0 n0 Q k s
section
variable {P:Program} {w0:World} {n0:Nat} {Q:St->Prop} {k:List It} {s:St}
def W.Hv(h:W P w0 n0 Q (.code .skip::k) s):∃t,aV n0 t s/\W P w0 n0 Q k t:=by
 generalize hk:It.code .skip::k=c at h;induction h with
 |skip h=>injection hk with _ hk;subst hk;exact⟨_,aV.refl _ _,h⟩
 |ek hl _ b=>obtain⟨t,h1,h2⟩:=b hk;exact⟨t,h1.trans hl,h2⟩
 |_=>cases hk
def W.RR{l:List ai}(h:W P w0 n0 Q (.code (.ax l)::k) s):∃t,aV n0 t s/\W P w0 n0 Q (.ops l::k) t:=by
 generalize hk:It.code (.ax l)::k=e at h;induction h with
 |ax h=>injection hk with b hk;injection b with b;injection b with b;subst hk b;exact⟨_,aV.refl _ _,h⟩
 |ek hl _ c=>obtain⟨t,h1,h2⟩:=c hk;exact⟨t,h1.trans hl,h2⟩
 |_=>cases hk
inductive RS (P:Program) (w0:World) (n0:Nat) (Q:St->Prop) (l:List ai) (e:List cE) (k:List It) (t:St):Prop where
 |one {ρ:Env} {σ:H} (hc:(Canon P w0 t.σ l t.ρ ρ/\σ=t.σ)\/(e≠[]/\∃hs,ab P w0 e t.ρ t.σ [] ρ σ hs)) (h:W P w0 n0 Q k ⟨ρ,σ⟩)
 |Hw {ρ:Env} {S0 S:H->Prop} {hs:List (H->Prop)} (he:e≠[]) (h0:S0 t.σ) (hc:nL P w0 e t.ρ S0 [] ρ S hs) (h:∀σ,S σ->W P w0 n0 Q k ⟨ρ,σ⟩)
 |gen {ρ:Env} {S:(Nat->Bool)->H->Prop} (h0:S (fun _=>false) t.σ) (hc:nM P w0 l S 0 l t.ρ ρ) (h:∀L,(∀j,j<l.length->L j=true)->∀σ,S L σ->W P w0 n0 Q k ⟨ρ,σ⟩)
def W.RT{l:List ai}{e:List cE}(h:W P w0 n0 Q (.code (.ff l e)::k) s):∃t,aV n0 t s/\RS P w0 n0 Q l e k t:=by
 generalize hk:It.code (.ff l e)::k=i at h;induction h with
 |ff hc h=>injection hk with b hk;injection b with b;injection b with b c;subst hk b c;exact⟨_,aV.refl _ _,.one (.inl ⟨hc,rfl⟩) h⟩
 |aD he hc h=>injection hk with b hk;injection b with b;injection b with b c;subst hk b c;exact⟨_,aV.refl _ _,.one (.inr ⟨he,_,hc⟩) h⟩
 |RQ he h0 hc h=>injection hk with b hk;injection b with b;injection b with b c;subst hk b c;exact⟨_,aV.refl _ _,.Hw he h0 hc h⟩
 |ux S h0 hc h=>injection hk with b hk;injection b with b;injection b with b c;subst hk b c;exact⟨_,aV.refl _ _,.gen h0 hc h⟩
 |ek hl _ g=>obtain⟨t,h1,h2⟩:=g hk;exact⟨t,h1.trans hl,h2⟩
 |_=>cases hk
def W.RU{a b:AC}(h:W P w0 n0 Q (.code (.seq a b)::k) s):∃t,aV n0 t s/\W P w0 n0 Q (.code a:: .code b::k) t:=by
 generalize hk:It.code (.seq a b)::k=j at h;induction h with
 |seq h=>injection hk with c hk;injection c with c;injection c with e g;subst hk e g;exact⟨_,aV.refl _ _,h⟩
 |ek hl _ i=>obtain⟨t,h1,h2⟩:=i hk;exact⟨t,h1.trans hl,h2⟩
 |_=>cases hk
def W.RW{c:ah}{x y:AC}(h:W P w0 n0 Q (.code (.cond c x y)::k) s):∃t b,aV n0 t s/\c.ev t.ρ= .c (.bool b)/\(b=true->W P w0 n0 Q (.code x::k) t)/\(b=false->W P w0 n0 Q (.code y::k) t):=by
 generalize hk:It.code (.cond c x y)::k=r at h;induction h with
 |cond hc h1 h2=>injection hk with e hk;injection e with e;injection e with g i j;subst hk g i j;exact⟨_,_,aV.refl _ _,hc,h1,h2⟩
 |ek hl _ p=>obtain⟨t,b,h1,h2⟩:=p hk;exact⟨t,b,h1.trans hl,h2⟩
 |_=>cases hk
def W.RX{id:Nat}{c:AC}(h:W P w0 n0 Q (.code (.block id c)::k) s):∃t,aV n0 t s/\W P w0 n0 Q (.code c:: .gn id::k) t:=by
 generalize hk:It.code (.block id c)::k=j at h;induction h with
 |block h=>injection hk with b hk;injection b with b;injection b with e g;subst hk e g;exact⟨_,aV.refl _ _,h⟩
 |ek hl _ i=>obtain⟨t,h1,h2⟩:=i hk;exact⟨t,h1.trans hl,h2⟩
 |_=>cases hk
def W.RY{id:Nat}(h:W P w0 n0 Q (.gn id::k) s):∃t,aV n0 t s/\W P w0 n0 Q k t:=by
 generalize hk:It.gn id::k=c at h;induction h with
 |gn h=>injection hk with _ hk;subst hk;exact⟨_,aV.refl _ _,h⟩
 |ek hl _ b=>obtain⟨t,h1,h2⟩:=b hk;exact⟨t,h1.trans hl,h2⟩
 |_=>cases hk
def W.RZ{id:Nat}(h:W P w0 n0 Q (.code (.exit id)::k) s):∃t k',aV n0 t s/\jh id k=some k'/\W P w0 n0 Q k' t:=by
 generalize hk:It.code (.exit id)::k=g at h;induction h with
 |exit hp h=>injection hk with b hk;injection b with b;injection b with c;subst hk c;exact⟨_,_,aV.refl _ _,hp,h⟩
 |ek hl _ e=>obtain⟨t,k',h1,h2⟩:=e hk;exact⟨t,k',h1.trans hl,h2⟩
 |_=>cases hk
def W.R0(h:W P w0 n0 Q (.code .ret::k) s):∃t,aV n0 t s/\Q t:=by
 generalize hk:It.code .ret::k=c at h;induction h with
 |ret h=>exact⟨_,aV.refl _ _,h⟩
 |ek hl _ b=>obtain⟨t,h1,h2⟩:=b hk;exact⟨t,h1.trans hl,h2⟩
 |_=>cases hk
def W.BS(h:W P w0 n0 Q [] s):∃t,aV n0 t s/\Q t:=by
 generalize hk:([]:List It)=c at h;induction h with
 |done h=>exact⟨_,aV.refl _ _,h⟩
 |ek hl _ b=>obtain⟨t,h1,h2⟩:=b hk;exact⟨t,h1.trans hl,h2⟩
 |_=>cases hk
def W.inv_inv{I:St->Prop}(h:W P w0 n0 Q (.inv I::k) s):∃t,aV n0 t s/\I t:=by
 generalize hk:It.inv I::k=e at h;induction h with
 |inv h=>injection hk with b hk;injection b with b;subst hk b;exact⟨_,aV.refl _ _,h⟩
 |ek hl _ c=>obtain⟨t,h1,h2⟩:=c hk;exact⟨t,h1.trans hl,h2⟩
 |_=>cases hk
def W.R1{c:AC}(h:W P w0 n0 Q (.code (.loop c)::k) s):∃(t:St) (α:Type) (S:α->St) (μ:α->Nat) (x0:α),aV n0 t s/\aV n0 (S x0) t/\∀x,W P w0 n0 Q (.code c:: .inv (fun s'=>∃y,μ y<μ x/\aV n0 (S y) s')::k) (S x):=by
 generalize hk:It.code (.loop c)::k=i at h;induction h with
 |loop S μ x0 h0 h=>injection hk with b hk;injection b with b;injection b with e;subst hk e;exact⟨_,_,S,μ,x0,aV.refl _ _,h0,h⟩
 |ek hl _ g=>obtain⟨t,α,S,μ,x0,h1,h2⟩:=g hk;exact⟨t,α,S,μ,x0,h1.trans hl,h2⟩
 |_=>cases hk
inductive R2 (P:Program) (w0:World) (n0:Nat) (Q:St->Prop) (o:ai) (l:List ai) (k:List It) (t:St):Prop where
 |skip (hg:bQ t.ρ o.guard=some false) (h:W P w0 n0 Q (.ops l::k) ⟨t.ρ.put o.dst .void,t.σ⟩)
 |step {v:V} {σ':H} (hg:bQ t.ρ o.guard=some true) (hs:step t.ρ t.σ o.ins=some (v,σ')) (h:W P w0 n0 Q (.ops l::k) ⟨t.ρ.put o.dst v,σ'⟩)
 |call {f:ah} {as1:List ah} {fid:FuncId} {caps:List V} {R:V->H->Prop} (hg:bQ t.ρ o.guard=some true) (hi:o.ins= .call f as1) (hf:f.ev t.ρ= .fn fid caps)
   (hc:DC P w0 fid (as1.map (·.ev t.ρ)++caps) t.σ R) (h:∀d σ',R d σ'->W P w0 n0 Q (.ops l::k) ⟨t.ρ.put o.dst d,σ'⟩)
 |fork {neg:Bool} {x:ah} {r:List (List C)} (hg:bQ t.ρ o.guard=some true) (hi:o.ins= .jd neg x) (hx:(x.ev t.ρ).rows=some r)
   (h:∀b:Bool,(b=true->r=[])->W P w0 n0 Q (.ops l::k) ⟨t.ρ.put o.dst (.c (.bool (if neg then !b else b))),t.σ⟩)
 |vec {e size bytes:Nat} {x y:ah} {olds news:List (List C)} (hg:bQ t.ρ o.guard=some true) (hi:o.ins= .app e size bytes x y) (hx:x.ev t.ρ= .ae olds) (hy:(y.ev t.ρ).rows=some news) (hc:news≠[]/\(∀r∈olds,r.length=size)/\(∀r∈news,r.length=size)/\(olds.length+news.length)*bytes<=140737488355328/\olds.length+news.length<=140737488355328)
   (h:W P w0 n0 Q (.ops l::k) ⟨t.ρ.put o.dst (.vec t.σ.length (olds.length+news.length)),t.σ++[.vec e size (olds++news).flatten]⟩)
def W.R3{o:ai}{l:List ai}(h:W P w0 n0 Q (.ops (o::l)::k) s):∃t,aV n0 t s/\R2 P w0 n0 Q o l k t:=by
 generalize hk:It.ops (o::l)::k=i at h;induction h with
 |BR hg h=>injection hk with b hk;injection b with b;injection b with c e;subst hk c e;exact⟨_,aV.refl _ _,.skip hg h⟩
 |kg hg hs h=>injection hk with b hk;injection b with b;injection b with c e;subst hk c e;exact⟨_,aV.refl _ _,.step hg hs h⟩
 |xR hg hi hf hc h=>injection hk with b hk;injection b with b;injection b with c e;subst hk c e;exact⟨_,aV.refl _ _,.call hg hi hf hc h⟩
 |lH hg hi hx h=>injection hk with b hk;injection b with b;injection b with c e;subst hk c e;exact⟨_,aV.refl _ _,.fork hg hi hx h⟩
 |nN hg hi hx hy hc h=>injection hk with b hk;injection b with b;injection b with c e;subst hk c e;exact⟨_,aV.refl _ _,.vec hg hi hx hy hc h⟩
 |ek hl _ g=>obtain⟨t,h1,h2⟩:=g hk;exact⟨t,h1.trans hl,h2⟩
 |xQ=>cases hk
 |_=>cases hk
def W.R4(h:W P w0 n0 Q (.ops []::k) s):∃t,aV n0 t s/\W P w0 n0 Q k t:=by
 generalize hk:It.ops []::k=c at h;induction h with
 |xQ h=>injection hk with _ hk;subst hk;exact⟨_,aV.refl _ _,h⟩
 |ek hl _ b=>obtain⟨t,h1,h2⟩:=b hk;exact⟨t,h1.trans hl,h2⟩
 |_=>cases hk
