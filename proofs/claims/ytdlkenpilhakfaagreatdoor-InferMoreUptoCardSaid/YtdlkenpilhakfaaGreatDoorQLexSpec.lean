/- . -/
import Derived.Below
import Derived.Laws.Strings
import Derived.WalkSpells
set_option linter.unusedSimpArgs false
set_option linter.unusedVariables false
set_option maxHeartbeats 8000000
set_option maxRecDepth 20000
open Go.ByteArray renaming toList_eq->Ol
namespace Go.Lamb
open Go Go.RowKit
def eL(v:Value)(w:World):Ending->World->Prop:=fun e w'=>e= .returned v/\w=w'
def lE(v:Value)(w:World):Ending->World->Prop:=fun e w'=>e= .returned v/\Below w.heap.size w w'
theorem lC{a b:Bool}{w:World}(h:a=b):eL (.bool b) w (.returned (.bool a)) w:=⟨by rw[h],rfl⟩
theorem EJ{k:IntKind}{a b:Int}{w:World}(h:a=b):eL (.int k b) w (.returned (.int k a)) w:=⟨by rw[h],rfl⟩
theorem Nz{W w1:World}(hb:Below W.heap.size W w1):(∀b o,b<W.heap.size->w1.cell? ⟨b,o,none⟩=W.cell? ⟨b,o,none⟩)/\(∀b o,b<W.heap.size->w1.frozen? ⟨b,o,none⟩=W.frozen? ⟨b,o,none⟩):=
 ⟨fun b o h=>hb.cell (p:=⟨b,o,none⟩) h,fun b o h=>hb.frozen (p:=⟨b,o,none⟩) h⟩
theorem after{w W w1:World}(h:Below w.heap.size w W)(hb:Below W.heap.size W w1):Below w.heap.size w w1:=h.trans (hb.mono h.size)
def bs(l:List UInt8):ByteArray:=⟨l.toArray⟩
@[go_sem] theorem iX (l:List UInt8):(bs l).size=l.length:=rfl
@[go_sem] theorem zy (l:List UInt8):(bs l).data.toList=l:=rfl
@[go_sem] theorem Ao (l:List UInt8):(bs l).toList=l:=by rw[Ol];rfl
theorem wI{s:ByteArray}{l:List UInt8}(h:s.data.toList=l):s=bs l:=by
 obtain⟨⟨d⟩⟩:=s;simp only at h;subst h;rfl
theorem Bt(s:ByteArray):s=bs s.data.toList:=wI rfl
@[go_sem] theorem O7 (l:List UInt8) (a b:Nat):(bs l).extract a b=bs ((l.drop a).take (b-a)):=by
  apply wI;simp[bs,ByteArray.data_extract,List.take_drop]
@[go_sem] theorem O9 (a b:List UInt8):bs a++bs b=bs (a++b):=by
  apply wI;simp[bs,ByteArray.data_append]
theorem Zd{l:List UInt8}{k:Nat}(h:k<(bs l).size):k<l.length:=h
@[go_sem] theorem OW (l:List UInt8) (k:Nat) (h:k<(bs l).size):(bs l)[k]=l[k]'(Zd h):=rfl
def jg(c:UInt8):Bool:=decide (97<=c.toNat)&&decide (c.toNat<=122)
def mK(c:UInt8):Bool:=(decide (65<=c.toNat)&&decide (c.toNat<=90))||decide (c.toNat=95)
def cT(c:UInt8):Bool:=decide (48<=c.toNat)&&decide (c.toNat<=57)
def Nk:List UInt8:=[43,45,42,47,60,62,61,38,124,94,126,64,35,36,63,58]
def gL(c:UInt8):Bool:=Nk.contains c
def e7(c:UInt8):Bool:=jg c||mK c||cT c||decide (c.toNat=39)
def cn(p:UInt8->Bool):List UInt8->Nat
 |[]=>0
 |c::l=>if p c then cn p l+1 else 0
theorem Nj(s:ByteArray)(k:Nat)(h:k<s.size):s.data.toList.drop k=s[k]::s.data.toList.drop (k+1):=by
 have h':k<s.data.toList.length:=by simpa using h
 rw[List.drop_eq_getElem_cons h'];rfl
theorem Yx(s:ByteArray)(k:Nat)(h:s.size<=k):s.data.toList.drop k=[]:=by
 apply List.drop_of_length_le;simpa using h
theorem qp(p:UInt8->Bool)(l:List UInt8):cn p l<=l.length:=by
 induction l with
 |nil=>simp[cn]
 |cons c l ih=>simp only[cn];split<;>simp<;>omega
def mL(l:List UInt8):Bool:=decide (l≠[])&&decide (l.length<=32)
def zx(p:UInt8->Bool):List UInt8->Bool
 |[]=>false
 |c::_=>p c
def iD(l:List UInt8):Bool:=mL l&&zx jg l&&l.all e7
def kJ:List UInt8:=[44,59,33]
def ll(l:List UInt8):Bool:=mL l&&(l.all gL||(decide (l.length=1)&&zx kJ.contains l))
theorem No{s:ByteArray}(h:mL s.data.toList=true):0<s.size:=by
 simp[mL]at h;rcases Nat.eq_zero_or_pos s.size with h0|h0
 ·exact absurd (Array.eq_empty_of_size_eq_zero h0) h.1
 ·exact h0
theorem Np{s:ByteArray}(h:mL s.data.toList=true):s.size<=32:=by
 simp[mL]at h;exact h.2
theorem Nq{p:UInt8->Bool}{s:ByteArray}(h:0<s.size):zx p s.data.toList=p s[0]:=by
 have:=Nj s 0 h;rw[List.drop_zero]at this;rw[this];rfl
def ek(c:UInt8):Int:=if(c.toNat:Int)==40 then 5 else if(c.toNat:Int)==41 then 6 else if(c.toNat:Int)==46 then 7 else if(c.toNat:Int)==92 then 8 else 0
theorem Ze(p:UInt8->Bool)(l:List UInt8):(cn p l=l.length)↔l.all p=true:=by
 induction l with
 |nil=>simp[cn]
 |cons c l ih=>
  simp only[cn,List.all_cons,List.length_cons];by_cases h:p c=true
  ·simp[h,ih]
  ·simp[h]
theorem Ns(p:UInt8->Bool)(s:ByteArray):(((cn p s.data.toList:Nat):Int)==(s.size:Int))=s.data.toList.all p:=by
 have h:=Ze p s.data.toList;rw[Bool.eq_iff_iff,<-h];simp only[Array.length_toList,beq_iff_eq];exact⟨fun x=>by have:s.data.size=s.size:=rfl;omega,fun x=>by have:s.data.size=s.size:=rfl;omega⟩
theorem YC{s:ByteArray}(h:s.size=1):s=⟨#[s[0]]⟩:=by
 obtain⟨⟨l⟩⟩:=s
 match l,h with
 |[c],_=>rfl
end Go.Lamb
