/- . -/
import Derived.Below
import Derived.Laws.Strings
import Derived.WalkSpells
set_option linter.unusedSimpArgs false
set_option linter.unusedVariables false
set_option maxHeartbeats 8000000
set_option maxRecDepth 20000
open Go.ByteArray renaming toList_eq->N3
namespace Go.Lamb
open Go Go.RowKit
def eP(v:Value)(w:World):Ending->World->Prop:=fun e w'=>e= .returned v/\w=w'
def lz(v:Value)(w:World):Ending->World->Prop:=fun e w'=>e= .returned v/\Below w.heap.size w w'
theorem lx{a b:Bool}{w:World}(h:a=b):eP (.bool b) w (.returned (.bool a)) w:=⟨by rw[h],rfl⟩
theorem En{k:IntKind}{a b:Int}{w:World}(h:a=b):eP (.int k b) w (.returned (.int k a)) w:=⟨by rw[h],rfl⟩
theorem Ng{W w1:World}(hb:Below W.heap.size W w1):(∀b o,b<W.heap.size->w1.cell? ⟨b,o,none⟩=W.cell? ⟨b,o,none⟩)/\(∀b o,b<W.heap.size->w1.frozen? ⟨b,o,none⟩=W.frozen? ⟨b,o,none⟩):=
 ⟨fun b o h=>hb.cell (p:=⟨b,o,none⟩) h,fun b o h=>hb.frozen (p:=⟨b,o,none⟩) h⟩
theorem after{w W w1:World}(h:Below w.heap.size w W)(hb:Below W.heap.size W w1):Below w.heap.size w w1:=h.trans (hb.mono h.size)
def bs(l:List UInt8):ByteArray:=⟨l.toArray⟩
@[go_sem] theorem iS (l:List UInt8):(bs l).size=l.length:=rfl
@[go_sem] theorem zj (l:List UInt8):(bs l).data.toList=l:=rfl
@[go_sem] theorem Ae (l:List UInt8):(bs l).toList=l:=by rw[N3];rfl
theorem wE{s:ByteArray}{l:List UInt8}(h:s.data.toList=l):s=bs l:=by
 obtain⟨⟨d⟩⟩:=s;simp only at h;subst h;rfl
theorem YY(s:ByteArray):s=bs s.data.toList:=wE rfl
@[go_sem] theorem OO (l:List UInt8) (a b:Nat):(bs l).extract a b=bs ((l.drop a).take (b-a)):=by
  apply wE;simp[bs,ByteArray.data_extract,List.take_drop]
@[go_sem] theorem OQ (a b:List UInt8):bs a++bs b=bs (a++b):=by
  apply wE;simp[bs,ByteArray.data_append]
theorem YZ{l:List UInt8}{k:Nat}(h:k<(bs l).size):k<l.length:=h
@[go_sem] theorem OD (l:List UInt8) (k:Nat) (h:k<(bs l).size):(bs l)[k]=l[k]'(YZ h):=rfl
def jd(c:UInt8):Bool:=decide (97<=c.toNat)&&decide (c.toNat<=122)
def my(c:UInt8):Bool:=(decide (65<=c.toNat)&&decide (c.toNat<=90))||decide (c.toNat=95)
def cT(c:UInt8):Bool:=decide (48<=c.toNat)&&decide (c.toNat<=57)
def M2:List UInt8:=[43,45,42,47,60,62,61,38,124,94,126,64,35,36,63,58]
def gK(c:UInt8):Bool:=M2.contains c
def fb(c:UInt8):Bool:=jd c||my c||cT c||decide (c.toNat=39)
def cm(p:UInt8->Bool):List UInt8->Nat
 |[]=>0
 |c::l=>if p c then cm p l+1 else 0
theorem M1(s:ByteArray)(k:Nat)(h:k<s.size):s.data.toList.drop k=s[k]::s.data.toList.drop (k+1):=by
 have h':k<s.data.toList.length:=by simpa using h
 rw[List.drop_eq_getElem_cons h'];rfl
theorem Yi(s:ByteArray)(k:Nat)(h:s.size<=k):s.data.toList.drop k=[]:=by
 apply List.drop_of_length_le;simpa using h
theorem qk(p:UInt8->Bool)(l:List UInt8):cm p l<=l.length:=by
 induction l with
 |nil=>simp[cm]
 |cons c l ih=>simp only[cm];split<;>simp<;>omega
def mz(l:List UInt8):Bool:=decide (l≠[])&&decide (l.length<=32)
def zi(p:UInt8->Bool):List UInt8->Bool
 |[]=>false
 |c::_=>p c
def l8(l:List UInt8):Bool:=mz l&&zi jd l&&l.all fb
def kA:List UInt8:=[44,59,33]
def rl(l:List UInt8):Bool:=mz l&&(l.all gK||(decide (l.length=1)&&zi kA.contains l))
theorem M5{s:ByteArray}(h:mz s.data.toList=true):0<s.size:=by
 simp[mz]at h;rcases Nat.eq_zero_or_pos s.size with h0|h0
 ·exact absurd (Array.eq_empty_of_size_eq_zero h0) h.1
 ·exact h0
theorem M6{s:ByteArray}(h:mz s.data.toList=true):s.size<=32:=by
 simp[mz]at h;exact h.2
theorem M7{p:UInt8->Bool}{s:ByteArray}(h:0<s.size):zi p s.data.toList=p s[0]:=by
 have:=M1 s 0 h;rw[List.drop_zero]at this;rw[this];rfl
def ek(c:UInt8):Int:=if(c.toNat:Int)==40 then 5 else if(c.toNat:Int)==41 then 6 else if(c.toNat:Int)==46 then 7 else if(c.toNat:Int)==92 then 8 else 0
theorem Y0(p:UInt8->Bool)(l:List UInt8):(cm p l=l.length)↔l.all p=true:=by
 induction l with
 |nil=>simp[cm]
 |cons c l ih=>
  simp only[cm,List.all_cons,List.length_cons];by_cases h:p c=true
  ·simp[h,ih]
  ·simp[h]
theorem M8(p:UInt8->Bool)(s:ByteArray):(((cm p s.data.toList:Nat):Int)==(s.size:Int))=s.data.toList.all p:=by
 have h:=Y0 p s.data.toList;rw[Bool.eq_iff_iff,<-h];simp only[Array.length_toList,beq_iff_eq];exact⟨fun x=>by have:s.data.size=s.size:=rfl;omega,fun x=>by have:s.data.size=s.size:=rfl;omega⟩
theorem Yn{s:ByteArray}(h:s.size=1):s=⟨#[s[0]]⟩:=by
 obtain⟨⟨l⟩⟩:=s
 match l,h with
 |[c],_=>rfl
end Go.Lamb
