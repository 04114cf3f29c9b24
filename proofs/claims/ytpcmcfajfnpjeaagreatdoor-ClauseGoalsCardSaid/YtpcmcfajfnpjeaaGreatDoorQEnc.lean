/- . -/
import Derived.Test.YtpcmcfajfnpjeaaGreatDoorQJ11
import Derived.Test.YtpcmcfajfnpjeaaGreatDoorQJ10
set_option linter.unusedSimpArgs false
set_option linter.unusedVariables false
set_option maxHeartbeats 8000000
set_option maxRecDepth 20000
namespace Go.Lamb
open Go Go.RowKit

theorem beq_t (b:Bool):(b == true) = b:=by cases b <;> rfl
theorem beq_f (b:Bool):(b == false) = !b:=by cases b <;> rfl
def I (n:Int):V:=.c (.int .i64 n)
def S (l:List UInt8):V:=.c (.str l)
def B (b:Bool):V:=.c (.bool b)
def OpT.cs (o:OpT):List C:=[.str o.name,.int .i64 o.prec,.int .i64 o.fix]
def OpT.v (o:OpT):V:=.agg [.c (.str o.name),.c (.int .i64 o.prec),.c (.int .i64 o.fix)]
def opsC (l:List OpT):C:=.sl (l.map OpT.cs)
def Tok.cs (t:Tok):List C:=[.int .i64 t.kind,.str t.text,.int .i64 t.n,.int .i64 t.pos]
def Tok.v (t:Tok):V:=.agg [.c (.int .i64 t.kind),.c (.str t.text),.c (.int .i64 t.n),.c (.int .i64 t.pos)]
def toksC (l:List Tok):C:=.sl (l.map Tok.cs)
mutual
def Pre.cs:Pre → List C
 | .mk k s n l a=>[.int .i64 k,.str s,.int .i64 n,.sl (Pre.rows l),.int .i64 a]
def Pre.rows:List Pre → List (List C)
 | []=>[]
 | p :: l=>p.cs :: Pre.rows l
end
theorem Pre.rows_map (l:List Pre):Pre.rows l = l.map Pre.cs:=by
 induction l with
 | nil=>rfl
 | cons p l ih=>simp [Pre.rows,ih]
def Pre.v (p:Pre):V:=.agg [.c (.int .i64 p.k),.c (.str p.name),.c (.int .i64 p.n),.c (.sl (p.l.map Pre.cs)),.c (.int .i64 p.pos)]
theorem Pre.cs_eq (p:Pre):p.cs = [.int .i64 p.k,.str p.name,.int .i64 p.n,.sl (p.l.map Pre.cs),.int .i64 p.pos]:=by
 cases p
 simp [Pre.cs,Pre.k,Pre.name,Pre.n,Pre.l,Pre.pos,Pre.rows_map]
def UpTo {α:Type} (p:α → Bool) (l:List α) (i:Nat):Prop:=∀ j (hj:j < l.length),j < i → p l[j] = false
def idxI {α:Type} (p:α → Bool) (l:List α):Int:=match l.findIdx? p with
 | some k=>k
 | none=>-1
theorem idxI_at {α:Type} {p:α → Bool} {l:List α} {i:Nat} (h:UpTo p l i) (hi:i < l.length) (hp:p l[i] = true):idxI p l = i:=by
 unfold idxI
 rw [List.findIdx?_eq_some_iff_getElem.2 ⟨hi,hp,fun j hj=>by rw [h j (by omega) hj];simp⟩]
theorem idxI_none {α:Type} {p:α → Bool} {l:List α} (h:∀ j (hj:j < l.length),p l[j] = false):idxI p l = -1:=by
 unfold idxI
 rw [List.findIdx?_eq_none_iff.2 fun x hx=>by obtain ⟨j,hj,rfl⟩:=List.getElem_of_mem hx;exact h j hj]
theorem idxI_cases {α:Type} (p:α → Bool) (l:List α):(idxI p l = -1 ∧ l.find? p = none) ∨ ∃ i,∃ (hi:i < l.length),idxI p l = (i:Int) ∧ l.find? p = some l[i]:=by
 unfold idxI
 cases h:l.findIdx? p with
 | none=>
   left
   rw [List.findIdx?_eq_none_iff] at h;exact ⟨rfl,List.find?_eq_none.2 fun x hx=>by rw [h x hx];simp⟩
 | some k=>
   right
   obtain ⟨hk,h1,h2⟩:=List.findIdx?_eq_some_iff_getElem.1 h;refine ⟨k,hk,rfl,?_⟩;rw [List.find?_eq_some_iff_getElem];exact ⟨h1,k,hk,rfl,fun j hj=>by simpa using h2 j hj⟩
theorem idxI_none_iff {α:Type} {p:α → Bool} {l:List α}:idxI p l = -1 ↔ ∀ x ∈ l,p x = false:=by
 unfold idxI
 cases h:l.findIdx? p with
 | none=>simpa [List.findIdx?_eq_none_iff] using h
 | some k=>
   obtain ⟨hk,h1,_⟩:=List.findIdx?_eq_some_iff_getElem.1 h
   constructor
   ·intro e;simp only at e;omega
   ·intro e;rw [e _ (List.getElem_mem hk)] at h1;cases h1
def OpT.zero:OpT:=⟨[],0,0⟩
def foundV (o:Option OpT):V:=.tup [(o.getD OpT.zero).v,B o.isSome]
theorem find_at {α:Type} {p:α → Bool} {l:List α} {i:Nat} (h:UpTo p l i) (hi:i < l.length) (hp:p l[i] = true):l.find? p = some l[i]:=by
 rw [List.find?_eq_some_iff_getElem]
 exact ⟨hp,i,hi,rfl,fun j hj=>by rw [h j (by omega) hj];rfl⟩
theorem find_no {α:Type} {p:α → Bool} {l:List α} {i:Nat} (h:UpTo p l i) (hi:l.length ≤ i):l.find? p = none:=by
 rw [List.find?_eq_none]
 intro x hx
 obtain ⟨j,hj,rfl⟩:=List.getElem_of_mem hx
 rw [h j hj (by omega)]
 simp
theorem upTo_next {α:Type} {p:α → Bool} {l:List α} {i:Nat} (h:UpTo p l i) (hi:i < l.length) (hp:p l[i] = false):UpTo p l (i + 1):=fun j hj hji=>by
 rcases Nat.lt_succ_iff_lt_or_eq.1 hji with h' | h'
 ·exact h j hj h'
 ·subst h';exact hp
theorem upTo_zero {α:Type} {p:α → Bool} {l:List α}:UpTo p l 0:=fun j _ h=>absurd h (by omega)
theorem sz_rows {α:Type} {f:α → List C} {l:List α} (h:V.Sz (.c (.sl (l.map f)))):l.length ≤ 9223372036854775807:=by
 rw [sz_c,sz_sl] at h
 simpa [maxLen] using h.1
theorem wrap_next {i n:Nat} (h:i < n) (hn:n ≤ 9223372036854775807):IntKind.i64.wrap ((i:Int) + 1) = ((i + 1:Nat):Int):=by rw [wrap_in] <;> omega
theorem nat0 (i:Nat):(0:Int) ≤ (i:Int):=by omega
theorem natCast0:((0:Nat):Int) = 0:=rfl
theorem natCast1:((1:Nat):Int) = 1:=rfl
theorem natCast2:((2:Nat):Int) = 2:=rfl
theorem k_mk (k:Int) (s:List UInt8) (n:Int) (l:List Pre) (a:Int):(Pre.mk k s n l a).k = k:=rfl
theorem name_mk (k:Int) (s:List UInt8) (n:Int) (l:List Pre) (a:Int):(Pre.mk k s n l a).name = s:=rfl
theorem n_mk (k:Int) (s:List UInt8) (n:Int) (l:List Pre) (a:Int):(Pre.mk k s n l a).n = n:=rfl
theorem l_mk (k:Int) (s:List UInt8) (n:Int) (l:List Pre) (a:Int):(Pre.mk k s n l a).l = l:=rfl
theorem pos_mk (k:Int) (s:List UInt8) (n:Int) (l:List Pre) (a:Int):(Pre.mk k s n l a).pos = a:=rfl
end Go.Lamb
