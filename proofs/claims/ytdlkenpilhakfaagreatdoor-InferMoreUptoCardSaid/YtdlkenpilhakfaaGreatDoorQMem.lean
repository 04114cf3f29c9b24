/- . -/
import Derived.Test.YtdlkenpilhakfaaGreatDoorQLexSpec
import Derived.Laws.OwnMore
import Derived.Laws.AppendOwn
set_option linter.unusedSimpArgs false
set_option linter.unusedVariables false
set_option maxHeartbeats 8000000
set_option maxRecDepth 20000
namespace Go.Lamb
open Go Go.RowKit
section
variable {w w':World} {B B' size n:Nat} {v:Value} {xs:List Value}
theorem ES{base:Nat}{e:TypeId}(h:w.ownsRow base e size v n xs)(hb:Below w.heap.size w w'):w'.ownsRow base e size v n xs:=by
 refine⟨h.1,?_⟩;rcases h.2 with hn|⟨g,cap,cur,hv,hg,hh,rest⟩
 ·exact .inl hn
 ·exact .inr ⟨g,cap,cur,hv,hg,by rw[hb.block g (Array.getElem?_eq_some_iff.1 hh).1];exact hh,rest⟩
theorem NT{base:Nat}{e:TypeId}(h:w.ownsRow base e size v n xs){b:Nat}(hb:w.heap.size<=b):v.ownBlock≠some b:=by
 intro hv;have:=(h.lt b hv).2;omega
theorem NS{W w3:World}{row:Option Nat}{b:Nat}(hg:W.grownBy w3 row)(hb:b<W.heap.size)(hne:row≠some b):∀o,w3.cell? ⟨b,o,none⟩=W.cell? ⟨b,o,none⟩:=
 fun o=>World.cell?_of_block (a:=⟨b,o,none⟩) (hg.block b hb (Ne.symm hne))
theorem NR(X:World)(cs:List Value)(t:TypeId)(b:Nat)(hb:b=X.heap.size):∀j u,cs[j]?=some u->(X.alloc (.cells cs.toArray t)).cell? ((⟨b,0,none⟩:Addr).add j)=some u:=by
 subst hb;intro j u hu;have hadd:(⟨X.heap.size,0,none⟩:Addr).add j=⟨X.heap.size,j,none⟩:=by unfold Addr.add;split<;>simp_all
 rw[hadd,cell_of_row _ X.heap.size j _ t (0,0) (heap_alloc_new X _)];simpa using hu
end
end Go.Lamb
