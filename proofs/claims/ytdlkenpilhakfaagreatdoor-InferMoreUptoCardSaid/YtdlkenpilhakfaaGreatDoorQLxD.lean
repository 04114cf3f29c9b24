/- . -/
import Derived.Test.YtdlkenpilhakfaaGreatDoorQLxF
import Derived.Test.YtdlkenpilhakfaaGreatDoorQJ16
import Derived.Test.YtdlkenpilhakfaaGreatDoorQJ14
set_option linter.unusedSimpArgs false
set_option linter.unusedVariables false
set_option maxHeartbeats 8000000
set_option maxRecDepth 20000
open List renaming getElem?_eq_getElem->aR,getElem_map->dE,mem_map->dK
open Go.Proofs.Tryz
namespace Go.Proofs.YtdlkenpilhakfaaGreatDoor
open Go.RowKit Go.Lamb
theorem NO{l:List UInt8}:(a8 l).text.length<=l.length:=by
 cases l with
 |nil=>simp[a8]
 |cons c l=>
  simp only[a8,qo,gM]
  repeat' split
  all_goals simp only[List.length_cons,List.length_nil,List.length_take]
  all_goals omega
theorem NP(N:Nat):∀(f:Nat) (l:List UInt8),∀x∈(oS N f l).oN,x.text.length<=l.length
 |0,l,x,hx=>by simp[oS]at hx
 |f+1,l,x,hx=>by
  simp only[oS]at hx;split at hx
  ·simp at hx
  ·split at hx
   ·simp only[List.mem_singleton]at hx;subst hx;exact NO
   ·rw[eo.cons]at hx;split at hx
    ·rcases List.mem_cons.1 hx with rfl|hx
     ·exact NO
     ·have h1:=NP N f _ x hx;have h2:=kL false (l.drop (a8 l).len);rw[List.length_drop]at h2;omega
    ·simp at hx
theorem Zf{s:List UInt8}:∀x∈(jd s).oN,x.text.length<=s.length:=fun x hx=>by
 unfold jd at hx;split at hx
 ·simp at hx
 ·have h1:=NP _ _ _ x hx;have h2:=kL false s;omega
theorem Zg{κ:K}{w w':World}{t:Value}{l:List Tok}(hown:w'.ownsRow w.heap.size 123 4 t l.length (mM l))(htx:∀x∈l,x.text.length<=maxLen):RC (κ.new w w').m (po l) t:=by
 have hl:(l.map Tok.cs).length=l.length:=List.length_map ..;have hs:∀r∈l.map Tok.cs,r.length=4:=fun r hr=>by
  obtain⟨x,_,rfl⟩:=dK.1 hr;rfl
 have hfl:mM l=(l.map Tok.cells).flatten:=by rw[mM,List.flatMap_def]
 have hrc:∀i (hi:i<(l.map Tok.cs).length) j (hj:j<(l.map Tok.cs)[i].length),RC (κ.new w w').m (l.map Tok.cs)[i][j] ((mM l).getD (i*4+j) undef):=by
  rw[hfl];refine F5 (by simp) (fun i hi hi'=>?_) hs (fun r hr=>by obtain⟨x,_,rfl⟩:=dK.1 hr;rfl);have hi2:i<l.length:=by simpa using hi
  rw[dE,dE];have:=htx l[i] (List.getElem_mem hi2);refine⟨rfl,fun j hj=>?_⟩
  match j,hj with
  |0,_=>exact .int _ _
  |1,_=>exact .str _ this
  |2,_=>exact .int _ _
  |3,_=>exact .int _ _
 rcases hown.2 with⟨rfl,h0⟩|⟨g,cap,cur,rfl,hg,hh,hc,hcm,hcs,htake⟩
 ·have:l=[]:=List.eq_nil_of_length_eq_zero h0;subst this;exact RC.nil _
 ·have:=wL (m:=(κ.new w w').m) (rows:=l.map Tok.cs) (size:=4) (xs:=mM l) (by rw[hl];exact hown.1) hs hrc (b:=g) (o:=0) (cap:=cap) (fun k hk=>by
   rw[K.Rb hg,aR hk];have q:=hown.cells (g:=g) rfl k _ (aR hk);rwa [add_lit]at q) (by rw[hl];exact hc) hcm
  rw[hl]at this;exact this
theorem WO{w0:World}(hG:dm w0)(s:List UInt8)(hs:s.length<=4294967280)(σ:H):
  DC prog w0 58 [S s] σ (Same (.av [.c (po (jd s).oN),I (jd s).err,I (jd s).pos]) σ):=by
 refine DC.xt (lO func58 (by kernel_rfl) rfl) fun κ w vs hrep hfit=>?_;obtain⟨v,ys,rfl,hv,hfit⟩:=hfit.cons_inv;have:=hfit.kS;subst this;cases hv with
 |c hv=>
  cases hv with
  |str _ hl=>
   refine(Zh s w hs (hG.ext hrep.ext)).mono ?_;rintro e w' ⟨v,rfl,⟨t,rfl,hown⟩,hb⟩;refine⟨_,rfl,hb,.av (xs:=[t,.int .i64 (jd s).err,.int .i64 (jd s).pos]) rfl fun j hj=>?_⟩
   match j,hj with
   |0,_=>exact .c (Zg hown fun x hx=>by have:=Zf x hx;unfold maxLen;omega)
   |1,_=>exact .c (.int _ _)
   |2,_=>exact .c (.int _ _)
end Go.Proofs.YtdlkenpilhakfaaGreatDoor
