/- . -/
import Derived.Test.YtpcmcfajfnpjeaaGreatDoorQLxF
import Derived.Test.YtpcmcfajfnpjeaaGreatDoorQJ15
import Derived.Test.YtpcmcfajfnpjeaaGreatDoorQEnc
set_option linter.unusedSimpArgs false
set_option linter.unusedVariables false
set_option maxHeartbeats 8000000
set_option maxRecDepth 20000
namespace Go.Proofs.YtpcmcfajfnpjeaaGreatDoor
open Go.RowKit Go.Lamb

theorem one_tlen {l:List UInt8}:(oneL l).text.length ≤ l.length:=by
 cases l with
 | nil=>simp [oneL]
 | cons c l=>
   simp only [oneL,numR,wordR]
   repeat' split
   all_goals simp only [List.length_cons,List.length_nil,List.length_take]
   all_goals omega
theorem lex_texts (N:Nat):∀ (f:Nat) (l:List UInt8),∀ x ∈ (lexF N f l).toks,x.text.length ≤ l.length
 | 0,l,x,hx=>by simp [lexF] at hx
 | f + 1,l,x,hx=>by
   simp only [lexF] at hx;split at hx
   ·simp at hx
   ·split at hx
    ·simp only [List.mem_singleton] at hx
     subst hx;exact one_tlen
    ·rw [LexR.cons] at hx
     split at hx
     ·rcases List.mem_cons.1 hx with rfl | hx
      ·exact one_tlen
      ·have h1:=lex_texts N f _ x hx
       have h2:=skipL_le false (l.drop (oneL l).len)
       rw [List.length_drop] at h2;omega
     ·simp at hx
theorem lexL_texts {s:List UInt8}:∀ x ∈ (lexL s).toks,x.text.length ≤ s.length:=fun x hx=>by
 unfold lexL at hx
 split at hx
 ·simp at hx
 ·have h1:=lex_texts _ _ _ x hx
  have h2:=skipL_le false s
  omega
theorem toks_RC {κ:K} {w w':World} {t:Value} {l:List Tok} (hown:w'.ownsRow w.heap.size 223 4 t l.length (toksCells l)) (htx:∀ x ∈ l,x.text.length ≤ maxLen):RC (κ.new w w').m (toksC l) t:=by
 have hl:(l.map Tok.cs).length = l.length:=List.length_map ..
 have hs:∀ r ∈ l.map Tok.cs,r.length = 4:=fun r hr=>by
  obtain ⟨x,_,rfl⟩:=List.mem_map.1 hr;rfl
 have hfl:toksCells l = (l.map Tok.cells).flatten:=by rw [toksCells,List.flatMap_def]
 have hrc:∀ i (hi:i < (l.map Tok.cs).length) j (hj:j < (l.map Tok.cs)[i].length),RC (κ.new w w').m (l.map Tok.cs)[i][j] ((toksCells l).getD (i * 4 + j) undef):=by
  rw [hfl];refine uss_RC (by simp) (fun i hi hi'=>?_) hs (fun r hr=>by obtain ⟨x,_,rfl⟩:=List.mem_map.1 hr;rfl)
  have hi2:i < l.length:=by simpa using hi
  rw [List.getElem_map,List.getElem_map]
  have:=htx l[i] (List.getElem_mem hi2)
  refine ⟨rfl,fun j hj=>?_⟩
  match j,hj with
  | 0,_=>exact .int _ _
  | 1,_=>exact .str _ this
  | 2,_=>exact .int _ _
  | 3,_=>exact .int _ _
 rcases hown.2 with ⟨rfl,h0⟩ | ⟨g,cap,cur,rfl,hg,hh,hc,hcm,hcs,htake⟩
 ·have:l = []:=List.eq_nil_of_length_eq_zero h0
  subst this;exact RC.nil _
 ·have:=rows_RC (m:=(κ.new w w').m) (rows:=l.map Tok.cs) (size:=4) (xs:=toksCells l) (by rw [hl];exact hown.1) hs hrc (b:=g) (o:=0) (cap:=cap) (fun k hk=>by
   rw [K.new_at hg,List.getElem?_eq_getElem hk]
   have q:=hown.cells (g:=g) rfl k _ (List.getElem?_eq_getElem hk)
   rwa [add_lit] at q) (by rw [hl];exact hc) hcm
  rw [hl] at this;exact this
theorem lex_Lex {w0:World} (hG:Glob w0) (s:List UInt8) (hs:s.length ≤ 4294967280) (σ:H) :
  DC Tryz.prog w0 176 [S s] σ (Same (.tup [.c (toksC (lexL s).toks),I (lexL s).err,I (lexL s).pos]) σ):=by
 refine DC.of_new (enters_fn Tryz.func176 (by kernel_rfl) rfl) fun κ w vs hrep hfit=>?_
 obtain ⟨v,ys,rfl,hv,hfit⟩:=hfit.cons_inv
 have:=hfit.nil_inv
 subst this
 cases hv with
 | c hv=>
   cases hv with
   | str _ hl=>
     refine (lex_LexO s w hs (hG.ext hrep.ext)).mono ?_;rintro e w' ⟨v,rfl,⟨t,rfl,hown⟩,hb⟩
     refine ⟨_,rfl,hb,.tup (xs:=[t,.int .i64 (lexL s).err,.int .i64 (lexL s).pos]) rfl fun j hj=>?_⟩
     match j,hj with
     | 0,_=>exact .c (toks_RC hown fun x hx=>by have:=lexL_texts x hx;unfold maxLen;omega)
     | 1,_=>exact .c (.int _ _)
     | 2,_=>exact .c (.int _ _)
end Go.Proofs.YtpcmcfajfnpjeaaGreatDoor
