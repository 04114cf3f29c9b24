/- . -/
import Derived.Test.YtpcmcfajfnpjeaaGreatDoorQLexNum
import Derived.Test.YtpcmcfajfnpjeaaGreatDoorQMem
import Derived.Lib.ItoaNum
set_option linter.unusedSimpArgs false
set_option linter.unusedVariables false
set_option maxHeartbeats 8000000
set_option maxRecDepth 20000
namespace Go.Lamb
open Go Go.RowKit

structure Tok where
 kind:Int
 text:List UInt8
 n:Int
 pos:Int
 deriving DecidableEq
def Tok.cells (t:Tok):List Value:=[.int .i64 t.kind,.string (bs t.text),.int .i64 t.n,.int .i64 t.pos]
def toksCells (l:List Tok):List Value:=l.flatMap Tok.cells
structure LexR where
 toks:List Tok
 err:Int
 pos:Nat
 deriving DecidableEq
def LexR.cons (t:Tok) (r:LexR):LexR:=if r.err = 0 then ⟨t :: r.toks,0,0⟩ else ⟨[],r.err,r.pos⟩
def tokAt (N:Nat) (l:List UInt8):Tok:=⟨(oneL l).kind,(oneL l).text,(oneL l).n,((N - l.length:Nat):Int)⟩
def lexF (N:Nat):Nat → List UInt8 → LexR
 | 0,_=>⟨[],0,0⟩
 | f + 1,l=>
   if (oneL l).err ≠ 0 then ⟨[],(oneL l).err,N - l.length⟩
   else if (oneL l).kind = 0 then ⟨[tokAt N l],0,0⟩
   else (lexF N f (skipL false (l.drop (oneL l).len))).cons (tokAt N l)
def lexAt (N:Nat) (l:List UInt8):LexR:=lexF N (l.length + 1) l
def lexL (l:List UInt8):LexR:=if 65536 < l.length then ⟨[],13,0⟩ else lexAt l.length (skipL false l)

theorem one_len {l:List UInt8}:(oneL l).len ≤ l.length:=by
 cases l with
 | nil=>simp [oneL]
 | cons c l=>
   have h1:=runLen_le digitB (c :: l)
   have h2:=runLen_le insideB (c :: l)
   have h3:=runLen_le signB (c :: l)
   simp only [oneL,numR,wordR]
   repeat' split
   all_goals simp only [List.length_cons] at *
   all_goals omega
theorem one_pos {l:List UInt8} (he:(oneL l).err = 0) (hk:(oneL l).kind ≠ 0):0 < (oneL l).len:=by
 cases l with
 | nil=>simp [oneL] at hk
 | cons c l=>
   simp only [oneL,numR,wordR] at he hk ⊢
   have hin:smallB c = true → insideB c = true:=fun h=>by simp [insideB,h]
   have hin2:greatB c = true → insideB c = true:=fun h=>by simp [insideB,h]
   by_cases hm:markN c ≠ 0
   ·simp [hm]
   ·simp only [hm,if_false] at he hk ⊢
    cases hd:digitB c
    ·simp only [hd,Bool.false_eq_true,if_false] at he hk ⊢
     cases hs:smallB c
     ·simp only [hs,Bool.false_eq_true,if_false] at he hk ⊢
      cases hg:greatB c
      ·simp only [hg,Bool.false_eq_true,if_false] at he hk ⊢
       cases hi:signB c
       ·simp only [hi,Bool.false_eq_true,if_false] at he hk ⊢
        cases hn:singles.contains c
        ·simp only [hn,Bool.false_eq_true,if_false] at hk
         simp at hk
        ·simp
       ·simp only [hi,if_true] at he hk ⊢
        split
        ·rename_i h;rw [if_pos h] at he;simp at he
        ·exact run_pos hi
      ·simp only [hg,if_true] at he hk ⊢
       split
       ·rename_i h;rw [if_pos h] at he;simp at he
       ·exact run_pos (hin2 hg)
     ·simp only [hs,if_true] at he hk ⊢
      split
      ·rename_i h;rw [if_pos h] at he;simp at he
      ·exact run_pos (hin hs)
    ·simp only [hd,if_true] at he hk ⊢
     split
     ·exact run_pos hd
     ·rename_i h;rw [if_neg h] at he;simp at he
theorem next_lt {l:List UInt8} (he:(oneL l).err = 0) (hk:(oneL l).kind ≠ 0):(skipL false (l.drop (oneL l).len)).length < l.length:=by
 have h1:=skipL_le false (l.drop (oneL l).len)
 have h2:=one_pos he hk
 have h3:=@one_len l
 rw [List.length_drop] at h1
 omega
theorem lexF_fuel (N:Nat):∀ (f:Nat) (l:List UInt8),l.length < f → lexF N f l = lexAt N l:=by
 intro f
 induction f using Nat.strongRecOn with
 | _ f ih=>
   intro l hl;obtain ⟨g,rfl⟩:∃ g,f = g + 1:=⟨f - 1,by omega⟩
   unfold lexAt;simp only [lexF];split
   ·rfl
   ·rename_i he
    have he:(oneL l).err = 0:=Classical.not_not.1 he
    split
    ·rfl
    ·rename_i hk
     have hlt:=next_lt he hk
     by_cases hg:g = l.length
     ·rw [hg]
     ·rw [ih g (by omega) _ (by omega),ih l.length (by omega) _ (by omega)]
theorem lexAt_eq (N:Nat) (l:List UInt8):lexAt N l =
  if (oneL l).err ≠ 0 then ⟨[],(oneL l).err,N - l.length⟩
  else if (oneL l).kind = 0 then ⟨[tokAt N l],0,0⟩
  else (lexAt N (skipL false (l.drop (oneL l).len))).cons (tokAt N l):=by
 conv=>lhs;unfold lexAt
 simp only [lexF]
 split
 ·rfl
 ·rename_i he
  have he:(oneL l).err = 0:=Classical.not_not.1 he
  split
  ·rfl
  ·rename_i hk
   rw [lexF_fuel N _ _ (next_lt he hk)]
def LexR.after (d:List Tok) (r:LexR):LexR:=if r.err = 0 then ⟨d ++ r.toks,0,0⟩ else ⟨[],r.err,r.pos⟩
theorem LexR.after_cons (d:List Tok) (t:Tok) (r:LexR):(r.cons t).after d = r.after (d ++ [t]):=by
 unfold LexR.cons LexR.after
 by_cases h:r.err = 0 <;> simp [h]
theorem LexR.after_nil_cons (t:Tok) (r:LexR):(r.cons t).after [] = r.cons t:=by
 unfold LexR.cons LexR.after
 by_cases h:r.err = 0 <;> simp [h]
theorem lexAt_after (N:Nat) (l:List UInt8):(lexAt N l).after [] = lexAt N l:=by
 rw [lexAt_eq]
 split
 ·rename_i h;simp [LexR.after,h]
 ·split
  ·simp [LexR.after]
  ·exact LexR.after_nil_cons _ _
theorem skipL_drop:∀ (b:Bool) (l:List UInt8),l.drop (l.length - (skipL b l).length) = skipL b l
 | _,[]=>by simp [skipL]
 | false,c :: l=>by
   have h1:=skipL_le false l
   have h2:=skipL_le true l
   simp only [skipL];split
   ·rw [List.length_cons,show l.length + 1 - (skipL false l).length = (l.length - (skipL false l).length) + 1 from by omega,List.drop_succ_cons]
    exact skipL_drop false l
   ·split
    ·rw [List.length_cons,show l.length + 1 - (skipL true l).length = (l.length - (skipL true l).length) + 1 from by omega,List.drop_succ_cons]
     exact skipL_drop true l
    ·simp
 | true,c :: l=>by
   have h1:=skipL_le false l
   have h2:=skipL_le true l
   simp only [skipL];split
   ·rw [List.length_cons,show l.length + 1 - (skipL false l).length = (l.length - (skipL false l).length) + 1 from by omega,List.drop_succ_cons]
    exact skipL_drop false l
   ·rw [List.length_cons,show l.length + 1 - (skipL true l).length = (l.length - (skipL true l).length) + 1 from by omega,List.drop_succ_cons]
    exact skipL_drop true l
def skipN (l:List UInt8):Nat:=l.length - (skipL false l).length
theorem skipN_le (l:List UInt8):skipN l ≤ l.length:=Nat.sub_le _ _
theorem drop_skipN (l:List UInt8):l.drop (skipN l) = skipL false l:=skipL_drop false l
theorem tokAt_drop {s:List UInt8} {k:Nat} (hk:k ≤ s.length):tokAt s.length (s.drop k) = ⟨(oneL (s.drop k)).kind,(oneL (s.drop k)).text,(oneL (s.drop k)).n,k⟩:=by
 unfold tokAt
 rw [List.length_drop,show s.length - (s.length - k) = k from by omega]
theorem toksCells_snoc (d:List Tok) (t:Tok):toksCells (d ++ [t]) = toksCells d ++ t.cells:=by simp [toksCells]
theorem lexAt_err {s:List UInt8} {k:Nat} (hk:k ≤ s.length) (he:¬ (oneL (s.drop k)).err = 0):lexAt s.length (s.drop k) = ⟨[],(oneL (s.drop k)).err,k⟩:=by
 rw [lexAt_eq,if_pos he,List.length_drop,show s.length - (s.length - k) = k from by omega]
theorem lexAt_end {s:List UInt8} {k:Nat} (he:(oneL (s.drop k)).err = 0) (h0:(oneL (s.drop k)).kind = 0):lexAt s.length (s.drop k) = ⟨[tokAt s.length (s.drop k)],0,0⟩:=by
 rw [lexAt_eq,if_neg (by simp [he]),if_pos h0]
theorem lexAt_next {s:List UInt8} {k:Nat} (he:(oneL (s.drop k)).err = 0) (h0:¬ (oneL (s.drop k)).kind = 0) :
  lexAt s.length (s.drop k) = (lexAt s.length (s.drop (k + (oneL (s.drop k)).len + skipN (s.drop (k + (oneL (s.drop k)).len))))).cons (tokAt s.length (s.drop k)):=by
 rw [lexAt_eq,if_neg (by simp [he]),if_neg h0,List.drop_drop,← drop_skipN,List.drop_drop]
end Go.Lamb
