/- . -/
import Derived.Test.YtpcmcfajfnpjeaaGreatDoorQEnc
import Derived.Test.YtpcmcfajfnpjeaaGreatDoorQJ11
import Derived.Lib.Join
import Derived.Lib.ItoaNum
import Derived.Lib.ItoaLen
import Derived.Test.YtpcmcfajfnpjeaaGreatDoorQJ10
import Derived.Test.YtpcmcfajfnpjeaaGreatDoorQLexNl
import Derived.Test.YtpcmcfajfnpjeaaGreatDoorQLexBk
import Derived.Test.YtpcmcfajfnpjeaaGreatDoorQLxK
import Derived.TacticsIn
import Derived.OrdersIn
import Derived.RangeFuncCalls
import Derived.Deep.LoopGhost
import Derived.RangeFuncNested
import Derived.Lib.UnsafeStr
import Derived.Test.YtpcmcfajfnpjeaaGreatDoorQLexL
import Derived.Defers
set_option linter.unusedSimpArgs false
set_option linter.unusedVariables false
set_option maxHeartbeats 8000000
set_option maxRecDepth 20000
namespace Go.Lamb
open Go Go.RowKit



inductive Typ where
 | mk (k:Int) (name:List UInt8) (n:Int) (l:List Typ)
 deriving Inhabited
def Typ.k:Typ → Int | .mk k _ _ _=>k
def Typ.name:Typ → List UInt8 | .mk _ s _ _=>s
def Typ.n:Typ → Int | .mk _ _ n _=>n
def Typ.l:Typ → List Typ | .mk _ _ _ l=>l
theorem tk_mk (k:Int) (s:List UInt8) (n:Int) (l:List Typ):(Typ.mk k s n l).k = k:=rfl
theorem tname_mk (k:Int) (s:List UInt8) (n:Int) (l:List Typ):(Typ.mk k s n l).name = s:=rfl
theorem tn_mk (k:Int) (s:List UInt8) (n:Int) (l:List Typ):(Typ.mk k s n l).n = n:=rfl
theorem tl_mk (k:Int) (s:List UInt8) (n:Int) (l:List Typ):(Typ.mk k s n l).l = l:=rfl
mutual
def Typ.cs:Typ → List C
 | .mk k s n l=>[.int .i64 k,.str s,.int .i64 n,.sl (Typ.rows l)]
def Typ.rows:List Typ → List (List C)
 | []=>[]
 | p :: l=>p.cs :: Typ.rows l
end
theorem Typ.rows_map (l:List Typ):Typ.rows l = l.map Typ.cs:=by
 induction l with
 | nil=>rfl
 | cons p l ih=>simp [Typ.rows,ih]
def Typ.v (p:Typ):V:=.agg [.c (.int .i64 p.k),.c (.str p.name),.c (.int .i64 p.n),.c (.sl (p.l.map Typ.cs))]
theorem Typ.cs_eq (p:Typ):p.cs = [.int .i64 p.k,.str p.name,.int .i64 p.n,.sl (p.l.map Typ.cs)]:=by
 cases p
 simp [Typ.cs,Typ.k,Typ.name,Typ.n,Typ.l,Typ.rows_map]
def tysC (l:List Typ):C:=.sl (l.map Typ.cs)
def Typ.none:Typ:=.mk 0 [] 0 []
def Typ.arr (a b:Typ):Typ:=.mk 2 [] 0 [a,b]
theorem Typ.ind {P:Typ → Prop} (h:∀ p,(∀ q ∈ p.l,P q) → P p):∀ p,P p
 | .mk k s n l=>h _ fun q hq=>Typ.ind h q
termination_by p=>SizeOf.sizeOf p
decreasing_by
 have:=List.sizeOf_lt_of_mem hq
 simp only [Typ.l] at this
 simp only [Typ.mk.sizeOf_spec]
 omega
mutual
def leftT:Typ → Int → Int
 | .mk _ _ _ l,n=>leftTs l (n - 1)
def leftTs:List Typ → Int → Int
 | [],n=>n
 | p :: l,n=>if 0 ≤ n then leftTs l (leftT p n) else n
end
theorem leftT_eq (p:Typ) (n:Int):leftT p n = leftTs p.l (n - 1):=by cases p;simp [leftT,Typ.l]
theorem leftTs_neg {l:List Typ} {n:Int} (h:¬ 0 ≤ n):leftTs l n = n:=by
 cases l with
 | nil=>rfl
 | cons p l=>rw [leftTs,if_neg h]
mutual
theorem leftT_le:∀ (p:Typ) (n:Int),0 ≤ n → -1 ≤ leftT p n ∧ leftT p n ≤ n - 1
 | .mk _ _ _ l,n,h=>by rw [leftT];exact leftTs_le l (n - 1) (by omega)
theorem leftTs_le:∀ (l:List Typ) (n:Int),-1 ≤ n → -1 ≤ leftTs l n ∧ leftTs l n ≤ n
 | [],n,h=>by rw [leftTs];omega
 | p :: l,n,h=>by
   rw [leftTs];split
   ·rename_i h0
    have h1:=leftT_le p n h0
    have h2:=leftTs_le l (leftT p n) h1.1
    omega
   ·omega
end
theorem leftTs_step {l:List Typ} {i:Nat} {n:Int} (hi:i < l.length) (hn:0 ≤ n):leftTs (l.drop i) n = leftTs (l.drop (i + 1)) (leftT l[i] n):=by
 rw [List.drop_eq_getElem_cons hi,leftTs,if_pos hn]
theorem leftTs_end {l:List Typ} {i:Nat} {n:Int} (hi:l.length ≤ i):leftTs (l.drop i) n = n:=by
 rw [List.drop_eq_nil_of_le hi,leftTs]

/-! ### how types are read -/
abbrev Str:=List UInt8

def strsC (l:List Str):C:=.sl (l.map fun s=>[C.str s])
structure Sent where
 k:Int
 names:List Str
 n:Int
 ty:Typ
 op:OpT
 body:Pre
 pos:Int
def Sent.v (s:Sent):V:=.agg [I s.k,.c (strsC s.names),I s.n,I s.ty.k,S s.ty.name,I s.ty.n,.c (tysC s.ty.l),S s.op.name,I s.op.prec,I s.op.fix,I s.body.k,S s.body.name,I s.body.n,.c (.sl (s.body.l.map Pre.cs)),I s.body.pos,I s.pos]
/-! ### what is read, without fuel -/

def arrowT (p:Typ):Bool:=p.k == 2 && p.l.length == 2
mutual
def validT:Typ → Bool
 | .mk k s n l=>(if k = 0 then isNameB s && n == 0 else if k = 1 then s == [] && decide (0 ≤ n) && decide (n ≤ 4611686018427387904) && l.length == 0 else if k = 2 then s == [] && n == 0 && l.length == 2 else false) && validTs l
def validTs:List Typ → Bool
 | []=>true
 | x :: l=>validT x && validTs l
end
def nodeT (p:Typ):Bool:=if p.k = 0 then isNameB p.name && p.n == 0 else if p.k = 1 then p.name == [] && decide (0 ≤ p.n) && decide (p.n ≤ 4611686018427387904) && p.l.length == 0 else if p.k = 2 then p.name == [] && p.n == 0 && p.l.length == 2 else false
theorem validTs_all:∀ (l:List Typ),validTs l = l.all validT
 | []=>by simp [validTs]
 | x :: l=>by rw [validTs,List.all_cons,validTs_all l]
theorem validT_eq (p:Typ):validT p = (nodeT p && p.l.all validT):=by
 cases p
 rw [validT,validTs_all]
 rfl
def arrows (l:List Typ) (u:Typ):Typ:=l.foldr Typ.arr u

def putL (s:Str) (b:Bool):Str:=if b then 40 :: (s ++ [41]) else s
def varL (n:Int):Str:=(UInt8.ofNat (65 + n % 26).toNat) :: (if 0 < n / 26 then Lib.itoa (n / 26) else [])
def manyT (p:Typ):Bool:=p.k != 1 && decide (0 < p.l.length)
mutual
def textT:Typ → Str
 | .mk k s n l=>if k = 1 then (if n < 0 then [63] else varL n) else if k = 2 ∧ l.length = 2 then textA l else Lib.join (s :: textTs l) [32]
def textTs:List Typ → List Str
 | []=>[]
 | x :: l=>putL (textT x) (manyT x) :: textTs l
def textA:List Typ → Str
 | []=>[]
 | x :: l=>putL (textT x) (arrowT x) ++ textB l
def textB:List Typ → Str
 | []=>[]
 | x :: _=>[32,45,62,32] ++ textT x
end
mutual
def sizeT:Typ → Nat
 | .mk k _ _ l=>if k = 1 then 1 else 1 + sizeTs l
def sizeTs:List Typ → Nat
 | []=>0
 | x :: l=>sizeT x + sizeTs l
end
theorem sizeT_eq (p:Typ):sizeT p = if p.k = 1 then 1 else 1 + sizeTs p.l:=by cases p;rw [sizeT];rfl
def varMax (n v:Int):Int:=if IntKind.i64.wrap ((if -1 > v then -1 else v) + 1) > n then IntKind.i64.wrap ((if -1 > v then -1 else v) + 1) else n
mutual
def varsT:Int → Typ → Int
 | m,.mk k _ n l=>if k = 1 then varMax m n else varsTs m l
def varsTs:Int → List Typ → Int
 | m,[]=>m
 | m,x :: l=>varsTs (varsT m x) l
end
theorem varsT_eq (m:Int) (p:Typ):varsT m p = if p.k = 1 then varMax m p.n else varsTs m p.l:=by cases p;rw [varsT];rfl
theorem varsTs_add:∀ (l r:List Typ) (m:Int),varsTs m (l ++ r) = varsTs (varsTs m l) r
 | [],r,m=>by rw [varsTs];rfl
 | x :: l,r,m=>by rw [List.cons_append,varsTs,varsTs,varsTs_add l r]
mutual
def noneT:Typ → Typ
 | .mk k s n l=>if k = 1 then .none else .mk (if k = 2 ∧ l.length = 2 then 2 else 0) (if k = 2 ∧ l.length = 2 then [] else s) 0 (noneTs l)
def noneTs:List Typ → List Typ
 | []=>[]
 | x :: l=>noneT x :: noneTs l
end
theorem noneTs_map:∀ l:List Typ,noneTs l = l.map noneT
 | []=>by simp [noneTs]
 | x :: l=>by rw [noneTs,noneTs_map l,List.map_cons]
theorem noneT_eq (p:Typ):noneT p = if p.k = 1 then .none else .mk (if arrowT p = true then 2 else 0) (if arrowT p = true then [] else p.name) 0 (p.l.map noneT):=by
 cases p
 rw [noneT,noneTs_map]
 simp only [Typ.k,Typ.l,Typ.name,arrowT,Bool.and_eq_true,beq_iff_eq]

def inI (n:Int):Prop:=-9223372036854775808 ≤ n ∧ n ≤ 9223372036854775807
inductive OkT:Typ → Prop where
 | mk {k:Int} {s:Str} {n:Int} {l:List Typ} (hk:inI k) (hn:inI n) (h:∀ x ∈ l,OkT x):OkT (.mk k s n l)
instance (n:Int):Decidable (inI n):=inferInstanceAs (Decidable (_ ∧ _))


def K.new (κ:K) (w w':World):K:={ κ with m:=fun b o=>if b < w.heap.size then κ.m b o else w'.cell? ⟨b,o,none⟩ }
section
variable {P:Program} {w0 w w':World} {κ:K} {σ:H}
theorem K.new_le (h:Rep w0 κ σ w):κ.le (κ.new w w'):=
 RV.same (fun b o v hm=>by
  show (if b < w.heap.size then _ else _) = _
  rw [if_pos (h.mem_lt hm)];exact hm) (Nat.le_refl _) (fun _ _=>rfl) (fun _ _=>rfl) (fun _ _=>rfl) (fun _ _=>rfl)
theorem Rep.new (h:Rep w0 κ σ w) (hb:Below w.heap.size w w'):Rep w0 (κ.new w w') σ w':=by
 have hle:κ.le (κ.new w w'):=K.new_le h
 have hg:=h.grow hb
 have hmo:∀ b o,b < w.heap.size → (κ.new w w').m b o = κ.m b o:=fun b o hlt=>by show (if b < w.heap.size then _ else _) = _;rw [if_pos hlt]
 refine ⟨h.n,hg.ext,fun b o v hm=>?_,fun b hb'=>?_,fun x y hx hy g hne=>h.apart x y hx hy g hne,fun l o hr=>hg.rest l o hr,hg.lim⟩
 ·rcases Nat.lt_or_ge b w.heap.size with hlt | hge
  ·rw [hmo b o hlt] at hm
   exact hg.mem b o v hm
  ·have hm':(if b < w.heap.size then κ.m b o else w'.cell? ⟨b,o,none⟩) = some v:=hm
   rw [if_neg (by omega)] at hm'
   exact hm'
 ·have h1:=hg.blk b hb'
  have hl:=fun g hg=>(h.lies_lt (g:=g) hb' hg).2
  cases hσ:σ[b] with
  | cells cs=>
    rw [hσ] at h1 hl;obtain ⟨vs,t,k1,k2,k3⟩:=h1.row;exact ⟨h1.fr,⟨vs,t,k1,k2,fun j hj=>⟨(k3 j hj).1,(k3 j hj).2.mono hle⟩⟩,h1.own,fun o=>(hmo _ o (hl _ rfl)).trans (h1.free o),h1.ty⟩
  | spare e size n=>
    rw [hσ] at h1 hl;exact ⟨h1.fr,h1.sz,h1.row,fun g hg' o ho=>(hmo g o (hl g hg')).trans (h1.free g hg' o ho)⟩
  | vec e size cs=>
    rw [hσ] at h1 hl;exact Blk.vecd.le h1 hle.m h1.fr rfl rfl (fun o=>(hmo _ o (hl _ rfl)).trans (h1.free o))
  | mp kvs=>
    rw [hσ] at h1 hl;exact Blk.mapped.le h1 hle.m h1.fr rfl (fun o=>(hmo _ o (hl _ rfl)).trans (h1.free o))
  | gone=>trivial
theorem K.new_at {b:Nat} (hb:w.heap.size ≤ b) (o:Nat):(κ.new w w').m b o = w'.cell? ⟨b,o,none⟩:=by
 show (if b < w.heap.size then _ else _) = _
 rw [if_neg (by omega)]
theorem DC.of_new {f:FuncId} {args:List V} {d:V} (hen:Enters P f) (h:∀ κ w vs,Rep w0 κ σ w → Fits κ args vs → Calls P f vs.toArray w (fun e w'=>∃ v,e = .returned v ∧ Below w.heap.size w w' ∧ RV (κ.new w w') d v)) :
  DC P w0 f args σ (Same d σ):=by
 refine ⟨hen,fun κ w vs hrep hfit=>(h κ w vs hrep hfit).mono ?_⟩
 rintro e w' ⟨v,he,hb,hv⟩
 exact ⟨v,d,σ,κ.new w w',he,⟨rfl,rfl⟩,K.new_le hrep,hrep.new hb,hv⟩
theorem Rep.ownNew (h0:Rep w0 κ σ w) (hb:Below w.heap.size w w') (e size:Nat) (v:Value) (hv:(∃ A,v = .slice A 0 0) ∨ w'.ownsRow w.heap.size e size v 0 []):Rep w0 (κ.own v size) (σ ++ [.spare e size 0]) w':=by
 have h:=h0.grow hb
 have hle:κ.le (κ.own v size):=K.own_le
 have fro:∀ b,b < σ.length → (κ.own v size).fr b = κ.fr b:=fun b hb=>by show (if b = κ.n then _ else _) = _;rw [if_neg (by rw [h.n];omega)]
 have svo:∀ b,b < σ.length → (κ.own v size).sv b = κ.sv b:=fun b hb=>by show (if b = κ.n then _ else _) = _;rw [if_neg (by rw [h.n];omega)]
 have szo:∀ b,b < σ.length → (κ.own v size).sz b = κ.sz b:=fun b hb=>by show (if b = κ.n then _ else _) = _;rw [if_neg (by rw [h.n];omega)]
 have frn:(κ.own v size).fr σ.length = some 0:=by show (if σ.length = κ.n then _ else _) = _;rw [if_pos h.n.symm]
 have svn:(κ.own v size).sv σ.length = v:=by show (if σ.length = κ.n then _ else _) = _;rw [if_pos h.n.symm]
 have szn:(κ.own v size).sz σ.length = size:=by show (if σ.length = κ.n then _ else _) = _;rw [if_pos h.n.symm]
 have hheld:∀ g,heldBy v = some g → w.heap.size ≤ g:=fun g hg=>by
  rcases hv with ⟨A,rfl⟩ | ho
  ·cases A <;> cases hg
  ·exact (ho.lt g (held_own hg)).1
 refine ⟨by show κ.n + 1 = _;rw [h.n];simp,h.ext,h.mem,fun b hb=>?_,fun x y hx hy g hne=>?_,fun l o hr=>⟨(h.rest l o hr).1,(h.rest l o hr).2.1,rest_push (κ:=κ) (fun b hb=>Blk.lies_same (κ:=κ) rfl (svo b hb)) (h.rest l o hr).2.2 (by simp only [Blk.lies];rw [svn];intro e;have:=hheld _ e;have:=(Array.getElem?_eq_some_iff.1 (h0.rest l o hr).1).1;omega)⟩,h.lim⟩
 ·rcases Nat.lt_or_ge b σ.length with hb' | hb'
  ·rw [List.getElem_append_left hb']
   exact Blk.is_le (κ:=κ) rfl hle rfl (fro b hb') (svo b hb') (szo b hb') (h.blk b hb')
  ·have hbe:b = σ.length:=by simp at hb;omega
   subst hbe;rw [List.getElem_append_right (Nat.le_refl _)];simp only [Nat.sub_self,List.getElem_cons_zero];refine ⟨frn,szn,?_,fun g hg o _=>?_⟩
   ·rw [svn]
    rcases hv with ⟨A,rfl⟩ | ho
    ·exact .inl ⟨rfl,A,rfl⟩
    ·refine .inr ⟨[],ho.1,?_⟩
     rcases ho.2 with h1 | ⟨g,cap,cur,q1,q2,q3⟩
     ·exact .inl h1
     ·exact .inr ⟨g,cap,cur,q1,Nat.le_trans h0.ext.size q2,q3⟩
   ·rw [svn] at hg
    exact h0.fresh (hheld g hg) o
 ·rcases Nat.lt_or_ge x σ.length with hx' | hx'
  ·rcases Nat.lt_or_ge y σ.length with hy' | hy'
   ·rw [List.getElem_append_left hx',List.getElem_append_left hy',Blk.lies_same (κ:=κ) (κ':=κ.own v size) rfl (svo x hx'),Blk.lies_same (κ:=κ) (κ':=κ.own v size) rfl (svo y hy')]
    exact h.apart x y hx' hy' g hne
   ·have hye:y = σ.length:=by simp at hy;omega
    subst hye;rw [List.getElem_append_left hx',List.getElem_append_right (Nat.le_refl _),Blk.lies_same (κ:=κ) (κ':=κ.own v size) rfl (svo x hx')];simp only [Nat.sub_self,List.getElem_cons_zero,Blk.lies];rw [svn];intro e1 e2
    have:=(h0.lies_lt hx' e1).2
    have:=hheld g e2
    omega
  ·have hxe:x = σ.length:=by simp at hx;omega
   subst hxe
   have hy':y < σ.length:=by simp at hy;omega
   rw [List.getElem_append_right (Nat.le_refl _),List.getElem_append_left hy',Blk.lies_same (κ:=κ) (κ':=κ.own v size) rfl (svo y hy')];simp only [Nat.sub_self,List.getElem_cons_zero,Blk.lies];rw [svn];intro e1 e2
   have:=(h0.lies_lt hy' e2).2
   have:=hheld g e1
   omega
theorem DC.of_room {f:FuncId} {args:List V} {e size:Nat} (hen:Enters P f) (h:∀ κ w vs,Rep w0 κ σ w → Fits κ args vs → Calls P f vs.toArray w (fun r w'=>∃ v,r = .returned v ∧ Below w.heap.size w w' ∧ ((∃ A,v = .slice A 0 0) ∨ w'.ownsRow w.heap.size e size v 0 []))) :
  DC P w0 f args σ (Same (.osl σ.length []) (σ ++ [.spare e size 0])):=by
 refine ⟨hen,fun κ w vs hrep hfit=>(h κ w vs hrep hfit).mono ?_⟩
 rintro r w' ⟨v,he,hb,hv⟩
 have hfr:(κ.own v size).fr σ.length = some 0:=by show (if σ.length = κ.n then _ else _) = _;rw [if_pos hrep.n.symm]
 have hsv:(κ.own v size).sv σ.length = v:=by show (if σ.length = κ.n then _ else _) = _;rw [if_pos hrep.n.symm]
 have hrc:RC (κ.own v size).m (.sl []) v:=by
  rcases hv with ⟨A,rfl⟩ | ho
  ·exact .sl [] 0 A 0 [] (by simp) (Nat.le_refl _) (Nat.zero_le _) (by simp) (fun h=>absurd rfl h) (fun i hi=>by simp at hi)
  ·rcases ho.2 with ⟨rfl,_⟩ | ⟨g,cap,cur,rfl,_,_,hc,hcm,_⟩
   ·exact RC.nil _
   ·exact .sl [] 0 _ cap [] (by simp) hc hcm (by simp) (fun h=>absurd rfl h) (fun i hi=>by simp at hi)
 exact ⟨v,.osl σ.length [],_,κ.own v size,he,⟨rfl,rfl⟩,K.own_le,hrep.ownNew hb e size v hv,.osl hrc (by show _ < κ.n + 1;rw [hrep.n];omega) hfr (Nat.le_refl _) (fun _=>hsv.symm) (by simp)⟩
theorem Lew.own {n0:Nat} {ρ:Env} (d e size:Nat) (hρ:ρ d = .csl []):Lew n0 ⟨ρ.put (some d) (.osl σ.length []),σ ++ [.spare e size 0]⟩ ⟨ρ,σ⟩:=fun w0 κ0 n κ a w hκ hR=>by
 have hrep:=hR.rep
 have hv:=hR.env d
 rw [show (⟨ρ,σ⟩:St).ρ d = ρ d from rfl,hρ] at hv
 generalize hx:a.tmps.getD d undef = v at hv
 cases hv with
 | csl h1=>
   rename_i A
   have hle:κ.le (κ.own (.slice A 0 0) size):=K.own_le
   have frn:(κ.own (.slice A 0 0) size).fr σ.length = some 0:=by show (if σ.length = κ.n then _ else _) = _;rw [if_pos hrep.n.symm]
   have svn:(κ.own (.slice A 0 0) size).sv σ.length = .slice A 0 0:=by show (if σ.length = κ.n then _ else _) = _;rw [if_pos hrep.n.symm]
   refine ⟨κ.own (.slice A 0 0) size,hrep.own e size A,fun k=>?_,hR.size,hR.defers,K.le_trans hR.le hle⟩
   show RV _ (Env.put ρ (some d) _ k) _
   rw [put_some]
   by_cases hk:k = d
   ·subst hk
    rw [if_pos rfl,hx];exact .osl (h1.mono hle.m) (by show _ < κ.n + 1;rw [hrep.n];exact Nat.lt_succ_self _) frn (Nat.le_refl _) (fun _=>svn.symm) (by simp)
   ·rw [if_neg hk]
    exact (hR.env k).mono hle
theorem W.own {n0:Nat} {Q:St → Prop} {k:List It} {ρ:Env} (d e size:Nat) (hρ:ρ d = .csl []) (h:W P w0 n0 Q k ⟨ρ.put (some d) (.osl σ.length []),σ ++ [.spare e size 0]⟩):W P w0 n0 Q k ⟨ρ,σ⟩:=.weak (Lew.own d e size hρ) h
end

section
variable {P:Program} {w0 w w':World} {κ:K} {σ:H}
theorem Rep.turn (h:Rep w0 κ σ w) {b j:Nat} {cs:List V} {tg:Option TypeId} {y:V} (hb:σ[b]? = some (.cells cs tg)) (hl:y.leaf = true)
  (hxy:∀ vs t,w.heap[κ.pos b]? = some (.cells vs t (0,0)) → ∀ (hj:j < cs.length),RV κ cs[j] (vs.getD j undef) → RV κ y (vs.getD j undef)):Rep w0 κ (σ.set b (.cells (cs.set j y) tg)) w:=by
 obtain ⟨hlt,hbe⟩:=List.getElem?_eq_some_iff.1 hb
 have key:∀ z (hz:z < σ.length) (hz':z < (σ.set b (.cells (cs.set j y) tg)).length) g,((σ.set b (.cells (cs.set j y) tg))[z]).lies κ z = some g → (σ[z]).lies κ z = some g:=fun z hz hz' g hg=>by
  by_cases hzb:z = b
  ·subst hzb
   rw [List.getElem_set_self] at hg;rw [hbe];exact hg
  ·rw [List.getElem_set_ne (fun e=>hzb e.symm)] at hg
   exact hg
 refine ⟨by rw [List.length_set];exact h.n,h.ext,h.mem,fun c hc=>?_,fun x z hx hz g hne=>?_,fun l o hr=>⟨(h.rest l o hr).1,(h.rest l o hr).2.1,fun z hz' e=>(h.rest l o hr).2.2 z (by simpa using hz') (key z (by simpa using hz') hz' l e)⟩,h.lim⟩
 ·have hc':c < σ.length:=by simpa using hc
  have h1:=h.blk c hc'
  by_cases hcb:c = b
  ·subst hcb
   rw [List.getElem_set_self];rw [hbe] at h1;obtain ⟨vs,t,k1,k2,k3⟩:=h1.row;refine ⟨h1.fr,⟨vs,t,k1,by rw [List.length_set];exact k2,fun i hi=>?_⟩,h1.own,h1.free,h1.ty⟩
   have hi':i < cs.length:=by simpa using hi
   by_cases hij:j = i
   ·subst hij
    rw [List.getElem_set_self];exact ⟨hl,hxy vs t k1 hi' (k3 j hi').2⟩
   ·rw [List.getElem_set_ne hij]
    exact k3 i hi'
  ·rw [List.getElem_set_ne (fun e=>hcb e.symm)]
   exact h1
 ·have hx':x < σ.length:=by simpa using hx
  have hz':z < σ.length:=by simpa using hz
  intro e1 e2;exact h.apart x z hx' hz' g hne (key x hx' hx g e1) (key z hz' hz g e2)
theorem Lew.ownCell {n0:Nat} {ρ:Env} (b j e size:Nat) {cs:List V} {tg:Option TypeId} (hb:σ[b]? = some (.cells cs tg)) (hj:cs[j]? = some (.csl [])) :
  Lew n0 ⟨ρ,(σ ++ [Blk.spare e size 0]).set b (.cells (cs.set j (.osl σ.length [])) tg)⟩ ⟨ρ,σ⟩:=fun w0 κ0 n κ a w hκ hR=>by
 have hrep:=hR.rep
 obtain ⟨hlt,hbe⟩:=List.getElem?_eq_some_iff.1 hb
 obtain ⟨hjl,hje⟩:=List.getElem?_eq_some_iff.1 hj
 have h1:=hrep.blk b hlt
 rw [show (⟨ρ,σ⟩:St).σ[b] = .cells cs tg from hbe] at h1
 obtain ⟨vs,t,k1,k2,k3⟩:=h1.row
 have hv:=(k3 j hjl).2
 rw [hje] at hv
 generalize hx:vs.getD j undef = v at hv
 cases hv with
 | csl hc=>
   rename_i A
   have hle:κ.le (κ.own (.slice A 0 0) size):=K.own_le
   have frn:(κ.own (.slice A 0 0) size).fr σ.length = some 0:=by show (if σ.length = κ.n then _ else _) = _;rw [if_pos hrep.n.symm]
   have svn:(κ.own (.slice A 0 0) size).sv σ.length = .slice A 0 0:=by show (if σ.length = κ.n then _ else _) = _;rw [if_pos hrep.n.symm]
   have hr2:=hrep.own e size A
   have hpos:(κ.own (.slice A 0 0) size).pos b = κ.pos b:=(hle.cells b (by rw [hrep.n];exact hlt) h1.fr).2
   refine ⟨κ.own (.slice A 0 0) size,hr2.turn (b:=b) (j:=j) (cs:=cs) (tg:=tg) (y:=.osl σ.length []) ((List.getElem?_append_left hlt).trans hb) rfl (fun vs' t' k1' hj' hv'=>?_),fun k=>(hR.env k).mono hle,hR.size,hR.defers,K.le_trans hR.le hle⟩
   rw [hpos,k1] at k1';injection k1' with k1'
   injection k1' with e1 e2
   subst e1;rw [hx];exact .osl (hc.mono hle.m) (by show _ < κ.n + 1;rw [hrep.n];exact Nat.lt_succ_self _) frn (Nat.le_refl _) (fun _=>svn.symm) (by simp)
theorem W.ownCell {n0:Nat} {Q:St → Prop} {k:List It} {ρ:Env} (b j e size:Nat) {cs:List V} {tg:Option TypeId} (hb:σ[b]? = some (.cells cs tg)) (hj:cs[j]? = some (.csl []))
 (h:W P w0 n0 Q k ⟨ρ,(σ ++ [Blk.spare e size 0]).set b (.cells (cs.set j (.osl σ.length [])) tg)⟩):W P w0 n0 Q k ⟨ρ,σ⟩:=.weak (Lew.ownCell b j e size hb hj) h
end

structure Two (σ:H) (b v:Nat):Prop where
 ne:b ≠ v
 lb:b < σ.length
 lv:v < σ.length
def rs (σ:H) (b v:Nat) (X Y:Blk):H:=(σ.set b X).set v Y
section
variable {σ:H} {b v:Nat}
@[simp] theorem rs_len (X Y:Blk):(rs σ b v X Y).length = σ.length:=by simp [rs]
theorem rs_sv (X Y Z:Blk):(rs σ b v X Y).set v Z = rs σ b v X Z:=by
 unfold rs
 rw [List.set_set]
theorem rs_g0 (x:Blk) (L:H) (X Y:Blk):(rs σ b v X Y ++ x :: L)[σ.length]? = some x:=by
 rw [List.getElem?_append_right (by simp),rs_len,Nat.sub_self];rfl
theorem rs_g (k:Nat) (L:H) (X Y:Blk):(rs σ b v X Y ++ L)[σ.length + k]? = L[k]?:=by
 rw [List.getElem?_append_right (by simp),rs_len,Nat.add_sub_cancel_left]
theorem rs_s0 (x:Blk) (L:H) (X Y:Blk):(rs σ b v X Y ++ L).set σ.length x = rs σ b v X Y ++ L.set 0 x:=by
 rw [List.set_append_right _ _ (by simp),rs_len,Nat.sub_self]
theorem rs_s (k:Nat) (x:Blk) (L:H) (X Y:Blk):(rs σ b v X Y ++ L).set (σ.length + k) x = rs σ b v X Y ++ L.set k x:=by
 rw [List.set_append_right _ _ (by simp),rs_len,Nat.add_sub_cancel_left]
end

def rz (σ:H) (b:Nat) (X:Blk):H:=σ.set b X
section
variable {σ:H} {b:Nat}
@[simp] theorem rz_len (X:Blk):(rz σ b X).length = σ.length:=by simp [rz]
theorem rz_app (D:b < σ.length) (L:H) (X:Blk):rz (σ ++ L) b X = rz σ b X ++ L:=List.set_append_left _ _ D
theorem rz_b (D:b < σ.length) (X:Blk):(rz σ b X)[b]? = some X:=List.getElem?_set_self D
theorem rz_bL (D:b < σ.length) (L:H) (X:Blk):(rz σ b X ++ L)[b]? = some X:=by
 rw [List.getElem?_append_left (by simpa using D),rz_b D]
theorem rz_sb (X Z:Blk):(rz σ b X).set b Z = rz σ b Z:=by unfold rz;rw [List.set_set]
theorem rz_sbL (D:b < σ.length) (L:H) (X Z:Blk):(rz σ b X ++ L).set b Z = rz σ b Z ++ L:=by
 rw [List.set_append_left _ _ (by simpa using D),rz_sb]
theorem rz_g0 (x:Blk) (L:H) (X:Blk):(rz σ b X ++ x :: L)[σ.length]? = some x:=by
 rw [List.getElem?_append_right (by simp),rz_len,Nat.sub_self];rfl
theorem rz_g (k:Nat) (L:H) (X:Blk):(rz σ b X ++ L)[σ.length + k]? = L[k]?:=by
 rw [List.getElem?_append_right (by simp),rz_len,Nat.add_sub_cancel_left]
theorem rz_s0 (x:Blk) (L:H) (X:Blk):(rz σ b X ++ L).set σ.length x = rz σ b X ++ L.set 0 x:=by
 rw [List.set_append_right _ _ (by simp),rz_len,Nat.sub_self]
theorem rz_s (k:Nat) (x:Blk) (L:H) (X:Blk):(rz σ b X ++ L).set (σ.length + k) x = rz σ b X ++ L.set k x:=by
 rw [List.set_append_right _ _ (by simp),rz_len,Nat.add_sub_cancel_left]
theorem rz_lt (D:b < σ.length) (L:H):b < (σ ++ L).length:=by simp;omega
theorem rz_ok (D:b < σ.length) {X X':Blk} (h:H.ok (rz σ b X)) (hx:∀ cs tg,X' = .cells cs tg → ∀ x ∈ cs,V.low σ.length x):H.ok (rz σ b X'):=by
 intro B hB cs tg hc x hxm
 rw [rz_len]
 obtain ⟨i,hi,rfl⟩:=List.getElem_of_mem hB
 have hi':i < σ.length:=by simpa using hi
 have hg:(rz σ b X')[i]? = some (.cells cs tg):=by rw [List.getElem?_eq_getElem hi,hc]
 by_cases hb:i = b
 ·subst hb
  rw [rz_b D] at hg;injection hg with hg
  exact hx cs tg hg x hxm
 ·have e:(rz σ b X)[i]? = some (.cells cs tg):=by
   rw [← hg];unfold rz;rw [List.getElem?_set_ne (fun e=>hb e.symm),List.getElem?_set_ne (fun e=>hb e.symm)]
  have:=h (.cells cs tg) (List.mem_of_getElem? e) cs tg rfl x hxm
  rwa [rz_len] at this
theorem rzA (D:b < σ.length):(∀ X:Blk,(rz σ b X)[b]? = some X) ∧ (∀ (L:H) (X:Blk),(rz σ b X ++ L)[b]? = some X) ∧ (∀ (L:H) (X Z:Blk),(rz σ b X ++ L).set b Z = rz σ b Z ++ L) ∧ (∀ (L:H) (X:Blk),rz (σ ++ L) b X = rz σ b X ++ L):=⟨rz_b D,rz_bL D,rz_sbL D,rz_app D⟩
theorem DC.lift1 {P:Program} {w0:World} {f:FuncId} {args:List V} {L:H} {X X':Blk} {d:V} (D:b < σ.length) (h:b < (σ ++ L).length → DC P w0 f args (rz (σ ++ L) b X) (Same d (rz (σ ++ L) b X'))):DC P w0 f args (rz σ b X ++ L) (Same d (rz σ b X' ++ L)):=by rw [← rz_app D,← rz_app D];exact h (rz_lt D L)
end
section
variable {P:Program} {w0:World} {σ:H}
def FinN (r:List ResV) (R:V → H → Prop) (s:St):Prop:=∃ vs d,resEval s r = some vs ∧ V.wk (resV vs) d ∧ R d s.σ
theorem DC.of_codeN {f:FuncId} {fn:Func} {x:AC} {r:List ResV} {args:List V} {R:V → H → Prop} (hm:P.follows .mixedOrders = true) (hf:P.funcs[f]? = some fn) (hb:fn.body = some (fn.body.getD .skip)) (htr:tr P fn.ntmps (fn.body.getD .skip) = some x)
  (hres:trRes P fn.results.toList = some r) (hargs:args.length ≤ fn.ntmps) (hen:Enters P f) (hW:H.ok σ → (∀ x ∈ args,V.Sz x) → W P w0 σ.length (FinN r R) [.code x] ⟨argEnv args,σ⟩):DC P w0 f args σ R:=by
 refine ⟨hen,fun κ w vs hrep hfit=>?_⟩
 refine calls_of_wp hf hb ?_
 have hR:Rel w0 κ fn.ntmps κ ⟨argEnv args,σ⟩ { tmps:=vs.toArray ++ Array.replicate (fn.ntmps - vs.toArray.size) undef,defers:=[] } w:=
  ⟨hrep,argEnv_ok hfit _,by simp [hfit.1];omega,rfl,K.le_refl κ⟩
 have hfin:∀ s κ' a w,Rel w0 κ fn.ntmps κ' s a w → FinN r R s → a.defers = [] ∧ ∃ v,(results fn a.tmps).run P w = .ok v w ∧ ∃ v' d σ' κ'',Ending.returned v = .returned v' ∧ R d σ' ∧ κ.le κ'' ∧ Rep w0 κ'' σ' w ∧ RV κ'' d v':=by
  rintro s κ' a w hR' ⟨vs,d,h1,h2,h3⟩;obtain ⟨v,k1,k2⟩:=results_ok hR' hres h1;exact ⟨hR'.defers,v,k1,v,d,s.σ,κ',rfl,h3,hR'.le,hR'.rep,k2.wk h2⟩
 refine wp_mono (code_sound (n0:=σ.length) hrep.n hm (fn.body.getD .skip) x htr (hW hrep.ok hfit.sz) hR) ?_
 rintro e a w' ⟨s,κ',hR',hs⟩
 cases e with
 | normal=>
   obtain ⟨t,hl,hq⟩:=W.inv_done hs;obtain ⟨κ2,hR2⟩:=hl w0 κ fn.ntmps κ' a w' hrep.n hR';exact hfin t κ2 a w' hR2 hq
 | ret=>exact hfin s κ' a w' hR' hs
 | exit id=>obtain ⟨k',hp,_⟩:=hs;cases hp
 | goto l=>exact hs.elim
 | panic ch=>exact hs.elim
 | outgrown=>exact hs.elim
theorem CodeIs.goN {f:FuncId} {n:Nat} {fn:Func} {x:AC} {r:List ResV} (K:CodeIs P f n fn x r) {args:List V} {R:V → H → Prop} (ha:args.length = n) (h:H.ok σ → (∀ x ∈ args,V.Sz x) → W P w0 σ.length (FinN r R) [.code x] ⟨argEnv args,σ⟩):DC P w0 f args σ R:=
 DC.of_codeN K.hm K.hf K.hb K.htr K.hres (by rw [ha];exact K.hn) K.en h
end

structure KdT where
 name:Str
 n:Int
structure NmT where
 name:Str
 ty:Typ
structure Sg where
 kinds:List KdT
 types:List NmT
 ops:List OpT
def KdT.cs (x:KdT):List C:=[.str x.name,.int .i64 x.n]
def KdT.v (x:KdT):V:=.agg [S x.name,I x.n]
def NmT.cs (x:NmT):List C:=[.str x.name,.int .i64 x.ty.k,.str x.ty.name,.int .i64 x.ty.n,tysC x.ty.l]
def NmT.v (x:NmT):V:=.agg [S x.name,I x.ty.k,S x.ty.name,I x.ty.n,.c (tysC x.ty.l)]
def NmT.none:NmT:=⟨[],.none⟩
def kdsC (l:List KdT):C:=.sl (l.map KdT.cs)
def nmsC (l:List NmT):C:=.sl (l.map NmT.cs)
def Sg.v (s:Sg):V:=.agg [.c (kdsC s.kinds),.c (nmsC s.types),.c (opsC s.ops)]
def findN (l:List NmT) (name:Str):Option NmT:=l.find? (·.name == name)
def logicals:List Str:=[[58,45],[44],[59],[61,62],[61],[105,115],[60],[61,60],[62],[62,61],[116,114,117,101],[102,97,105,108],[33],[112,105],[115,105,103,109,97]]




section
variable {t t':List Tok} {K m:Nat}
end

section
variable {t t':List Tok}
end




def nodeM (p:Typ):Bool:=
 if p.k = 0 then (isNameB p.name || isSymB p.name) && p.n == 0 && p.l.length == 0
 else if p.k = 1 then decide (p.n ≥ 1) && p.name == [] && p.l.length == 0
 else if p.k = 2 then p.name == [] && p.l.length == 0
 else if p.k = 3 then decide (p.n ≥ 0) && decide (p.n ≤ 4611686018427387904) && p.name == [] && p.l.length == 0
 else if p.k = 4 then decide (p.n ≥ 0) && decide (p.n ≤ 4611686018427387904) && p.name == [] && p.l.length == 0
 else if p.k = 5 then p.n == 0 && p.name == [] && p.l.length == 1
 else if p.k = 6 then p.n == 0 && decide (2 ≤ p.l.length) && (p.l.headD .none).k != 6 && p.name == []
 else false
mutual
def validM:Typ → Bool
 | .mk k s n l=>nodeM (.mk k s n l) && validMs l
def validMs:List Typ → Bool
 | []=>true
 | x :: l=>validM x && validMs l
end
theorem validMs_all:∀ (l:List Typ),validMs l = l.all validM
 | []=>by simp [validMs]
 | x :: l=>by rw [validMs,List.all_cons,validMs_all l]
theorem validM_eq (p:Typ):validM p = (nodeM p && p.l.all validM):=by
 cases p
 rw [validM,validMs_all]
 rfl
mutual
def nearM (m:Int):Typ → Bool
 | .mk k _ n l=>(k == 2 || !(decide (n > m) || decide (n < -m))) && nearMs m l
def nearMs (m:Int):List Typ → Bool
 | []=>true
 | x :: l=>nearM m x && nearMs m l
end
theorem nearMs_all (m:Int):∀ (l:List Typ),nearMs m l = l.all (nearM m)
 | []=>by simp [nearMs]
 | x :: l=>by rw [nearMs,List.all_cons,nearMs_all m l]
theorem nearM_eq (m:Int) (p:Typ):nearM m p = ((p.k == 2 || !(decide (p.n > m) || decide (p.n < -m))) && p.l.all (nearM m)):=by
 cases p
 rw [nearM,nearMs_all]
 rfl
theorem allUpto {α:Type} {p:α → Bool} {l:List α} {i:Nat} (h:∀ j (hj:j < l.length),j < i → p l[j] = true) (hi:l.length ≤ i):l.all p = true:=by
 rw [List.all_eq_true]
 intro x hx
 obtain ⟨j,hj,rfl⟩:=List.getElem_of_mem hx
 exact h j hj (by omega)
theorem allNo {α:Type} {p:α → Bool} {l:List α} {i:Nat} (hi:i < l.length) (h:p l[i] = false):l.all p = false:=by
 rw [List.all_eq_false]
 exact ⟨l[i],List.getElem_mem hi,by rw [h];simp⟩
theorem headM_at {l:List Typ} (h:0 < l.length):l.headD .none = l[0]:=by
 cases l with
 | nil=>simp at h
 | cons x l=>rfl


section
variable {α:Type} (g:α → Int → Typ × α)
end
def iadd (vs:List Int) (v:Int):List Int:=if (vs.findIdx? (· == v)).isSome then vs else vs ++ [v]

/-! ### a variable's name -/
/-! ### a type's tokens -/
theorem V.ren_low {ι:Nat → Nat} {n m:Nat} (hid:∀ b,b < n → ι b = b) (hnm:n ≤ m) {x:V} (h:V.low n x):V.ren ι m x x:=by
 induction h with
 | void=>exact .void
 | any=>exact .any
 | c x=>exact .c x
 | @ptr b o h=>have:=V.ren.ptr (ι:=ι) (m:=m) (j:=b) (o:=o) (by omega);rwa [hid b h] at this
 | @osl b r h=>have:=V.ren.osl (ι:=ι) (m:=m) (j:=b) (r:=r) (by omega);rwa [hid b h] at this
 | csl r=>exact .csl r
 | fn h ih=>exact .fn rfl fun k hk hk'=>ih _ (List.getElem_mem hk)
 | nilf=>exact .nilf
 | @mp b h=>have:=V.ren.mp (ι:=ι) (m:=m) (j:=b) (by omega);rwa [hid b h] at this
 | nilm=>exact .nilm
 | @vec b k h=>have:=V.ren.vec (ι:=ι) (m:=m) (j:=b) (k:=k) (by omega);rwa [hid b h] at this
 | agg h ih=>exact .agg rfl fun k hk hk'=>ih _ (List.getElem_mem hk)
 | tup h ih=>exact .tup rfl fun k hk hk'=>ih _ (List.getElem_mem hk)
theorem Blk.ren_low {ι:Nat → Nat} {n m:Nat} (hid:∀ b,b < n → ι b = b) (hnm:n ≤ m) {B:Blk} (h:∀ cs tg,B = .cells cs tg → ∀ x ∈ cs,V.low n x):Blk.ren ι m B B:=by
 cases B with
 | cells cs tg=>exact .cells rfl fun k hk hk'=>V.ren_low hid hnm (h cs tg rfl _ (List.getElem_mem hk))
 | spare e s n=>exact .spare e s n
 | mp l=>exact .mp l
 | vec e s cs=>exact .vec e s cs
 | gone=>exact .gone
def RoomP (σ:H) (e size n:Nat) (rows:List (List C)) (c:Int) (v:V) (τ:H):Prop:=∃ L L2,v = .tup [.osl (σ.length + L.length) rows,.c (.int .i64 c)] ∧ τ = σ ++ (L ++ .spare e size n :: L2)
section
variable {P:Program} {w0:World} {f:FuncId} {args:List V} {σ:H}
theorem DC.room {e size n:Nat} {rows:List (List C)} {c:Int} (hd:DC P w0 f args σ (RoomP σ e size n rows c)):DC P w0 f args σ (Same (.tup [.osl σ.length rows,.c (.int .i64 c)]) (σ ++ [.spare e size n])):=by
 refine ⟨hd.enters,fun κ w vs hrep hfit=>(hd.run κ w vs hrep hfit).mono ?_⟩
 rintro e' w' ⟨v,d0,σ0,κ',rfl,⟨L,L2,rfl,rfl⟩,h3,h4,h5⟩
 have hok:=hrep.ok
 obtain ⟨ι,hid,hend⟩:∃ ι:Nat → Nat,(∀ b,b < σ.length → ι b = b) ∧ ι σ.length = σ.length + L.length:=
  ⟨fun j=>if j < σ.length then j else σ.length + L.length,fun b hb=>if_pos hb,if_neg (Nat.lt_irrefl _)⟩
 have hcase:∀ j,j < σ.length + 1 → j < σ.length ∨ j = σ.length:=fun j h=>by omega
 refine ⟨v,_,_,κ'.pack ι (σ.length + 1),rfl,⟨rfl,rfl⟩,K.pack_le h3 (fun b hb=>hid b (by rw [← hrep.n];exact hb)) (by rw [hrep.n];omega),h4.pack (fun j hj=>?_) (fun i j hi hj hij=>?_) (by simp) (fun j hj hj' hι=>?_),h5.pack ?_⟩
 ·rcases hcase j hj with h | rfl
  ·rw [hid j h];simp;omega
  ·rw [hend];simp
 ·rcases hcase i hi with h | rfl <;> rcases hcase j hj with k | rfl
  ·rwa [hid i h,hid j k] at hij
  ·rw [hid i h,hend] at hij;omega
  ·rw [hid j k,hend] at hij;omega
  ·rfl
 ·rcases hcase j hj with h | rfl
  ·have e1:(σ ++ (L ++ Blk.spare e size n :: L2))[ι j] = σ[j]:=by
    rw [List.getElem_eq_iff,hid j h,List.getElem?_append_left h,List.getElem?_eq_getElem h]
   have e2:(σ ++ [Blk.spare e size n])[j] = σ[j]:=List.getElem_append_left h
   rw [e1,e2];exact Blk.ren_low hid (Nat.le_succ _) (fun cs tg hc x hx=>hok _ (List.getElem_mem h) cs tg hc x hx)
  ·have e1:(σ ++ (L ++ Blk.spare e size n :: L2))[ι σ.length] = Blk.spare e size n:=by
    rw [List.getElem_eq_iff,hend,List.getElem?_append_right (by omega),Nat.add_sub_cancel_left,List.getElem?_append_right (Nat.le_refl _),Nat.sub_self]
    rfl
   have e2:(σ ++ [Blk.spare e size n])[σ.length] = Blk.spare e size n:=by simp
   rw [e1,e2];exact .spare _ _ _
 ·refine .tup rfl fun k hk hk'=>?_
  match k,hk,hk' with
  | 0,_,_=>
    have:=V.ren.osl (ι:=ι) (m:=σ.length + 1) (j:=σ.length) (r:=rows) (by omega)
    rw [hend] at this;exact this
  | 1,_,_=>exact .c _
theorem DC.less {d d':V} {L:H} (h:DC P w0 f args σ (Same d (σ ++ L))) (hw:V.wk d d') (hl:V.low σ.length d'):DC P w0 f args σ (Same d' σ):=by
 refine ⟨h.enters,fun κ w vs hrep hfit=>(h.run κ w vs hrep hfit).mono ?_⟩
 rintro e w' ⟨v,d0,σ0,κ',rfl,⟨rfl,rfl⟩,h3,h4,h5⟩
 have h6:=h4.cut σ.length (by simp) (by rw [List.take_left];exact hrep.ok)
 rw [List.take_left] at h6
 exact ⟨v,d',σ,κ'.cut σ.length,rfl,⟨rfl,rfl⟩,K.cut_le h3 (by rw [hrep.n];exact Nat.le_refl _),h6,(RV.wk hw h5).cut hl⟩
end

abbrev inR (l:Nat):Fence:=Fence.wide.inRound l
def Op.plain:Op → Bool
 | .defer _=>false
 | _=>true
section
variable {P:Program} {l m:Nat} {Q:Exit → Act → World → Prop} {a:Act} {w:World}
theorem callsR {f:FuncId} {args:Array Value} {R:Ending → World → Prop} (h:Calls P f args w R):CallsIn (inR l) m P f args w R:=CallsIn.inRound l (callsIn_wide.2 h)
theorem rowsR {row:String} {args:Array Value} {R:Value → World → Prop} (h:Rows P row args w R):RowsIn (inR l) m P row args w R:=fun c cs _=>let ⟨v,w',r,s⟩:=h c cs;⟨v,w',r,stepsIn_wide.2 s⟩
theorem operR {o:Oper} {next next':Act → World → Prop} (hd:Op.plain o.op = true) (hn:∀ a w,next a w → next' a w) (h:o.wp P a w next Q):o.wpIn (inR l) m P a w next' Q:=by
 refine ⟨fun f _=>trivial,?_⟩
 rw [show (inR l).round = some l from rfl,Oper.semAt_some l _ _ (fun c e=>by rw [e] at hd;cases hd)]
 unfold Oper.wp at h
 generalize (execOp a.eval o).run P w = r at h
 cases r with
 | ok x w'=>
   cases x <;> simp only [Oper.upon,Oper.uponIn] at h ⊢ <;>
    first
     | exact hn _ _ h
     | exact ⟨fun e=>(by cases e),callsR (h.mono fun e w'' he=>by cases e <;> first | exact hn _ _ he | exact he)⟩
     | exact ⟨fun e=>(by cases e),rowsR (h.mono fun _ _ he=>hn _ _ he)⟩
     | exact h.elim
     | exact h
 | halt x w'=>cases x <;> simp only [Oper.upon,Oper.uponIn] at h ⊢ <;> first | exact h | exact h.elim
theorem anyR {ops:Array Oper} (hlo:¬ LetsOut Q) (hp:∀ o ∈ ops,Op.plain o.op = true):∀ {fuel:Nat} {listed:Array Bool} {a:Act} {w:World},wpAny P .any ops Q fuel listed a w → wpAnyIn (inR l) m P .any ops Q fuel listed a w
 | 0,listed,a,w,h=>h
 | fuel + 1,listed,a,w,h=>by
   unfold wpAny at h;unfold wpAnyIn;refine ⟨h.1,fun i hi=>?_⟩
   have h:=h.2 i hi
   have ih:∀ a w,wpAny P .any ops Q fuel (listed.setIfInBounds i true) a w → wpAnyIn (inR l) m P .any ops Q fuel (listed.setIfInBounds i true) a w:=fun a w h=>anyR hlo hp h
   unfold wpOp at h;unfold wpOpIn;split
   ·rename_i ho
    rw [ho] at h;exact ih _ _ h
   ·rename_i o ho
    rw [ho] at h;simp only at h;split
    ·rename_i hw
     rw [if_pos hw] at h;exact operR (hp o (Array.mem_of_getElem? ho)) ih (h.resolve_right fun e=>hlo e.2)
    ·rename_i hw
     rw [if_neg hw] at h;exact ⟨fun f _=>trivial,ih _ _ h⟩
end
section
variable {P:Program} {w0 w w':World} {κ κ0:K} {σ σ':H} {a:Act} {ρ ρ':Env} {n n0:Nat} {Q:St → Prop} {s:St} {l m:Nat}
end

section
variable {P:Program} {w0 w w':World} {κ:K} {σ:H}
/-! ### any blocks -/
end


def unTs (f:List C → Option Typ):List (List C) → Option (List Typ)
 | []=>some []
 | r :: l=>match f r with
   | none=>none
   | some x=>match unTs f l with
     | none=>none
     | some y=>some (x :: y)
def unT:Nat → List C → Option Typ
 | 0,_=>none
 | d + 1,cs=>match cs with
   | [.int .i64 k,.str s,.int .i64 n,.sl rows]=>match unTs (unT d) rows with
     | none=>none
     | some l=>some (.mk k s n l)
   | _=>none
theorem unTs_eq {f:List C → Option Typ} (hf:∀ r x,f r = some x → r = x.cs):∀ {l:List (List C)} {y:List Typ},unTs f l = some y → l = y.map Typ.cs
 | [],y,h=>by injection h with h;subst h;rfl
 | r :: l,y,h=>by
   unfold unTs at h;split at h
   ·cases h
   ·rename_i x hx
    split at h
    ·cases h
    ·rename_i z hz
     injection h with h
     subst h;rw [List.map_cons,← unTs_eq hf hz,← hf r x hx]
theorem unT_eq:∀ {d:Nat} {cs:List C} {t:Typ},unT d cs = some t → cs = t.cs
 | 0,_,_,h=>by cases h
 | d + 1,cs,t,h=>by
   unfold unT at h;split at h
   ·rename_i k s n rows
    split at h
    ·cases h
    ·rename_i l hl
     injection h with h
     subst h;rw [Typ.cs_eq,tk_mk,tname_mk,tn_mk,tl_mk,unTs_eq (fun r x=>unT_eq) hl]
   ·cases h
def unO:List (List C) → Option (List OpT)
 | []=>some []
 | r :: l=>match r with
   | [.str s,.int .i64 p,.int .i64 f]=>match unO l with
     | none=>none
     | some y=>some (⟨s,p,f⟩ :: y)
   | _=>none
theorem unO_eq:∀ {l:List (List C)} {y:List OpT},unO l = some y → l = y.map OpT.cs
 | [],y,h=>by injection h with h;subst h;rfl
 | r :: l,y,h=>by
   unfold unO at h;split at h
   ·split at h
    ·cases h
    ·rename_i z hz
     injection h with h
     subst h;rw [List.map_cons,← unO_eq hz]
     rfl
   ·cases h
def cells1 (v:V):Option (List C):=toCs v.cellsV

def rfour (σ:H) (b:Nat) (X Y Z U:Blk):H:=(((σ.set b X).set (b + 1) Y).set (b + 2) Z).set (b + 3) U
section
variable {σ:H} {b:Nat}
@[simp] theorem rf_len (X Y Z U:Blk):(rfour σ b X Y Z U).length = σ.length:=by simp [rfour]
theorem rf_g0 (x:Blk) (L:H) (X Y Z U:Blk):(rfour σ b X Y Z U ++ x :: L)[σ.length]? = some x:=by
 rw [List.getElem?_append_right (by simp),rf_len,Nat.sub_self];rfl
theorem rf_g (k:Nat) (L:H) (X Y Z U:Blk):(rfour σ b X Y Z U ++ L)[σ.length + k]? = L[k]?:=by
 rw [List.getElem?_append_right (by simp),rf_len,Nat.add_sub_cancel_left]
theorem rf_t0 (x:Blk) (L:H) (X Y Z U:Blk):(rfour σ b X Y Z U ++ L).set σ.length x = rfour σ b X Y Z U ++ L.set 0 x:=by
 rw [List.set_append_right _ _ (by simp),rf_len,Nat.sub_self]
theorem rf_t (k:Nat) (x:Blk) (L:H) (X Y Z U:Blk):(rfour σ b X Y Z U ++ L).set (σ.length + k) x = rfour σ b X Y Z U ++ L.set k x:=by
 rw [List.set_append_right _ _ (by simp),rf_len,Nat.add_sub_cancel_left]
end

section
variable {P:Program} {w0 w:World} {κ:K} {σ:H}
end
def orX (g:FuncId) (e:List V → H → Option (V × H)) (r:Caller):Caller:=fun f as_ σ=>cond (Nat.beq f g) (e as_ σ) (r f as_ σ)
def noX:Caller:=fun _ _ _=>none
theorem noX_ok {P:Program} {w0:World}:Caller.Ok P w0 noX:=fun _ _ _ _ _ h=>by cases h
theorem orX_ok {P:Program} {w0:World} {g:FuncId} {e:List V → H → Option (V × H)} {r:Caller} (he:∀ as_ σ v σ',e as_ σ = some (v,σ') → DC P w0 g as_ σ (Same v σ')) (hr:Caller.Ok P w0 r):Caller.Ok P w0 (orX g e r):=by
 intro f as_ σ v σ' h
 unfold orX at h
 cases hb:Nat.beq f g with
 | true=>
   rw [hb] at h
   have:=Nat.eq_of_beq_eq_true hb
   subst this;exact he _ _ _ _ h
 | false=>
   rw [hb] at h;exact hr _ _ _ _ _ h
def altX (e1 e2:List V → H → Option (V × H)):List V → H → Option (V × H):=fun as_ σ=>match e1 as_ σ with
 | some r=>some r
 | none=>e2 as_ σ
theorem altX_ok {P:Program} {w0:World} {f:FuncId} {e1 e2:List V → H → Option (V × H)} (h1:∀ as_ σ v σ',e1 as_ σ = some (v,σ') → DC P w0 f as_ σ (Same v σ')) (h2:∀ as_ σ v σ',e2 as_ σ = some (v,σ') → DC P w0 f as_ σ (Same v σ')) (as_:List V) (σ:H) (v:V) (σ':H) (h:altX e1 e2 as_ σ = some (v,σ')):DC P w0 f as_ σ (Same v σ'):=by
 unfold altX at h
 split at h
 ·rename_i r hr
  injection h with h
  subst h;exact h1 _ _ _ _ hr
 ·exact h2 _ _ _ _ h
def anyOf:List Nat → Nat → Bool
 | [],_=>false
 | a :: l,f=>cond (Nat.beq f a) true (anyOf l f)
end Go.Lamb
