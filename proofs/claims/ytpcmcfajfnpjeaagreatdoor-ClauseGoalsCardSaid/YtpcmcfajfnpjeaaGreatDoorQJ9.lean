/- . -/
import Derived.Test.YtpcmcfajfnpjeaaGreatDoorQLexSpec
import Derived.Laws.OwnMore
import Derived.Laws.AppendOwn
import Derived.Laws.IdiomCopy
import Derived.WalkKit
import Derived.Lib.Hide
import Derived.RangeFuncOwn
import Derived.Laws.Cells
import Derived.MapKept
import Derived.Laws.BytesString
import Derived.Laws.StructEq
import Derived.Laws.Tables
set_option linter.unusedSimpArgs false
set_option linter.unusedVariables false
set_option maxHeartbeats 8000000
set_option maxRecDepth 20000
namespace Go.Lamb
open Go Go.RowKit

inductive C where
 | bool (b:Bool)
 | int (k:IntKind) (n:Int)
 | str (l:List UInt8)
 | sl (rows:List (List C))
 | nilp
 | ref (cs:List C) (o:Nat)
 | nili
 | err
 deriving Inhabited

abbrev Mem:=Nat → Nat → Option Value

inductive RC (m:Mem):C → Value → Prop where
 | bool (b:Bool):RC m (.bool b) (.bool b)
 | int (k:IntKind) (n:Int):RC m (.int k n) (.int k n)
 | str (l:List UInt8) (h:l.length ≤ maxLen):RC m (.str l) (.string (bs l))
 | sl (rows:List (List C)) (s:Nat) (A:Option Addr) (cap:Nat) (xs:List Value) (h0:∀ r ∈ rows,r.length = s) (h1:rows.length ≤ cap) (h2:cap ≤ maxLen)
    (h3:xs.length = rows.length * s) (h4:rows ≠ [] → ∃ b o,A = some ⟨b,o,none⟩ ∧ ∀ k,k < xs.length → m b (o + k) = xs[k]?)
    (h5:∀ i (hi:i < rows.length) j (hj:j < rows[i].length),RC m rows[i][j] (xs.getD (i * s + j) undef)):RC m (.sl rows) (.slice A rows.length cap)
 | nilp:RC m .nilp (.pointer none)
 | ref (cs:List C) (o b p:Nat) (xs:List Value) (h3:xs.length = cs.length) (h4:∀ k,k < xs.length → m b (p + k) = xs[k]?)
    (h5:∀ j (hj:j < cs.length),RC m cs[j] (xs.getD j undef)):RC m (.ref cs o) (.pointer (some ⟨b,p + o,none⟩))
 | nili:RC m .nili .nilIface
 | err (t:TypeId) (v:Value):RC m .err (.iface t v)

def Mem.le (m m':Mem):Prop:=∀ b o v,m b o = some v → m' b o = some v
theorem Mem.le_refl (m:Mem):m.le m:=fun _ _ _ h=>h
theorem Mem.le_trans {a b c:Mem} (h:a.le b) (k:b.le c):a.le c:=fun x y v e=>k x y v (h x y v e)
theorem Mem.le_at {m m':Mem} (h:m.le m') {b o:Nat} {xs:List Value} (hm:∀ k,k < xs.length → m b (o + k) = xs[k]?):∀ k,k < xs.length → m' b (o + k) = xs[k]?:=by
 intro k hk
 have:=hm k hk
 rw [List.getElem?_eq_getElem hk] at this ⊢
 exact h _ _ _ this
theorem RC.mono {m m':Mem} (h:m.le m') {x:C} {v:Value} (r:RC m x v):RC m' x v:=by
 induction r with
 | bool b=>exact .bool b
 | int k n=>exact .int k n
 | str l h=>exact .str l h
 | sl rows s A cap xs h0 h1 h2 h3 h4 h5 ih=>
   exact .sl rows s A cap xs h0 h1 h2 h3 (fun hn=>let ⟨b,o,hA,hm⟩:=h4 hn;⟨b,o,hA,Mem.le_at h hm⟩) ih
 | nilp=>exact .nilp
 | ref cs o b p xs h3 h4 h5 ih=>exact .ref cs o b p xs h3 (Mem.le_at h h4) ih
 | nili=>exact .nili
 | err t v=>exact .err t v
theorem RC.one {m:Mem} {x:C} {v:Value} (r:RC m x v):v.oneCell' = true:=by cases r <;> rfl
theorem RC.nil (m:Mem):RC m (.sl []) (.slice none 0 0):=
 .sl [] 0 none 0 [] (by simp) (Nat.le_refl _) (Nat.zero_le _) (by simp) (by simp) (by simp)

structure K where
 m:Mem
 n:Nat
 pos:Nat → Nat
 fr:Nat → Option Nat
 sv:Nat → Value
 sz:Nat → Nat
 rest:Nat → Option Obj:=fun _=>none
 lim:Nat:=0

inductive V where
 | void
 | any
 | c (x:C)
 | ptr (b o:Nat)
 | osl (b:Nat) (rows:List (List C))
 | csl (rows:List (List C))
 | fn (f:FuncId) (caps:List V)
 | nilf
 | mp (b:Nat)
 | nilm
 | vec (b k:Nat)
 | agg (vs:List V)
 | tup (vs:List V)
 deriving Inhabited

inductive RV (κ:K):V → Value → Prop where
 | void:RV κ .void undef
 | any (v:Value):RV κ .any v
 | c {x:C} {v:Value} (h:RC κ.m x v):RV κ (.c x) v
 | ptr {b o:Nat} (h:b < κ.n) (h1:κ.fr b = none):RV κ (.ptr b o) (.pointer (some ⟨κ.pos b,o,none⟩))
 | osl {b f:Nat} {rows:List (List C)} {v:Value} (h:RC κ.m (.sl rows) v) (h1:b < κ.n) (h2:κ.fr b = some f) (h3:rows.length ≤ f) (h4:rows.length = f → v = κ.sv b) (h5:∀ r ∈ rows,r.length = κ.sz b):RV κ (.osl b rows) v
 | csl {rows:List (List C)} {A:Option Addr} (h:RC κ.m (.sl rows) (.slice A rows.length rows.length)):RV κ (.csl rows) (.slice A rows.length rows.length)
 | fn {f:FuncId} {caps:List V} {vs:List Value} (h:vs.length = caps.length) (h1:∀ j (hj:j < caps.length),RV κ caps[j] (vs.getD j undef)):RV κ (.fn f caps) (.func (.func f) #[] vs.toArray)
 | nilf:RV κ .nilf .nilFunc
 | mp {b:Nat} (h:b < κ.n) (h1:κ.fr b = none):RV κ (.mp b) (.map (some (κ.pos b)))
 | nilm:RV κ .nilm (.map none)
 | vec {b k n cap:Nat} (h:b < κ.n) (h1:κ.fr b = none) (h2:κ.sv b = .slice (some ⟨κ.pos b,0,none⟩) n cap) (h3:k ≤ n) (h4:n ≤ cap) (h5:cap ≤ maxLen):RV κ (.vec b k) (.slice (some ⟨κ.pos b,0,none⟩) k cap)
 | agg {vs:List V} {xs:List Value} (h:xs.length = vs.length) (h1:∀ j (hj:j < vs.length),RV κ vs[j] (xs.getD j undef)):RV κ (.agg vs) (.agg xs.toArray)
 | tup {vs:List V} {xs:List Value} (h:xs.length = vs.length) (h1:∀ j (hj:j < vs.length),RV κ vs[j] (xs.getD j undef)):RV κ (.tup vs) (.tuple xs.toArray)

structure K.le (κ κ':K):Prop where
 m:κ.m.le κ'.m
 n:κ.n ≤ κ'.n
 cells:∀ b,b < κ.n → κ.fr b = none → κ'.fr b = none ∧ κ'.pos b = κ.pos b
 spare:∀ b f,b < κ.n → κ.fr b = some f → ∃ f',κ'.fr b = some f' ∧ f ≤ f' ∧ (f' = f → κ'.sv b = κ.sv b) ∧ κ'.sz b = κ.sz b
 svs:∀ b,b < κ.n → κ.fr b = none → κ'.sv b = κ.sv b
 rest:κ'.rest = κ.rest
 lim:κ'.lim = κ.lim
theorem K.le_refl (κ:K):κ.le κ:=⟨Mem.le_refl _,Nat.le_refl _,fun _ _ h=>⟨h,rfl⟩,fun _ f _ h=>⟨f,h,Nat.le_refl _,fun _=>rfl,rfl⟩,fun _ _ _=>rfl,rfl,rfl⟩
theorem K.le_trans {a b c:K} (h:a.le b) (k:b.le c):a.le c:=by
 refine ⟨Mem.le_trans h.m k.m,Nat.le_trans h.n k.n,fun i hi hf=>?_,fun i f hi hf=>?_,fun i hi hf=>(k.svs i (by have:=h.n;omega) (h.cells i hi hf).1).trans (h.svs i hi hf),k.rest.trans h.rest,k.lim.trans h.lim⟩
 ·obtain ⟨h1,h2⟩:=h.cells i hi hf
  obtain ⟨k1,k2⟩:=k.cells i (by have:=h.n;omega) h1
  exact ⟨k1,k2.trans h2⟩
 ·obtain ⟨f1,h1,h2,h3,h4⟩:=h.spare i f hi hf
  obtain ⟨f2,k1,k2,k3,k4⟩:=k.spare i f1 (by have:=h.n;omega) h1
  refine ⟨f2,k1,by omega,fun e=>?_,k4.trans h4⟩
  have e1:f1 = f:=by omega
  have e2:f2 = f1:=by omega
  exact (k3 e2).trans (h3 e1)
theorem RV.mono {κ κ':K} (h:κ.le κ') {x:V} {v:Value} (r:RV κ x v):RV κ' x v:=by
 induction r with
 | void=>exact .void
 | any v=>exact .any v
 | c h0=>exact .c (h0.mono h.m)
 | ptr h0 h1=>
   obtain ⟨k1,k2⟩:=h.cells _ h0 h1;rw [← k2];exact .ptr (by have:=h.n;omega) k1
 | osl h0 h1 h2 h3 h4 h5=>
   obtain ⟨f',k1,k2,k3,k4⟩:=h.spare _ _ h1 h2;refine .osl (h0.mono h.m) (by have:=h.n;omega) k1 (by omega) (fun e=>?_) (by rw [k4];exact h5)
   have e1:f' = _:=(show f' = _ from by have:f' ≤ _:=e ▸ h3;exact Nat.le_antisymm this k2)
   rw [k3 e1];exact h4 (by omega)
 | csl h0=>exact .csl (h0.mono h.m)
 | fn h0 h1 ih=>exact .fn h0 ih
 | nilf=>exact .nilf
 | mp h0 h1=>
   obtain ⟨k1,k2⟩:=h.cells _ h0 h1;rw [← k2];exact .mp (by have:=h.n;omega) k1
 | nilm=>exact .nilm
 | vec h0 h1 h2 h3 h4 h5=>
   obtain ⟨k1,k2⟩:=h.cells _ h0 h1
   have k3:=h.svs _ h0 h1
   rw [← k2];rw [← k2] at h2;exact .vec (by have:=h.n;omega) k1 (k3.trans h2) h3 h4 h5
 | agg h0 h1 ih=>exact .agg h0 ih
 | tup h0 h1 ih=>exact .tup h0 ih

def V.leaf:V → Bool
 | .c _ | .ptr .. | .osl .. | .csl .. | .fn .. | .nilf | .mp _ | .nilm | .vec ..=>true
 | _=>false
theorem RV.one {κ:K} {x:V} {v:Value} (r:RV κ x v) (h:x.leaf = true):v.oneCell' = true:=by
 cases r with
 | c h=>exact h.one
 | osl h=>exact h.one
 | void | any | agg | tup=>cases h
 | ptr | csl | fn | nilf | mp | nilm | vec=>rfl

inductive V.wk:V → V → Prop where
 | rfl (x:V):V.wk x x
 | any (x:V):V.wk x .any
 | osl (b:Nat) (rows:List (List C)):V.wk (.osl b rows) (.c (.sl rows))
 | csl (rows:List (List C)):V.wk (.csl rows) (.c (.sl rows))
 | agg {vs us:List V} (h:us.length = vs.length) (h1:∀ j (hj:j < vs.length) (hj':j < us.length),V.wk vs[j] us[j]):V.wk (.agg vs) (.agg us)
 | tup {vs us:List V} (h:us.length = vs.length) (h1:∀ j (hj:j < vs.length) (hj':j < us.length),V.wk vs[j] us[j]):V.wk (.tup vs) (.tup us)
theorem RV.wk {κ:K} {x y:V} {v:Value} (h:V.wk x y) (r:RV κ x v):RV κ y v:=by
 induction h generalizing v with
 | rfl x=>exact r
 | any x=>exact .any v
 | osl b rows=>cases r with | osl h=>exact .c h
 | csl rows=>cases r with | csl h=>exact .c h
 | agg h h1 ih=>cases r with | agg k k1=>exact .agg (by omega) fun j hj=>ih j (by omega) hj (k1 j (by omega))
 | tup h h1 ih=>cases r with | tup k k1=>exact .tup (by omega) fun j hj=>ih j (by omega) hj (k1 j (by omega))

def V.toC:V → Option C
 | .c x=>some x
 | .osl _ rows=>some (.sl rows)
 | .csl rows=>some (.sl rows)
 | _=>none
theorem RV.toC {κ:K} {x:V} {y:C} {v:Value} (r:RV κ x v) (h:x.toC = some y):RC κ.m y v:=by
 cases r with
 | c h0=>simp only [V.toC] at h;injection h with h;subst h;exact h0
 | osl h0=>simp only [V.toC] at h;injection h with h;subst h;exact h0
 | csl h0=>simp only [V.toC] at h;injection h with h;subst h;exact h0
 | _=>cases h

inductive V.low (n:Nat):V → Prop where
 | void:V.low n .void
 | any:V.low n .any
 | c (x:C):V.low n (.c x)
 | ptr {b o:Nat} (h:b < n):V.low n (.ptr b o)
 | osl {b:Nat} {rows:List (List C)} (h:b < n):V.low n (.osl b rows)
 | csl (rows:List (List C)):V.low n (.csl rows)
 | fn {f:FuncId} {caps:List V} (h:∀ x ∈ caps,V.low n x):V.low n (.fn f caps)
 | nilf:V.low n .nilf
 | mp {b:Nat} (h:b < n):V.low n (.mp b)
 | nilm:V.low n .nilm
 | vec {b k:Nat} (h:b < n):V.low n (.vec b k)
 | agg {vs:List V} (h:∀ x ∈ vs,V.low n x):V.low n (.agg vs)
 | tup {vs:List V} (h:∀ x ∈ vs,V.low n x):V.low n (.tup vs)

def K.cut (κ:K) (n:Nat):K:={ κ with n:=n }
theorem RV.cut {κ:K} {n:Nat} {x:V} {v:Value} (h:V.low n x) (r:RV κ x v):RV (κ.cut n) x v:=by
 induction r with
 | void=>exact .void
 | any v=>exact .any v
 | c h0=>exact .c h0
 | ptr h0 h1=>cases h with | ptr hb=>exact .ptr (κ:=κ.cut n) hb h1
 | osl h0 h1 h2 h3 h4 h5=>cases h with | osl hb=>exact .osl (κ:=κ.cut n) h0 hb h2 h3 h4 h5
 | csl h0=>exact .csl h0
 | fn h0 h1 ih=>cases h with | fn hc=>exact .fn h0 fun j hj=>ih j hj (hc _ (List.getElem_mem hj))
 | nilf=>exact .nilf
 | mp h0 h1=>cases h with | mp hb=>exact .mp (κ:=κ.cut n) hb h1
 | nilm=>exact .nilm
 | vec h0 h1 h2 h3 h4 h5=>cases h with | vec hb=>exact .vec (κ:=κ.cut n) hb h1 h2 h3 h4 h5
 | agg h0 h1 ih=>cases h with | agg hc=>exact .agg h0 fun j hj=>ih j hj (hc _ (List.getElem_mem hj))
 | tup h0 h1 ih=>cases h with | tup hc=>exact .tup h0 fun j hj=>ih j hj (hc _ (List.getElem_mem hj))
theorem RV.low {κ:K} {x:V} {v:Value} (r:RV κ x v):V.low κ.n x:=by
 induction r with
 | void=>exact .void
 | any v=>exact .any
 | c h0=>exact .c _
 | ptr h0 h1=>exact .ptr h0
 | osl h0 h1 h2 h3 h4 h5=>exact .osl h1
 | csl h0=>exact .csl _
 | fn h0 h1 ih=>exact .fn fun x hx=>by obtain ⟨j,hj,rfl⟩:=List.getElem_of_mem hx;exact ih j hj
 | nilf=>exact .nilf
 | mp h0 h1=>exact .mp h0
 | nilm=>exact .nilm
 | vec h0=>exact .vec h0
 | agg h0 h1 ih=>exact .agg fun x hx=>by obtain ⟨j,hj,rfl⟩:=List.getElem_of_mem hx;exact ih j hj
 | tup h0 h1 ih=>exact .tup fun x hx=>by obtain ⟨j,hj,rfl⟩:=List.getElem_of_mem hx;exact ih j hj

inductive Blk where
 | cells (cs:List V) (tg:Option TypeId:=none)
 | spare (e:TypeId) (size n:Nat)
 | mp (kvs:List (C × C))
 | vec (e:TypeId) (size:Nat) (cs:List C)
 | gone
 deriving Inhabited
abbrev H:=List Blk

def heldBy:Value → Option Nat
 | .slice (some a) _ (_ + 1)=>some a.block
 | _=>none
theorem held_own {v:Value} {g:Nat} (h:heldBy v = some g):v.ownBlock = some g:=by
 unfold heldBy at h
 split at h
 ·exact h
 ·cases h
theorem held_row {w:World} {base e size n g:Nat} {v:Value} {xs:List Value} (h:w.ownsRow base e size v n xs) (hn:0 < n) (hg:v.ownBlock = some g):heldBy v = some g:=by
 rcases h.2 with ⟨_,h0⟩ | ⟨b,cap,cur,rfl,_,_,hc,_⟩
 ·omega
 ·cases cap with
  | zero=>omega
  | succ c=>exact hg
def Blk.lies (κ:K) (b:Nat):Blk → Option Nat
 | .cells _ _=>some (κ.pos b)
 | .spare _ _ _=>heldBy (κ.sv b)
 | .mp _=>some (κ.pos b)
 | .vec _ _ _=>some (κ.pos b)
 | .gone=>none

structure Blk.rep (w0:World) (κ:K) (w:World) (b:Nat) (cs:List V) (tg:Option TypeId):Prop where
 fr:κ.fr b = none
 row:∃ vs t,w.heap[κ.pos b]? = some (.cells vs t (0,0)) ∧ vs.size = cs.length ∧ ∀ j (hj:j < cs.length),cs[j].leaf = true ∧ RV κ cs[j] (vs.getD j undef)
 own:w0.heap.size ≤ κ.pos b
 free:∀ o,κ.m (κ.pos b) o = none
 ty:∀ T,tg = some T → ∃ vs,w.heap[κ.pos b]? = some (.cells vs T (0,0))
structure Blk.spared (w0:World) (κ:K) (w:World) (b:Nat) (e:TypeId) (size n:Nat):Prop where
 fr:κ.fr b = some n
 sz:κ.sz b = size
 row:(n = 0 ∧ ∃ A,κ.sv b = .slice A 0 0) ∨ (∃ xs,w.ownsRow w0.heap.size e size (κ.sv b) n xs)
 free:∀ g,heldBy (κ.sv b) = some g → ∀ o,n * size ≤ o → κ.m g o = none
structure Blk.mapped (w0:World) (κ:K) (w:World) (b:Nat) (kvs:List (C × C)):Prop where
 fr:κ.fr b = none
 row:∃ es clock,w.heap[κ.pos b]? = some (.map es clock) ∧ es.toList.length = kvs.length ∧ ∀ j (hj:j < kvs.length) (hj':j < es.toList.length),RC κ.m kvs[j].1 (es.toList[j]).key ∧ RC κ.m kvs[j].2 (es.toList[j]).val
 own:w0.heap.size ≤ κ.pos b
 free:∀ o,κ.m (κ.pos b) o = none
theorem Blk.mapped.le {w0 w:World} {κ κ':K} {b:Nat} {kvs:List (C × C)} (h:Blk.mapped w0 κ w b kvs) (hm:κ.m.le κ'.m) (hf:κ'.fr b = none) (hp:κ'.pos b = κ.pos b) (hfree:∀ o,κ'.m (κ.pos b) o = none):Blk.mapped w0 κ' w b kvs:=by
 obtain ⟨es,clock,h1,h2,h3⟩:=h.row
 exact ⟨hf,⟨es,clock,by rw [hp];exact h1,h2,fun j hj hj'=>⟨(h3 j hj hj').1.mono hm,(h3 j hj hj').2.mono hm⟩⟩,by rw [hp];exact h.own,by rw [hp];exact hfree⟩
structure Blk.vecd (w0:World) (κ:K) (w:World) (b:Nat) (e size:Nat) (cs:List C):Prop where
 fr:κ.fr b = none
 row:∃ vs n cap,κ.sv b = .slice (some ⟨κ.pos b,0,none⟩) n cap ∧ w.heap[κ.pos b]? = some (.cells vs e (0,0)) ∧ cs.length = n * size ∧ n ≤ cap ∧ cap ≤ maxLen ∧ vs.size = cap * size ∧ ∀ j (hj:j < cs.length),RC κ.m cs[j] (vs.getD j undef)
 own:w0.heap.size ≤ κ.pos b
 free:∀ o,κ.m (κ.pos b) o = none
theorem Blk.vecd.le {w0 w:World} {κ κ':K} {b e size:Nat} {cs:List C} (h:Blk.vecd w0 κ w b e size cs) (hm:κ.m.le κ'.m) (hf:κ'.fr b = none) (hp:κ'.pos b = κ.pos b) (hs:κ'.sv b = κ.sv b) (hfree:∀ o,κ'.m (κ.pos b) o = none):Blk.vecd w0 κ' w b e size cs:=by
 obtain ⟨vs,n,cap,h1,h2,h3,h4,h5,h6,h7⟩:=h.row
 exact ⟨hf,⟨vs,n,cap,by rw [hs,hp];exact h1,by rw [hp];exact h2,h3,h4,h5,h6,fun j hj=>(h7 j hj).mono hm⟩,by rw [hp];exact h.own,by rw [hp];exact hfree⟩
theorem Blk.vecd.lt {w0 w:World} {κ:K} {b e size:Nat} {cs:List C} (h:Blk.vecd w0 κ w b e size cs) {j:Nat} (hj:j < cs.length) {vs:Array Value} (hv:w.heap[κ.pos b]? = some (.cells vs e (0,0))):j < vs.size:=by
 obtain ⟨vs',n,cap,h1,h2,h3,h4,h5,h6,h7⟩:=h.row
 rw [hv] at h2
 injection h2 with h2
 injection h2 with h2
 subst h2
 have:=Nat.mul_le_mul_right size h4
 omega
def Blk.is (w0:World) (κ:K) (w:World) (b:Nat):Blk → Prop
 | .cells cs tg=>Blk.rep w0 κ w b cs tg
 | .spare e size n=>Blk.spared w0 κ w b e size n
 | .mp kvs=>Blk.mapped w0 κ w b kvs
 | .vec e size cs=>Blk.vecd w0 κ w b e size cs
 | .gone=>True

structure Rep (w0:World) (κ:K) (σ:H) (w:World):Prop where
 n:κ.n = σ.length
 ext:Below w0.heap.size w0 w
 mem:∀ b o v,κ.m b o = some v → w.cell? ⟨b,o,none⟩ = some v
 blk:∀ b (h:b < σ.length),(σ[b]).is w0 κ w b
 apart:∀ a b (ha:a < σ.length) (hb:b < σ.length) g,a ≠ b → (σ[a]).lies κ a = some g → (σ[b]).lies κ b ≠ some g
 rest:∀ l o,κ.rest l = some o → w.heap[l]? = some o ∧ o.isCells = false ∧ ∀ b (hb:b < σ.length),(σ[b]).lies κ b ≠ some l
 lim:κ.lim ≤ w.heap.size

theorem V.low_mono {n n':Nat} (h:n ≤ n') {x:V} (r:V.low n x):V.low n' x:=by
 induction r with
 | void=>exact .void
 | any=>exact .any
 | c x=>exact .c x
 | ptr h0=>exact .ptr (by omega)
 | osl h0=>exact .osl (by omega)
 | csl r=>exact .csl r
 | fn h0 ih=>exact .fn ih
 | nilf=>exact .nilf
 | mp h0=>exact .mp (by omega)
 | nilm=>exact .nilm
 | vec h0=>exact .vec (by omega)
 | agg h0 ih=>exact .agg ih
 | tup h0 ih=>exact .tup ih
def H.ok (σ:H):Prop:=∀ b ∈ σ,∀ cs tg,b = .cells cs tg → ∀ x ∈ cs,V.low σ.length x
theorem Rep.ok {w0 w:World} {κ:K} {σ:H} (h:Rep w0 κ σ w):H.ok σ:=by
 intro b hb cs tg hc x hx
 obtain ⟨i,hi,rfl⟩:=List.getElem_of_mem hb
 have:=h.blk i hi
 rw [hc] at this
 obtain ⟨vs,t,_,_,hr⟩:=this.row
 obtain ⟨j,hj,rfl⟩:=List.getElem_of_mem hx
 rw [← h.n]
 exact (hr j hj).2.low
theorem Rep.cut {w0 w:World} {κ:K} {σ:H} (h:Rep w0 κ σ w) (n:Nat) (hn:n ≤ σ.length) (hok:H.ok (σ.take n)):Rep w0 (κ.cut n) (σ.take n) w:=by
 have hl:(σ.take n).length = n:=by simp [hn]
 refine ⟨by rw [hl];rfl,h.ext,h.mem,fun b hb=>?_,fun a b ha hb g hne=>?_,fun l o hr=>⟨(h.rest l o hr).1,(h.rest l o hr).2.1,fun b hb=>by simp only [List.getElem_take];exact (h.rest l o hr).2.2 b (by omega)⟩,h.lim⟩
 ·have hb':b < σ.length:=by omega
  have hg:(σ.take n)[b] = σ[b]:=List.getElem_take
  have:=h.blk b hb'
  have hmem:(σ.take n)[b] ∈ σ.take n:=List.getElem_mem hb
  rw [hg] at hmem ⊢
  cases hσ:σ[b] with
  | cells cs tg=>
    rw [hσ] at this hmem;obtain ⟨vs,t,h1,h2,h3⟩:=this.row;refine ⟨this.fr,⟨vs,t,h1,h2,fun j hj=>⟨(h3 j hj).1,(h3 j hj).2.cut ?_⟩⟩,this.own,this.free,this.ty⟩
    have:=hok _ hmem cs tg rfl cs[j] (List.getElem_mem hj)
    rwa [hl] at this
  | spare e size k=>
    rw [hσ] at this;exact ⟨this.fr,this.sz,this.row,this.free⟩
  | mp kvs=>
    rw [hσ] at this;exact ⟨this.fr,this.row,this.own,this.free⟩
  | vec e size cs=>
    rw [hσ] at this;exact ⟨this.fr,this.row,this.own,this.free⟩
  | gone=>trivial
 ·simp only [List.getElem_take]
  exact h.apart a b (by omega) (by omega) g hne
theorem K.cut_le {κ κ':K} {n:Nat} (h:κ.le κ') (hn:κ.n ≤ n):κ.le (κ'.cut n):=⟨h.m,hn,h.cells,h.spare,h.svs,h.rest,h.lim⟩

abbrev Env:=Nat → V
inductive Opd where
 | t (n:Nat)
 | k (v:V)
 deriving Inhabited
def Opd.ev (ρ:Env):Opd → V
 | .t n=>ρ n
 | .k v=>v

inductive KD where
 | b
 | i (k:IntKind)
 | s
 deriving Inhabited
def keyD:TypeDesc → Option KD
 | .bool=>some .b
 | .int k=>some (.i k)
 | .string=>some .s
 | _=>none
def KD.ok:KD → C → Bool
 | .b,.bool _=>true
 | .i k,.int k' _=>k' == k
 | .s,.str _=>true
 | _,_=>false
def eqK:C → C → Bool
 | .bool a,.bool b=>a == b
 | .int _ a,.int _ b=>a == b
 | .str a,.str b=>a == b
 | _,_=>false
def findC (k:C):List (C × C) → Option C
 | []=>none
 | (x,v) :: l=>if eqK k x then some v else findC k l
def updC (k v:C):List (C × C) → List (C × C)
 | []=>[(k,v)]
 | (x,u) :: l=>if eqK k x then (k,v) :: l else (x,u) :: updC k v l
def lookV (ok:Bool) (z:C) (r:Option C):V:=if ok then .tup [.c (r.getD z),.c (.bool r.isSome)] else .c (r.getD z)
inductive Ins where
 | mov (x:Opd)
 | pick (c a b:Opd)
 | box (x:Opd) (tg:Option TypeId:=none)
 | build (zero:List V) (parts:List (Nat × Nat × Opd))
 | bsl (size:Nat) (parts:List Opd)
 | load1 (x:Opd)
 | loadn (n:Nat) (x:Opd)
 | store (n:Nat) (x y:Opd)
 | nilck (x:Opd)
 | bin (op:BinOp) (x y:Opd)
 | eqb (neg:Bool) (x y:Opd)
 | eqn (neg:Bool) (k:Nat) (x:Opd)
 | eqs (neg:Bool) (ks:List Nat) (x y:Opd)
 | un (op:UnOp) (x:Opd)
 | conv (k:IntKind) (x:Opd)
 | mkfn (f:FuncId) (caps:List Opd)
 | strc (x:Opd)
 | b2s (x:Opd)
 | sls (x:Opd) (lo hi:Option Opd)
 | slr (size:Nat) (x:Opd) (lo hi mx:Option Opd)
 | fadd (off:Nat) (x:Opd)
 | field1 (off:Nat) (x:Opd)
 | fieldn (off n:Nat) (x:Opd)
 | iadd (size:Nat) (x i:Opd)
 | index (x i:Opd)
 | ext (x:Opd) (i:Nat)
 | lens (x:Opd)
 | lenr (x:Opd)
 | app (e:TypeId) (size bytes:Nat) (x y:Opd)
 | appS (e:TypeId) (bytes:Nat) (x y:Opd)
 | mx (x y:Opd)
 | mn (x y:Opd)
 | eqz (neg:Bool) (x:Opd)
 | mkmap
 | mkvec (e:TypeId) (bytes:Nat) (z:C) (x:Opd)
 | look (ok:Bool) (q:KD) (z:C) (x k:Opd)
 | mupd (q:KD) (x k y:Opd)
 | lenm (x:Opd)
 | call (f:Opd) (args:List Opd)
 | bad
 deriving Inhabited

def V.cellsV:V → List V
 | .agg vs=>vs
 | x=>[x]
def leaves (l:List V):Bool:=l.all V.leaf
def toCs:List V → Option (List C)
 | []=>some []
 | x :: l=>match x.toC,toCs l with
   | some a,some r=>some (a :: r)
   | _,_=>none
def cellsAt (σ:H):V → Option (List V × Nat)
 | .ptr b o=>match σ[b]? with
   | some (.cells cs _)=>some (cs,o)
   | some (.vec _ _ cs)=>some (cs.map .c,o)
   | _=>none
 | .c (.ref cs o)=>some (cs.map .c,o)
 | _=>none
def V.rows:V → Option (List (List C))
 | .c (.sl r)=>some r
 | .osl _ r=>some r
 | .csl r=>some r
 | _=>none
def V.sub (lo mx:Option Opd):V → Option (Nat × Nat)
 | .vec b k=>match lo,mx with
   | none,none=>some (b,k)
   | _,_=>none
 | _=>none
def bytesC:List (List C) → Option (List UInt8)
 | []=>some []
 | [.int .u8 n] :: r=>match bytesC r with
   | some l=>some (UInt8.ofNat n.toNat :: l)
   | none=>none
 | _ :: _=>none
def fillV (ρ:Env):List V → List (Nat × Nat × Opd) → Option (List V)
 | cs,[]=>some cs
 | cs,(off,size,x) :: l=>
   if leaves (x.ev ρ).cellsV = true ∧ (x.ev ρ).cellsV.length = size ∧ off + size ≤ cs.length then fillV ρ (cs.take off ++ (x.ev ρ).cellsV ++ cs.drop (off + size)) l else none
def rowsV (ρ:Env) (size:Nat):List Opd → Option (List (List C))
 | []=>some []
 | x :: l=>match toCs (x.ev ρ).cellsV,rowsV ρ size l with
   | some a,some r=>if a.length = size then some (a :: r) else none
   | _,_=>none
def boundV (ρ:Env) (n:Nat):Option Opd → Option Nat
 | none=>some n
 | some x=>match x.ev ρ with
   | .c (.int _ i)=>if 0 ≤ i ∧ i ≤ n then some i.toNat else none
   | _=>none
def boundL (ρ:Env) (n:Nat):Option Opd → Option Nat
 | none=>some 0
 | some x=>match x.ev ρ with
   | .c (.int _ i)=>if 0 ≤ i ∧ i ≤ n then some i.toNat else none
   | _=>none

def binInt (op:BinOp) (k:IntKind) (a b:Int):Option C:=
 match op with
 | .add=>some (.int k (k.wrap (a + b)))
 | .sub=>some (.int k (k.wrap (a - b)))
 | .mul=>some (.int k (k.wrap (a * b)))
 | .quo=>if b = 0 then none else some (.int k (k.wrap (a.tdiv b)))
 | .rem=>if b = 0 then none else some (.int k (a.tmod b))
 | .eql=>some (.bool (a == b))
 | .neq=>some (.bool (a != b))
 | .lss=>some (.bool (a < b))
 | .leq=>some (.bool (a ≤ b))
 | .gtr=>some (.bool (a > b))
 | .geq=>some (.bool (a ≥ b))
 | _=>none
def binStr (op:BinOp) (a b:List UInt8):Option C:=
 match op with
 | .add=>if a.length + b.length ≤ 9223372036854775807 then some (.str (a ++ b)) else none
 | .eql=>some (.bool (a == b))
 | .neq=>some (.bool (!(a == b)))
 | .lss=>some (.bool (Op.bytesLess a b))
 | _=>none
def binV (op:BinOp):V → V → Option V
 | .c (.int k a),.c (.int k' b)=>if k = k' then (binInt op k a b).map .c else none
 | .c (.str a),.c (.str b)=>(binStr op a b).map .c
 | _,_=>none
def V.isNil:Nat → V → Option Bool
 | 0,.c .nilp=>some true
 | 0,.ptr ..=>some false
 | 0,.c (.ref ..)=>some false
 | 1,.c .nili=>some true
 | 1,.c .err=>some false
 | 2,.nilf=>some true
 | 2,.fn ..=>some false
 | _,_=>none
def eqC:Nat → C → C → Option Bool
 | 0,.bool a,.bool b=>some (a == b)
 | 1,.int k a,.int k' b=>if k = k' then some (a == b) else none
 | 2,.str a,.str b=>some (a == b)
 | _,_,_=>none
def eqL:List Nat → List V → List V → Option Bool
 | [],[],[]=>some true
 | k :: ks,.c x :: l,.c y :: r=>match eqC k x y,eqL ks l r with
   | some a,some b=>some (a && b)
   | _,_=>none
 | _,_,_=>none

def byteRows (l:List UInt8):List (List C):=l.map fun b=>[.int .u8 b.toNat]
def appV (e:TypeId) (size bytes:Nat) (x:V) (news:List (List C)) (σ:H):Option (V × H):=match x with
 | .vec b k=>match news with
   | []=>some (.vec b k,σ)
   | _ :: _=>match σ[b]? with
   | some (.vec e' size' cs)=>if e' = e ∧ size' = size ∧ k * size ≤ cs.length ∧ news ≠ [] ∧ (∀ r ∈ news,r.length = size) ∧ (k + news.length) * bytes ≤ 140737488355328 ∧ k + news.length ≤ 140737488355328 then
      some (.vec σ.length (k + news.length),σ.set b .gone ++ [.vec e size (cs.take (k * size) ++ news.flatten)]) else none
   | _=>none
 | .osl b rows=>match σ[b]? with
   | some (.spare e' size' n)=>if e' = e ∧ size' = size ∧ rows.length = n ∧ (∀ r ∈ news,r.length = size) ∧ (n + news.length) * bytes ≤ 140737488355328 ∧ n + news.length ≤ 140737488355328 then
      some (.osl b (rows ++ news),σ.set b (.spare e size (n + news.length))) else none
   | _=>none
 | .csl olds=>if (olds = [] ∨ news ≠ []) ∧ (∀ r ∈ olds,r.length = size) ∧ (∀ r ∈ news,r.length = size) ∧ (olds.length + news.length) * bytes ≤ 140737488355328 ∧ olds.length + news.length ≤ 140737488355328 then
    some (.osl σ.length (olds ++ news),σ ++ [.spare e size (olds.length + news.length)]) else none
 | _=>none
def step (ρ:Env) (σ:H):Ins → Option (V × H)
 | .mov x=>some (x.ev ρ,σ)
 | .pick c a b=>match c.ev ρ with
   | .c (.bool t)=>some (if t then a.ev ρ else b.ev ρ,σ)
   | _=>none
 | .box x tg=>if leaves (x.ev ρ).cellsV then some (.ptr σ.length 0,σ ++ [.cells (x.ev ρ).cellsV tg]) else none
 | .build zero parts=>match fillV ρ zero parts with
   | some cs=>some (.agg cs,σ)
   | none=>none
 | .bsl size parts=>match rowsV ρ size parts with
   | some rows=>some (.csl rows,σ)
   | none=>none
 | .load1 x=>match cellsAt σ (x.ev ρ) with
   | some (cs,o)=>match cs[o]? with
     | some u=>some (u,σ)
     | none=>none
   | none=>none
 | .loadn n x=>match cellsAt σ (x.ev ρ) with
   | some (cs,o)=>if o + n ≤ cs.length then some (.agg ((cs.drop o).take n),σ) else none
   | none=>none
 | .store n x y=>match x.ev ρ with
   | .ptr b o=>match σ[b]? with
     | some (.cells cs tg)=>if (y.ev ρ).cellsV.length = n ∧ o + n ≤ cs.length ∧ leaves (y.ev ρ).cellsV = true then some (.void,σ.set b (.cells (cs.take o ++ (y.ev ρ).cellsV ++ cs.drop (o + n)) tg)) else none
     | some (.vec e size cs)=>match toCs (y.ev ρ).cellsV with
       | some ys=>if ys.length = n ∧ o + n ≤ cs.length then some (.void,σ.set b (.vec e size (cs.take o ++ ys ++ cs.drop (o + n)))) else none
       | none=>none
     | _=>none
   | _=>none
 | .nilck x=>match x.ev ρ with
   | .ptr b o=>some (.ptr b o,σ)
   | .c (.ref cs o)=>some (.c (.ref cs o),σ)
   | .fn f caps=>some (.fn f caps,σ)
   | _=>none
 | .bin op x y=>match binV op (x.ev ρ) (y.ev ρ) with
   | some v=>some (v,σ)
   | none=>none
 | .eqb neg x y=>match x.ev ρ,y.ev ρ with
   | .c (.bool p),.c (.bool q)=>some (.c (.bool (if neg then !(p == q) else p == q)),σ)
   | _,_=>none
 | .eqn neg k x=>match (x.ev ρ).isNil k with
   | some p=>some (.c (.bool (if neg then !p else p)),σ)
   | none=>none
 | .eqs neg ks x y=>match x.ev ρ,y.ev ρ with
   | .agg xs,.agg ys=>match eqL ks xs ys with
     | some p=>some (.c (.bool (if neg then !p else p)),σ)
     | none=>none
   | _,_=>none
 | .un op x=>match op,x.ev ρ with
   | .not,.c (.bool b)=>some (.c (.bool (!b)),σ)
   | .neg,.c (.int k n)=>some (.c (.int k (k.wrap (0 - n))),σ)
   | _,_=>none
 | .conv k x=>match x.ev ρ with
   | .c (.int _ n)=>some (.c (.int k (k.wrap n)),σ)
   | _=>none
 | .mkfn f caps=>some (.fn f (caps.map (·.ev ρ)),σ)
 | .strc x=>match x.ev ρ with
   | .c (.str l)=>some (.c (.str l),σ)
   | _=>none
 | .b2s x=>match (x.ev ρ).rows with
   | some r=>match bytesC r with
     | some l=>some (.c (.str l),σ)
     | none=>none
   | none=>none
 | .sls x lo hi=>match x.ev ρ with
   | .c (.str l)=>match boundV ρ l.length hi with
     | some h=>match boundL ρ h lo with
       | some a=>some (.c (.str ((l.drop a).take (h - a))),σ)
       | none=>none
     | none=>none
   | _=>none
 | .slr size x lo hi mx=>match (x.ev ρ).sub lo mx with
   | some (b,k)=>match boundV ρ k hi with
     | some h=>some (.vec b h,σ)
     | none=>none
   | none=>match (x.ev ρ).rows with
   | some r=>if ∀ cs ∈ r,cs.length = size then match boundV ρ r.length hi with
     | some h=>match boundL ρ h lo with
       | some a=>match mx with
         | none=>some (.c (.sl ((r.drop a).take (h - a))),σ)
         | some m=>match boundV ρ r.length (some m) with
           | some m'=>if m' = h then some (.csl ((r.drop a).take (h - a)),σ) else none
           | none=>none
       | none=>none
     | none=>none else none
   | none=>none
 | .fadd off x=>match x.ev ρ with
   | .ptr b o=>some (.ptr b (o + off),σ)
   | .c (.ref cs o)=>some (.c (.ref cs (o + off)),σ)
   | _=>none
 | .field1 off x=>match x.ev ρ with
   | .agg vs=>match vs[off]? with
     | some u=>some (u,σ)
     | none=>none
   | _=>none
 | .fieldn off n x=>match x.ev ρ with
   | .agg vs=>if off + n ≤ vs.length then some (.agg ((vs.drop off).take n),σ) else none
   | _=>none
 | .iadd size x i=>match i.ev ρ with
   | .c (.int _ j)=>match x.ev ρ with
     | .vec b k=>if 0 ≤ j ∧ j < k then some (.ptr b (j.toNat * size),σ) else none
     | u=>match u.rows with
       | some r=>if 0 ≤ j ∧ j < r.length then match r[j.toNat]? with
          | some cs=>if cs.length = size then some (.c (.ref cs 0),σ) else none
          | none=>none
         else none
       | none=>none
   | _=>none
 | .index x i=>match x.ev ρ,i.ev ρ with
   | .c (.str l),.c (.int _ j)=>if 0 ≤ j ∧ j < l.length then match l[j.toNat]? with
      | some b=>some (.c (.int .u8 b.toNat),σ)
      | none=>none
     else none
   | _,_=>none
 | .ext x i=>match x.ev ρ with
   | .tup vs=>match vs[i]? with
     | some u=>some (u,σ)
     | none=>none
   | _=>none
 | .lens x=>match x.ev ρ with
   | .c (.str l)=>some (.c (.int .i64 l.length),σ)
   | _=>none
 | .lenr x=>match x.ev ρ with
   | .vec _ k=>some (.c (.int .i64 k),σ)
   | u=>match u.rows with
     | some r=>some (.c (.int .i64 r.length),σ)
     | none=>none
 | .app e size bytes x y=>match (y.ev ρ).rows with
   | some news=>appV e size bytes (x.ev ρ) news σ
   | none=>none
 | .appS e bytes x y=>match y.ev ρ with
   | .c (.str l)=>appV e 1 bytes (x.ev ρ) (byteRows l) σ
   | _=>none
 | .mx x y=>match x.ev ρ,y.ev ρ with
   | .c (.int k a),.c (.int _ b)=>some (.c (.int k (if b > a then b else a)),σ)
   | _,_=>none
 | .mn x y=>match x.ev ρ,y.ev ρ with
   | .c (.int k a),.c (.int _ b)=>some (.c (.int k (if b < a then b else a)),σ)
   | _,_=>none
 | .eqz _ _=>none
 | .mkmap=>some (.mp σ.length,σ ++ [.mp []])
 | .mkvec e bytes z x=>match x.ev ρ with
   | .c (.int _ n)=>if 0 ≤ n ∧ bytes * n ≤ 140737488355328 ∧ n ≤ 140737488355328 then some (.vec σ.length n.toNat,σ ++ [.vec e 1 (List.replicate n.toNat z)]) else none
   | _=>none
 | .look ok q z x k=>match x.ev ρ,k.ev ρ with
   | .mp b,.c kc=>match σ[b]? with
     | some (.mp kvs)=>if q.ok kc = true ∧ (kvs.all fun p=>q.ok p.1) = true then some (lookV ok z (findC kc kvs),σ) else none
     | _=>none
   | _,_=>none
 | .mupd q x k y=>match x.ev ρ,k.ev ρ,(y.ev ρ).toC with
   | .mp b,.c kc,some vc=>match σ[b]? with
     | some (.mp kvs)=>if q.ok kc = true ∧ (kvs.all fun p=>q.ok p.1) = true then some (.void,σ.set b (.mp (updC kc vc kvs))) else none
     | _=>none
   | _,_,_=>none
 | .lenm x=>match x.ev ρ with
   | .mp b=>match σ[b]? with
     | some (.mp kvs)=>some (.c (.int .i64 kvs.length),σ)
     | _=>none
   | _=>none
 | .call _ _=>none
 | .bad=>none

/-! ### the operation of the program that it is -/
def ofLeaf:Value → Option V
 | .bool b=>some (.c (.bool b))
 | .int k n=>some (.c (.int k n))
 | .string s=>if s.data.toList.length ≤ maxLen then some (.c (.str s.data.toList)) else none
 | .pointer none=>some (.c .nilp)
 | .slice none 0 0=>some (.csl [])
 | .nilFunc=>some .nilf
 | .nilIface=>some (.c .nili)
 | .map none=>some .nilm
 | _=>none
def ofV:Value → Option V
 | .agg xs=>(xs.toList.mapM ofLeaf).map .agg
 | .func (.func f) ⟨[]⟩ ⟨[]⟩=>some (.fn f [])
 | v=>ofLeaf v
def trX:Operand → Option Opd
 | .tmp t=>some (.t t)
 | .const v=>(ofV v).map .k
 | .func f=>some (.k (.fn f []))
 | .global _=>none
def trO:Option Operand → Option (Option Opd)
 | none=>some none
 | some x=>match trX x with
   | some y=>some (some y)
   | none=>none
def tr1 (f:Opd → Ins) (x:Operand):Option Ins:=match trX x with
 | some a=>some (f a)
 | none=>none
def tr2 (f:Opd → Opd → Ins) (x y:Operand):Option Ins:=match trX x,trX y with
 | some a,some b=>some (f a b)
 | _,_=>none
def sizeP (P:Program) (t:TypeId):Option Nat:=(P.info? t).map (·.size)
def placesP (P:Program):List Field → Option (List (Nat × Nat))
 | []=>some []
 | f :: l=>match sizeP P f.type,placesP P l with
   | some s,some r=>some ((f.offset,s) :: r)
   | _,_=>none
def trParts (pl:List (Nat × Nat)):List (Nat × Operand) → Option (List (Nat × Nat × Opd))
 | []=>some []
 | (i,x) :: l=>match pl[i]?,trX x,trParts pl l with
   | some (o,s),some y,some r=>some ((o,s,y) :: r)
   | _,_,_=>none
def trElems:Nat → List (Nat × Operand) → Option (List Opd)
 | _,[]=>some []
 | k,(i,x) :: l=>if i = k then match trX x,trElems (k + 1) l with
    | some y,some r=>some (y :: r)
    | _,_=>none
   else none
def isAggD:TypeDesc → Bool
 | .struct _ | .array ..=>true
 | _=>false
def zeroP (P:Program) (t:TypeId):Option V:=match P.info? t with
 | some i=>match i.zero with
   | some z=>ofV z
   | none=>none
 | none=>none
def hasField (P:Program) (name:String) (t:TypeId):Bool:=match P.underlying t with
 | some (.struct fs)=>fs.any fun f=>f.name == name
 | _=>false
def holdsAddr (P:Program) (t:TypeId):Bool:=hasField P "addr" t || (match P.underlying t with | some (.struct fs)=>fs.any fun f=>hasField P "addr" f.type | _=>false)
def tagP (P:Program) (t:TypeId):Option TypeId:=if holdsAddr P t then some t else none
def trBuiltin (P:Program) (b:Builtin) (args:List Operand) (ats:List TypeId):Option Ins:=
 match b,args,ats with
 | .len,[x],[t]=>match P.underlying t with
   | some .string=>tr1 .lens x
   | some (.slice _)=>tr1 .lenr x
   | some (.map _ _)=>tr1 .lenm x
   | _=>none
 | .append,[x,y],[t,t']=>if t = t' then match P.underlying t with
    | some (.slice e)=>match P.info? e with
      | some i=>match i.zero with
        | some z=>if z.cells.size = i.size ∧ 0 < i.size then tr2 (.app e i.size i.bytes) x y else none
        | none=>none
      | none=>none
    | _=>none
   else match P.underlying t,P.underlying t' with
    | some (.slice e),some .string=>match P.info? e with
      | some i=>match i.zero with
        | some z=>if z.cells.size = i.size ∧ i.size = 1 then tr2 (.appS e i.bytes) x y else none
        | none=>none
      | none=>none
    | _,_=>none
 | .max,[x,y],_=>tr2 .mx x y
 | .min,[x,y],_=>tr2 .mn x y
 | _,_,_=>none
def _root_.Go.BinOp.plain:BinOp → Bool
 | .add | .sub | .mul | .quo | .rem | .eql | .neq | .lss | .leq | .gtr | .geq=>true
 | _=>false
def isNilS:Operand → Bool
 | .const (.slice none 0 0)=>true
 | _=>false
def trEqz (op:BinOp) (x:Operand):Option Ins:=match op with
 | .eql=>tr1 (.eqz false) x
 | .neq=>tr1 (.eqz true) x
 | _=>none
def trEqn (k:Nat) (op:BinOp) (x:Operand):Option Ins:=match op with
 | .eql=>tr1 (.eqn false k) x
 | .neq=>tr1 (.eqn true k) x
 | _=>none
def kindD:TypeDesc → Option Nat
 | .bool=>some 0
 | .int _=>some 1
 | .string=>some 2
 | _=>none
def basicFields (P:Program):Nat → List Field → Option (List Nat)
 | _,[]=>some []
 | k,f :: l=>if f.offset = k ∧ f.name ≠ "_" then match P.underlying f.type with
    | some d=>match kindD d,basicFields P (k + 1) l with
      | some q,some r=>some (q :: r)
      | _,_=>none
    | none=>none
   else none
def mapP (P:Program) (t:TypeId):Option (KD × C):=match P.underlying t with
 | some (.map kt et)=>match P.underlying kt,zeroP P et with
   | some d,some (.c z)=>match keyD d with
     | some q=>some (q,z)
     | none=>none
   | _,_=>none
 | _=>none
def mapK (P:Program) (t:TypeId):Option KD:=match P.underlying t with
 | some (.map kt _)=>match P.underlying kt with
   | some d=>keyD d
   | none=>none
 | _=>none
def trMake (P:Program) (t:TypeId):Operand → Operand → Option Ins
 | .tmp l,.tmp c=>if l = c then match P.underlying t with
    | some (.slice e)=>match P.info? e with
      | some i=>match i.zero with
        | some z=>match ofLeaf z with
          | some (.c zc)=>if i.size = 1 ∧ z.cells.size = 1 then some (.mkvec e i.bytes zc (.t l)) else none
          | _=>none
        | none=>none
      | none=>none
    | _=>none
   else none
 | _,_=>none
theorem trMake_is {P:Program} {t:TypeId} {l c:Operand} {i:Ins} (h:trMake P t l c = some i):∃ e b z x,i = .mkvec e b z x:=by
 unfold trMake at h
 repeat' split at h
 all_goals first
  | (cases h;done)
  | (injection h with h;exact ⟨_,_,_,_,h.symm⟩)
def trOp (P:Program) (o:Op):Option Ins:=
 match o with
 | .move x=>tr1 .mov x
 | .assign x=>tr1 .mov x
 | .pick c a b=>match trX c,trX a,trX b with
   | some c,some a,some b=>some (.pick c a b)
   | _,_,_=>none
 | .alloc t=>match zeroP P t with
   | some z=>some (.box (.k z) (tagP P t))
   | none=>none
 | .box t x=>tr1 (fun y=>.box y (tagP P t)) x
 | .build t parts=>match P.underlying t,zeroP P t with
   | some (.struct fields),some z=>match placesP P fields.toList with
     | some pl=>match trParts pl parts.toList with
       | some ps=>if leaves z.cellsV = true then some (.build z.cellsV ps) else none
       | none=>none
     | none=>none
   | _,_=>none
 | .buildSlice t n parts=>match P.underlying t with
   | some (.slice e)=>match P.info? e with
     | some i=>match i.zero,trElems 0 parts.toList with
       | some z,some ps=>if z.cells.size = i.size ∧ ps.length = n ∧ 0 < i.size ∧ n * i.size ≤ 16777216 then some (.bsl i.size ps) else none
       | _,_=>none
     | none=>none
   | _=>none
 | .load t x=>match P.underlying t,P.info? t with
   | some d,some i=>if isAggD d then tr1 (.loadn i.size) x else tr1 .load1 x
   | _,_=>none
 | .store t x y=>match P.info? t with
   | some i=>tr2 (.store i.size) x y
   | none=>none
 | .nilCheck x=>tr1 .nilck x
 | .binOp op t x y _=>match P.underlying t with
   | some (.int _)=>if op.plain then tr2 (.bin op) x y else none
   | some .string=>if op.plain then tr2 (.bin op) x y else none
   | some .bool=>match op with
     | .eql=>tr2 (.eqb false) x y
     | .neq=>tr2 (.eqb true) x y
     | _=>none
   | some (.pointer _)=>match y with
     | .const (.pointer none)=>trEqn 0 op x
     | _=>none
   | some (.interface _)=>match y with
     | .const .nilIface=>trEqn 1 op x
     | _=>none
   | some (.func ..)=>match y with
     | .const .nilFunc=>trEqn 2 op x
     | _=>none
   | some (.slice _)=>if isNilS y then trEqz op x else none
   | some (.struct fields)=>match basicFields P 0 fields.toList with
     | some ks=>if P.stoodInHeld t || P.eqGuardType P.depth t then none else match op with
       | .eql=>tr2 (.eqs false ks) x y
       | .neq=>tr2 (.eqs true ks) x y
       | _=>none
     | none=>none
   | _=>none
 | .unOp op _ x=>tr1 (.un op) x
 | .convert s t x=>match P.underlying s,P.underlying t with
   | some (.int _),some (.int k)=>tr1 (.conv k) x
   | some .string,some .string=>tr1 .strc x
   | some (.slice e),some .string=>match P.underlying e with
     | some (.int .u8)=>tr1 .b2s x
     | _=>none
   | _,_=>none
 | .makeFunc (.func f) ⟨[]⟩ caps=>match caps.toList.mapM trX with
   | some cs=>some (.mkfn f cs)
   | none=>none
 | .slice t x lo hi mx=>match P.underlying t with
   | some .string=>match mx,trX x,trO lo,trO hi with
     | none,some x,some lo,some hi=>some (.sls x lo hi)
     | _,_,_,_=>none
   | some (.slice e)=>match P.info? e,trX x,trO lo,trO hi,trO mx with
     | some i,some x,some lo,some hi,some mx=>if mx.isSome && hi.isNone then none else some (.slr i.size x lo hi mx)
     | _,_,_,_,_=>none
   | _=>none
 | .fieldAddr s x f=>match P.underlying s with
   | some (.struct fields)=>match fields[f]? with
     | some fl=>match sizeP P fl.type with
       | some k=>if k = 0 then none else tr1 (.fadd fl.offset) x
       | none=>none
     | none=>none
   | _=>none
 | .field s x f=>match P.underlying s with
   | some (.struct fields)=>match fields[f]? with
     | some fl=>match P.underlying fl.type,sizeP P fl.type with
       | some d,some k=>if isAggD d then tr1 (.fieldn fl.offset k) x else tr1 (.field1 fl.offset) x
       | _,_=>none
     | none=>none
   | _=>none
 | .indexAddr t x i=>match P.underlying t with
   | some (.slice e)=>match sizeP P e with
     | some k=>tr2 (.iadd k) x i
     | none=>none
   | _=>none
 | .index t x i=>match P.underlying t with
   | some .string=>tr2 .index x i
   | _=>none
 | .extract x i=>tr1 (fun a=>.ext a i) x
 | .makeMap _ r=>if r.isNone then some .mkmap else none
 | .makeSlice t l c=>trMake P t l c
 | .lookup t x k ok=>match mapP P t with
   | some (q,z)=>tr2 (.look ok q z) x k
   | none=>none
 | .mapUpdate t x k y=>match mapK P t,trX x,trX k,trX y with
   | some q,some x,some k,some y=>some (.mupd q x k y)
   | _,_,_,_=>none
 | .call c=>match c.callee with
   | .builtin b=>trBuiltin P b c.args.toList c.argTypes.toList
   | .value f=>match trX f,c.args.toList.mapM trX with
     | some f,some as=>some (.call f as)
     | _,_=>none
   | _=>none
 | _=>none

section
variable {P:Program} {w0 w:World} {κ:K} {σ σ':H} {a:Act} {ρ:Env}

theorem ofLeaf_ok {v:Value} {x:V} (h:ofLeaf v = some x):RV κ x v:=by
 cases v with
 | bool b=>simp only [ofLeaf] at h;injection h with h;subst h;exact .c (.bool _)
 | int k n=>simp only [ofLeaf] at h;injection h with h;subst h;exact .c (.int _ _)
 | string s=>
   simp only [ofLeaf] at h;split at h
   ·rename_i hl
    injection h with h
    subst h
    have:=RC.str (m:=κ.m) s.data.toList hl
    rw [← bs_of] at this;exact .c this
   ·cases h
 | pointer p=>
   cases p with
   | none=>simp only [ofLeaf] at h;injection h with h;subst h;exact .c .nilp
   | some a=>simp only [ofLeaf] at h;cases h
 | slice p n c=>
   unfold ofLeaf at h;split at h
   all_goals first
    | (cases h;done)
    | skip
   all_goals first
    | (rename_i hh;cases hh;done)
    | skip
   rename_i hh;injection hh with h1 h2 h3
   subst h1 h2 h3;injection h with h
   subst h;exact .csl (A:=none) (RC.nil _)
 | nilFunc=>simp only [ofLeaf] at h;injection h with h;subst h;exact .nilf
 | nilIface=>simp only [ofLeaf] at h;injection h with h;subst h;exact .c .nili
 | map r=>
   cases r with
   | none=>simp only [ofLeaf] at h;injection h with h;subst h;exact .nilm
   | some r=>simp only [ofLeaf] at h;cases h
 | _=>simp only [ofLeaf] at h;cases h
theorem mapM_some {α β:Type} {f:α → Option β}:∀ {l:List α} {r:List β},l.mapM f = some r → r.length = l.length ∧ ∀ j (hj:j < l.length) (hj':j < r.length),f l[j] = some r[j]
 | [],r,h=>by
   simp at h;subst h;exact ⟨rfl,fun j hj=>by simp at hj⟩
 | x :: l,r,h=>by
   simp only [List.mapM_cons] at h
   cases hx:f x with
   | none=>rw [hx] at h;cases h
   | some y=>
     rw [hx] at h
     cases hl:l.mapM f with
     | none=>rw [hl] at h;cases h
     | some ys=>
       rw [hl] at h
       have h:y :: ys = r:=by simpa using h
       subst h;obtain ⟨h1,h2⟩:=mapM_some hl;refine ⟨by simp [h1],fun j hj hj'=>?_⟩
       cases j with
       | zero=>exact hx
       | succ j=>exact h2 j (by simpa using hj) (by simpa using hj')
theorem getD_of {xs:List Value} {j:Nat} (h:j < xs.length):xs.getD j undef = xs[j]:=by simp [List.getD,h]
theorem ofV_ok {v:Value} {x:V} (h:ofV v = some x):RV κ x v:=by
 unfold ofV at h
 split at h
 ·rename_i xs
  cases hm:xs.toList.mapM ofLeaf with
  | none=>rw [hm] at h;cases h
  | some vs=>
    rw [hm] at h;injection h with h
    subst h;obtain ⟨h1,h2⟩:=mapM_some hm
    have:=RV.agg (κ:=κ) (vs:=vs) (xs:=xs.toList) h1.symm fun j hj=>by
     have hj':j < xs.toList.length:=by omega
     rw [getD_of hj'];exact ofLeaf_ok (κ:=κ) (h2 j hj' hj)
    simpa using this
 ·injection h with h
  subst h;exact .fn (caps:=[]) (vs:=[]) rfl (fun j hj=>by simp at hj)
 ·exact ofLeaf_ok h

def EnvOk (κ:K) (ρ:Env) (a:Act):Prop:=∀ k,RV κ (ρ k) (a.tmps.getD k undef)
theorem EnvOk.mono {κ':K} (h:κ.le κ') (he:EnvOk κ ρ a):EnvOk κ' ρ a:=fun k=>(he k).mono h
theorem ev_ok (he:EnvOk κ ρ a) {x:Operand} {y:Opd} (h:trX x = some y):RV κ (y.ev ρ) (a.eval x):=by
 cases x with
 | tmp t=>simp only [trX] at h;injection h with h;subst h;exact he t
 | const v=>
   simp only [trX] at h
   cases hv:ofV v with
   | none=>rw [hv] at h;cases h
   | some u=>rw [hv] at h;injection h with h;subst h;exact ofV_ok hv
 | global g=>cases h
 | func f=>
   simp only [trX] at h;injection h with h;subst h
   exact .fn (caps:=[]) (vs:=[]) rfl (fun j hj=>by simp at hj)

def Res (w0:World) (κ:K) (σ:H) (v:V) (r:Result Next):Prop:=
 ∃ κ' v' w',(r = .ok (.value v') w' ∨ (r = .ok .skip w' ∧ v' = undef)) ∧ κ.le κ' ∧ Rep w0 κ' σ w' ∧ RV κ' v v'
theorem Res.still {v:V} {v':Value} {r:Result Next} (hr:r = .ok (.value v') w) (hrep:Rep w0 κ σ w) (hv:RV κ v v'):Res w0 κ σ v r:=
 ⟨κ,v',w,.inl hr,K.le_refl κ,hrep,hv⟩

theorem add_lit (b o n:Nat):(⟨b,o,none⟩:Addr).add n = ⟨b,o + n,none⟩:=by unfold Addr.add;split <;> simp_all

/-! ### reading -/
theorem cellsAt_ok {x:V} {v:Value} {cs:List V} {o:Nat} (hrep:Rep w0 κ σ w) (h:cellsAt σ x = some (cs,o)) (hv:RV κ x v) :
  ∃ b p,v = .pointer (some ⟨b,p + o,none⟩) ∧ ∀ j (hj:j < cs.length),∃ u,w.cell? ⟨b,p + j,none⟩ = some u ∧ RV κ cs[j] u:=by
 cases hv with
 | ptr h0 h1=>
   rename_i bb oo;simp only [cellsAt] at h
   cases hb:σ[bb]? with
   | none=>rw [hb] at h;cases h
   | some blk=>
     rw [hb] at h
     cases blk with
     | cells cs' tg=>
       injection h with h
       injection h with h2 h3
       subst h2 h3;obtain ⟨hlt,hb'⟩:=List.getElem?_eq_some_iff.1 hb
       have:=hrep.blk bb hlt
       rw [hb'] at this;obtain ⟨vs,t,k1,k2,k3⟩:=this.row;refine ⟨κ.pos bb,0,by simp,fun j hj=>⟨vs.getD j undef,?_,(k3 j hj).2⟩⟩
       have hj':j < vs.size:=by omega
       simp [World.cell?,k1,hj',Array.getD]
     | vec e size cs'=>
       injection h with h
       injection h with h2 h3
       subst h2 h3;obtain ⟨hlt,hb'⟩:=List.getElem?_eq_some_iff.1 hb
       have:=hrep.blk bb hlt
       rw [hb'] at this;obtain ⟨vs,n,cap,k1,k2,k3,k4,k5,k6,k7⟩:=this.row;refine ⟨κ.pos bb,0,by simp,fun j hj=>?_⟩
       have hj2:j < cs'.length:=by simpa using hj
       have hj':j < vs.size:=this.lt hj2 k2
       refine ⟨vs.getD j undef,by simp [World.cell?,k2,hj',Array.getD],?_⟩
       rw [List.getElem_map];exact .c (k7 j hj2)
     | spare | mp | gone=>cases h
 | c hc=>
   cases hc with
   | ref cs' oo b p xs h3 h4 h5=>
     simp only [cellsAt] at h;injection h with h
     injection h with k2 k3
     subst k2 k3;refine ⟨b,p,rfl,fun j hj=>⟨xs.getD j undef,?_,?_⟩⟩
     ·have hj':j < xs.length:=by simpa [h3] using hj
      have:=h4 j hj'
      rw [List.getElem?_eq_getElem hj'] at this
      have:=hrep.mem _ _ _ this
      simpa [List.getD,hj'] using this
     ·have hj':j < cs'.length:=by simpa using hj
      have:=h5 j hj'
      simpa using RV.c this
   | _=>cases h
 | _=>cases h
theorem run_isAgg {t:TypeId} {d:TypeDesc} (h:P.underlying t = some d):(isAgg t).run P w = .ok (isAggD d) w:=by
 simp only [isAgg,Sem.run_bind,run_underlying h,Result.andThen_ok]
 cases d <;> rfl
theorem run_sizeOf {t:TypeId} {i:TypeInfo} (h:P.info? t = some i):(sizeOf t).run P w = .ok i.size w:=by
 simp [sizeOf,typeInfo,h]
theorem load1_ok {t:TypeId} {d:TypeDesc} {x:V} {v:Value} {cs:List V} {o:Nat} {u:V} (hrep:Rep w0 κ σ w) (hd:P.underlying t = some d) (hg:isAggD d = false)
  (h:cellsAt σ x = some (cs,o)) (hv:RV κ x v) (hu:cs[o]? = some u):∃ v',(Instr.loadAt t v).run P w = .ok v' w ∧ RV κ u v':=by
 obtain ⟨b,p,rfl,hc⟩:=cellsAt_ok hrep h hv
 obtain ⟨ho,hu'⟩:=List.getElem?_eq_some_iff.1 hu
 obtain ⟨v',h1,h2⟩:=hc o ho
 refine ⟨v',?_,hu' ▸ h2⟩
 simp [Instr.loadAt,Instr.sureAddr,loadVar,run_isAgg hd,hg,run_load,h1]
theorem loadn_ok {t:TypeId} {d:TypeDesc} {i:TypeInfo} {x:V} {v:Value} {cs:List V} {o:Nat} (hrep:Rep w0 κ σ w) (hd:P.underlying t = some d) (hg:isAggD d = true)
  (hi:P.info? t = some i) (h:cellsAt σ x = some (cs,o)) (hv:RV κ x v) (hle:o + i.size ≤ cs.length) :
  ∃ v',(Instr.loadAt t v).run P w = .ok v' w ∧ RV κ (.agg ((cs.drop o).take i.size)) v':=by
 obtain ⟨b,p,rfl,hc⟩:=cellsAt_ok hrep h hv
 have hf:∀ j,j < i.size → ∃ u,w.cell? ⟨b,p + o + j,none⟩ = some u ∧ ∀ hj:o + j < cs.length,RV κ cs[o + j] u:=fun j hj=>by
  obtain ⟨u,h1,h2⟩:=hc (o + j) (by omega)
  exact ⟨u,by rw [← h1,Nat.add_assoc],fun _=>h2⟩
 have hex:∃ f:Nat → Value,∀ j,j < i.size → w.cell? ⟨b,p + o + j,none⟩ = some (f j) ∧ ∀ hj:o + j < cs.length,RV κ cs[o + j] (f j):=
  ⟨fun j=>if hj:j < i.size then (hf j hj).choose else undef,fun j hj=>by simp only [hj,dif_pos];exact (hf j hj).choose_spec⟩
 obtain ⟨f,hf⟩:=hex
 refine ⟨.agg ((List.range i.size).map f).toArray,?_,?_⟩
 ·have:=run_loadCells (P:=P) w ⟨b,p + o,none⟩ i.size f (fun j hj=>by rw [add_lit];exact (hf j hj).1)
  simp only [Instr.loadAt,Instr.sureAddr,Sem.run_bind,Sem.run_pure,Result.andThen_ok,loadVar,run_isAgg hd,hg,if_true,run_sizeOf hi,this]
 ·refine .agg (by simp;omega) fun j hj=>?_
  have hj1:j < i.size:=by simp at hj;omega
  have:=(hf j hj1).2 (by omega)
  simpa [List.getD,hj1] using this
end

section
variable {P:Program} {w0 w w':World} {κ:K} {σ σ':H} {a:Act} {ρ:Env}

theorem Rep.lies_lt (h:Rep w0 κ σ w) {b g:Nat} (hb:b < σ.length) (hl:(σ[b]).lies κ b = some g):w0.heap.size ≤ g ∧ g < w.heap.size:=by
 have:=h.blk b hb
 cases hσ:σ[b] with
 | cells cs=>
   rw [hσ] at this hl;simp only [Blk.lies] at hl;injection hl with hl
   obtain ⟨vs,t,h1,_⟩:=this.row;rw [← hl];exact ⟨this.own,(Array.getElem?_eq_some_iff.1 h1).1⟩
 | spare e size n=>
   rw [hσ] at this hl;simp only [Blk.lies] at hl;rcases this.row with ⟨_,A,h0⟩ | ⟨xs,ho⟩
   ·rw [h0] at hl;cases A <;> cases hl
   ·exact ho.lt g (held_own hl)
 | mp kvs=>
   rw [hσ] at this hl;simp only [Blk.lies] at hl;injection hl with hl
   obtain ⟨es,clock,h1,_⟩:=this.row;rw [← hl];exact ⟨this.own,(Array.getElem?_eq_some_iff.1 h1).1⟩
 | vec e size cs=>
   rw [hσ] at this hl;simp only [Blk.lies] at hl;injection hl with hl
   obtain ⟨vs,n,cap,_,h1,_⟩:=this.row;rw [← hl];exact ⟨this.own,(Array.getElem?_eq_some_iff.1 h1).1⟩
 | gone=>rw [hσ] at hl;cases hl
theorem Rep.mem_lt (h:Rep w0 κ σ w) {b o:Nat} {v:Value} (hm:κ.m b o = some v):b < w.heap.size:=
 World.block_lt_of_cell? w ⟨b,o,none⟩ (h.mem b o v hm)
theorem Rep.fresh (h:Rep w0 κ σ w) {b:Nat} (hb:w.heap.size ≤ b) (o:Nat):κ.m b o = none:=by
 cases hm:κ.m b o with
 | none=>rfl
 | some v=>have:=h.mem_lt hm;omega
theorem Blk.is_of {κ:K} {b:Nat} {x:Blk} (h:x.is w0 κ w b) (hk:∀ g,x.lies κ b = some g → w'.heap[g]? = w.heap[g]?):x.is w0 κ w' b:=by
 cases x with
 | cells cs=>
   obtain ⟨vs,t,h1,h2,h3⟩:=h.row;exact ⟨h.fr,⟨vs,t,(hk _ rfl).trans h1,h2,h3⟩,h.own,h.free,fun T hT=>let ⟨us,hu⟩:=h.ty T hT;⟨us,(hk _ rfl).trans hu⟩⟩
 | spare e size n=>
   refine ⟨h.fr,h.sz,?_,h.free⟩;rcases h.row with h0 | ⟨xs,ho⟩
   ·exact .inl h0
   ·rcases ho.2 with hz | ⟨g,cap,cur,hv,hg,hh,rest⟩
    ·exact .inr ⟨xs,ho.1,.inl hz⟩
    ·cases cap with
     | zero=>exact .inl ⟨Nat.le_zero.1 rest.1,some ⟨g,0,none⟩,by rw [hv,Nat.le_zero.1 rest.1]⟩
     | succ c=>
       refine .inr ⟨xs,ho.1,.inr ⟨g,c + 1,cur,hv,hg,(hk g ?_).trans hh,rest⟩⟩;simp only [Blk.lies];rw [hv]
       rfl
 | mp kvs=>
   obtain ⟨es,clock,h1,h2⟩:=h.row;exact ⟨h.fr,⟨es,clock,(hk _ rfl).trans h1,h2⟩,h.own,h.free⟩
 | vec e size cs=>
   obtain ⟨vs,n,cap,h0,h1,h2⟩:=h.row;exact ⟨h.fr,⟨vs,n,cap,h0,(hk _ rfl).trans h1,h2⟩,h.own,h.free⟩
 | gone=>trivial
theorem Rep.grow (h:Rep w0 κ σ w) (hb:Below w.heap.size w w'):Rep w0 κ σ w':=
 ⟨h.n,h.ext.trans (hb.mono h.ext.size),fun b o v hm=>(hb.cell (p:=⟨b,o,none⟩) (h.mem_lt hm)).trans (h.mem b o v hm),
   fun b hb'=>Blk.is_of (h.blk b hb') fun g hg=>hb.block g (h.lies_lt hb' hg).2,h.apart,fun l o hr=>⟨(hb.block l (Array.getElem?_eq_some_iff.1 (h.rest l o hr).1).1).trans (h.rest l o hr).1,(h.rest l o hr).2⟩,Nat.le_trans h.lim hb.size⟩
theorem Rep.drawn (h:Rep w0 κ σ w) (n:Nat):Rep w0 κ σ { w with drawn:=n }:=h.grow ⟨rfl,rfl,rfl,Nat.le_refl _,fun _ _=>rfl⟩
theorem Rep.alloc (h:Rep w0 κ σ w) (o:Obj):Rep w0 κ σ (w.alloc o):=h.grow (Below.alloc (Below.refl _ _) (Nat.le_refl _) o)

theorem RV.same {κ':K} (hm:κ.m.le κ'.m) (hn:κ.n ≤ κ'.n) (hp:∀ b,b < κ.n → κ'.pos b = κ.pos b) (hf:∀ b,b < κ.n → κ'.fr b = κ.fr b) (hs:∀ b,b < κ.n → κ'.sv b = κ.sv b) (hz:∀ b,b < κ.n → κ'.sz b = κ.sz b) (hr:κ'.rest = κ.rest:=by rfl) (hlm:κ'.lim = κ.lim:=by rfl):κ.le κ':=
 ⟨hm,hn,fun b hb hf'=>⟨(hf b hb).trans hf',hp b hb⟩,fun b f hb hf'=>⟨f,(hf b hb).trans hf',Nat.le_refl _,fun _=>hs b hb,hz b hb⟩,fun b hb _=>hs b hb,hr,hlm⟩

def K.froze (κ:K) (g:Nat) (xs:List Value):K:={ κ with m:=fun b o=>if b = g then xs[o]? else κ.m b o }
theorem K.froze_le {g:Nat} {xs:List Value} (hg:∀ o,κ.m g o = none):κ.le (κ.froze g xs):=
 RV.same (fun b o v h=>by
  unfold K.froze
  by_cases hb:b = g
  ·subst hb
   rw [hg] at h
   cases h
  ·simpa [hb] using h) (Nat.le_refl _) (fun _ _=>rfl) (fun _ _=>rfl) (fun _ _=>rfl) (fun _ _=>rfl)
theorem Rep.froze (h:Rep w0 κ σ w) {g:Nat} {xs:List Value} (hg:∀ o,κ.m g o = none) (hx:∀ o v,xs[o]? = some v → w.cell? ⟨g,o,none⟩ = some v)
  (hl:∀ b (hb:b < σ.length),(σ[b]).lies κ b ≠ some g):Rep w0 (κ.froze g xs) σ w:=by
 have hle:κ.le (κ.froze g xs):=K.froze_le hg
 refine ⟨h.n,h.ext,fun b o v hm=>?_,fun b hb=>?_,fun a b ha hb=>h.apart a b ha hb,fun l o hr=>h.rest l o hr,h.lim⟩
 ·unfold K.froze at hm
  by_cases hbg:b = g
  ·subst hbg
   simp only [if_true] at hm;exact hx o v hm
  ·simp only [hbg,if_false] at hm
   exact h.mem b o v hm
 ·have:=h.blk b hb
  have hne:=hl b hb
  cases hσ:σ[b] with
  | cells cs=>
    rw [hσ] at this hne;obtain ⟨vs,t,h1,h2,h3⟩:=this.row;refine ⟨this.fr,⟨vs,t,h1,h2,fun j hj=>⟨(h3 j hj).1,(h3 j hj).2.mono hle⟩⟩,this.own,fun o=>?_,this.ty⟩
    have:κ.pos b ≠ g:=fun e=>hne (by simp [Blk.lies,e])
    show (if κ.pos b = g then _ else _) = none
    rw [if_neg this];exact Blk.rep.free ‹_› o
  | spare e size n=>
    rw [hσ] at this hne;refine ⟨this.fr,this.sz,this.row,fun g' hg' o ho=>?_⟩
    have hgg:g' ≠ g:=fun e=>hne (by simp only [Blk.lies];exact (show heldBy (κ.sv b) = some g' from hg').trans (by rw [e]))
    show (if g' = g then _ else _) = none
    rw [if_neg hgg];exact this.free g' hg' o ho
  | mp kvs=>
    rw [hσ] at this hne
    have hpne:κ.pos b ≠ g:=fun e=>hne (by simp [Blk.lies,e])
    exact Blk.mapped.le this hle.m this.fr rfl (fun o=>by
     show (if κ.pos b = g then _ else _) = none
     rw [if_neg hpne];exact this.free o)
  | vec e size cs=>
    rw [hσ] at this hne
    have hpne:κ.pos b ≠ g:=fun e=>hne (by simp [Blk.lies,e])
    exact Blk.vecd.le this hle.m this.fr rfl rfl (fun o=>by
     show (if κ.pos b = g then _ else _) = none
     rw [if_neg hpne];exact this.free o)
  | gone=>trivial

def K.more (κ:K) (g:Nat):K:={ κ with n:=κ.n + 1,pos:=fun b=>if b = κ.n then g else κ.pos b,fr:=fun b=>if b = κ.n then none else κ.fr b }
theorem K.more_le {g:Nat}:κ.le (κ.more g):=
 RV.same (Mem.le_refl _) (Nat.le_succ _) (fun b hb=>by show (if b = κ.n then _ else _) = _;rw [if_neg (by omega)]) (fun b hb=>by show (if b = κ.n then _ else _) = _;rw [if_neg (by omega)]) (fun _ _=>rfl) (fun _ _=>rfl)
theorem Blk.is_le {κ':K} {b:Nat} {x:Blk} (hm:κ'.m = κ.m) (hle:κ.le κ') (hp:κ'.pos b = κ.pos b) (hf:κ'.fr b = κ.fr b) (hs:κ'.sv b = κ.sv b) (hz:κ'.sz b = κ.sz b) (h:x.is w0 κ w b):x.is w0 κ' w b:=by
 cases x with
 | cells cs=>
   obtain ⟨vs,t,h1,h2,h3⟩:=h.row;exact ⟨hf.trans h.fr,⟨vs,t,by rw [hp];exact h1,h2,fun j hj=>⟨(h3 j hj).1,(h3 j hj).2.mono hle⟩⟩,by rw [hp];exact h.own,by rw [hp,hm];exact h.free,by rw [hp];exact h.ty⟩
 | spare e size n=>exact ⟨hf.trans h.fr,hz.trans h.sz,by rw [hs];exact h.row,by rw [hs,hm];exact h.free⟩
 | mp kvs=>exact Blk.mapped.le h (by rw [hm];exact Mem.le_refl _) (hf.trans h.fr) hp (by rw [hm];exact h.free)
 | vec e size cs=>exact Blk.vecd.le h (by rw [hm];exact Mem.le_refl _) (hf.trans h.fr) hp hs (by rw [hm];exact h.free)
 | gone=>trivial
theorem Blk.lies_same {κ':K} {b:Nat} {x:Blk} (hp:κ'.pos b = κ.pos b) (hs:κ'.sv b = κ.sv b):x.lies κ' b = x.lies κ b:=by
 cases x <;> simp [Blk.lies,hp,hs]
theorem Rep.rest_own (h:Rep w0 κ σ w) {b g:Nat} (hb:b < σ.length) (hl:(σ[b]).lies κ b = some g):κ.rest g = none:=by
 cases hr:κ.rest g with
 | none=>rfl
 | some o=>exact absurd hl ((h.rest g o hr).2.2 b hb)
theorem Rep.rest_new (h:Rep w0 κ σ w) {g:Nat} (hg:w.heap.size ≤ g):κ.rest g = none:=by
 cases hr:κ.rest g with
 | none=>rfl
 | some o=>have:=(Array.getElem?_eq_some_iff.1 (h.rest g o hr).1).1;omega
theorem rest_push {κ':K} {X:Blk} {l:Nat} (hlies:∀ b (hb:b < σ.length),(σ[b]).lies κ' b = (σ[b]).lies κ b) (h:∀ b (hb:b < σ.length),(σ[b]).lies κ b ≠ some l) (hX:X.lies κ' σ.length ≠ some l) :
  ∀ b (hb:b < (σ ++ [X]).length),((σ ++ [X])[b]).lies κ' b ≠ some l:=fun b hb=>by
 rcases Nat.lt_or_ge b σ.length with hb' | hb'
 ·rw [List.getElem_append_left hb',hlies b hb']
  exact h b hb'
 ·have hbe:b = σ.length:=by simp at hb;omega
  subst hbe;rw [List.getElem_append_right (Nat.le_refl _)];simp only [Nat.sub_self,List.getElem_cons_zero];exact hX
theorem rest_set {κ':K} {X:Blk} {l c:Nat} (hlies:∀ b (hb:b < σ.length),b ≠ c → (σ[b]).lies κ' b = (σ[b]).lies κ b) (h:∀ b (hb:b < σ.length),(σ[b]).lies κ b ≠ some l) (hX:X.lies κ' c ≠ some l) :
  ∀ b (hb:b < (σ.set c X).length),((σ.set c X)[b]).lies κ' b ≠ some l:=fun b hb=>by
 have hb':b < σ.length:=by simpa using hb
 by_cases hbc:b = c
 ·subst hbc
  rw [List.getElem_set_self];exact hX
 ·rw [List.getElem_set_ne (Ne.symm hbc),hlies b hb' hbc]
  exact h b hb'
theorem Rep.box (h:Rep w0 κ σ w) {cs:List V} {vs:List Value} (t:TypeId) {tg:Option TypeId} (htg:∀ T,tg = some T → T = t) (hl:leaves cs = true) (hlen:vs.length = cs.length) (hv:∀ j (hj:j < cs.length),RV κ cs[j] (vs.getD j undef)) :
  Rep w0 (κ.more w.heap.size) (σ ++ [.cells cs tg]) (w.alloc (.cells vs.toArray t)) ∧ RV (κ.more w.heap.size) (.ptr σ.length 0) (.pointer (some ⟨w.heap.size,0,none⟩)):=by
 have hle:κ.le (κ.more w.heap.size):=K.more_le
 have hA:=h.alloc (.cells vs.toArray t)
 have hpos:∀ b,b < σ.length → (κ.more w.heap.size).pos b = κ.pos b:=fun b hb=>by show (if b = κ.n then _ else _) = _;rw [if_neg (by rw [h.n];omega)]
 have hfr:∀ b,b < σ.length → (κ.more w.heap.size).fr b = κ.fr b:=fun b hb=>by show (if b = κ.n then _ else _) = _;rw [if_neg (by rw [h.n];omega)]
 have hposn:(κ.more w.heap.size).pos σ.length = w.heap.size:=by show (if σ.length = κ.n then _ else _) = _;rw [if_pos h.n.symm]
 have hfrn:(κ.more w.heap.size).fr σ.length = none:=by show (if σ.length = κ.n then _ else _) = _;rw [if_pos h.n.symm]
 have hlies:∀ b (hb:b < σ.length),(σ[b]).lies (κ.more w.heap.size) b = (σ[b]).lies κ b:=fun b hb=>Blk.lies_same (hpos b hb) rfl
 refine ⟨⟨by show κ.n + 1 = _;rw [h.n];simp,hA.ext,hA.mem,fun b hb=>?_,fun x y hx hy g hne=>?_,fun l o hr=>⟨(hA.rest l o hr).1,(hA.rest l o hr).2.1,rest_push hlies (h.rest l o hr).2.2 (by simp only [Blk.lies,hposn];intro e;injection e with e;have:=(Array.getElem?_eq_some_iff.1 (h.rest l o hr).1).1;omega)⟩,hA.lim⟩,?_⟩
 ·rcases Nat.lt_or_ge b σ.length with hb' | hb'
  ·rw [List.getElem_append_left hb']
   exact Blk.is_le (κ:=κ) rfl hle (hpos b hb') (hfr b hb') rfl rfl (hA.blk b hb')
  ·have hbe:b = σ.length:=by simp at hb;omega
   subst hbe;rw [List.getElem_append_right (Nat.le_refl _)];simp only [Nat.sub_self,List.getElem_cons_zero];refine ⟨hfrn,⟨vs.toArray,t,by rw [hposn];exact heap_alloc_new w _,by simpa using hlen,fun j hj=>⟨by unfold leaves at hl;rw [List.all_eq_true] at hl;exact hl _ (List.getElem_mem hj),?_⟩⟩,by rw [hposn];exact h.ext.size,fun o=>by rw [hposn];exact h.fresh (Nat.le_refl _) o,fun T hT=>⟨vs.toArray,by rw [hposn,htg T hT];exact heap_alloc_new w _⟩⟩
   have:=(hv j hj).mono hle
   simpa [List.getD,Array.getD,hlen,hj] using this
 ·rcases Nat.lt_or_ge x σ.length with hx' | hx' <;> rcases Nat.lt_or_ge y σ.length with hy' | hy'
  ·rw [List.getElem_append_left hx',List.getElem_append_left hy',hlies x hx',hlies y hy']
   exact h.apart x y hx' hy' g hne
  ·have hye:y = σ.length:=by simp at hy;omega
   subst hye;rw [List.getElem_append_left hx',hlies x hx',List.getElem_append_right (Nat.le_refl _)];simp only [Nat.sub_self,List.getElem_cons_zero,Blk.lies,hposn];intro h1 h2
   have:=(h.lies_lt hx' h1).2
   injection h2;omega
  ·have hxe:x = σ.length:=by simp at hx;omega
   subst hxe;rw [List.getElem_append_left hy',hlies y hy',List.getElem_append_right (Nat.le_refl _)];simp only [Nat.sub_self,List.getElem_cons_zero,Blk.lies,hposn];intro h1 h2
   have:=(h.lies_lt hy' h2).2
   injection h1;omega
  ·simp at hx hy;omega
 ·have:=RV.ptr (κ:=κ.more w.heap.size) (b:=σ.length) (o:=0) (by show _ < κ.n + 1;rw [h.n];omega) hfrn
  rwa [hposn] at this

theorem Rep.wrote (h:Rep w0 κ σ w) {b:Nat} {cs cs':List V} {vs:List Value} {tg:Option TypeId} (hb:σ[b]? = some (.cells cs tg)) (hl:leaves cs' = true) (hlen:vs.length = cs'.length)
  (hv:∀ j (hj:j < cs'.length),RV κ cs'[j] (vs.getD j undef)):Rep w0 κ (σ.set b (.cells cs' tg)) (w.setRow (κ.pos b) vs.toArray):=by
 obtain ⟨hlt,hb'⟩:=List.getElem?_eq_some_iff.1 hb
 have hblk:=h.blk b hlt
 rw [hb'] at hblk
 obtain ⟨us,t,k1,k2,k3⟩:=hblk.row
 have hother:∀ g,g ≠ κ.pos b → (w.setRow (κ.pos b) vs.toArray).heap[g]? = w.heap[g]?:=fun g hg=>setRow_other w (κ.pos b) g _ hg
 have hself:=setRow_heap w (κ.pos b) us vs.toArray t (0,0) k1
 refine ⟨by simpa using h.n,?_,fun x o v hm=>?_,fun x hx=>?_,fun x y hx hy g hne=>?_,fun l o hr=>?_,by simpa [World.setRow] using h.lim⟩
 rotate_right
 ·obtain ⟨a1,a2,a3⟩:=h.rest l o hr
  have hb1:=a3 b hlt
  rw [hb'] at hb1;exact ⟨(hother l (fun e=>hb1 (by rw [e];rfl))).trans a1,a2,rest_set (fun _ _ _=>rfl) a3 hb1⟩
 ·exact h.ext.trans ⟨rfl,rfl,rfl,by simp [World.setRow],fun k hk=>hother k (by have:=hblk.own;omega)⟩
 ·have hne:x ≠ κ.pos b:=fun e=>by rw [e,hblk.free] at hm;cases hm
  rw [World.cell?_of_block (w:=w) (a:=⟨x,o,none⟩) (hother x hne)];exact h.mem x o v hm
 ·by_cases hxb:x = b
  ·subst hxb
   rw [List.getElem_set_self];refine ⟨hblk.fr,⟨vs.toArray,t,hself,by simpa using hlen,fun j hj=>⟨by unfold leaves at hl;rw [List.all_eq_true] at hl;exact hl _ (List.getElem_mem hj),?_⟩⟩,hblk.own,hblk.free,fun T hT=>by
    obtain ⟨us',hu⟩:=hblk.ty T hT;rw [k1] at hu;injection hu with hu
    injection hu with _ hu
    subst hu;exact ⟨_,hself⟩⟩
   simpa [List.getD,Array.getD,hlen,hj] using hv j hj
  ·have hx':x < σ.length:=by simpa using hx
   rw [List.getElem_set_ne (Ne.symm hxb)];refine Blk.is_of (h.blk x hx') fun g hg=>hother g fun e=>?_
   subst e;exact h.apart x b hx' hlt _ hxb hg (by rw [hb'];rfl)
 ·have hx':x < σ.length:=by simpa using hx
  have hy':y < σ.length:=by simpa using hy
  have lies_set:∀ z (hz:z < σ.length) (hz':z < (σ.set b (.cells cs' tg)).length),((σ.set b (.cells cs' tg))[z]).lies κ z = (σ[z]).lies κ z:=fun z hz hz'=>by
   by_cases hzb:z = b
   ·subst hzb
    rw [List.getElem_set_self,hb']
    rfl
   ·rw [List.getElem_set_ne (Ne.symm hzb)]
  rw [lies_set x hx',lies_set y hy'];exact h.apart x y hx' hy' g hne
end

section
variable {P:Program} {w0 w w':World} {κ:K} {σ σ':H} {a:Act} {ρ:Env}

theorem toCs_len:∀ {l:List V} {r:List C},toCs l = some r → r.length = l.length
 | [],r,h=>by simp only [toCs] at h;injection h with h;subst h;rfl
 | x :: l,r,h=>by
   simp only [toCs] at h;split at h
   ·rename_i a0 r0 _ h2
    injection h with h;subst h;simp [toCs_len h2]
   ·cases h
theorem toCs_RC:∀ {l:List V} {r:List C} {xs:List Value},toCs l = some r → xs.length = l.length → (∀ j (hj:j < l.length),RV κ l[j] (xs.getD j undef)) → ∀ j (hj:j < r.length),RC κ.m r[j] (xs.getD j undef)
 | [],r,xs,h,_,_,j,hj=>by simp only [toCs] at h;injection h with h;subst h;simp at hj
 | x :: l,r,xs,h,hl,hv,j,hj=>by
   simp only [toCs] at h;split at h
   ·rename_i a0 r0 h1 h2
    injection h with h;subst h
    cases xs with
    | nil=>simp at hl
    | cons u us=>
      cases j with
      | zero=>exact (hv 0 (by simp)).toC h1
      | succ j=>exact toCs_RC h2 (by simpa using hl) (fun i hi=>hv (i + 1) (by simpa using hi)) j (by simpa using hj)
   ·cases h
theorem toCs_leaf:∀ {l:List V} {r:List C},toCs l = some r → ∀ x ∈ l,x.leaf = true
 | [],r,h,x,hx=>by cases hx
 | y :: l,r,h,x,hx=>by
   simp only [toCs] at h;split at h
   ·rename_i a0 r0 h1 h2
    rcases List.mem_cons.1 hx with rfl | hx
    ·cases x <;> first | rfl | (cases h1;done)
    ·exact toCs_leaf h2 x hx
   ·cases h
theorem Rep.give (h:Rep w0 κ σ w) (b:Nat):Rep w0 κ (σ.set b .gone) w:=by
 refine ⟨by simpa using h.n,h.ext,h.mem,fun x hx=>?_,fun x y hx hy g hne=>?_,fun l o hr=>⟨(h.rest l o hr).1,(h.rest l o hr).2.1,rest_set (fun _ _ _=>rfl) (h.rest l o hr).2.2 (fun e=>by cases e)⟩,h.lim⟩
 ·have hx':x < σ.length:=by simpa using hx
  by_cases hxb:x = b
  ·subst hxb;rw [List.getElem_set_self];trivial
  ·rw [List.getElem_set_ne (Ne.symm hxb)];exact h.blk x hx'
 ·have hx':x < σ.length:=by simpa using hx
  have hy':y < σ.length:=by simpa using hy
  by_cases hxb:x = b
  ·subst hxb;rw [List.getElem_set_self];intro e;cases e
  ·rw [List.getElem_set_ne (Ne.symm hxb)]
   by_cases hyb:y = b
   ·subst hyb;rw [List.getElem_set_self];intro _ e;cases e
   ·rw [List.getElem_set_ne (Ne.symm hyb)];exact h.apart x y hx' hy' g hne
theorem Rep.poke (h:Rep w0 κ σ w) {g:Nat} (hg:w.grownBy w' (some g)) (hb:Below w0.heap.size w0 w') (hm:∀ o,κ.m g o = none) (hl:∀ x (hx:x < σ.length),(σ[x]).lies κ x ≠ some g) (hgr:κ.rest g = none):Rep w0 κ σ w':=by
 have hother:∀ x,x < w.heap.size → x ≠ g → w'.heap[x]? = w.heap[x]?:=fun x hx hne=>hg.block x hx (by simpa using hne)
 refine ⟨h.n,hb,fun x o v hv=>?_,fun x hx=>?_,h.apart,fun l o hr=>⟨(hother l (Array.getElem?_eq_some_iff.1 (h.rest l o hr).1).1 (fun e=>by rw [e,hgr] at hr;cases hr)).trans (h.rest l o hr).1,(h.rest l o hr).2⟩,Nat.le_trans h.lim hg.size⟩
 ·have hne:x ≠ g:=fun e=>by rw [e,hm] at hv;cases hv
  rw [World.cell?_of_block (w:=w) (a:=⟨x,o,none⟩) (hother x (h.mem_lt hv) hne)];exact h.mem x o v hv
 ·exact Blk.is_of (h.blk x hx) fun z hz=>hother z (h.lies_lt hx hz).2 fun e=>hl x hx (by rw [hz,e])
def K.moreV (κ:K) (g:Nat) (v:Value):K:={ κ with n:=κ.n + 1,pos:=fun b=>if b = κ.n then g else κ.pos b,fr:=fun b=>if b = κ.n then none else κ.fr b,sv:=fun b=>if b = κ.n then v else κ.sv b }
theorem K.moreV_le {g:Nat} {v:Value}:κ.le (κ.moreV g v):=
 RV.same (Mem.le_refl _) (Nat.le_succ _) (fun b hb=>by show (if b = κ.n then _ else _) = _;rw [if_neg (by omega)]) (fun b hb=>by show (if b = κ.n then _ else _) = _;rw [if_neg (by omega)]) (fun b hb=>by show (if b = κ.n then _ else _) = _;rw [if_neg (by omega)]) (fun _ _=>rfl)
theorem Rep.vecAt (h:Rep w0 κ σ w) {g e size n cap:Nat} {cs:List C} {cur:Array Value} (hg:w0.heap.size ≤ g) (hm:∀ o,κ.m g o = none) (hl:∀ x (hx:x < σ.length),(σ[x]).lies κ x ≠ some g)
  (hh:w.heap[g]? = some (.cells cur e (0,0))) (hc:cs.length = n * size) (hn:n ≤ cap) (hcap:cap ≤ maxLen) (hcs:cur.size = cap * size) (hv:∀ j (hj:j < cs.length),RC κ.m cs[j] (cur.getD j undef)) :
  Rep w0 (κ.moreV g (.slice (some ⟨g,0,none⟩) n cap)) (σ ++ [.vec e size cs]) w ∧ ∀ k,k ≤ n → RV (κ.moreV g (.slice (some ⟨g,0,none⟩) n cap)) (.vec σ.length k) (.slice (some ⟨g,0,none⟩) k cap):=by
 have hle:κ.le (κ.moreV g (.slice (some ⟨g,0,none⟩) n cap)):=K.moreV_le
 have hpos:∀ b,b < σ.length → (κ.moreV g (.slice (some ⟨g,0,none⟩) n cap)).pos b = κ.pos b:=fun b hb=>by show (if b = κ.n then _ else _) = _;rw [if_neg (by rw [h.n];omega)]
 have hfr:∀ b,b < σ.length → (κ.moreV g (.slice (some ⟨g,0,none⟩) n cap)).fr b = κ.fr b:=fun b hb=>by show (if b = κ.n then _ else _) = _;rw [if_neg (by rw [h.n];omega)]
 have hsv:∀ b,b < σ.length → (κ.moreV g (.slice (some ⟨g,0,none⟩) n cap)).sv b = κ.sv b:=fun b hb=>by show (if b = κ.n then _ else _) = _;rw [if_neg (by rw [h.n];omega)]
 have hposn:(κ.moreV g (.slice (some ⟨g,0,none⟩) n cap)).pos σ.length = g:=by show (if σ.length = κ.n then _ else _) = _;rw [if_pos h.n.symm]
 have hfrn:(κ.moreV g (.slice (some ⟨g,0,none⟩) n cap)).fr σ.length = none:=by show (if σ.length = κ.n then _ else _) = _;rw [if_pos h.n.symm]
 have hsvn:(κ.moreV g (.slice (some ⟨g,0,none⟩) n cap)).sv σ.length = .slice (some ⟨g,0,none⟩) n cap:=by show (if σ.length = κ.n then _ else _) = _;rw [if_pos h.n.symm]
 have hlies:∀ b (hb:b < σ.length),(σ[b]).lies (κ.moreV g (.slice (some ⟨g,0,none⟩) n cap)) b = (σ[b]).lies κ b:=fun b hb=>Blk.lies_same (hpos b hb) (hsv b hb)
 refine ⟨⟨by show κ.n + 1 = _;rw [h.n];simp,h.ext,h.mem,fun b hb=>?_,fun x y hx hy z hne=>?_,fun l o hr=>⟨(h.rest l o hr).1,(h.rest l o hr).2.1,rest_push hlies (h.rest l o hr).2.2 (by simp only [Blk.lies,hposn];intro e;injection e with e;have a1:=(h.rest l o hr).1;have a2:=(h.rest l o hr).2.1;rw [← e,hh] at a1;injection a1 with a1;rw [← a1] at a2;cases a2)⟩,h.lim⟩,fun k hk=>?_⟩
 ·rcases Nat.lt_or_ge b σ.length with hb' | hb'
  ·rw [List.getElem_append_left hb']
   exact Blk.is_le (κ:=κ) rfl hle (hpos b hb') (hfr b hb') (hsv b hb') rfl (h.blk b hb')
  ·have hbe:b = σ.length:=by simp at hb;omega
   subst hbe;rw [List.getElem_append_right (Nat.le_refl _)];simp only [Nat.sub_self,List.getElem_cons_zero];exact ⟨hfrn,⟨cur,n,cap,by rw [hsvn,hposn],by rw [hposn];exact hh,hc,hn,hcap,hcs,hv⟩,by rw [hposn];exact hg,fun o=>by rw [hposn];exact hm o⟩
 ·rcases Nat.lt_or_ge x σ.length with hx' | hx' <;> rcases Nat.lt_or_ge y σ.length with hy' | hy'
  ·rw [List.getElem_append_left hx',List.getElem_append_left hy',hlies x hx',hlies y hy']
   exact h.apart x y hx' hy' z hne
  ·have hye:y = σ.length:=by simp at hy;omega
   subst hye;rw [List.getElem_append_left hx',hlies x hx',List.getElem_append_right (Nat.le_refl _)];simp only [Nat.sub_self,List.getElem_cons_zero,Blk.lies,hposn];intro h1 h2;exact hl x hx' (h1.trans h2.symm)
  ·have hxe:x = σ.length:=by simp at hx;omega
   subst hxe;rw [List.getElem_append_left hy',hlies y hy',List.getElem_append_right (Nat.le_refl _)];simp only [Nat.sub_self,List.getElem_cons_zero,Blk.lies,hposn];intro h1 h2;exact hl y hy' (h2.trans h1.symm)
  ·simp at hx hy;omega
 ·have:=RV.vec (κ:=κ.moreV g (.slice (some ⟨g,0,none⟩) n cap)) (b:=σ.length) (k:=k) (n:=n) (cap:=cap) (by show _ < κ.n + 1;rw [h.n];omega) hfrn (by rw [hsvn,hposn]) hk hn hcap
  rwa [hposn] at this
theorem Rep.wroteV (h:Rep w0 κ σ w) {b e size:Nat} {cs cs':List C} {us:Array Value} {vs:List Value} (hb:σ[b]? = some (.vec e size cs)) (hus:w.heap[κ.pos b]? = some (.cells us e (0,0))) (hlen:vs.length = us.size) (hcl:cs'.length = cs.length)
  (hv:∀ j (hj:j < cs'.length),RC κ.m cs'[j] (vs.getD j undef)):Rep w0 κ (σ.set b (.vec e size cs')) (w.setRow (κ.pos b) vs.toArray):=by
 obtain ⟨hlt,hb'⟩:=List.getElem?_eq_some_iff.1 hb
 have hblk:=h.blk b hlt
 rw [hb'] at hblk
 obtain ⟨us',n,cap,k0,k1,k2,k3,k4,k5,k6⟩:=hblk.row
 rw [hus] at k1
 injection k1 with k1
 injection k1 with k1
 subst k1
 have hother:∀ g,g ≠ κ.pos b → (w.setRow (κ.pos b) vs.toArray).heap[g]? = w.heap[g]?:=fun g hg=>setRow_other w (κ.pos b) g _ hg
 have hself:=setRow_heap w (κ.pos b) us vs.toArray e (0,0) hus
 refine ⟨by simpa using h.n,?_,fun x o v hm=>?_,fun x hx=>?_,fun x y hx hy g hne=>?_,fun l o hr=>?_,by simpa [World.setRow] using h.lim⟩
 rotate_right
 ·obtain ⟨a1,a2,a3⟩:=h.rest l o hr
  have hb1:=a3 b hlt
  rw [hb'] at hb1;exact ⟨(hother l (fun e=>hb1 (by rw [e];rfl))).trans a1,a2,rest_set (fun _ _ _=>rfl) a3 hb1⟩
 ·exact h.ext.trans ⟨rfl,rfl,rfl,by simp [World.setRow],fun k hk=>hother k (by have:=hblk.own;omega)⟩
 ·have hne:x ≠ κ.pos b:=fun e=>by rw [e,hblk.free] at hm;cases hm
  rw [World.cell?_of_block (w:=w) (a:=⟨x,o,none⟩) (hother x hne)];exact h.mem x o v hm
 ·by_cases hxb:x = b
  ·subst hxb
   rw [List.getElem_set_self];refine ⟨hblk.fr,⟨vs.toArray,n,cap,k0,hself,hcl.trans k2,k3,k4,by simp [hlen,k5],fun j hj=>?_⟩,hblk.own,hblk.free⟩
   simpa [Array.getD_eq_getD_getElem?,List.getD_eq_getElem?_getD] using hv j hj
  ·have hx':x < σ.length:=by simpa using hx
   rw [List.getElem_set_ne (Ne.symm hxb)];refine Blk.is_of (h.blk x hx') fun g hg=>hother g fun e=>?_
   subst e;exact h.apart x b hx' hlt _ hxb hg (by rw [hb'];rfl)
 ·have hx':x < σ.length:=by simpa using hx
  have hy':y < σ.length:=by simpa using hy
  have lies_set:∀ z (hz:z < σ.length) (hz':z < (σ.set b (.vec e size cs')).length),((σ.set b (.vec e size cs'))[z]).lies κ z = (σ[z]).lies κ z:=fun z hz hz'=>by
   by_cases hzb:z = b
   ·subst hzb
    rw [List.getElem_set_self,hb']
    rfl
   ·rw [List.getElem_set_ne (Ne.symm hzb)]
  rw [lies_set x hx',lies_set y hy'];exact h.apart x y hx' hy' g hne
end

section
variable {P:Program} {w0 w w':World} {κ:K} {σ σ':H} {a:Act} {ρ:Env}

theorem tr1_some {f:Opd → Ins} {x:Operand} {i:Ins} (h:tr1 f x = some i):∃ y,trX x = some y ∧ i = f y:=by
 unfold tr1 at h
 split at h
 ·rename_i y hy;injection h with h;exact ⟨y,hy,h.symm⟩
 ·cases h
theorem tr2_some {f:Opd → Opd → Ins} {x x':Operand} {i:Ins} (h:tr2 f x x' = some i):∃ y y',trX x = some y ∧ trX x' = some y' ∧ i = f y y':=by
 unfold tr2 at h
 split at h
 ·rename_i y y' hy hy';injection h with h;exact ⟨y,y',hy,hy',h.symm⟩
 ·cases h

theorem cells_ok {x:V} {v:Value} (r:RV κ x v):∀ (_:leaves x.cellsV = true),v.cells.toList.length = x.cellsV.length ∧ ∀ j (hj:j < x.cellsV.length),RV κ x.cellsV[j] (v.cells.toList.getD j undef):=by
 intro hl
 have single:∀ {x:V} {v:Value},RV κ x v → x.cellsV = [x] → v.cells = #[v] → v.cells.toList.length = x.cellsV.length ∧ ∀ j (hj:j < x.cellsV.length),RV κ x.cellsV[j] (v.cells.toList.getD j undef):=by
  intro x v r h1 h2;rw [h2];refine ⟨by rw [h1];rfl,fun j hj=>?_⟩
  have hj0:j = 0:=by rw [h1] at hj;simpa using hj
  subst hj0;simp only [h1,List.getElem_cons_zero];exact r
 cases r with
 | agg h h1=>exact ⟨h,h1⟩
 | void=>simp [leaves,V.cellsV,V.leaf] at hl
 | any=>simp [leaves,V.cellsV,V.leaf] at hl
 | tup=>simp [leaves,V.cellsV,V.leaf] at hl
 | c h=>exact single (.c h) rfl (by cases h <;> rfl)
 | ptr h h1=>exact single (.ptr h h1) rfl rfl
 | osl h h1 h2 h3 h4 h5=>exact single (.osl h h1 h2 h3 h4 h5) rfl (by cases h <;> rfl)
 | csl h=>exact single (.csl h) rfl rfl
 | fn h h1=>exact single (.fn h h1) rfl rfl
 | nilf=>exact single .nilf rfl rfl
 | mp h h1=>exact single (.mp h h1) rfl rfl
 | nilm=>exact single .nilm rfl rfl
 | vec h0 h1 h2 h3 h4 h5=>exact single (.vec h0 h1 h2 h3 h4 h5) rfl rfl

theorem ok_mov {o:Oper} {x:Operand} {y:Opd} (ho:o.op = .move x ∨ o.op = .assign x) (hx:trX x = some y) (hrep:Rep w0 κ σ w) (he:EnvOk κ ρ a) :
  Res w0 κ σ (y.ev ρ) ((execOp a.eval o).run P w):=by
 refine Res.still (v':=a.eval x) ?_ hrep (ev_ok he hx)
 rcases ho with ho | ho <;> simp [execOp,ho]
theorem RV.bool_of {b:Bool} {v:Value} (r:RV κ (.c (.bool b)) v):v = .bool b:=by cases r with | c h=>cases h;rfl
theorem RV.int_of {k:IntKind} {n:Int} {v:Value} (r:RV κ (.c (.int k n)) v):v = .int k n:=by cases r with | c h=>cases h;rfl
theorem RV.str_of {l:List UInt8} {v:Value} (r:RV κ (.c (.str l)) v):v = .string (bs l):=by cases r with | c h=>cases h;rfl
theorem RV.str_le {l:List UInt8} {v:Value} (r:RV κ (.c (.str l)) v):l.length ≤ maxLen:=by cases r with | c h=>cases h;assumption
theorem ok_pick {o:Oper} {c x y:Operand} {c' x' y':Opd} {t:Bool} (ho:o.op = .pick c x y) (hc:trX c = some c') (hx:trX x = some x') (hy:trX y = some y') (ht:c'.ev ρ = .c (.bool t))
  (hrep:Rep w0 κ σ w) (he:EnvOk κ ρ a):Res w0 κ σ (if t then x'.ev ρ else y'.ev ρ) ((execOp a.eval o).run P w):=by
 have h1:=ev_ok he hc
 rw [ht] at h1
 have h1:=h1.bool_of
 refine Res.still (v':=if t then a.eval x else a.eval y) ?_ hrep ?_
 ·simp [execOp,ho,h1,asBool]
 ·cases t
  ·exact ev_ok he hy
  ·exact ev_ok he hx
theorem tagP_some {P:Program} {t:TypeId}:∀ T,tagP P t = some T → T = t:=fun T h=>by
 unfold tagP at h
 split at h
 ·injection h with h;exact h.symm
 ·cases h
theorem ok_alloc {o:Oper} {t:TypeId} {z:V} (ho:o.op = .alloc t) (hz:zeroP P t = some z) (hl:leaves z.cellsV = true) (hrep:Rep w0 κ σ w) :
  Res w0 κ (σ ++ [.cells z.cellsV (tagP P t)]) (.ptr σ.length 0) ((execOp a.eval o).run P w):=by
 unfold zeroP at hz
 cases hi:P.info? t with
 | none=>rw [hi] at hz;cases hz
 | some i=>
   rw [hi] at hz;simp only at hz
   cases hzz:i.zero with
   | none=>rw [hzz] at hz;cases hz
   | some zv=>
     rw [hzz] at hz
     have hr:=ofV_ok (κ:=κ) hz
     obtain ⟨h1,h2⟩:=cells_ok hr hl;obtain ⟨k1,k2⟩:=hrep.box t (tagP_some (P:=P)) hl h1 h2;refine ⟨_,_,_,.inl ?_,K.more_le,k1,k2⟩;simp [execOp,ho,Instr.alloc,zeroValue,typeInfo,hi,hzz,newVar,newRow]
theorem ok_box {o:Oper} {t:TypeId} {x:Operand} {y:Opd} (ho:o.op = .box t x) (hx:trX x = some y) (hl:leaves (y.ev ρ).cellsV = true) (hrep:Rep w0 κ σ w) (he:EnvOk κ ρ a) :
  Res w0 κ (σ ++ [.cells (y.ev ρ).cellsV (tagP P t)]) (.ptr σ.length 0) ((execOp a.eval o).run P w):=by
 obtain ⟨h1,h2⟩:=cells_ok (ev_ok he hx) hl
 obtain ⟨k1,k2⟩:=hrep.box t (tagP_some (P:=P)) hl h1 h2
 refine ⟨_,_,_,.inl ?_,K.more_le,k1,k2⟩
 simp [execOp,ho,Instr.box,newVar,newRow]
theorem ok_load {o:Oper} {t:TypeId} {x:Operand} {i:Ins} {v:V} (ho:o.op = .load t x) (htr:trOp P (.load t x) = some i) (hs:step ρ σ i = some (v,σ')) (hrep:Rep w0 κ σ w) (he:EnvOk κ ρ a) :
  Res w0 κ σ' v ((execOp a.eval o).run P w):=by
 simp only [trOp] at htr
 cases hd:P.underlying t with
 | none=>rw [hd] at htr;cases htr
 | some d=>
   cases hi:P.info? t with
   | none=>rw [hd,hi] at htr;cases htr
   | some inf=>
     rw [hd,hi] at htr;simp only at htr
     cases hg:isAggD d
     ·rw [hg] at htr
      obtain ⟨y,hy,rfl⟩:=tr1_some htr;simp only [step] at hs;split at hs
      ·rename_i cs o' hc
       split at hs
       ·rename_i u hu
        injection hs with hs
        injection hs with h1 h2
        subst h1 h2;obtain ⟨v',k1,k2⟩:=load1_ok hrep hd hg hc (ev_ok he hy) hu;exact Res.still (by simp [execOp,ho,k1]) hrep k2
       ·cases hs
      ·cases hs
     ·rw [hg] at htr
      obtain ⟨y,hy,rfl⟩:=tr1_some htr;simp only [step] at hs;split at hs
      ·rename_i cs o' hc
       split at hs
       ·rename_i hle
        injection hs with hs
        injection hs with h1 h2
        subst h1 h2;obtain ⟨v',k1,k2⟩:=loadn_ok hrep hd hg hi hc (ev_ok he hy) hle;exact Res.still (by simp [execOp,ho,k1]) hrep k2
       ·cases hs
      ·cases hs
theorem leaves_getD {l:List V} {xs:List Value} (hl:leaves l = true) (h:∀ j (hj:j < l.length),RV κ l[j] (xs.getD j undef)) (hlen:xs.length = l.length):∀ v ∈ xs,v.oneCell' = true:=by
 intro v hv
 obtain ⟨j,hj,rfl⟩:=List.getElem_of_mem hv
 have:=h j (by omega)
 rw [getD_of hj] at this
 refine this.one ?_
 unfold leaves at hl
 rw [List.all_eq_true] at hl
 exact hl _ (List.getElem_mem _)
theorem leaves_append {l r:List V}:leaves (l ++ r) = (leaves l && leaves r):=by simp [leaves]
theorem leaves_sub {l:List V} (h:leaves l = true) {r:List V} (hr:∀ x ∈ r,x ∈ l):leaves r = true:=by
 unfold leaves at *
 rw [List.all_eq_true] at *
 exact fun x hx=>h x (hr x hx)
theorem splice_get {α:Type} (l ys:List α) (o:Nat) (h:o + ys.length ≤ l.length) (j:Nat) :
  (l.take o ++ ys ++ l.drop (o + ys.length))[j]? = if j < o then l[j]? else if j < o + ys.length then ys[j - o]? else l[j]?:=by
 rw [List.append_assoc,List.getElem?_append,List.length_take,Nat.min_eq_left (by omega)]
 by_cases h1:j < o
 ·simp [h1]
 ·rw [if_neg h1,if_neg h1,List.getElem?_append]
  by_cases h2:j < o + ys.length
  ·rw [if_pos (by omega),if_pos h2]
  ·rw [if_neg (by omega),if_neg h2,List.getElem?_drop]
   congr 1
   omega
theorem splice_len {α:Type} (l ys:List α) (o:Nat) (h:o + ys.length ≤ l.length):(l.take o ++ ys ++ l.drop (o + ys.length)).length = l.length:=by
 simp;omega
def Fits (κ:K) (l:List V) (xs:List Value):Prop:=xs.length = l.length ∧ ∀ j (hj:j < l.length),RV κ l[j] (xs.getD j undef)
theorem Fits.splice {l ys:List V} {xs us:List Value} {o:Nat} (h:Fits κ l xs) (k:Fits κ ys us) (ho:o + ys.length ≤ l.length) :
  Fits κ (l.take o ++ ys ++ l.drop (o + ys.length)) (xs.take o ++ us ++ xs.drop (o + us.length)):=by
 refine ⟨by rw [splice_len _ _ _ ho,splice_len _ _ _ (by rw [k.1,h.1];exact ho)];exact h.1,fun j hj=>?_⟩
 have hj':j < l.length:=by rwa [splice_len _ _ _ ho] at hj
 have e1:=splice_get l ys o ho j
 have e2:=splice_get xs us o (by rw [k.1,h.1];exact ho) j
 rw [List.getElem?_eq_getElem hj] at e1
 have hxl:j < (xs.take o ++ us ++ xs.drop (o + us.length)).length:=by rw [splice_len _ _ _ (by rw [k.1,h.1];exact ho),h.1];exact hj'
 rw [getD_of hxl]
 rw [List.getElem?_eq_getElem hxl] at e2
 have hjx:j < xs.length:=by rw [h.1];exact hj'
 by_cases h1:j < o
 ·rw [if_pos h1,List.getElem?_eq_getElem hj'] at e1
  rw [if_pos h1,List.getElem?_eq_getElem hjx] at e2;injection e1 with e1
  injection e2 with e2
  rw [e1,e2]
  have:=h.2 j hj'
  rwa [getD_of hjx] at this
 ·rw [if_neg h1] at e1 e2
  by_cases h2:j < o + ys.length
  ·have hu:j - o < us.length:=by rw [k.1];omega
   rw [if_pos h2,List.getElem?_eq_getElem (by omega)] at e1
   rw [if_pos (by rw [k.1];exact h2),List.getElem?_eq_getElem hu] at e2
   injection e1 with e1
   injection e2 with e2
   rw [e1,e2]
   have:=k.2 (j - o) (by omega)
   rwa [getD_of hu] at this
  ·rw [if_neg h2,List.getElem?_eq_getElem hj'] at e1
   rw [if_neg (by rw [k.1];exact h2),List.getElem?_eq_getElem hjx] at e2
   injection e1 with e1
   injection e2 with e2
   rw [e1,e2]
   have:=h.2 j hj'
   rwa [getD_of hjx] at this
theorem ok_store {o:Oper} {t:TypeId} {x y:Operand} {i:Ins} {v:V} (ho:o.op = .store t x y) (htr:trOp P (.store t x y) = some i) (hs:step ρ σ i = some (v,σ')) (hrep:Rep w0 κ σ w) (he:EnvOk κ ρ a) :
  Res w0 κ σ' v ((execOp a.eval o).run P w):=by
 simp only [trOp] at htr
 cases hi:P.info? t with
 | none=>rw [hi] at htr;cases htr
 | some inf=>
   rw [hi] at htr;obtain ⟨x',y',hx,hy,rfl⟩:=tr2_some htr;simp only [step] at hs;split at hs
   ·rename_i b off hxe
    split at hs
    ·rename_i cs tg hb
     split at hs
     ·rename_i hc
      obtain ⟨c1,c2,c3⟩:=hc;injection hs with hs
      injection hs with h1 h2
      subst h1 h2
      have hxr:=ev_ok he hx
      rw [hxe] at hxr;obtain ⟨hlt,hb'⟩:=List.getElem?_eq_some_iff.1 hb
      have hblk:=hrep.blk b hlt
      rw [hb'] at hblk;obtain ⟨us,tt,k1,k2,k3⟩:=hblk.row
      have hyc:=cells_ok (ev_ok he hy) c3
      cases hxr':a.eval x with
      | pointer p=>
        rw [hxr'] at hxr
        cases hxr with
        | ptr q0 q1=>
          have hcs:leaves cs = true:=by
           unfold leaves;rw [List.all_eq_true];intro z hz;obtain ⟨j,hj,rfl⟩:=List.getElem_of_mem hz;exact (k3 j hj).1
          have hfit:Fits κ cs us.toList:=⟨by simpa using k2,fun j hj=>by have:=(k3 j hj).2;simpa [Array.getD,List.getD,k2,hj] using this⟩
          have hfit2:Fits κ (y'.ev ρ).cellsV (a.eval y).cells.toList:=hyc
          have hsp:=hfit.splice hfit2 (o:=off) (by omega)
          have hst:=run_storeCells_at P (κ.pos b) off tt (a.eval y).cells.toList 0 us w k1 (by have:=hyc.1;omega) (leaves_getD c3 hyc.2 hyc.1)
          simp only [Nat.add_zero] at hst
          have hw:=hrep.wrote (cs':=cs.take off ++ (y'.ev ρ).cellsV ++ cs.drop (off + inf.size)) hb (by
           rw [leaves_append,leaves_append];simp only [Bool.and_eq_true];exact ⟨⟨leaves_sub hcs fun z hz=>List.mem_of_mem_take hz,c3⟩,leaves_sub hcs fun z hz=>List.mem_of_mem_drop hz⟩) (by have:=hsp.1;rw [c1] at this;exact this) (by
            have:=hsp.2;rw [c1] at this;exact this)
          refine ⟨κ,undef,_,.inr ⟨?_,rfl⟩,K.le_refl κ,hw,.void⟩
          have hsz:(a.eval y).cells.size = inf.size:=by have:=hyc.1;simp at this;omega
          have hlt':¬ (a.eval y).cells.size ≠ inf.size:=by simpa using hsz
          simp only [execOp,ho,Instr.storeAt,hxr',Instr.sureAddr,Sem.run_bind,Sem.run_pure,Result.andThen_ok,storeVar,run_sizeOf hi,if_neg hlt',hst]
      | _=>rw [hxr'] at hxr;cases hxr
     ·cases hs
    ·rename_i e size cs hb
     split at hs
     ·rename_i ys hys
      split at hs
      ·rename_i hc
       obtain ⟨c1,c2⟩:=hc;injection hs with hs
       injection hs with h1 h2
       subst h1 h2
       have hxr:=ev_ok he hx
       rw [hxe] at hxr;obtain ⟨hlt,hb'⟩:=List.getElem?_eq_some_iff.1 hb
       have hblk:=hrep.blk b hlt
       rw [hb'] at hblk;obtain ⟨us,n,cap,k0,k1,k2,k3,k4,k5,k6⟩:=hblk.row
       have c3:leaves (y'.ev ρ).cellsV = true:=by unfold leaves;rw [List.all_eq_true];exact toCs_leaf hys
       have hyc:=cells_ok (ev_ok he hy) c3
       have hyl:=toCs_len hys
       have hyr:=toCs_RC hys hyc.1 hyc.2
       cases hxr':a.eval x with
       | pointer p=>
         rw [hxr'] at hxr
         cases hxr with
         | ptr q0 q1=>
           have hcu:cs.length ≤ us.size:=by rw [k2,k5];exact Nat.mul_le_mul_right _ k3
           have hol:off + (a.eval y).cells.toList.length ≤ us.size:=by have:=hyc.1;omega
           have hst:=run_storeCells_at P (κ.pos b) off e (a.eval y).cells.toList 0 us w k1 (by have:=hyc.1;omega) (leaves_getD c3 hyc.2 hyc.1)
           simp only [Nat.add_zero] at hst
           have hl1:(us.toList.take off ++ (a.eval y).cells.toList ++ us.toList.drop (off + (a.eval y).cells.toList.length)).length = us.size:=by
            have:=splice_len us.toList (a.eval y).cells.toList off (by simpa using hol)
            simpa using this
           have hl2:(cs.take off ++ ys ++ cs.drop (off + inf.size)).length = cs.length:=by
            have:=splice_len cs ys off (by omega)
            rwa [c1] at this
           have hw:=hrep.wroteV (cs':=cs.take off ++ ys ++ cs.drop (off + inf.size)) (vs:=us.toList.take off ++ (a.eval y).cells.toList ++ us.toList.drop (off + (a.eval y).cells.toList.length)) hb k1 hl1 hl2 (fun j hj=>by
            have hjc:j < cs.length:=by rw [← hl2];exact hj
            have e1:=splice_get cs ys off (by omega) j
            rw [c1,List.getElem?_eq_getElem hj] at e1
            have e2:=splice_get us.toList (a.eval y).cells.toList off (by simpa using hol) j
            rw [List.getD_eq_getElem?_getD,e2]
            have hyl':(a.eval y).cells.toList.length = ys.length:=by have:=hyc.1;omega
            by_cases g1:j < off
            ·rw [if_pos g1] at e1 ⊢
             rw [List.getElem?_eq_getElem hjc] at e1;injection e1 with e1
             rw [e1]
             simpa [Array.getD_eq_getD_getElem?] using k6 j hjc
            ·rw [if_neg g1] at e1 ⊢
             by_cases g2:j < off + inf.size
             ·rw [if_pos g2] at e1
              rw [if_pos (by omega)]
              have hjy:j - off < ys.length:=by omega
              rw [List.getElem?_eq_getElem hjy] at e1;injection e1 with e1
              rw [e1]
              have:=hyr (j - off) hjy
              rwa [List.getD_eq_getElem?_getD] at this
             ·rw [if_neg g2,List.getElem?_eq_getElem hjc] at e1
              rw [if_neg (by omega)]
              injection e1 with e1
              rw [e1]
              simpa [Array.getD_eq_getD_getElem?] using k6 j hjc)
           refine ⟨κ,undef,_,.inr ⟨?_,rfl⟩,K.le_refl κ,hw,.void⟩
           have hsz:(a.eval y).cells.size = inf.size:=by have:=hyc.1;simp at this;omega
           have hlt':¬ (a.eval y).cells.size ≠ inf.size:=by simpa using hsz
           simp only [execOp,ho,Instr.storeAt,hxr',Instr.sureAddr,Sem.run_bind,Sem.run_pure,Result.andThen_ok,storeVar,run_sizeOf hi,if_neg hlt',hst]
       | _=>rw [hxr'] at hxr;cases hxr
      ·cases hs
     ·cases hs
    ·cases hs
   ·cases hs
theorem ok_nilck {o:Oper} {x:Operand} {i:Ins} {v:V} (ho:o.op = .nilCheck x) (htr:trOp P (.nilCheck x) = some i) (hs:step ρ σ i = some (v,σ')) (hrep:Rep w0 κ σ w) (he:EnvOk κ ρ a) :
  Res w0 κ σ' v ((execOp a.eval o).run P w):=by
 obtain ⟨y,hy,rfl⟩:=tr1_some htr
 have hr:=ev_ok he hy
 simp only [step] at hs
 split at hs
 ·rename_i b off hx
  injection hs with hs
  injection hs with h1 h2
  subst h1 h2;rw [hx] at hr;refine Res.still (v':=a.eval x) ?_ hrep hr
  cases hv:a.eval x with
  | pointer p=>rw [hv] at hr;cases hr;simp [execOp,ho,hv]
  | _=>rw [hv] at hr;cases hr
 ·rename_i cs off hx
  injection hs with hs
  injection hs with h1 h2
  subst h1 h2;rw [hx] at hr;refine Res.still (v':=a.eval x) ?_ hrep hr
  cases hv:a.eval x with
  | pointer p=>rw [hv] at hr;cases hr with | c h=>cases h;simp [execOp,ho,hv]
  | _=>rw [hv] at hr;cases hr with | c h=>cases h
 ·rename_i f caps hx
  injection hs with hs
  injection hs with h1 h2
  subst h1 h2;rw [hx] at hr;refine Res.still (v':=a.eval x) ?_ hrep hr
  cases hv:a.eval x with
  | func fn first cap=>rw [hv] at hr;cases hr;simp [execOp,ho,hv]
  | _=>rw [hv] at hr;cases hr
 ·cases hs
theorem ok_fadd {o:Oper} {s f:Nat} {x:Operand} {i:Ins} {v:V} (ho:o.op = .fieldAddr s x f) (htr:trOp P (.fieldAddr s x f) = some i) (hs:step ρ σ i = some (v,σ')) (hrep:Rep w0 κ σ w) (he:EnvOk κ ρ a) :
  Res w0 κ σ' v ((execOp a.eval o).run P w):=by
 simp only [trOp] at htr
 split at htr
 ·rename_i fields hu
  split at htr
  ·rename_i fl hf
   split at htr
   ·rename_i k hk
    split at htr
    ·cases htr
    ·rename_i hk0
     obtain ⟨y,hy,rfl⟩:=tr1_some htr
     have hr:=ev_ok he hy
     unfold sizeP at hk
     cases hi:P.info? fl.type with
     | none=>rw [hi] at hk;cases hk
     | some inf=>
       rw [hi] at hk
       have hk:inf.size = k:=by simpa using hk
       have hne:¬ inf.size = 0:=by omega
       have key:∀ b p,a.eval x = .pointer (some ⟨b,p,none⟩) → (execOp a.eval o).run P w = .ok (.value (.pointer (some ⟨b,p + fl.offset,none⟩))) w:=by
        intro b p hp;simp [execOp,ho,Instr.fieldAt,run_underlying hu,hf,hp,Instr.sureAddr,fieldPlace,run_sizeOf hi,hne,add_lit]
       simp only [step] at hs;split at hs
       ·rename_i b off hx
        injection hs with hs
        injection hs with h1 h2
        subst h1 h2;rw [hx] at hr
        cases hv:a.eval x with
        | pointer p=>
          rw [hv] at hr
          cases hr with
          | ptr q0 q1=>exact Res.still (key _ _ hv) hrep (.ptr q0 q1)
        | _=>rw [hv] at hr;cases hr
       ·rename_i cs off hx
        injection hs with hs
        injection hs with h1 h2
        subst h1 h2;rw [hx] at hr
        cases hv:a.eval x with
        | pointer p=>
          rw [hv] at hr
          cases hr with
          | c h=>
            cases h with
            | ref cs o b p xs h3 h4 h5=>
              refine Res.still (key _ _ hv) hrep (.c ?_)
              have:=RC.ref (m:=κ.m) cs (off + fl.offset) b p xs h3 h4 h5
              rwa [← Nat.add_assoc] at this
        | _=>rw [hv] at hr;cases hr with | c h=>cases h
       ·cases hs
   ·cases htr
  ·cases htr
 ·cases htr
end

section
variable {P:Program} {w0 w w':World} {κ:K} {σ σ':H} {a:Act} {ρ:Env}

theorem RV.agg_of {vs:List V} {v:Value} (r:RV κ (.agg vs) v):∃ xs:List Value,v = .agg xs.toArray ∧ Fits κ vs xs:=by cases r with | agg h h1=>exact ⟨_,rfl,h,h1⟩
theorem RV.tup_of {vs:List V} {v:Value} (r:RV κ (.tup vs) v):∃ xs:List Value,v = .tuple xs.toArray ∧ Fits κ vs xs:=by cases r with | tup h h1=>exact ⟨_,rfl,h,h1⟩
theorem Fits.at_ {l:List V} {xs:List Value} (h:Fits κ l xs) {j:Nat} {u:V} (hu:l[j]? = some u):∃ v,xs[j]? = some v ∧ RV κ u v:=by
 obtain ⟨hj,e⟩:=List.getElem?_eq_some_iff.1 hu
 have hx:j < xs.length:=by rw [h.1];exact hj
 refine ⟨xs[j],List.getElem?_eq_getElem hx,?_⟩
 have:=h.2 j hj
 rw [getD_of hx,e] at this
 exact this
theorem Fits.sub {l:List V} {xs:List Value} (h:Fits κ l xs) (o n:Nat) (hle:o + n ≤ l.length):Fits κ ((l.drop o).take n) ((xs.drop o).take n):=by
 have hx:=h.1
 refine ⟨by simp [hx],fun j hj=>?_⟩
 have hj1:j < n:=by simp at hj;omega
 have hj2:j < ((xs.drop o).take n).length:=by simp;omega
 rw [getD_of hj2,List.getElem_take,List.getElem_take,List.getElem_drop,List.getElem_drop]
 have:=h.2 (o + j) (by omega)
 rwa [getD_of (by omega)] at this
theorem ok_field {o:Oper} {s f:Nat} {x:Operand} {i:Ins} {v:V} (ho:o.op = .field s x f) (htr:trOp P (.field s x f) = some i) (hs:step ρ σ i = some (v,σ')) (hrep:Rep w0 κ σ w) (he:EnvOk κ ρ a) :
  Res w0 κ σ' v ((execOp a.eval o).run P w):=by
 simp only [trOp] at htr
 split at htr
 ·rename_i fields hu
  split at htr
  ·rename_i fl hf
   split at htr
   ·rename_i d k hd hk
    unfold sizeP at hk
    cases hi:P.info? fl.type with
    | none=>rw [hi] at hk;cases hk
    | some inf=>
      rw [hi] at hk
      have hk:inf.size = k:=by simpa using hk
      split at htr
      ·rename_i hg
       obtain ⟨y,hy,rfl⟩:=tr1_some htr
       have hr:=ev_ok he hy
       simp only [step] at hs;split at hs
       ·rename_i vs hx
        split at hs
        ·rename_i hle
         injection hs with hs
         injection hs with h1 h2
         subst h1 h2;rw [hx] at hr;obtain ⟨xs,hv,hfit⟩:=hr.agg_of
         have hsub:=hfit.sub fl.offset k hle
         refine Res.still (v':=.agg ((xs.drop fl.offset).take k).toArray) ?_ hrep (.agg hsub.1 hsub.2);simp [execOp,ho,Instr.field,run_underlying hu,hf,hv,asAgg,part,run_isAgg hd,hg,run_sizeOf hi,hk]
        ·cases hs
       ·cases hs
      ·rename_i hg
       obtain ⟨y,hy,rfl⟩:=tr1_some htr
       have hr:=ev_ok he hy
       simp only [step] at hs;split at hs
       ·rename_i vs hx
        split at hs
        ·rename_i u hu'
         injection hs with hs
         injection hs with h1 h2
         subst h1 h2;rw [hx] at hr;obtain ⟨xs,hv,hfit⟩:=hr.agg_of;obtain ⟨v',hv',hr'⟩:=hfit.at_ hu';refine Res.still (v':=v') ?_ hrep hr'
         have hg':isAggD d = false:=by simpa using hg
         simp [execOp,ho,Instr.field,run_underlying hu,hf,hv,asAgg,part,run_isAgg hd,hg',hv']
        ·cases hs
       ·cases hs
   ·cases htr
  ·cases htr
 ·cases htr
theorem ok_ext {o:Oper} {x:Operand} {k:Nat} {i:Ins} {v:V} (ho:o.op = .extract x k) (htr:trOp P (.extract x k) = some i) (hs:step ρ σ i = some (v,σ')) (hrep:Rep w0 κ σ w) (he:EnvOk κ ρ a) :
  Res w0 κ σ' v ((execOp a.eval o).run P w):=by
 obtain ⟨y,hy,rfl⟩:=tr1_some htr
 have hr:=ev_ok he hy
 simp only [step] at hs
 split at hs
 ·rename_i vs hx
  split at hs
  ·rename_i u hu
   injection hs with hs
   injection hs with h1 h2
   subst h1 h2;rw [hx] at hr;obtain ⟨xs,hv,hfit⟩:=hr.tup_of;obtain ⟨v',hv',hr'⟩:=hfit.at_ hu;exact Res.still (v':=v') (by simp [execOp,ho,Instr.extract,hv,hv']) hrep hr'
  ·cases hs
 ·cases hs
theorem RV.rows_of {x:V} {r:List (List C)} {v:Value} (h:RV κ x v) (hr:x.rows = some r):RC κ.m (.sl r) v:=by
 cases h with
 | c h0=>
   cases h0 with
   | sl rows s A cap xs k0 k1 k2 k3 k4 k5=>simp only [V.rows] at hr;injection hr with hr;subst hr;exact .sl _ s A cap xs k0 k1 k2 k3 k4 k5
   | _=>cases hr
 | osl h0=>simp only [V.rows] at hr;injection hr with hr;subst hr;exact h0
 | csl h0=>simp only [V.rows] at hr;injection hr with hr;subst hr;exact h0
 | _=>cases hr
theorem RC.sl_of {m:Mem} {rows:List (List C)} {v:Value} (h:RC m (.sl rows) v):∃ (s:Nat) (A:Option Addr) (cap:Nat) (xs:List Value),v = .slice A rows.length cap ∧ (∀ r ∈ rows,r.length = s) ∧ rows.length ≤ cap ∧ cap ≤ maxLen ∧
  xs.length = rows.length * s ∧ (rows ≠ [] → ∃ b o,A = some ⟨b,o,none⟩ ∧ ∀ k,k < xs.length → m b (o + k) = xs[k]?) ∧ (∀ i (hi:i < rows.length) j (hj:j < rows[i].length),RC m rows[i][j] (xs.getD (i * s + j) undef)):=by
 cases h with | sl _ s A cap xs h0 h1 h2 h3 h4 h5=>exact ⟨s,A,cap,xs,rfl,h0,h1,h2,h3,h4,h5⟩
theorem mul_lt {i n s j:Nat} (hi:i < n) (hj:j < s):i * s + j < n * s:=by
 have:(i + 1) * s ≤ n * s:=Nat.mul_le_mul_right _ hi
 rw [Nat.add_mul] at this
 omega
theorem RC.row_at {m:Mem} {rows:List (List C)} {s b o:Nat} {xs:List Value} (h0:∀ r ∈ rows,r.length = s) (h3:xs.length = rows.length * s) (h4:∀ k,k < xs.length → m b (o + k) = xs[k]?)
  (h5:∀ i (hi:i < rows.length) j (hj:j < rows[i].length),RC m rows[i][j] (xs.getD (i * s + j) undef)) {i:Nat} (hi:i < rows.length):RC m (.ref rows[i] 0) (.pointer (some ⟨b,o + i * s,none⟩)):=by
 have hl:rows[i].length = s:=h0 _ (List.getElem_mem hi)
 have hlen:((xs.drop (i * s)).take s).length = s:=by
  have:=mul_lt (s:=s + 1) hi (Nat.lt_succ_self s)
  have h6:(i + 1) * s ≤ rows.length * s:=Nat.mul_le_mul_right _ hi
  rw [Nat.add_mul] at h6;simp;omega
 have key:∀ k,k < s → ((xs.drop (i * s)).take s)[k]? = xs[i * s + k]?:=fun k hk=>by rw [List.getElem?_take,if_pos hk,List.getElem?_drop]
 have:=RC.ref (m:=m) rows[i] 0 b (o + i * s) ((xs.drop (i * s)).take s) (by rw [hlen,hl]) (fun k hk=>by
  rw [hlen] at hk;rw [key k hk,← h4 (i * s + k) (by rw [h3];exact mul_lt hi hk),Nat.add_assoc]) (fun j hj=>by
  have hj':j < s:=by omega
  have:=h5 i hi j hj
  rw [List.getD_eq_getElem?_getD] at this ⊢
  rwa [key j hj'])
 simpa using this
theorem ok_iadd {o:Oper} {t:Nat} {x k:Operand} {i:Ins} {v:V} (ho:o.op = .indexAddr t x k) (htr:trOp P (.indexAddr t x k) = some i) (hs:step ρ σ i = some (v,σ')) (hrep:Rep w0 κ σ w) (he:EnvOk κ ρ a) :
  Res w0 κ σ' v ((execOp a.eval o).run P w):=by
 simp only [trOp] at htr
 split at htr
 ·rename_i e hu
  split at htr
  ·rename_i sz hsz
   obtain ⟨x',k',hx,hk,rfl⟩:=tr2_some htr;unfold sizeP at hsz
   cases hi:P.info? e with
   | none=>rw [hi] at hsz;cases hsz
   | some inf=>
     rw [hi] at hsz
     have hsz:inf.size = sz:=by simpa using hsz
     have hxr:=ev_ok he hx
     have hkr:=ev_ok he hk
     simp only [step] at hs;split at hs
     case h_2=>cases hs
     rename_i q j hj;split at hs
     ·rename_i b n hxe
      split at hs
      ·rename_i hb
       injection hs with hs
       injection hs with h1 h2
       subst h1 h2;rw [hj] at hkr
       have hkv:=hkr.int_of
       rw [hxe] at hxr;generalize hva:a.eval x = va at hxr
       cases hxr with
       | vec q0 q1 q2 q3 q4 q5=>
         refine Res.still (v':=.pointer (some ⟨κ.pos b,0 + j.toNat * sz,none⟩)) ?_ hrep (by rw [Nat.zero_add];exact .ptr q0 q1)
         simp [execOp,ho,Instr.indexAt,run_underlying hu,hva,hkv,asIntOf,hb,run_sizeOf hi,hsz,add_lit]
      ·cases hs
     split at hs
     ·rename_i u hnar r hr
      split at hs
      ·rename_i hb
       split at hs
       ·rename_i cs hcs
        split at hs
        ·rename_i hl
         injection hs with hs
         injection hs with h1 h2
         subst h1 h2;rw [hj] at hkr
         have hkv:=hkr.int_of
         obtain ⟨s,A,cap,xs,hv,h0,h1,h2,h3,h4,h5⟩:=(hxr.rows_of hr).sl_of;obtain ⟨hi',hcs'⟩:=List.getElem?_eq_some_iff.1 hcs;obtain ⟨b,p,rfl,k4⟩:=h4 (by intro e;rw [e] at hi';simp at hi')
         have hs':s = inf.size:=by rw [hsz,← hl,← hcs',h0 _ (List.getElem_mem hi')]
         have hrow:=RC.row_at h0 h3 k4 h5 hi'
         rw [hcs'] at hrow;refine Res.still (v':=.pointer (some ⟨b,p + j.toNat * s,none⟩)) ?_ hrep (.c hrow);simp [execOp,ho,Instr.indexAt,run_underlying hu,hv,hkv,asIntOf,hb,run_sizeOf hi,hs',add_lit]
        ·cases hs
       ·cases hs
      ·cases hs
     ·cases hs
  ·cases htr
 ·cases htr
theorem ok_index {o:Oper} {t:Nat} {x k:Operand} {i:Ins} {v:V} (ho:o.op = .index t x k) (htr:trOp P (.index t x k) = some i) (hs:step ρ σ i = some (v,σ')) (hrep:Rep w0 κ σ w) (he:EnvOk κ ρ a) :
  Res w0 κ σ' v ((execOp a.eval o).run P w):=by
 simp only [trOp] at htr
 split at htr
 ·rename_i hu
  obtain ⟨x',k',hx,hk,rfl⟩:=tr2_some htr
  have hxr:=ev_ok he hx
  have hkr:=ev_ok he hk
  simp only [step] at hs;split at hs
  ·rename_i l q j hl hj
   split at hs
   ·rename_i hb
    split at hs
    ·rename_i c hc
     injection hs with hs
     injection hs with h1 h2
     subst h1 h2;rw [hl] at hxr;rw [hj] at hkr
     have hkv:=hkr.int_of
     have hxv:=hxr.str_of
     obtain ⟨hlt,hc'⟩:=List.getElem?_eq_some_iff.1 hc
     have hget:(bs l)[j.toNat]? = some c:=by
      rw [getElem?_pos (bs l) j.toNat (by rw [bs_size];exact hlt),bs_get]
      rw [hc']
     refine Res.still (v':=.int .u8 c.toNat) ?_ hrep (.c (.int _ _));simp [execOp,ho,Instr.index,run_underlying hu,hxv,hkv,asIntOf,hb.1,hget]
    ·cases hs
   ·cases hs
  ·cases hs
 ·cases htr
theorem ok_un {o:Oper} {op:UnOp} {t:Nat} {x:Operand} {i:Ins} {v:V} (ho:o.op = .unOp op t x) (htr:trOp P (.unOp op t x) = some i) (hs:step ρ σ i = some (v,σ')) (hrep:Rep w0 κ σ w) (he:EnvOk κ ρ a) :
  Res w0 κ σ' v ((execOp a.eval o).run P w):=by
 obtain ⟨y,hy,rfl⟩:=tr1_some htr
 have hr:=ev_ok he hy
 simp only [step] at hs
 split at hs
 ·rename_i b hx
  injection hs with hs
  injection hs with h1 h2
  subst h1 h2;rw [hx] at hr;exact Res.still (v':=.bool (!b)) (by simp [execOp,ho,hr.bool_of,Op.unary]) hrep (.c (.bool _))
 ·rename_i k n hx
  injection hs with hs
  injection hs with h1 h2
  subst h1 h2;rw [hx] at hr;exact Res.still (v':=.int k (k.wrap (0 - n))) (by simp [execOp,ho,hr.int_of,Op.unary,Op.intArith]) hrep (.c (.int _ _))
 ·cases hs
theorem bytesC_some:∀ {rows:List (List C)} {l:List UInt8},bytesC rows = some l → ∃ ns:List Int,rows = ns.map (fun n=>[C.int .u8 n]) ∧ l = ns.map (fun n=>UInt8.ofNat n.toNat)
 | [],l,h=>by simp only [bytesC] at h;injection h with h;subst h;exact ⟨[],rfl,rfl⟩
 | r :: rows,l,h=>by
   unfold bytesC at h;split at h
   ·rename_i h0;cases h0
   ·rename_i n r' h0
    injection h0 with h1 h2
    subst h1 h2;split at h
    ·rename_i l' hl
     injection h with h
     subst h;obtain ⟨ns,rfl,rfl⟩:=bytesC_some hl;exact ⟨n :: ns,rfl,rfl⟩
    ·cases h
   ·cases h
theorem push_all:∀ (ns:List Int) (s:ByteArray),(ns.foldl (fun r n=>r.push (UInt8.ofNat n.toNat)) s).data.toList = s.data.toList ++ ns.map (fun n=>UInt8.ofNat n.toNat)
 | [],s=>by simp
 | n :: ns,s=>by
   rw [List.foldl_cons,push_all ns];simp [ByteArray.push]
theorem bytes_run (hrep:Rep w0 κ σ w) {rows:List (List C)} {l:List UInt8} {v:Value} (h:RC κ.m (.sl rows) v) (hb:bytesC rows = some l):(Conv.bytesToString v).run P w = .ok (.string (bs l)) w:=by
 obtain ⟨ns,rfl,rfl⟩:=bytesC_some hb
 obtain ⟨s,A,cap,xs,rfl,h0,h1,h2,h3,h4,h5⟩:=h.sl_of
 have hfin:(ns.foldl (fun r n=>r.push (UInt8.ofNat n.toNat)) ByteArray.empty) = bs (ns.map (fun n=>UInt8.ofNat n.toNat)):=bs_data (by rw [push_all];rfl)
 cases hns:ns with
 | nil=>
   subst hns
   cases A with
   | none=>simp [Conv.bytesToString];rfl
   | some a=>
     have:=run_bytesToString (P:=P) w a 0 cap [] (by have:=run_loadCells_list (P:=P) w a [] (by simp);simpa using this)
     rw [show (List.map (fun n=>[C.int IntKind.u8 n]) ([]:List Int)).length = 0 from rfl]
     rw [this]
     rfl
 | cons n0 ns0=>
   have hne:ns.map (fun n=>[C.int .u8 n]) ≠ []:=by rw [hns];simp
   have hs:s = 1:=by
    have:=h0 [C.int .u8 n0] (by rw [hns];simp)
    simpa using this.symm
   subst hs;obtain ⟨b,o,hA,hm⟩:=h4 hne
   have hxs:xs = ns.map (Value.int .u8):=by
    apply List.ext_getElem (by rw [h3];simp)
    intro k hk hk'
    have hk2:k < ns.length:=by simpa using hk'
    have:=h5 k (by simpa using hk2) 0 (by simp)
    simp only [List.getElem_map,List.getElem_cons_zero,Nat.mul_one,Nat.add_zero] at this;rw [getD_of hk] at this;generalize xs[k] = u at this
    cases this
    simp
   have hld:=run_loadCells_list (P:=P) w ⟨b,o,none⟩ xs (fun j v hj=>by
    rw [add_lit]
    have hjl:=(List.getElem?_eq_some_iff.1 hj).1
    have:=hm j hjl
    rw [hj] at this;exact hrep.mem _ _ _ this)
   have hlen:xs.length = ns.length:=by rw [hxs];simp
   rw [hlen,hxs] at hld
   have:=run_bytesToString (P:=P) w ⟨b,o,none⟩ ns.length cap ns hld
   rw [hA,← hns,List.length_map,this,hfin]
theorem ok_conv {o:Oper} {s t:Nat} {x:Operand} {i:Ins} {v:V} (ho:o.op = .convert s t x) (htr:trOp P (.convert s t x) = some i) (hs:step ρ σ i = some (v,σ')) (hrep:Rep w0 κ σ w) (he:EnvOk κ ρ a) :
  Res w0 κ σ' v ((execOp a.eval o).run P w):=by
 simp only [trOp] at htr
 split at htr
 ·rename_i k0 k h1 h2
  obtain ⟨y,hy,rfl⟩:=tr1_some htr
  have hr:=ev_ok he hy
  simp only [step] at hs;split at hs
  ·rename_i q n hx
   injection hs with hs
   injection hs with e1 e2
   subst e1 e2;rw [hx] at hr;exact Res.still (v':=.int k (k.wrap n)) (by simp [execOp,ho,hr.int_of,convert,run_underlying h1,run_underlying h2,Conv.intToInt]) hrep (.c (.int _ _))
  ·cases hs
 ·rename_i h1 h2
  obtain ⟨y,hy,rfl⟩:=tr1_some htr
  have hr:=ev_ok he hy
  simp only [step] at hs;split at hs
  ·rename_i l hx
   injection hs with hs
   injection hs with e1 e2
   subst e1 e2;rw [hx] at hr;exact Res.still (v':=.string (bs l)) (by simp [execOp,ho,hr.str_of,convert,run_underlying h1,run_underlying h2]) hrep (.c (.str _ hr.str_le))
  ·cases hs
 ·rename_i e h1 h2
  split at htr
  ·rename_i h3
   obtain ⟨y,hy,rfl⟩:=tr1_some htr
   have hr:=ev_ok he hy
   simp only [step] at hs;split at hs
   ·rename_i r hx
    split at hs
    ·rename_i l hl
     injection hs with hs
     injection hs with e1 e2
     subst e1 e2
     have hrc:=hr.rows_of hx
     obtain ⟨s0,A,cap,xs,hv,q0,q1,q2,_⟩:=hrc.sl_of
     have hrun:=bytes_run (P:=P) hrep hrc hl
     have hlm:l.length ≤ maxLen:=by
      obtain ⟨ns,rfl,rfl⟩:=bytesC_some hl;simp only [List.length_map] at q1 ⊢;omega
     rw [hv] at hrun;exact Res.still (v':=.string (bs l)) (by simp [execOp,ho,hv,run_convert_bytes_string w s t e A r.length cap h1 h3 h2,hrun]) hrep (.c (.str _ hlm))
    ·cases hs
   ·cases hs
  ·cases htr
 ·cases htr
theorem ok_mkfn {o:Oper} {f:FuncId} {caps:Array Operand} {i:Ins} {v:V} (ho:o.op = .makeFunc (.func f) #[] caps) (htr:trOp P (.makeFunc (.func f) #[] caps) = some i) (hs:step ρ σ i = some (v,σ')) (hrep:Rep w0 κ σ w) (he:EnvOk κ ρ a) :
  Res w0 κ σ' v ((execOp a.eval o).run P w):=by
 simp only [trOp] at htr
 split at htr
 ·rename_i cs hcs
  injection htr with htr
  subst htr;simp only [step] at hs;injection hs with hs
  injection hs with h1 h2
  subst h1 h2;obtain ⟨hl,hc⟩:=mapM_some hcs;refine Res.still (v':=.func (.func f) #[] (caps.toList.map a.eval).toArray) ?_ hrep (.fn (by simp [hl]) fun j hj=>?_)
  ·simp only [execOp,ho,Instr.makeFunc,Sem.run_bind,Sem.run_pure,Result.andThen_ok,List.map_toArray,List.map_nil]
   congr 3
   apply Array.ext';simp
  ·have hj1:j < cs.length:=by simpa using hj
   have hj2:j < caps.toList.length:=by omega
   rw [getD_of (by simpa using hj2),List.getElem_map,List.getElem_map]
   exact ev_ok he (hc j hj2 hj1)
 ·cases htr
theorem ok_mx {o:Oper} {ats:Array TypeId} {x y:Operand} {x' y':Opd} {k k':IntKind} {m n:Int} (ho:o.op = .call { callee:=.builtin .max,args:=#[x,y],argTypes:=ats }) (hx:trX x = some x') (hy:trX y = some y')
  (h1:x'.ev ρ = .c (.int k m)) (h2:y'.ev ρ = .c (.int k' n)) (hrep:Rep w0 κ σ w) (he:EnvOk κ ρ a):Res w0 κ σ (.c (.int k (if n > m then n else m))) ((execOp a.eval o).run P w):=by
 have hxr:=ev_ok he hx
 have hyr:=ev_ok he hy
 rw [h1] at hxr
 rw [h2] at hyr
 exact Res.still (v':=.int k (if n > m then n else m)) (by simp [execOp,ho,resolve,invoke,builtin,hxr.int_of,hyr.int_of,Builtin.max_,Builtin.max2]) hrep (.c (.int _ _))
theorem ok_mn {o:Oper} {ats:Array TypeId} {x y:Operand} {x' y':Opd} {k k':IntKind} {m n:Int} (ho:o.op = .call { callee:=.builtin .min,args:=#[x,y],argTypes:=ats }) (hx:trX x = some x') (hy:trX y = some y')
  (h1:x'.ev ρ = .c (.int k m)) (h2:y'.ev ρ = .c (.int k' n)) (hrep:Rep w0 κ σ w) (he:EnvOk κ ρ a):Res w0 κ σ (.c (.int k (if n < m then n else m))) ((execOp a.eval o).run P w):=by
 have hxr:=ev_ok he hx
 have hyr:=ev_ok he hy
 rw [h1] at hxr
 rw [h2] at hyr
 exact Res.still (v':=.int k (if n < m then n else m)) (by simp [execOp,ho,resolve,invoke,builtin,hxr.int_of,hyr.int_of,Builtin.min_,Builtin.min2]) hrep (.c (.int _ _))
theorem ok_len {o:Oper} {t:TypeId} {x:Operand} {i:Ins} {v:V} (ho:o.op = .call { callee:=.builtin .len,args:=#[x],argTypes:=#[t] }) (htr:trBuiltin P .len [x] [t] = some i) (hs:step ρ σ i = some (v,σ')) (hrep:Rep w0 κ σ w) (he:EnvOk κ ρ a) :
  Res w0 κ σ' v ((execOp a.eval o).run P w):=by
 simp only [trBuiltin] at htr
 split at htr
 ·rename_i hu
  obtain ⟨y,hy,rfl⟩:=tr1_some htr
  have hr:=ev_ok he hy
  simp only [step] at hs;split at hs
  ·rename_i l hx
   injection hs with hs
   injection hs with e1 e2
   subst e1 e2;rw [hx] at hr;exact Res.still (v':=.int .i64 l.length) (by simp [execOp,ho,resolve,invoke,builtin,hr.str_of,Builtin.len_,run_underlying hu,goInt,bs_size]) hrep (.c (.int _ _))
  ·cases hs
 ·rename_i e hu
  obtain ⟨y,hy,rfl⟩:=tr1_some htr
  have hr:=ev_ok he hy
  simp only [step] at hs;split at hs
  ·rename_i b n hx
   injection hs with hs
   injection hs with e1 e2
   subst e1 e2;rw [hx] at hr;generalize hva:a.eval x = va at hr
   cases hr with
   | vec q0 q1 q2 q3 q4 q5=>exact Res.still (v':=.int .i64 n) (by simp [execOp,ho,resolve,invoke,builtin,hva,Builtin.len_,run_underlying hu,goInt]) hrep (.c (.int _ _))
  split at hs
  ·rename_i u hnar r hx
   injection hs with hs
   injection hs with e1 e2
   subst e1 e2;obtain ⟨s,A,cap,xs,hv,_⟩:=(hr.rows_of hx).sl_of;exact Res.still (v':=.int .i64 r.length) (by simp [execOp,ho,resolve,invoke,builtin,hv,Builtin.len_,run_underlying hu,goInt]) hrep (.c (.int _ _))
  ·cases hs
 ·rename_i kt et hu
  obtain ⟨y,hy,rfl⟩:=tr1_some htr
  have hr:=ev_ok he hy
  simp only [step] at hs;split at hs
  ·rename_i b hx
   split at hs
   ·rename_i kvs hb
    injection hs with hs
    injection hs with e1 e2
    subst e1 e2;rw [hx] at hr;obtain ⟨hlt,hb'⟩:=List.getElem?_eq_some_iff.1 hb
    have hblk:=hrep.blk b hlt
    rw [hb'] at hblk;obtain ⟨es,clock,k1,k2,k3⟩:=hblk.row;generalize hva:a.eval x = va at hr
    cases hr with
    | mp h0 h1=>
      have k4:es.size = kvs.length:=by rw [← k2];simp
      exact Res.still (v':=.int .i64 kvs.length) (by simp [execOp,ho,resolve,invoke,builtin,hva,Builtin.len_,run_underlying hu,goInt,MapKept.run_getObj_map k1,k4,Result.andThen]) hrep (.c (.int _ _))
   ·cases hs
  ·cases hs
 ·cases htr
end

section
variable {P:Program} {w0 w w':World} {κ:K} {σ σ':H} {a:Act} {ρ:Env}

theorem trO_some {x:Option Operand} {y:Option Opd} (h:trO x = some y):(x = none ∧ y = none) ∨ ∃ x' y',x = some x' ∧ y = some y' ∧ trX x' = some y':=by
 unfold trO at h
 split at h
 ·injection h with h;exact .inl ⟨rfl,h.symm⟩
 ·split at h
  ·rename_i x' y' hy;injection h with h;exact .inr ⟨_,_,rfl,h.symm,hy⟩
  ·cases h
theorem bound_int {y:Opd} {n h:Nat} (hb:boundV ρ n (some y) = some h):∃ k i,y.ev ρ = .c (.int k i) ∧ 0 ≤ i ∧ i ≤ n ∧ i.toNat = h:=by
 simp only [boundV] at hb
 split at hb
 ·rename_i k i hi
  split at hb
  ·rename_i hc;injection hb with hb;exact ⟨k,i,hi,hc.1,hc.2,hb⟩
  ·cases hb
 ·cases hb
theorem boundL_int {y:Opd} {n h:Nat} (hb:boundL ρ n (some y) = some h):∃ k i,y.ev ρ = .c (.int k i) ∧ 0 ≤ i ∧ i ≤ n ∧ i.toNat = h:=by
 simp only [boundL] at hb
 split at hb
 ·rename_i k i hi
  split at hb
  ·rename_i hc;injection hb with hb;exact ⟨k,i,hi,hc.1,hc.2,hb⟩
  ·cases hb
 ·cases hb
theorem run_bound {k:IntKind} {i:Int} {y:Nat} {c:BoundsCode} (h0:0 ≤ i) (h1:i ≤ y):(Instr.sliceBound (.int k i) y c).run P w = .ok i.toNat w:=by
 simp [Instr.sliceBound,asIntOf,h0,h1]
theorem low_run {n h:Nat} {lo:Option Operand} {lo':Option Opd} {c:BoundsCode} (he:EnvOk κ ρ a) (ht:trO lo = some lo') (hb:boundL ρ n lo' = some h) :
  (match lo.map a.eval with | some v=>Instr.sliceBound v n c | none=>pure 0:Sem Nat).run P w = .ok h w ∧ h ≤ n:=by
 rcases trO_some ht with ⟨rfl,rfl⟩ | ⟨x,y,rfl,rfl,hx⟩
 ·simp only [boundL] at hb;injection hb with hb;subst hb;exact ⟨rfl,Nat.zero_le _⟩
 ·obtain ⟨k,i,hi,h0,h1,rfl⟩:=boundL_int hb
  have hr:=ev_ok he hx
  rw [hi] at hr;refine ⟨?_,by omega⟩
  simp only [Option.map_some,hr.int_of];exact run_bound h0 h1
theorem high_run {n cap h:Nat} {hi:Option Operand} {hi':Option Opd} {c:BoundsCode} (he:EnvOk κ ρ a) (ht:trO hi = some hi') (hb:boundV ρ n hi' = some h) (hc:n ≤ cap) :
  (match hi.map a.eval with | some v=>Instr.sliceBound v cap c | none=>pure n:Sem Nat).run P w = .ok h w ∧ h ≤ n:=by
 rcases trO_some ht with ⟨rfl,rfl⟩ | ⟨x,y,rfl,rfl,hx⟩
 ·simp only [boundV] at hb;injection hb with hb;subst hb;exact ⟨rfl,Nat.le_refl _⟩
 ·obtain ⟨k,i,hi,h0,h1,rfl⟩:=bound_int hb
  have hr:=ev_ok he hx
  rw [hi] at hr;refine ⟨?_,by omega⟩
  simp only [Option.map_some,hr.int_of];exact run_bound h0 (by omega)
theorem run_bounds {isS:Bool} {n cap h l:Nat} {lo hi:Option Operand} {lo' hi':Option Opd} (he:EnvOk κ ρ a) (ht1:trO lo = some lo') (ht2:trO hi = some hi') (hb:boundV ρ n hi' = some h) (hl:boundL ρ h lo' = some l) (hc:n ≤ cap) :
  (Instr.sliceBounds isS n cap (lo.map a.eval) (hi.map a.eval) none).run P w = .ok (l,h,cap) w ∧ l ≤ h ∧ h ≤ n:=by
 obtain ⟨k1,k2⟩:=high_run (P:=P) (w:=w) (c:=if isS then .sliceAcap else .sliceAlen) he ht2 hb hc
 obtain ⟨k3,k4⟩:=low_run (P:=P) (w:=w) (c:=.sliceB) he ht1 hl
 refine ⟨?_,k4,k2⟩
 unfold Instr.sliceBounds
 cases hhi:hi.map a.eval <;> cases hlo:lo.map a.eval <;> simp only [hhi,hlo] at k1 k3 <;> simp [k1,k3]
 all_goals simp at k1 k3
 all_goals simp [*]
theorem ok_sls {o:Oper} {t:TypeId} {x:Operand} {lo hi:Option Operand} {x':Opd} {lo' hi':Option Opd} {v:V} (ho:o.op = .slice t x lo hi none) (hu:P.underlying t = some .string) (hx:trX x = some x') (h1:trO lo = some lo') (h2:trO hi = some hi')
  (hs:step ρ σ (.sls x' lo' hi') = some (v,σ')) (hrep:Rep w0 κ σ w) (he:EnvOk κ ρ a):Res w0 κ σ' v ((execOp a.eval o).run P w):=by
 have hr:=ev_ok he hx
 simp only [step] at hs
 split at hs
 ·rename_i l hl
  split at hs
  ·rename_i h hh
   split at hs
   ·rename_i q hq
    injection hs with hs
    injection hs with e1 e2
    subst e1 e2;rw [hl] at hr;obtain ⟨k,_,_⟩:=run_bounds (P:=P) (w:=w) (isS:=false) (cap:=l.length) he h1 h2 hh hq (Nat.le_refl _);refine Res.still (v':=.string (bs ((l.drop q).take (h - q)))) ?_ hrep (.c (.str _ (Nat.le_trans (by simp;omega) hr.str_le)))
    simp [execOp,ho,Instr.sliceAt,run_underlying hu,hr.str_of,Instr.slice,bs_size,k,bs_extract]
   ·cases hs
  ·cases hs
 ·cases hs

theorem RC.sub {m:Mem} {rows:List (List C)} {A:Option Addr} {cap s l k c:Nat} (h:RC m (.sl rows) (.slice A rows.length cap)) (hs:∀ cs ∈ rows,cs.length = s) (hl:l + k ≤ rows.length) (hc:k ≤ c) (hcm:c + l ≤ cap) :
  RC m (.sl ((rows.drop l).take k)) (.slice (if c + l = l then A else A.map (·.add (l * s))) k c):=by
 obtain ⟨s',A',cap',xs,hv,h0,h1,h2,h3,h4,h5⟩:=h.sl_of
 injection hv with e1 _ e3
 subst e1 e3
 have hlen:((rows.drop l).take k).length = k:=by simp;omega
 by_cases hk:k = 0
 ·subst hk
  have:(rows.drop l).take 0 = []:=rfl
  rw [this];exact .sl [] s _ c [] (by simp) (Nat.zero_le _) (by omega) (by simp) (by simp) (by simp)
 ·have hss:s' = s:=by
   have h6:0 < rows.length:=by omega
   rw [← h0 _ (List.getElem_mem h6),hs _ (List.getElem_mem h6)]
  subst hss;obtain ⟨b,o,rfl,hm⟩:=h4 (by intro e;rw [e] at hl;simp at hl;omega)
  have hxs:((xs.drop (l * s')).take (k * s')).length = k * s':=by
   have:(l + k) * s' ≤ rows.length * s':=Nat.mul_le_mul_right _ hl
   rw [Nat.add_mul] at this;simp;omega
  have:=RC.sl (m:=m) ((rows.drop l).take k) s' (if c + l = l then some ⟨b,o,none⟩ else (some (⟨b,o,none⟩:Addr)).map (·.add (l * s'))) c ((xs.drop (l * s')).take (k * s'))
   (fun r hr=>h0 r (List.mem_of_mem_drop (List.mem_of_mem_take hr))) (by rw [hlen];exact hc) (by omega) (by rw [hlen,hxs]) (fun _=>⟨b,o + l * s',by
     rw [if_neg (by omega)]
     simp [add_lit],fun j hj=>by
     rw [hxs] at hj
     have h6:l * s' + j < xs.length:=by
      have:(l + k) * s' ≤ rows.length * s':=Nat.mul_le_mul_right _ hl
      rw [Nat.add_mul] at this;omega
     rw [List.getElem?_take,if_pos hj,List.getElem?_drop,← hm _ h6,Nat.add_assoc]⟩) (fun i hi j hj=>by
     have hi':i < k:=by omega
     have e:((rows.drop l).take k)[i] = rows[l + i]'(by omega):=by rw [List.getElem_take,List.getElem_drop]
     have hj':j < (rows[l + i]'(by omega)).length:=by rw [← e];exact hj
     have h7:=h5 (l + i) (by omega) j hj'
     have hjs:j < s':=by rw [← h0 _ (List.getElem_mem (show l + i < rows.length by omega))];exact hj'
     have e2:((xs.drop (l * s')).take (k * s')).getD (i * s' + j) undef = xs.getD ((l + i) * s' + j) undef:=by
      rw [List.getD_eq_getElem?_getD,List.getD_eq_getElem?_getD,List.getElem?_take,if_pos (mul_lt hi' hjs),List.getElem?_drop,Nat.add_mul,Nat.add_assoc]
     rw [e2]
     simpa [e] using h7)
  rwa [hlen] at this
theorem ok_slr {o:Oper} {t e:TypeId} {inf:TypeInfo} {x:Operand} {lo hi mx:Option Operand} {x':Opd} {lo' hi' mx':Option Opd} {v:V} (ho:o.op = .slice t x lo hi mx) (hu:P.underlying t = some (.slice e)) (hi0:P.info? e = some inf) (hx:trX x = some x')
  (h1:trO lo = some lo') (h2:trO hi = some hi') (h3:trO mx = some mx') (hmh:¬ (mx'.isSome && hi'.isNone) = true)
  (hs:step ρ σ (.slr inf.size x' lo' hi' mx') = some (v,σ')) (hrep:Rep w0 κ σ w) (he:EnvOk κ ρ a):Res w0 κ σ' v ((execOp a.eval o).run P w):=by
 have hr:=ev_ok he hx
 simp only [step] at hs
 split at hs
 ·rename_i b n hsub
  split at hs
  ·rename_i h hh
   injection hs with hs
   injection hs with e1 e2
   subst e1 e2
   have hsub:x'.ev ρ = .vec b n ∧ lo' = none ∧ mx' = none:=by
    generalize x'.ev ρ = u at hsub
    cases u <;> simp only [V.sub] at hsub <;> first | (cases hsub;done) | skip
    split at hsub
    ·injection hsub with hsub
     injection hsub with e1 e2
     subst e1 e2;exact ⟨rfl,rfl,rfl⟩
    ·cases hsub
   obtain ⟨hx',rfl,rfl⟩:=hsub
   have hmx:mx = none:=by
    rcases trO_some h3 with ⟨h,_⟩ | ⟨_,_,_,h,_⟩
    ·exact h
    ·cases h
   subst hmx
   have hlo:lo = none:=by
    rcases trO_some h1 with ⟨h,_⟩ | ⟨_,_,_,h,_⟩
    ·exact h
    ·cases h
   subst hlo;rw [hx'] at hr;generalize hva:a.eval x = va at hr
   cases hr with
   | vec q0 q1 q2 q3 q4 q5=>
     rename_i n0 cap;obtain ⟨k,k1,k2⟩:=run_bounds (P:=P) (w:=w) (isS:=true) (cap:=cap) (l:=0) he h1 h2 hh rfl (by omega)
     simp only [Option.map_none] at k;refine Res.still (v':=_) ?_ hrep (RV.vec q0 q1 q2 (k:=h) (by omega) q4 q5)
     simp [execOp,ho,Instr.sliceAt,run_underlying hu,hva,Instr.slice,k,run_sizeOf hi0,add_lit]
  ·cases hs
 split at hs
 ·rename_i r hrows
  split at hs
  ·rename_i hsz
   split at hs
   ·rename_i h hh
    split at hs
    ·rename_i q hq
     have hrc:=hr.rows_of hrows
     obtain ⟨s,A,cap,xs,hv,_,hcap,_⟩:=hrc.sl_of;rw [hv] at hrc;split at hs
     ·injection hs with hs
      injection hs with e1 e2
      subst e1 e2
      have hmx:mx = none:=by
       rcases trO_some h3 with ⟨h,_⟩ | ⟨_,_,_,h,_⟩
       ·exact h
       ·cases h
      subst hmx;obtain ⟨k,k1,k2⟩:=run_bounds (P:=P) (w:=w) (isS:=true) (cap:=cap) he h1 h2 hh hq hcap
      have hsub:=hrc.sub (s:=inf.size) (l:=q) (k:=h - q) (c:=cap - q) hsz (by omega) (by omega) (by omega)
      rw [show cap - q + q = cap from by omega] at hsub
      refine Res.still (v':=_) ?_ hrep (.c hsub);simp [execOp,ho,Instr.sliceAt,run_underlying hu,hv,Instr.slice,k,run_sizeOf hi0]
     ·rename_i m
      split at hs
      ·rename_i m' hm'
       split at hs
       ·rename_i hmeq
        injection hs with hs
        injection hs with e1 e2
        subst e1 e2;subst hmeq;rcases trO_some h3 with ⟨_,h⟩ | ⟨xm,ym,rfl,hym,hxm⟩
        ·cases h
        injection hym with hym
        subst hym;rcases trO_some h2 with ⟨_,rfl⟩ | ⟨xh,yh,rfl,rfl,hxh⟩
        ·simp at hmh
        obtain ⟨km,im,him,m0,m1,m2⟩:=bound_int hm';obtain ⟨kh,ih,hih,n0,n1,n2⟩:=bound_int hh
        have hmr:=ev_ok he hxm
        rw [him] at hmr
        have hhr:=ev_ok he hxh
        rw [hih] at hhr;obtain ⟨k3,k4⟩:=low_run (P:=P) (w:=w) (c:=.slice3C) he h1 hq
        have b1:=run_bound (P:=P) (w:=w) (k:=km) (i:=im) (y:=cap) (c:=.slice3Acap) m0 (by omega)
        have b2:=run_bound (P:=P) (w:=w) (k:=kh) (i:=ih) (y:=im.toNat) (c:=.slice3B) n0 (by omega)
        rw [m2] at b1 b2;rw [n2] at b2
        have hb:(Instr.sliceBounds true r.length cap (lo.map a.eval) (some (.int kh ih)) (some (.int km im))).run P w = .ok (q,m',m') w:=by
         unfold Instr.sliceBounds
         cases hlo:lo.map a.eval <;> simp only [hlo] at k3 <;> simp [b1,b2]
         ·simp at k3;simp [k3]
         ·simp [k3]
        have hsub:=hrc.sub (s:=inf.size) (l:=q) (k:=m' - q) (c:=m' - q) hsz (by omega) (by omega) (by omega)
        rw [show m' - q + q = m' from by omega] at hsub
        have hlen:((r.drop q).take (m' - q)).length = m' - q:=by simp;omega
        have hcs:=RV.csl (κ:=κ) (rows:=(r.drop q).take (m' - q)) (A:=if m' = q then A else A.map (·.add (q * inf.size))) (by rw [hlen];exact hsub)
        rw [hlen] at hcs;refine Res.still (v':=_) ?_ hrep hcs;simp [execOp,ho,Instr.sliceAt,run_underlying hu,hv,Instr.slice,hmr.int_of,hhr.int_of,hb,run_sizeOf hi0]
       ·cases hs
      ·cases hs
    ·cases hs
   ·cases hs
  ·cases hs
 ·cases hs

theorem ok_bin {o:Oper} {op:BinOp} {t t':Nat} {x y:Operand} {x' y':Opd} {v:V} (ho:o.op = .binOp op t x y t') (hx:trX x = some x') (hy:trX y = some y') (hs:step ρ σ (.bin op x' y') = some (v,σ')) (hrep:Rep w0 κ σ w) (he:EnvOk κ ρ a) :
  Res w0 κ σ' v ((execOp a.eval o).run P w):=by
 have hxr:=ev_ok he hx
 have hyr:=ev_ok he hy
 simp only [step] at hs
 split at hs
 ·rename_i u hb
  injection hs with hs
  injection hs with e1 e2
  subst e1 e2;unfold binV at hb;split at hb
  ·rename_i k m k' n h1 h2
   rw [h1] at hxr;rw [h2] at hyr
   have hxv:=hxr.int_of
   have hyv:=hyr.int_of
   split at hb
   ·rename_i hk
    subst hk
    have g:∀ u,(eqGuard op t x y (.int k m) (.int k n)).run P u = .ok () u:=fun u=>by unfold eqGuard;split <;> simp
    cases op <;> simp only [binInt] at hb
    case quo | rem=>
     split at hb
     ·cases hb
     ·rename_i hn
      simp only [Option.map_some,Option.some.injEq] at hb;subst hb;refine Res.still (v':=_) ?_ hrep (.c (.int _ _));simp [execOp,ho,hxv,hyv,g,binOp,Op.intDiv,hn]
    case add | sub | mul=>
     simp only [Option.map_some,Option.some.injEq] at hb;subst hb;refine Res.still (v':=_) ?_ hrep (.c (.int _ _));simp [execOp,ho,hxv,hyv,g,binOp,Op.intArith]
    case eql | neq | lss | leq | gtr | geq=>
     simp only [Option.map_some,Option.some.injEq] at hb;subst hb;refine Res.still (v':=_) ?_ hrep (.c (.bool _));simp [execOp,ho,hxv,hyv,g,binOp,Op.intCmp]
    all_goals cases hb
   ·cases hb
  ·rename_i l r h1 h2
   rw [h1] at hxr;rw [h2] at hyr
   have hxv:=hxr.str_of
   have hyv:=hyr.str_of
   have g:∀ u,(eqGuard op t x y (.string (bs l)) (.string (bs r))).run P u = .ok () u:=fun u=>by unfold eqGuard;split <;> simp
   cases op <;> simp only [binStr] at hb
   case add=>
    split at hb
    ·rename_i hle
     simp only [Option.map_some,Option.some.injEq] at hb;subst hb;refine Res.still (v':=.string (bs (l ++ r))) ?_ hrep (.c (.str _ (by unfold maxLen;simp;omega)))
     have hmax:((l.length:Int) + (r.length:Int)) ≤ 9223372036854775807:=by omega
     simp [execOp,ho,hxv,hyv,g,binOp,Op.stringOp,bs_size,hmax,bs_append]
    ·cases hb
   case eql | neq | lss=>
    simp only [Option.map_some,Option.some.injEq] at hb;subst hb;refine Res.still (v':=_) ?_ hrep (.c (.bool _));simp [execOp,ho,hxv,hyv,g,binOp,Op.stringOp,bs_toList]
   all_goals cases hb
  ·cases hb
 ·cases hs
theorem run_equalIn_bool {t:Nat} (d:Nat) (p q:Bool) (hu:P.underlying t = some .bool):(Op.equalIn (d + 1) t (.bool p) (.bool q)).run P w = .ok (p == q) w:=by
 simp [Op.equalIn,run_underlying hu]
theorem ok_eqb {o:Oper} {op:BinOp} {t t':Nat} {x y:Operand} {x' y':Opd} {v:V} {neg:Bool} (ho:o.op = .binOp op t x y t') (hu:P.underlying t = some .bool) (hop:op = if neg then .neq else .eql) (hx:trX x = some x') (hy:trX y = some y')
  (hs:step ρ σ (.eqb neg x' y') = some (v,σ')) (hrep:Rep w0 κ σ w) (he:EnvOk κ ρ a):Res w0 κ σ' v ((execOp a.eval o).run P w):=by
 have hxr:=ev_ok he hx
 have hyr:=ev_ok he hy
 simp only [step] at hs
 split at hs
 ·rename_i p q h1 h2
  injection hs with hs
  injection hs with e1 e2
  subst e1 e2;rw [h1] at hxr;rw [h2] at hyr
  have hxv:=hxr.bool_of
  have hyv:=hyr.bool_of
  have g:∀ u,(eqGuard op t x y (.bool p) (.bool q)).run P u = .ok () u:=fun u=>by unfold eqGuard;split <;> simp
  have q1:(Op.equal t (.bool p) (.bool q)).run P w = .ok (p == q) w:=run_equalIn_bool 9999 p q hu
  refine Res.still (v':=.bool (if neg then !(p == q) else p == q)) ?_ hrep (.c (.bool _))
  cases neg
  ·simp only [Bool.false_eq_true,if_false] at hop
   subst hop;simp only [execOp,ho,hxv,hyv,Sem.run_bind,g,Result.andThen_ok,binOp,q1,Sem.run_pure,Bool.false_eq_true,if_false]
  ·simp only [if_true] at hop
   subst hop;simp only [execOp,ho,hxv,hyv,Sem.run_bind,g,Result.andThen_ok,binOp,q1,Sem.run_pure,if_true]
 ·cases hs
end

section
variable {P:Program} {w0 w w':World} {κ:K} {σ σ':H} {a:Act} {ρ:Env}

theorem trEqn_some {k:Nat} {op:BinOp} {x:Operand} {i:Ins} (h:trEqn k op x = some i):∃ neg y,op = (if neg then .neq else .eql) ∧ trX x = some y ∧ i = .eqn neg k y:=by
 unfold trEqn at h
 split at h
 ·obtain ⟨y,hy,rfl⟩:=tr1_some h;exact ⟨false,y,rfl,hy,rfl⟩
 ·obtain ⟨y,hy,rfl⟩:=tr1_some h;exact ⟨true,y,rfl,hy,rfl⟩
 ·cases h
theorem eql_run {o:Oper} {op:BinOp} {t t':Nat} {x y:Operand} {neg p:Bool} {u v:Value} (ho:o.op = .binOp op t x y t') (hop:op = if neg then .neq else .eql) (hu:a.eval x = u) (hv:a.eval y = v)
  (hg:(eqGuard op t x y u v).run P w = .ok () w) (hq:(Op.equal t u v).run P w = .ok p w) (hb:∀ op,(op = .eql → binOp op t u v = (do pure (.bool (← Op.equal t u v)))) ∧ (op = .neq → binOp op t u v = (do pure (.bool (!(← Op.equal t u v)))))) :
  (execOp a.eval o).run P w = .ok (.value (.bool (if neg then !p else p))) w:=by
 cases neg
 ·simp only [Bool.false_eq_true,if_false] at hop
  subst hop;simp only [execOp,ho,hu,hv,Sem.run_bind,hg,Result.andThen_ok,(hb _).1 rfl,hq,Sem.run_pure,Bool.false_eq_true,if_false]
 ·simp only [if_true] at hop
  subst hop;simp only [execOp,ho,hu,hv,Sem.run_bind,hg,Result.andThen_ok,(hb _).2 rfl,hq,Sem.run_pure,if_true]
theorem ok_eqn {o:Oper} {op:BinOp} {t t':Nat} {x y:Operand} {i:Ins} {v:V} (ho:o.op = .binOp op t x y t') (hs:step ρ σ i = some (v,σ')) (hrep:Rep w0 κ σ w) (he:EnvOk κ ρ a)
  {neg:Bool} {k:Nat} {x':Opd} (hop:op = if neg then .neq else .eql) (hx:trX x = some x') (hi:i = .eqn neg k x')
  (hk:(k = 0 ∧ y = .const (.pointer none) ∧ ∃ e,P.underlying t = some (.pointer e)) ∨ (k = 1 ∧ y = .const .nilIface ∧ ∃ ms,P.underlying t = some (.interface ms)) ∨ (k = 2 ∧ y = .const .nilFunc ∧ ∃ p q r,P.underlying t = some (.func p q r))) :
  Res w0 κ σ' v ((execOp a.eval o).run P w):=by
 have hxr:=ev_ok he hx
 subst hi
 simp only [step] at hs
 split at hs
 ·rename_i p hp
  injection hs with hs
  injection hs with e1 e2
  subst e1 e2;refine Res.still (v':=.bool (if neg then !p else p)) ?_ hrep (.c (.bool _));rcases hk with ⟨rfl,rfl,e,hu⟩ | ⟨rfl,rfl,ms,hu⟩ | ⟨rfl,rfl,q1,q2,q3,hu⟩
  ·have key:∀ A:Option Addr,a.eval x = .pointer A → A.isNone = p → (execOp a.eval o).run P w = .ok (.value (.bool (if neg then !p else p))) w:=by
    intro A hA hp;refine eql_run ho hop hA (v:=.pointer none) rfl ?_ ?_ (fun op=>⟨fun h=>by subst h;rfl,fun h=>by subst h;rfl⟩)
    ·unfold eqGuard;split <;> simp
    ·have:∀ d,(Op.equalIn (d + 1) t (.pointer A) (.pointer none)).run P w = .ok A.isNone w:=fun d=>by cases A <;> simp [Op.equalIn,run_underlying hu]
     rw [← hp];exact this 9999
   cases hxe:x'.ev ρ with
   | c z=>
     rw [hxe] at hxr hp;generalize hxv:a.eval x = u at hxr
     cases hxr with
     | c hz=>
       cases hz <;> simp only [V.isNil] at hp <;> first | (cases hp;done) | (injection hp with hp;subst hp)
       ·exact key none hxv rfl
       ·exact key _ hxv rfl
   | ptr b o=>
     rw [hxe] at hxr hp;simp only [V.isNil] at hp;injection hp with hp
     subst hp
     cases hxv:a.eval x with
     | pointer A=>rw [hxv] at hxr;cases hxr;exact key _ hxv rfl
     | _=>rw [hxv] at hxr;cases hxr
   | _=>rw [hxe] at hp;cases hp
  ·have hg:∀ u,(eqGuard op t x (.const .nilIface) u .nilIface).run P w = .ok () w:=fun u=>by
    unfold eqGuard;split <;> cases u <;> simp
   cases hxe:x'.ev ρ with
   | c z=>
     rw [hxe] at hxr hp
     cases hxv:a.eval x with
     | nilIface=>
       rw [hxv] at hxr
       cases hxr with
       | c hz=>
         cases hz
         simp only [V.isNil] at hp;injection hp with hp
         subst hp;refine eql_run ho hop hxv (v:=.nilIface) rfl (hg _) ?_ (fun op=>⟨fun h=>by subst h;rfl,fun h=>by subst h;rfl⟩)
         have:∀ d,(Op.equalIn (d + 1) t .nilIface .nilIface).run P w = .ok true w:=fun d=>by simp [Op.equalIn,run_underlying hu]
         exact this 9999
     | iface T u=>
       rw [hxv] at hxr
       cases hxr with
       | c hz=>
         cases hz
         simp only [V.isNil] at hp;injection hp with hp
         subst hp;refine eql_run ho hop hxv (v:=.nilIface) rfl (hg _) ?_ (fun op=>⟨fun h=>by subst h;rfl,fun h=>by subst h;rfl⟩)
         have:∀ d,(Op.equalIn (d + 1) t (.iface T u) .nilIface).run P w = .ok false w:=fun d=>by simp [Op.equalIn,run_underlying hu]
         exact this 9999
     | _=>rw [hxv] at hxr;cases hxr with | c hz=>cases hz <;> cases hp
   | _=>rw [hxe] at hp;cases hp
  ·have hg:∀ u,(∀ q,u ≠ .agg q) → u ≠ .nilIface → (eqGuard op t x (.const .nilFunc) u .nilFunc).run P w = .ok () w:=fun u h1 h2=>by
    unfold eqGuard;split <;> cases u <;> simp
   cases hxe:x'.ev ρ with
   | nilf=>
     rw [hxe] at hxr hp;simp only [V.isNil] at hp;injection hp with hp
     subst hp
     cases hxv:a.eval x with
     | nilFunc=>
       refine eql_run ho hop hxv (v:=.nilFunc) rfl (hg _ (by simp) (by simp)) ?_ (fun op=>⟨fun h=>by subst h;rfl,fun h=>by subst h;rfl⟩)
       have:∀ d,(Op.equalIn (d + 1) t .nilFunc .nilFunc).run P w = .ok true w:=fun d=>by simp [Op.equalIn,run_underlying hu]
       exact this 9999
     | _=>rw [hxv] at hxr;cases hxr
   | fn f caps=>
     rw [hxe] at hxr hp;simp only [V.isNil] at hp;injection hp with hp
     subst hp
     cases hxv:a.eval x with
     | func f1 f2 f3=>
       refine eql_run ho hop hxv (v:=.nilFunc) rfl (hg _ (by simp) (by simp)) ?_ (fun op=>⟨fun h=>by subst h;rfl,fun h=>by subst h;rfl⟩)
       have:∀ d,(Op.equalIn (d + 1) t (.func f1 f2 f3) .nilFunc).run P w = .ok false w:=fun d=>by simp [Op.equalIn,run_underlying hu]
       exact this 9999
     | _=>rw [hxv] at hxr;cases hxr
   | _=>rw [hxe] at hp;cases hp
 ·cases hs

/-! ### structs of basic fields -/
theorem bs_beq (l r:List UInt8):(bs l == bs r) = (l == r):=by rw [beq_toListBytes,bs_toList,bs_toList]
theorem eqC_run {x y:C} {u v:Value} {m:Mem} {p:Bool} {t k:Nat} {dd:TypeDesc} (d:Nat) (hx:RC m x u) (hy:RC m y v) (hp:eqC k x y = some p) (hu:P.underlying t = some dd) (hk:kindD dd = some k) :
  (Op.equalIn (d + 1) t u v).run P w = .ok p w:=by
 cases dd <;> simp only [kindD] at hk <;> try (cases hk;done)
 ·injection hk with hk
  subst hk
  cases x <;> cases y <;> simp only [eqC] at hp <;> first | (cases hp;done) | (injection hp with hp;subst hp)
  cases hx;cases hy
  simp [Op.equalIn,run_underlying hu]
 ·injection hk with hk
  subst hk
  cases x <;> cases y <;> simp only [eqC] at hp <;> try (cases hp;done)
  split at hp
  ·rename_i hq
   subst hq;injection hp with hp
   subst hp
   cases hx;cases hy
   simp [Op.equalIn,run_underlying hu]
  ·cases hp
 ·injection hk with hk
  subst hk
  cases x <;> cases y <;> simp only [eqC] at hp <;> first | (cases hp;done) | (injection hp with hp;subst hp)
  cases hx;cases hy
  simp [Op.equalIn,run_underlying hu,bs_beq]
theorem eqL_run {xs ys:List Value} (d:Nat):∀ (fs:List Field) (n:Nat) (ks:List Nat) (l r:List V) (p:Bool),basicFields P n fs = some ks → eqL ks l r = some p →
  (∀ j (hj:j < l.length),∃ v,xs[n + j]? = some v ∧ RV κ l[j] v) → (∀ j (hj:j < r.length),∃ v,ys[n + j]? = some v ∧ RV κ r[j] v) →
  (Op.eqFields (d + 1) xs.toArray ys.toArray fs).run P w = .ok p w
 | [],n,ks,l,r,p,hb,hp,_,_=>by
   simp only [basicFields] at hb;injection hb with hb
   subst hb;unfold eqL at hp;split at hp
   ·injection hp with hp;subst hp;rfl
   ·rename_i h _ _;cases h
   ·cases hp
 | f :: fs,n,ks,l,r,p,hb,hp,hl,hr=>by
   simp only [basicFields] at hb;split at hb
   ·rename_i hf
    split at hb
    ·rename_i dd hu
     split at hb
     ·rename_i q rest hq hrest
      injection hb with hb
      subst hb
      cases l with
      | nil=>simp [eqL] at hp
      | cons a0 l'=>
      cases r with
      | nil=>cases a0 <;> simp [eqL] at hp
      | cons b0 r'=>
      cases a0 with
      | c x=>
        cases b0 with
        | c y=>
        simp only [eqL] at hp;split at hp
        ·rename_i b1 b2 hb1 hb2
         injection hp with hp
         subst hp;obtain ⟨u,hu1,hu2⟩:=hl 0 (by simp)
         obtain ⟨v,hv1,hv2⟩:=hr 0 (by simp)
         simp only [List.getElem_cons_zero] at hu2 hv2
         cases hu2 with
         | c hu2=>
           cases hv2 with
           | c hv2=>
             have e1:=eqC_run (P:=P) (w:=w) d hu2 hv2 hb1 hu hq
             have hg:isAggD dd = false:=by cases dd <;> simp [kindD,isAggD] at hq ⊢
             have pu:(part f.type xs.toArray f.offset).run P w = .ok u w:=by
              rw [hf.1];simp at hu1;simp [part,run_isAgg hu,hg,hu1]
             have pv:(part f.type ys.toArray f.offset).run P w = .ok v w:=by
              rw [hf.1];simp at hv1;simp [part,run_isAgg hu,hg,hv1]
             have ih:=eqL_run d fs (n + 1) rest l' r' b2 hrest hb2 (fun j hj=>by
              have:=hl (j + 1) (by simpa using hj)
              rwa [show n + (j + 1) = n + 1 + j from by omega] at this) (fun j hj=>by
              have:=hr (j + 1) (by simpa using hj)
              rwa [show n + (j + 1) = n + 1 + j from by omega] at this)
             unfold Op.eqFields;rw [if_pos hf.2]
             cases b1
             ·simp [pu,pv,e1]
             ·simp [pu,pv,e1,ih]
        ·cases hp
        | _=>simp [eqL] at hp
      | _=>simp [eqL] at hp
     ·cases hb
    ·cases hb
   ·cases hb
theorem ok_eqs {o:Oper} {op:BinOp} {t t':Nat} {x y:Operand} {x' y':Opd} {v:V} {neg:Bool} {ks:List Nat} {fields:Array Field} (ho:o.op = .binOp op t x y t') (hu:P.underlying t = some (.struct fields)) (hks:basicFields P 0 fields.toList = some ks)
  (hg:P.stoodInHeld t = false) (hm:P.eqGuardType P.depth t = false) (hop:op = if neg then .neq else .eql) (hx:trX x = some x') (hy:trX y = some y')
  (hs:step ρ σ (.eqs neg ks x' y') = some (v,σ')) (hrep:Rep w0 κ σ w) (he:EnvOk κ ρ a):Res w0 κ σ' v ((execOp a.eval o).run P w):=by
 have hxr:=ev_ok he hx
 have hyr:=ev_ok he hy
 simp only [step] at hs
 split at hs
 ·rename_i xs ys h1 h2
  split at hs
  ·rename_i p hp
   injection hs with hs
   injection hs with e1 e2
   subst e1 e2;rw [h1] at hxr;rw [h2] at hyr;obtain ⟨us,hxv,hxf⟩:=hxr.agg_of;obtain ⟨vs,hyv,hyf⟩:=hyr.agg_of
   have hfo:P.fieldsOf t = fields:=by unfold Program.fieldsOf;rw [hu]
   have q:(Op.equal t (.agg us.toArray) (.agg vs.toArray)).run P w = .ok p w:=by
    have:=run_equalIn_struct (P:=P) w 9999 t us.toArray vs.toArray (by rw [hfo];exact hu) hg
    rw [hfo,eqL_run (κ:=κ) 9998 fields.toList 0 ks xs ys p hks hp (fun j hj=>by simpa using hxf.at_ (List.getElem?_eq_getElem hj)) (fun j hj=>by simpa using hyf.at_ (List.getElem?_eq_getElem hj))] at this
    exact this
   exact Res.still (v':=.bool (if neg then !p else p)) (eql_run ho hop hxv hyv (run_eqGuard_agg w op t x y _ _ hm) q (fun op=>⟨fun h=>by subst h;rfl,fun h=>by subst h;rfl⟩)) hrep (.c (.bool _))
  ·cases hs
 ·cases hs
end

section
variable {P:Program} {w0 w w':World} {κ:K} {σ σ':H} {a:Act} {ρ:Env}

theorem fold_set (off:Nat):∀ (us:List Value) (k:Nat) (arr:Array Value),off + k + us.length ≤ arr.size →
  (us.zipIdx k).foldl (fun cs (x:Value × Nat)=>cs.setIfInBounds (off + x.2) x.1) arr = (arr.toList.take (off + k) ++ us ++ arr.toList.drop (off + k + us.length)).toArray
 | [],k,arr,_=>by simp
 | u :: us,k,arr,h=>by
   simp only [List.zipIdx_cons,List.foldl_cons]
   have h':off + (k + 1) + us.length ≤ (arr.setIfInBounds (off + k) u).size:=by simp at h ⊢;omega
   rw [fold_set off us (k + 1) _ h']
   congr 1
   have e:=list_seg_step arr.toList (off + k) u us (by simp at h ⊢;omega)
   simpa [Array.toList_setIfInBounds,Nat.add_assoc] using e
theorem fill_one {place:Nat → Option (Nat × Nat)} {i off size:Nat} {v:Value} {arr:Array Value} {rest:List (Nat × Value)} (hp:place i = some (off,size)) (hv:v.cells.size = size) (hle:off + size ≤ arr.size) :
  Instr.fill place arr ((i,v) :: rest) = Instr.fill place (arr.toList.take off ++ v.cells.toList ++ arr.toList.drop (off + v.cells.toList.length)).toArray rest:=by
 have:=fold_set off v.cells.toList 0 arr (by simp;omega)
 simp only [Nat.add_zero] at this
 rw [Instr.fill,hp]
 simp only
 rw [if_neg (by simp;omega),← this]
 congr 1
 rw [← Array.foldl_toList,Array.toList_zipIdx]
theorem trParts_fill {pl:List (Nat × Nat)} (he:EnvOk κ ρ a):∀ {parts:List (Nat × Operand)} {ps:List (Nat × Nat × Opd)},trParts pl parts = some ps → ∀ {cs cs':List V} {xs:List Value},Fits κ cs xs → fillV ρ cs ps = some cs' →
  ∃ xs',Instr.fill (pl.toArray[·]?) xs.toArray (parts.map fun (i,x)=>(i,a.eval x)) = some xs'.toArray ∧ Fits κ cs' xs'
 | [],ps,h,cs,cs',xs,hf,hfill=>by
   simp only [trParts] at h;injection h with h
   subst h;simp only [fillV] at hfill;injection hfill with hfill
   subst hfill;exact ⟨xs,rfl,hf⟩
 | (i,x) :: parts,ps,h,cs,cs',xs,hf,hfill=>by
   simp only [trParts] at h;split at h
   ·rename_i off size y r hpl hy hr
    injection h with h
    subst h;simp only [fillV] at hfill;split at hfill
    ·rename_i hc
     obtain ⟨c0,c1,c2⟩:=hc
     have hyc:=cells_ok (ev_ok he hy) c0
     have hsp:=hf.splice (ys:=(y.ev ρ).cellsV) (us:=(a.eval x).cells.toList) hyc (o:=off) (by omega)
     rw [c1] at hsp;obtain ⟨xs',h1,h2⟩:=trParts_fill he hr hsp hfill;refine ⟨xs',?_,h2⟩;simp only [List.map_cons]
     have hs:(a.eval x).cells.size = size:=by have:=hyc.1;simp at this;omega
     rw [fill_one (off:=off) (size:=size) (by simpa using hpl) hs (by simp [hf.1];omega)]
     exact h1
    ·cases hfill
   ·cases h
theorem placesP_mapM {P:Program}:∀ {l:List Field} {pl:List (Nat × Nat)},placesP P l = some pl → l.mapM (fun f=>(P.info? f.type).map fun i=>(f.offset,i.size)) = some pl
 | [],pl,h=>by simp only [placesP] at h;injection h with h;subst h;rfl
 | f :: l,pl,h=>by
   simp only [placesP] at h;split at h
   ·rename_i s r hs hr
    injection h with h
    subst h
    have ih:=placesP_mapM hr
    unfold sizeP at hs
    cases hi:P.info? f.type with
    | none=>rw [hi] at hs;cases hs
    | some i=>
      rw [hi] at hs
      have hs:i.size = s:=by simpa using hs
      simp [List.mapM_cons,hi,ih,hs]
   ·cases h
theorem zero_fits {z:V} {zv:Value} (h:ofV zv = some z) (hl:leaves z.cellsV = true):Fits κ z.cellsV zv.cells.toList:=cells_ok (ofV_ok h) hl
theorem ok_build {o:Oper} {t:Nat} {parts:Array (Nat × Operand)} {fields:Array Field} {z:V} {pl:List (Nat × Nat)} {ps:List (Nat × Nat × Opd)} {cs:List V} (ho:o.op = .build t parts) (hu:P.underlying t = some (.struct fields)) (hz:zeroP P t = some z)
  (hl:leaves z.cellsV = true) (hpl:placesP P fields.toList = some pl) (hps:trParts pl parts.toList = some ps) (hf:fillV ρ z.cellsV ps = some cs) (hrep:Rep w0 κ σ w) (he:EnvOk κ ρ a):Res w0 κ σ (.agg cs) ((execOp a.eval o).run P w):=by
 unfold zeroP at hz
 cases hi:P.info? t with
 | none=>rw [hi] at hz;cases hz
 | some i=>
   rw [hi] at hz;simp only at hz
   cases hzz:i.zero with
   | none=>rw [hzz] at hz;cases hz
   | some zv=>
     rw [hzz] at hz;simp only at hz;obtain ⟨xs,h1,h2⟩:=trParts_fill he hps (zero_fits (κ:=κ) hz hl) hf
     have hb:P.built t (parts.map fun (i,x)=>(i,a.eval x)).toList = some xs.toArray:=by
      unfold Program.built;simp only [hi,hu,hzz,placesP_mapM hpl]
      simpa using h1
     exact Res.still (v':=.agg xs.toArray) (by simp only [execOp,ho,Sem.run_bind,run_build w t _ _ hb,Result.andThen_ok,Sem.run_pure]) hrep (.agg h2.1 h2.2)

/-! ### slice literals -/
theorem flatten_get {α:Type} {s:Nat}:∀ (l:List (List α)) (i j:Nat),(∀ r ∈ l,r.length = s) → j < s → l.flatten[i * s + j]? = (l[i]?).bind (·[j]?)
 | [],i,j,_,_=>by simp
 | x :: l,0,j,h,hj=>by
   have hx:=h x (by simp)
   simp only [List.flatten_cons,Nat.zero_mul,Nat.zero_add,List.getElem?_cons_zero,Option.bind_some];rw [List.getElem?_append_left (by omega)]
 | x :: l,i + 1,j,h,hj=>by
   have hx:=h x (by simp)
   simp only [List.flatten_cons,List.getElem?_cons_succ];rw [List.getElem?_append_right (by rw [hx,Nat.add_mul];omega),hx,show (i + 1) * s + j - s = i * s + j from by rw [Nat.add_mul];omega]
   exact flatten_get l i j (fun r hr=>h r (by simp [hr])) hj
theorem flatten_len {α:Type} {s:Nat}:∀ (l:List (List α)),(∀ r ∈ l,r.length = s) → l.flatten.length = l.length * s
 | [],_=>by simp
 | x :: l,h=>by
   simp only [List.flatten_cons,List.length_append,List.length_cons,h x (by simp),flatten_len l (fun r hr=>h r (by simp [hr])),Nat.add_mul]
   omega
theorem toCs_some:∀ {l:List V} {r:List C},toCs l = some r → r.length = l.length ∧ leaves l = true ∧ ∀ j (hj:j < l.length) (hj':j < r.length),l[j].toC = some r[j]
 | [],r,h=>by simp only [toCs] at h;injection h with h;subst h;exact ⟨rfl,rfl,fun j hj=>by simp at hj⟩
 | x :: l,r,h=>by
   simp only [toCs] at h;split at h
   ·rename_i y r' hy hr
    injection h with h
    subst h;obtain ⟨h1,h2,h3⟩:=toCs_some hr;refine ⟨by simp [h1],?_,fun j hj hj'=>?_⟩
    ·unfold leaves at *
     simp only [List.all_cons,h2,Bool.and_true]
     cases x <;> simp only [V.toC] at hy <;> first | (cases hy;done) | rfl
    ·cases j with
     | zero=>exact hy
     | succ j=>exact h3 j (by simpa using hj) (by simpa using hj')
   ·cases h
def FitC (m:Mem) (l:List C) (xs:List Value):Prop:=xs.length = l.length ∧ ∀ j (hj:j < l.length),RC m l[j] (xs.getD j undef)
theorem Fits.toC {l:List V} {r:List C} {xs:List Value} (h:Fits κ l xs) (hr:toCs l = some r):FitC κ.m r xs:=by
 obtain ⟨h1,_,h3⟩:=toCs_some hr
 exact ⟨by rw [h.1,h1],fun j hj=>(h.2 j (by omega)).toC (h3 j (by omega) hj)⟩
theorem rows_fill {size:Nat} (he:EnvOk κ ρ a):∀ {k:Nat} {parts:List (Nat × Operand)} {ps:List Opd} {rows:List (List C)},trElems k parts = some ps → rowsV ρ size ps = some rows →
  ∃ uss:List (List Value),uss.length = rows.length ∧ (∀ i (hi:i < rows.length) (hi':i < uss.length),FitC κ.m rows[i] uss[i]) ∧ (∀ r ∈ rows,r.length = size) ∧ (∀ r ∈ uss,r.length = size) ∧ (∀ u ∈ uss.flatten,u.oneCell' = true) ∧
   ∀ arr:Array Value,(k + rows.length) * size ≤ arr.size → Instr.fill (fun i=>some (i * size,size)) arr (parts.map fun (i,x)=>(i,a.eval x)) = some (arr.toList.take (k * size) ++ uss.flatten ++ arr.toList.drop ((k + rows.length) * size)).toArray
 | k,[],ps,rows,h,hr=>by
   simp only [trElems] at h;injection h with h
   subst h;simp only [rowsV] at hr;injection hr with hr
   subst hr;exact ⟨[],rfl,fun i hi=>by simp at hi,by simp,by simp,by simp,fun arr _=>by simp [Instr.fill]⟩
 | k,(i,x) :: parts,ps,rows,h,hr=>by
   simp only [trElems] at h;split at h
   ·rename_i hik
    subst hik;split at h
    ·rename_i y r hy hrest
     injection h with h
     subst h;simp only [rowsV] at hr;split at hr
     ·rename_i row rows' hrow hrows
      split at hr
      ·rename_i hlen
       injection hr with hr
       subst hr;obtain ⟨uss,q1,q2,q3,q4,q6,q5⟩:=rows_fill he hrest hrows;obtain ⟨t1,t2,t3⟩:=toCs_some hrow
       have hyc:=cells_ok (ev_ok he hy) t2
       have hfc:FitC κ.m row (a.eval x).cells.toList:=Fits.toC (l:=(y.ev ρ).cellsV) hyc hrow
       have hcl:(a.eval x).cells.toList.length = size:=by rw [hfc.1,hlen]
       refine ⟨(a.eval x).cells.toList :: uss,by simp [q1],fun j hj hj'=>?_,fun r hr=>?_,fun r hr=>?_,fun u hu=>?_,fun arr harr=>?_⟩
       ·cases j with
        | zero=>exact hfc
        | succ j=>exact q2 j (by simpa using hj) (by simpa using hj')
       ·rcases List.mem_cons.1 hr with rfl | hr
        ·exact hlen
        ·exact q3 r hr
       ·rcases List.mem_cons.1 hr with rfl | hr
        ·exact hcl
        ·exact q4 r hr
       ·simp only [List.flatten_cons,List.mem_append] at hu
        rcases hu with hu | hu
        ·exact leaves_getD t2 hyc.2 hyc.1 u hu
        ·exact q6 u hu
       ·simp only [List.map_cons,List.length_cons] at harr ⊢
        have e1:(i + (rows'.length + 1)) * size = i * size + size + rows'.length * size:=by rw [show i + (rows'.length + 1) = i + 1 + rows'.length from by omega,Nat.add_mul,Nat.add_mul];omega
        have e2:(i + 1) * size = i * size + size:=by rw [Nat.add_mul];omega
        have e3:(i + 1 + rows'.length) * size = i * size + size + rows'.length * size:=by rw [Nat.add_mul,e2]
        rw [e1] at harr ⊢;rw [fill_one (off:=i * size) (size:=size) rfl (by simpa using hcl) (by omega)]
        have hsz:(arr.toList.take (i * size) ++ (a.eval x).cells.toList ++ arr.toList.drop (i * size + (a.eval x).cells.toList.length)).length = arr.size:=by
         rw [splice_len _ _ _ (by simp [hcl] at *;omega)];simp
        rw [q5 _ (by rw [List.size_toArray,hsz,e3];exact harr)]
        congr 2
        rw [e2,e3,List.flatten_cons]
        have ht:(arr.toList.take (i * size)).length = i * size:=by simp;omega
        rw [show i * size + size = (arr.toList.take (i * size) ++ (a.eval x).cells.toList).length from by rw [List.length_append,ht,hcl]]
        rw [List.take_left];rw [List.drop_append,List.drop_eq_nil_of_le (by omega),List.nil_append,List.drop_drop,List.append_assoc (arr.toList.take (i * size))]
        congr 2
        rw [List.length_append,ht,hcl];omega
      ·cases hr
     ·cases hr
    ·cases h
   ·cases h
end

section
variable {P:Program} {w0 w w':World} {κ:K} {σ σ':H} {a:Act} {ρ:Env}

theorem rows_RC {m:Mem} {rows:List (List C)} {size:Nat} {xs:List Value} (hl:xs.length = rows.length * size) (hr:∀ r ∈ rows,r.length = size)
  (h:∀ i (hi:i < rows.length) j (hj:j < rows[i].length),RC m rows[i][j] (xs.getD (i * size + j) undef)) {b o cap:Nat} (hm:∀ k,k < xs.length → m b (o + k) = xs[k]?) (hc:rows.length ≤ cap) (hcm:cap ≤ maxLen) :
  RC m (.sl rows) (.slice (some ⟨b,o,none⟩) rows.length cap):=
 .sl rows size _ cap xs hr hc hcm hl (fun _=>⟨b,o,rfl,hm⟩) h
theorem froze_at {g:Nat} {xs:List Value} (k:Nat):(κ.froze g xs).m g k = xs[k]?:=by simp [K.froze]
theorem uss_RC {m:Mem} {rows:List (List C)} {uss:List (List Value)} {size:Nat} (q1:uss.length = rows.length) (q2:∀ i (hi:i < rows.length) (hi':i < uss.length),FitC m rows[i] uss[i]) (q3:∀ r ∈ rows,r.length = size) (q4:∀ r ∈ uss,r.length = size) :
  ∀ i (hi:i < rows.length) j (hj:j < rows[i].length),RC m rows[i][j] (uss.flatten.getD (i * size + j) undef):=by
 intro i hi j hj
 have hi':i < uss.length:=by omega
 have hjs:j < size:=by rw [← q3 _ (List.getElem_mem hi)];exact hj
 have:=(q2 i hi hi').2 j hj
 rw [List.getD_eq_getElem?_getD,flatten_get uss i j q4 hjs,List.getElem?_eq_getElem hi']
 simpa using this
theorem ok_bsl {o:Oper} {t n e:Nat} {parts:Array (Nat × Operand)} {i:TypeInfo} {z:Value} {ps:List Opd} {rows:List (List C)} (ho:o.op = .buildSlice t n parts) (hu:P.underlying t = some (.slice e)) (hi:P.info? e = some i) (hz:i.zero = some z)
  (hps:trElems 0 parts.toList = some ps) (hlen:ps.length = n) (hs0:0 < i.size) (hle:n * i.size ≤ 16777216) (hr:rowsV ρ i.size ps = some rows) (hrep:Rep w0 κ σ w) (he:EnvOk κ ρ a) :
  Res w0 κ σ (.csl rows) ((execOp a.eval o).run P w):=by
 obtain ⟨uss,q1,q2,q3,q4,_,q5⟩:=rows_fill he hps hr
 have hrl:rows.length = n:=by
  have:∀ {l:List Opd} {r:List (List C)},rowsV ρ i.size l = some r → r.length = l.length:=by
   intro l
   induction l with
   | nil=>intro r h;simp only [rowsV] at h;injection h with h;subst h;rfl
   | cons x l ih=>
     intro r h;simp only [rowsV] at h;split at h
     ·rename_i a0 r0 _ h2
      split at h
      ·injection h with h;subst h;simp [ih h2]
      ·cases h
     ·cases h
  rw [this hr,hlen]
 have hfl:uss.flatten.length = n * i.size:=by rw [flatten_len uss q4,q1,hrl]
 have hfill:=q5 ((Array.range (n * i.size)).map (z.cells[· % z.cells.size]!)) (by simp [hrl])
 have hcells:Instr.fill (fun k=>some (k * i.size,i.size)) ((Array.range (n * i.size)).map (z.cells[· % z.cells.size]!)) (parts.toList.map fun (i,x)=>(i,a.eval x)) = some uss.flatten.toArray:=by
  rw [hfill];simp [hrl]
 have hA:=hrep.alloc (.cells uss.flatten.toArray e)
 have hfree:∀ o,κ.m w.heap.size o = none:=fun o=>hrep.fresh (Nat.le_refl _) o
 have hF:=hA.froze (g:=w.heap.size) (xs:=uss.flatten) hfree (fun o v hv=>by
  rw [cell_of_row _ w.heap.size o uss.flatten.toArray e (0,0) (heap_alloc_new w _)]
  simpa using hv) (fun b hb hl=>by have:=(hrep.lies_lt hb hl).2;omega)
 have hle':κ.le (κ.froze w.heap.size uss.flatten):=K.froze_le hfree
 have hrc:=rows_RC (m:=(κ.froze w.heap.size uss.flatten).m) (rows:=rows) (size:=i.size) (xs:=uss.flatten) (by rw [hfl,hrl]) q3
  (fun i' hi' j hj=>RC.mono hle'.m (uss_RC q1 q2 q3 q4 i' hi' j hj)) (b:=w.heap.size) (o:=0) (cap:=rows.length) (fun k hk=>by rw [Nat.zero_add];exact froze_at k) (Nat.le_refl _) (by
    have:n * 1 ≤ n * i.size:=Nat.mul_le_mul_left _ hs0
    unfold maxLen;omega)
 have hcsl:=RV.csl (κ:=κ.froze w.heap.size uss.flatten) hrc
 rw [hrl] at hcsl
 refine ⟨_,_,_,.inl ?_,hle',hF,hcsl⟩
 by_cases hn0:n = 0
 ·subst hn0
  have hu0:uss.flatten = []:=List.eq_nil_of_length_eq_zero (by rw [hfl];simp)
  have hp0:parts = #[]:=by
   have:∀ {k:Nat} {l:List (Nat × Operand)} {r:List Opd},trElems k l = some r → r.length = l.length:=by
    intro k l
    induction l generalizing k with
    | nil=>intro r h;simp only [trElems] at h;injection h with h;subst h;rfl
    | cons x l ih=>
      intro r h;obtain ⟨q,x⟩:=x;simp only [trElems] at h;split at h
      ·split at h
       ·rename_i h2
        injection h with h;subst h;simp [ih h2]
       ·cases h
      ·cases h
   have:=this hps
   apply Array.ext';exact List.eq_nil_of_length_eq_zero (by rw [← this,hlen])
  rw [hu0];simp [execOp,ho,Instr.buildSlice,run_underlying hu,run_sizeOf hi,hp0,Instr.fill,newRow]
  congr 2
  apply Array.ext';simp
 have h0:¬ (n * i.size = 0):=by
  have:n * 1 ≤ n * i.size:=Nat.mul_le_mul_left _ hs0
  intro e;omega
 have hle16:¬ (16777216 < n * i.size):=by omega
 simp [execOp,ho,Instr.buildSlice,run_underlying hu,run_sizeOf hi,hle16,zeroValue,typeInfo,hi,hz,hcells,newRow]
 exact fun h=>absurd h h0

/-! ### append -/
theorem run_firstCells {size n:Nat} {A:Option Addr} {c:Nat} {news:List Value} (hl:news.length = n * size) (h:n ≠ 0 → ∃ b o,A = some ⟨b,o,none⟩ ∧ ∀ k,k < news.length → w.cell? ⟨b,o + k,none⟩ = news[k]?) :
  (Builtin.firstCells size n (.slice A n c)).run P w = .ok news.toArray w:=by
 by_cases hn:n = 0
 ·subst hn
  have:news = []:=List.eq_nil_of_length_eq_zero (by simpa using hl)
  subst this
  cases A with
  | none=>simp [Builtin.firstCells]
  | some a=>
    have:=run_loadCells_list (P:=P) w a [] (by simp)
    simpa [Builtin.firstCells] using this
 ·obtain ⟨b,o,rfl,hc⟩:=h hn
  have:=run_loadCells_list (P:=P) w ⟨b,o,none⟩ news (fun j v hv=>by
   rw [add_lit]
   have hj:=(List.getElem?_eq_some_iff.1 hv).1
   rw [hc j hj,hv])
  rw [hl] at this
  simpa [Builtin.firstCells] using this
structure Src (P:Program) (w:World) (t2:TypeId) (u:Value) (size m:Nat) (news:List Value):Prop where
 kind:(∃ e,P.underlying t2 = some (.slice e)) ∨ P.underlying t2 = some .string
 len:∀ w',(Builtin.lenOf u).run P w' = .ok m w'
 first:∀ w',(∀ b o,w'.cell? ⟨b,o,none⟩ = w.cell? ⟨b,o,none⟩) → (Builtin.firstCells size m u).run P w' = .ok news.toArray w'
theorem Src.slice {t2 e size m c:Nat} {A:Option Addr} {news:List Value} (ht:P.underlying t2 = some (.slice e)) (hl:news.length = m * size) (h:m ≠ 0 → ∃ b o,A = some ⟨b,o,none⟩ ∧ ∀ k,k < news.length → w.cell? ⟨b,o + k,none⟩ = news[k]?):Src P w t2 (.slice A m c) size m news:=
 ⟨.inl ⟨e,ht⟩,fun w'=>by simp [Builtin.lenOf],fun w' hw=>run_firstCells hl (fun hm=>by obtain ⟨b,o,h1,h2⟩:=h hm;exact ⟨b,o,h1,fun k hk=>by rw [hw];exact h2 k hk⟩)⟩
theorem Src.str {t2:TypeId} {l:List UInt8} (ht:P.underlying t2 = some .string):Src P w t2 (.string (bs l)) 1 l.length (l.map fun b=>Value.int .u8 b.toNat):=
 ⟨.inr ht,fun w'=>by simp [Builtin.lenOf];rfl,fun w' _=>by
   simp [Builtin.firstCells];apply Array.ext';simp [bs];exact List.take_of_length_le (by simp)⟩
theorem append_room {t t2 ty e n cap m g:Nat} {i:TypeInfo} {u:Value} {news:List Value} {cur:Array Value} (ht:P.underlying t = some (.slice e)) (hi:P.info? e = some i) (hg:w.heap[g]? = some (.cells cur e (0,0)))
  (hl:news.length = m * i.size) (hs:Src P w t2 u i.size m news) (h1:∀ u ∈ news,u.oneCell' = true) (hroom:n + m ≤ cap) (hfit:n * i.size + news.length ≤ cur.size) :
  (Builtin.append_ #[t,t2] ty #[.slice (some ⟨g,0,none⟩) n cap,u]).run P w =
    .ok (.slice (some ⟨g,0,none⟩) (n + m) cap) (w.setRow g (cur.toList.take (n * i.size) ++ news ++ cur.toList.drop (n * i.size + news.length)).toArray):=by
 have hf:=hs.first w (fun _ _=>rfl)
 have hln:=hs.len w
 have hst:=run_storeCells_at P g (n * i.size) e news 0 cur w hg (by simpa using hfit) h1
 simp only [Nat.add_zero] at hst
 rcases hs.kind with ⟨e2,hk⟩ | hk
 all_goals simp [Builtin.append_,run_underlying ht,run_underlying hk,sizeOf,typeInfo,hi,hln,hroom,hf,add_lit,hst]
theorem append_grow {t t2 ty e n cap m:Nat} {i:TypeInfo} {z u:Value} {A0:Option Addr} {olds news:List Value} (ht:P.underlying t = some (.slice e)) (hi:P.info? e = some i) (hz:i.zero = some z)
  (hlo:olds.length = n * i.size) (ho:n ≠ 0 → ∃ b o,A0 = some ⟨b,o,none⟩ ∧ ∀ k,k < olds.length → w.cell? ⟨b,o + k,none⟩ = olds[k]?)
  (hl:news.length = m * i.size) (hs:Src P w t2 u i.size m news) (hg:cap < n + m) (h63:((n + m:Nat):Int) ≤ 9223372036854775807) (hfit:Builtin.nextslicecap (n + m) cap * i.bytes ≤ 281474976710656) :
  (Builtin.append_ #[t,t2] ty #[.slice A0 n cap,u]).run P w =
    .ok (.slice (some ⟨w.heap.size,0,none⟩) (n + m) (grownCap w (n + m) cap e)) (w.drew.alloc (.cells (olds.toArray ++ news.toArray ++ Builtin.zeroCells z.cells (grownCap w (n + m) cap e - (n + m))) e)):=by
 have hn:¬ (n + m ≤ cap):=by omega
 have h63':¬ (9223372036854775807 < ((n:Int) + (m:Int))):=by omega
 have h48':¬ (281474976710656 < Builtin.nextslicecap (n + m) cap * i.bytes):=by omega
 have hf:=hs.first w.drew (fun b o=>by simp)
 have hln:=hs.len w
 have hfo:=run_firstCells (P:=P) (w:=w.drew) (c:=cap) (A:=A0) hlo (fun hm=>by obtain ⟨b,o,h1,h2⟩:=ho hm;exact ⟨b,o,h1,fun k hk=>by simpa using h2 k hk⟩)
 rcases hs.kind with ⟨e2,hk⟩ | hk
 all_goals
  simp [Builtin.append_,run_underlying ht,run_underlying hk,sizeOf,typeInfo,zeroValue,hi,hz,hln,hn,h63',h48',Question.forced,hf,hfo,newRow,grownCap]
  congr 2
  apply Array.ext';simp [List.append_assoc]

def K.grew (κ:K) (b k g:Nat) (v:Value) (xs:List Value):K:=
 { κ with m:=fun x o=>if x = g ∧ o < xs.length then xs[o]? else κ.m x o,fr:=fun x=>if x = b then some k else κ.fr x,sv:=fun x=>if x = b then v else κ.sv x }
theorem K.grew_le {b k g n:Nat} {v:Value} {xs:List Value} (hf:κ.fr b = some n) (hn:n < k) (hm:∀ o u,κ.m g o = some u → o < xs.length → xs[o]? = some u):κ.le (κ.grew b k g v xs):=by
 refine ⟨fun x o u h=>?_,Nat.le_refl _,fun x hx hfx=>⟨?_,rfl⟩,fun x f hx hfx=>?_,fun x hx hfx=>by
  show (if x = b then _ else _) = _
  rw [if_neg (fun e=>by rw [e,hf] at hfx;cases hfx)],rfl,rfl⟩
 ·show (if x = g ∧ o < xs.length then _ else _) = _
  by_cases hc:x = g ∧ o < xs.length
  ·rw [if_pos hc]
   obtain ⟨rfl,ho⟩:=hc;exact hm o u h ho
  ·rw [if_neg hc]
   exact h
 ·show (if x = b then _ else _) = _
  rw [if_neg (fun e=>by rw [e,hf] at hfx;cases hfx)]
  exact hfx
 ·by_cases hxb:x = b
  ·subst hxb
   rw [hf] at hfx;injection hfx with hfx
   subst hfx;exact ⟨k,by show (if x = x then _ else _) = _;rw [if_pos rfl],by omega,fun e=>by omega,rfl⟩
  ·exact ⟨f,by show (if x = b then _ else _) = _;rw [if_neg hxb];exact hfx,Nat.le_refl _,fun _=>by show (if x = b then _ else _) = _;rw [if_neg hxb],rfl⟩
theorem Rep.grew (h:Rep w0 κ σ w) {b n k g:Nat} {e:TypeId} {size:Nat} {v:Value} {xs:List Value} (hb:σ[b]? = some (.spare e size n)) (hn:n < k)
  (hown:w'.ownsRow w0.heap.size e size v k xs) (hv:v.ownBlock = some g) (hg:w.grownBy w' (some g)) (hbw:Below w0.heap.size w0 w')
  (hgl:∀ x (hx:x < σ.length),x ≠ b → (σ[x]).lies κ x ≠ some g) (hold:∀ o u,κ.m g o = some u → o < n * size ∧ xs[o]? = some u) (hgr:κ.rest g = none) :
  Rep w0 (κ.grew b k g v xs) (σ.set b (.spare e size k)) w' ∧ κ.le (κ.grew b k g v xs):=by
 obtain ⟨hlt,hb'⟩:=List.getElem?_eq_some_iff.1 hb
 have hblk:=h.blk b hlt
 rw [hb'] at hblk
 have hle:κ.le (κ.grew b k g v xs):=K.grew_le hblk.fr hn fun o u hu _=>(hold o u hu).2
 have hlen:xs.length = k * size:=hown.1
 have hother:∀ x,x < w.heap.size → x ≠ g → w'.heap[x]? = w.heap[x]?:=fun x hx hne=>hg.block x hx (by simpa using hne)
 have frb:(κ.grew b k g v xs).fr b = some k:=by show (if b = b then _ else _) = _;rw [if_pos rfl]
 have svb:(κ.grew b k g v xs).sv b = v:=by show (if b = b then _ else _) = _;rw [if_pos rfl]
 have fro:∀ x,x ≠ b → (κ.grew b k g v xs).fr x = κ.fr x:=fun x hx=>by show (if x = b then _ else _) = _;rw [if_neg hx]
 have svo:∀ x,x ≠ b → (κ.grew b k g v xs).sv x = κ.sv x:=fun x hx=>by show (if x = b then _ else _) = _;rw [if_neg hx]
 have mo:∀ x o,x ≠ g → (κ.grew b k g v xs).m x o = κ.m x o:=fun x o hx=>by show (if x = g ∧ _ then _ else _) = _;rw [if_neg (fun e=>hx e.1)]
 have lies_b:(Blk.spare e size k).lies (κ.grew b k g v xs) b = some g:=by simp only [Blk.lies];rw [svb];exact held_row hown (by omega) hv
 have lies_o:∀ x (hx:x < σ.length),x ≠ b → (σ[x]).lies (κ.grew b k g v xs) x = (σ[x]).lies κ x:=fun x hx hne=>Blk.lies_same rfl (svo x hne)
 refine ⟨⟨by show κ.n = _;simpa using h.n,hbw,fun x o u hm=>?_,fun x hx=>?_,fun x y hx hy z hne=>?_,fun l o hr=>?_,Nat.le_trans h.lim hg.size⟩,hle⟩
 rotate_right
 ·obtain ⟨a1,a2,a3⟩:=h.rest l o hr
  have hlg:l ≠ g:=fun e=>by have hr':κ.rest l = some o:=hr;rw [e,hgr] at hr';cases hr'
  exact ⟨(hother l (Array.getElem?_eq_some_iff.1 a1).1 hlg).trans a1,a2,rest_set lies_o a3 (by rw [lies_b];intro e;injection e with e;exact hlg e.symm)⟩
 ·by_cases hxg:x = g
  ·subst hxg
   have hm':(if x = x ∧ o < xs.length then xs[o]? else κ.m x o) = some u:=hm
   by_cases ho:o < xs.length
   ·rw [if_pos ⟨rfl,ho⟩] at hm'
    have:=hown.cells hv o u hm'
    rwa [add_lit,Nat.zero_add] at this
   ·rw [if_neg (fun e=>ho e.2)] at hm'
    have:=(hold o u hm').1
    have:n * size ≤ k * size:=Nat.mul_le_mul_right _ (by omega)
    omega
  ·rw [mo x o hxg] at hm
   rw [World.cell?_of_block (w:=w) (a:=⟨x,o,none⟩) (hother x (h.mem_lt hm) hxg)];exact h.mem x o u hm
 ·by_cases hxb:x = b
  ·subst hxb
   rw [List.getElem_set_self];refine ⟨frb,hblk.sz,.inr ⟨xs,by rw [svb];exact hown⟩,fun g' hg' o ho=>?_⟩
   rw [svb,held_row hown (by omega) hv] at hg'
   injection hg' with hg'
   subst hg'
   show (if g = g ∧ o < xs.length then _ else _) = _
   rw [if_neg (by omega)]
   cases hm:κ.m g o with
   | none=>rfl
   | some u=>
     have:=(hold o u hm).1
     have:n * size ≤ k * size:=Nat.mul_le_mul_right _ (by omega)
     omega
  ·have hx':x < σ.length:=by simpa using hx
   rw [List.getElem_set_ne (Ne.symm hxb)]
   have h1:=h.blk x hx'
   have hne:=hgl x hx' hxb
   have h2:=Blk.is_of (w':=w') h1 fun z hz=>hother z (h.lies_lt hx' hz).2 (fun e=>hne (by rw [hz,e]))
   cases hσ:σ[x] with
   | cells cs=>
     rw [hσ] at h2 hne;obtain ⟨vs,t,k1,k2,k3⟩:=h2.row;refine ⟨(fro x hxb).trans h2.fr,⟨vs,t,k1,k2,fun j hj=>⟨(k3 j hj).1,(k3 j hj).2.mono hle⟩⟩,h2.own,fun o=>?_,h2.ty⟩
     rw [mo _ o (fun e=>hne (by simp [Blk.lies];exact e))]
     exact h2.free o
   | spare e1 s1 n1=>
     rw [hσ] at h2 hne;refine ⟨(fro x hxb).trans h2.fr,h2.sz,by rw [svo x hxb];exact h2.row,fun g' hg' o ho=>?_⟩
     rw [svo x hxb] at hg';rw [mo _ o (fun e=>hne (by simp only [Blk.lies];rw [hg',e]))]
     exact h2.free g' hg' o ho
   | mp kvs=>
     rw [hσ] at h2 hne;refine Blk.mapped.le h2 hle.m ((fro x hxb).trans h2.fr) rfl (fun o=>?_)
     rw [mo _ o (fun e=>hne (by simp [Blk.lies];exact e))]
     exact h2.free o
   | vec e1 s1 cs1=>
     rw [hσ] at h2 hne;refine Blk.vecd.le h2 hle.m ((fro x hxb).trans h2.fr) rfl (svo x hxb) (fun o=>?_)
     rw [mo _ o (fun e=>hne (by simp [Blk.lies];exact e))]
     exact h2.free o
   | gone=>trivial
 ·have hx':x < σ.length:=by simpa using hx
  have hy':y < σ.length:=by simpa using hy
  by_cases hxb:x = b
  ·subst hxb
   rw [List.getElem_set_self,lies_b,List.getElem_set_ne hne,lies_o y hy' (Ne.symm hne)];intro e1;injection e1 with e1
   subst e1;exact hgl y hy' (Ne.symm hne)
  ·by_cases hyb:y = b
   ·subst hyb
    rw [List.getElem_set_self,lies_b,List.getElem_set_ne (Ne.symm hne),lies_o x hx' hne];intro e1 e2;injection e2 with e2
    subst e2;exact hgl x hx' hne e1
   ·rw [List.getElem_set_ne (Ne.symm hxb),List.getElem_set_ne (Ne.symm hyb),lies_o x hx' hxb,lies_o y hy' hyb]
    exact h.apart x y hx' hy' z hne
end

section
variable {P:Program} {w0 w w':World} {κ:K} {σ σ':H} {a:Act} {ρ:Env}

theorem RC.source (hrep:Rep w0 κ σ w) {rows:List (List C)} {size:Nat} {v:Value} (h:RC κ.m (.sl rows) v) (hs:∀ r ∈ rows,r.length = size) :
  ∃ (A:Option Addr) (c:Nat) (news:List Value),v = .slice A rows.length c ∧ news.length = rows.length * size ∧ (rows.length ≠ 0 → ∃ b o,A = some ⟨b,o,none⟩ ∧ ∀ k,k < news.length → w.cell? ⟨b,o + k,none⟩ = news[k]?) ∧ (∀ u ∈ news,u.oneCell' = true) ∧
   (∀ i (hi:i < rows.length) j (hj:j < rows[i].length),RC κ.m rows[i][j] (news.getD (i * size + j) undef)):=by
 obtain ⟨s,A,cap,xs,rfl,h0,h1,h2,h3,h4,h5⟩:=h.sl_of
 by_cases hn:rows = []
 ·subst hn
  exact ⟨A,cap,[],rfl,by simp,by simp,by simp,fun i hi=>by simp at hi⟩
 ·have hpos:0 < rows.length:=List.length_pos_iff.2 hn
  have hss:s = size:=by rw [← h0 _ (List.getElem_mem hpos),hs _ (List.getElem_mem hpos)]
  subst hss;obtain ⟨b,o,rfl,hm⟩:=h4 hn
  have hc:∀ k,k < xs.length → w.cell? ⟨b,o + k,none⟩ = xs[k]?:=fun k hk=>by
   have:=hm k hk
   rw [List.getElem?_eq_getElem hk] at this ⊢;exact hrep.mem _ _ _ this
  refine ⟨some ⟨b,o,none⟩,cap,xs,rfl,h3,fun _=>⟨b,o,rfl,hc⟩,fun u hu=>?_,h5⟩
  obtain ⟨k,hk,rfl⟩:=List.getElem_of_mem hu
  by_cases hs0:s = 0
  ·subst hs0;simp at h3;subst h3;simp at hk
  ·have hs0:0 < s:=by omega
   have hi:k / s < rows.length:=by rw [Nat.div_lt_iff_lt_mul hs0];omega
   have hj:k % s < rows[k / s].length:=by rw [h0 _ (List.getElem_mem hi)];exact Nat.mod_lt _ hs0
   have:=h5 (k / s) hi (k % s) hj
   rw [show k / s * s + k % s = k from by rw [Nat.mul_comm];exact Nat.div_add_mod k s,getD_of hk] at this
   exact this.one
theorem rows_app {m:Mem} {l r:List (List C)} {size:Nat} {xs ys:List Value} (hl:xs.length = l.length * size) (hsl:∀ q ∈ l,q.length = size)
  (h1:∀ i (hi:i < l.length) j (hj:j < l[i].length),RC m l[i][j] (xs.getD (i * size + j) undef)) (h2:∀ i (hi:i < r.length) j (hj:j < r[i].length),RC m r[i][j] (ys.getD (i * size + j) undef)) :
  ∀ i (hi:i < (l ++ r).length) j (hj:j < (l ++ r)[i].length),RC m (l ++ r)[i][j] ((xs ++ ys).getD (i * size + j) undef):=by
 intro i hi j hj
 rw [List.getD_eq_getElem?_getD]
 by_cases hil:i < l.length
 ·have e:(l ++ r)[i] = l[i]:=List.getElem_append_left hil
  have hj':j < l[i].length:=by rw [← e];exact hj
  have hjs:j < size:=by rw [← hsl _ (List.getElem_mem hil)];exact hj'
  have:=h1 i hil j hj'
  rw [List.getD_eq_getElem?_getD] at this;rw [List.getElem?_append_left (by rw [hl];exact mul_lt hil hjs)]
  simpa [e] using this
 ·have hir:i - l.length < r.length:=by simp at hi;omega
  have e:(l ++ r)[i] = r[i - l.length]:=List.getElem_append_right (by omega)
  have hj':j < r[i - l.length].length:=by rw [← e];exact hj
  have:=h2 (i - l.length) hir j hj'
  rw [List.getD_eq_getElem?_getD] at this
  have e2:l.length * size ≤ i * size:=Nat.mul_le_mul_right _ (by omega)
  have e3:(i - l.length) * size = i * size - l.length * size:=Nat.sub_mul _ _ _
  rw [List.getElem?_append_right (by omega),hl,show i * size + j - l.length * size = (i - l.length) * size + j from by omega]
  simpa [e] using this

theorem app_new {e:Nat} {i:TypeInfo} {z:Value} {n m:Nat} {news:List Value} (hzs:z.cells.size = i.size) (hl:news.length = m * i.size) (hnm:n + m ≤ 140737488355328) (hbase:w0.heap.size ≤ w.heap.size) (old:Nat) (xs:List Value) (hxs:xs.length = n * i.size) :
  (w.drew.alloc (.cells (xs.toArray ++ news.toArray ++ Builtin.zeroCells z.cells (grownCap w (n + m) old e - (n + m))) e)).ownsRow w0.heap.size e i.size (.slice (some ⟨w.heap.size,0,none⟩) (n + m) (grownCap w (n + m) old e)) (n + m) (xs ++ news):=by
 have hge:=grownCap_ge w (n + m) old e
 have hlen:(xs ++ news).length = (n + m) * i.size:=by rw [List.length_append,hxs,hl,Nat.add_mul]
 refine ⟨hlen,.inr ⟨w.heap.size,_,_,rfl,hbase,heap_alloc_new w.drew _,hge,grownCap_le_maxLen w (n + m) old e (by unfold maxLen;omega),?_,?_⟩⟩
 ·simp only [Array.size_append,List.size_toArray,size_zeroCells,hzs,hxs,hl,← Nat.add_mul]
  congr 1
  omega
 ·simp only [Array.toList_append,List.append_assoc]
  rw [← List.append_assoc,← hlen];exact List.take_left
theorem app_fresh {t t2 ty e:Nat} {i:TypeInfo} {z u2:Value} {n m:Nat} {A0:Option Addr} {xs news:List Value} (hu:P.underlying t = some (.slice e)) (hi:P.info? e = some i) (hz:i.zero = some z) (hzs:z.cells.size = i.size)
  (hxl:xs.length = n * i.size) (hxc:n ≠ 0 → ∃ b o,A0 = some ⟨b,o,none⟩ ∧ ∀ k,k < xs.length → w.cell? ⟨b,o + k,none⟩ = xs[k]?) (hl:news.length = m * i.size) (h:Src P w t2 u2 i.size m news)
  (hm:0 < m) (hb:(n + m) * i.bytes ≤ 140737488355328) (hnm:n + m ≤ 140737488355328) (hbase:w0.heap.size ≤ w.heap.size) :
  ∃ v' w',(Builtin.append_ #[t,t2] ty #[.slice A0 n n,u2]).run P w = .ok v' w' ∧ w'.ownsRow w0.heap.size e i.size v' (n + m) (xs ++ news) ∧ v'.ownBlock = some w.heap.size ∧ Below w.heap.size w w':=by
 have hr:=append_grow (P:=P) (w:=w) (t:=t) (t2:=t2) (ty:=ty) (n:=n) (cap:=n) (A0:=A0) (olds:=xs) hu hi hz hxl hxc hl h (by omega) (by omega) (growslice_fits (by omega) hb)
 exact ⟨_,_,hr,app_new hzs hl hnm hbase n xs hxl,rfl,Below.alloc (Below.drew (Below.refl _ _)) (Nat.le_refl _) _⟩
theorem app_run {t t2 ty e:Nat} {i:TypeInfo} {z u2:Value} {n m:Nat} {v:Value} {xs news:List Value} (hu:P.underlying t = some (.slice e)) (hi:P.info? e = some i) (hz:i.zero = some z) (hzs:z.cells.size = i.size)
  (hv:(n = 0 ∧ xs = [] ∧ ∃ A0,v = .slice A0 0 0) ∨ w.ownsRow w0.heap.size e i.size v n xs) (hl:news.length = m * i.size) (h:Src P w t2 u2 i.size m news)
  (h1:∀ u ∈ news,u.oneCell' = true) (hm:0 < m) (hb:(n + m) * i.bytes ≤ 140737488355328) (hnm:n + m ≤ 140737488355328) (hbase:w0.heap.size ≤ w.heap.size) :
  ∃ v' w' g,(Builtin.append_ #[t,t2] ty #[v,u2]).run P w = .ok v' w' ∧ w'.ownsRow w0.heap.size e i.size v' (n + m) (xs ++ news) ∧ v'.ownBlock = some g ∧
   ((heldBy v = some g ∧ w.grownBy w' (some g) ∧ w0.heap.size ≤ g) ∨ (g = w.heap.size ∧ Below w.heap.size w w')):=by
 have hv:(n = 0 ∧ xs = [] ∧ ∃ A0,v = .slice A0 0 0) ∨ ∃ g cap cur,v = .slice (some ⟨g,0,none⟩) n cap ∧ w0.heap.size ≤ g ∧ w.heap[g]? = some (.cells cur e (0,0)) ∧ n ≤ cap ∧ cap ≤ maxLen ∧ cur.size = cap * i.size ∧ cur.toList.take (n * i.size) = xs ∧ w.ownsRow w0.heap.size e i.size v n xs:=by
  rcases hv with h0 | hown
  ·exact .inl h0
  ·rcases hown.2 with ⟨rfl,rfl⟩ | ⟨g,cap,cur,q1,q2,q3,q4,q5,q6,q7⟩
   ·exact .inl ⟨rfl,List.eq_nil_of_length_eq_zero (by have:=hown.1;simpa using this),none,rfl⟩
   ·exact .inr ⟨g,cap,cur,q1,q2,q3,q4,q5,q6,q7,hown⟩
 rcases hv with ⟨rfl,rfl,A0,rfl⟩ | ⟨g,cap,cur,rfl,hbg,hg,hnc,hcm,hcs,htake,hown⟩
 ·obtain ⟨v',w',h1,h2,h3,h4⟩:=app_fresh (P:=P) (w0:=w0) (w:=w) (t:=t) (t2:=t2) (ty:=ty) (n:=0) (m:=m) (A0:=A0) (xs:=[]) (news:=news) hu hi hz hzs (by simp) (fun h=>absurd rfl h) hl h hm hb hnm hbase
  exact ⟨v',w',_,h1,h2,h3,.inr ⟨rfl,h4⟩⟩
 ·by_cases hroom:n + m ≤ cap
  ·have hfit:n * i.size + news.length ≤ cur.size:=by rw [hl,hcs,← Nat.add_mul];exact Nat.mul_le_mul_right _ hroom
   have hr:=append_room (P:=P) (w:=w) (t2:=t2) (ty:=ty) hu hi hg hl h h1 hroom hfit
   have hlen:(xs ++ news).length = (n + m) * i.size:=by rw [List.length_append,hown.1,hl,Nat.add_mul]
   refine ⟨_,_,g,hr,⟨hlen,.inr ⟨g,cap,_,rfl,hbg,setRow_heap w g cur _ e _ hg,hroom,hcm,?_,?_⟩⟩,rfl,.inl ⟨?_,⟨rfl,rfl,rfl,by simp [World.setRow],fun k _ hk=>setRow_other w g k _ (fun e=>hk (by rw [e]))⟩,hbg⟩⟩
   ·simp only [List.size_toArray,List.length_append,List.length_take,List.length_drop,Array.length_toList]
    omega
   ·rw [htake,← hlen]
    exact List.take_left
   ·cases cap with
    | zero=>omega
    | succ c=>rfl
  ·have holds:∀ k,k < xs.length → w.cell? ⟨g,0 + k,none⟩ = xs[k]?:=fun k hk=>by
    have:=hown.cells (g:=g) rfl k xs[k] (List.getElem?_eq_getElem hk)
    rw [add_lit] at this;rw [this,List.getElem?_eq_getElem hk]
   have hr:=append_grow (P:=P) (w:=w) (t:=t) (t2:=t2) (ty:=ty) (n:=n) (cap:=cap) (A0:=some ⟨g,0,none⟩) (olds:=xs) hu hi hz hown.1 (fun _=>⟨g,0,rfl,holds⟩) hl h (by omega) (by omega) (growslice_fits (by omega) hb)
   exact ⟨_,_,w.heap.size,hr,app_new hzs hl hnm hbase cap xs hown.1,rfl,.inr ⟨rfl,Below.alloc (Below.drew (Below.refl _ _)) (Nat.le_refl _) _⟩⟩
theorem app_none {t t2 ty e:Nat} {i:TypeInfo} {n cap:Nat} {A0:Option Addr} {u2:Value} (hu:P.underlying t = some (.slice e)) (hi:P.info? e = some i) (hc:n ≤ cap) (h:Src P w t2 u2 i.size 0 []) :
  (Builtin.append_ #[t,t2] ty #[.slice A0 n cap,u2]).run P w = .ok (.slice A0 n cap) w:=by
 have hf:=h.first w (fun _ _=>rfl)
 have hln:=h.len w
 rcases h.kind with ⟨e2,hk⟩ | hk
 all_goals
  cases A0 with
  | none=>simp [Builtin.append_,run_underlying hu,run_underlying hk,sizeOf,typeInfo,hi,hln,hc,hf]
  | some a=>simp [Builtin.append_,run_underlying hu,run_underlying hk,sizeOf,typeInfo,hi,hln,hc,hf,storeCells]
def K.own (κ:K) (v:Value) (size:Nat):K:={ κ with n:=κ.n + 1,fr:=fun b=>if b = κ.n then some 0 else κ.fr b,sv:=fun b=>if b = κ.n then v else κ.sv b,sz:=fun b=>if b = κ.n then size else κ.sz b }
theorem K.own_le {v:Value} {size:Nat}:κ.le (κ.own v size):=
 RV.same (Mem.le_refl _) (Nat.le_succ _) (fun _ _=>rfl) (fun b hb=>by show (if b = κ.n then _ else _) = _;rw [if_neg (by omega)]) (fun b hb=>by show (if b = κ.n then _ else _) = _;rw [if_neg (by omega)])
  (fun b hb=>by show (if b = κ.n then _ else _) = _;rw [if_neg (by omega)])
theorem Rep.own (h:Rep w0 κ σ w) (e:TypeId) (size:Nat) (A:Option Addr):Rep w0 (κ.own (.slice A 0 0) size) (σ ++ [.spare e size 0]) w:=by
 have hle:κ.le (κ.own (.slice A 0 0) size):=K.own_le
 have fro:∀ b,b < σ.length → (κ.own (.slice A 0 0) size).fr b = κ.fr b:=fun b hb=>by show (if b = κ.n then _ else _) = _;rw [if_neg (by rw [h.n];omega)]
 have svo:∀ b,b < σ.length → (κ.own (.slice A 0 0) size).sv b = κ.sv b:=fun b hb=>by show (if b = κ.n then _ else _) = _;rw [if_neg (by rw [h.n];omega)]
 have szo:∀ b,b < σ.length → (κ.own (.slice A 0 0) size).sz b = κ.sz b:=fun b hb=>by show (if b = κ.n then _ else _) = _;rw [if_neg (by rw [h.n];omega)]
 have frn:(κ.own (.slice A 0 0) size).fr σ.length = some 0:=by show (if σ.length = κ.n then _ else _) = _;rw [if_pos h.n.symm]
 have svn:(κ.own (.slice A 0 0) size).sv σ.length = .slice A 0 0:=by show (if σ.length = κ.n then _ else _) = _;rw [if_pos h.n.symm]
 have szn:(κ.own (.slice A 0 0) size).sz σ.length = size:=by show (if σ.length = κ.n then _ else _) = _;rw [if_pos h.n.symm]
 refine ⟨by show κ.n + 1 = _;rw [h.n];simp,h.ext,h.mem,fun b hb=>?_,fun x y hx hy g hne=>?_,fun l o hr=>⟨(h.rest l o hr).1,(h.rest l o hr).2.1,rest_push (κ:=κ) (fun b hb=>Blk.lies_same (κ:=κ) rfl (svo b hb)) (h.rest l o hr).2.2 (by simp only [Blk.lies];rw [svn];cases A <;> (intro e;cases e))⟩,h.lim⟩
 ·rcases Nat.lt_or_ge b σ.length with hb' | hb'
  ·rw [List.getElem_append_left hb']
   exact Blk.is_le (κ:=κ) rfl hle rfl (fro b hb') (svo b hb') (szo b hb') (h.blk b hb')
  ·have hbe:b = σ.length:=by simp at hb;omega
   subst hbe;rw [List.getElem_append_right (Nat.le_refl _)];simp only [Nat.sub_self,List.getElem_cons_zero];exact ⟨frn,szn,.inl ⟨rfl,A,svn⟩,fun g hg=>by rw [svn] at hg;cases A <;> cases hg⟩
 ·have last:∀ z (hz:z < (σ ++ [Blk.spare e size 0]).length),σ.length ≤ z → ((σ ++ [Blk.spare e size 0])[z]).lies (κ.own (.slice A 0 0) size) z = none:=fun z hz hge=>by
   have hze:z = σ.length:=by simp at hz;omega
   subst hze;rw [List.getElem_append_right (Nat.le_refl _)];simp only [Nat.sub_self,List.getElem_cons_zero,Blk.lies];rw [svn]
   cases A <;> rfl
  rcases Nat.lt_or_ge x σ.length with hx' | hx'
  ·rcases Nat.lt_or_ge y σ.length with hy' | hy'
   ·rw [List.getElem_append_left hx',List.getElem_append_left hy',Blk.lies_same (κ:=κ) (κ':=κ.own (.slice A 0 0) size) rfl (svo x hx'),Blk.lies_same (κ:=κ) (κ':=κ.own (.slice A 0 0) size) rfl (svo y hy')]
    exact h.apart x y hx' hy' g hne
   ·rw [last y hy hy']
    intro _ e;cases e
  ·rw [last x hx hx']
   intro e;cases e
theorem flat_app {m:Mem} {cs:List C} {news:List (List C)} {size:Nat} {xs ys:List Value} (hl:xs.length = cs.length) (hn:∀ q ∈ news,q.length = size) (h1:∀ j (hj:j < cs.length),RC m cs[j] (xs.getD j undef))
  (h2:∀ i (hi:i < news.length) j (hj:j < news[i].length),RC m news[i][j] (ys.getD (i * size + j) undef)):∀ j (hj:j < (cs ++ news.flatten).length),RC m (cs ++ news.flatten)[j] ((xs ++ ys).getD j undef):=by
 intro j hj
 by_cases hjc:j < cs.length
 ·rw [List.getElem_append_left hjc,List.getD_eq_getElem?_getD,List.getElem?_append_left (by omega),← List.getD_eq_getElem?_getD]
  exact h1 j hjc
 ·have hfl:=flatten_len news hn
  have hj2:j - cs.length < news.length * size:=by rw [List.length_append,hfl] at hj;omega
  have hs0:0 < size:=by
   rcases Nat.eq_zero_or_pos size with h | h
   ·rw [h] at hj2;simp at hj2
   ·exact h
  have hi:(j - cs.length) / size < news.length:=by rw [Nat.div_lt_iff_lt_mul hs0];exact hj2
  have hr:(j - cs.length) % size < size:=Nat.mod_lt _ hs0
  have he:(j - cs.length) / size * size + (j - cs.length) % size = j - cs.length:=by rw [Nat.mul_comm];exact Nat.div_add_mod _ _
  have hr':(j - cs.length) % size < news[(j - cs.length) / size].length:=by rw [hn _ (List.getElem_mem hi)];exact hr
  have hg:=flatten_get news ((j - cs.length) / size) ((j - cs.length) % size) hn hr
  rw [he,List.getElem?_eq_getElem hi,Option.bind_some,List.getElem?_eq_getElem hr'] at hg
  have h3:=h2 _ hi _ hr'
  rw [he] at h3;rw [List.getElem_append_right (by omega),List.getD_eq_getElem?_getD,List.getElem?_append_right (by omega),hl,← List.getD_eq_getElem?_getD]
  obtain ⟨_,hg⟩:=List.getElem?_eq_some_iff.1 hg;rw [hg];exact h3
theorem Rep.vecOf (h:Rep w0 κ σ w) {g e size n:Nat} {v:Value} {xs:List Value} {cs:List C} (hn:n ≠ 0) (hown:w.ownsRow w0.heap.size e size v n xs) (hv:v.ownBlock = some g) (hm:∀ o,κ.m g o = none) (hl:∀ x (hx:x < σ.length),(σ[x]).lies κ x ≠ some g)
  (hc:∀ j (hj:j < cs.length),RC κ.m cs[j] (xs.getD j undef)) (hcl:cs.length = n * size):∃ κ',κ.le κ' ∧ Rep w0 κ' (σ ++ [.vec e size cs]) w ∧ RV κ' (.vec σ.length n) v:=by
 rcases hown.2 with ⟨_,h0⟩ | ⟨g',cap,cur,rfl,q2,q3,q4,q5,q6,q7⟩
 ·exact absurd h0 hn
 ·injection hv with hv
  subst hv;obtain ⟨r1,r2⟩:=h.vecAt (cs:=cs) (n:=n) (cap:=cap) q2 hm hl q3 hcl q4 q5 q6 (fun j hj=>by
   have:=hc j hj
   have hjx:j < xs.length:=by rw [hown.1,← hcl];exact hj
   have e1:cur.getD j undef = xs.getD j undef:=by
    rw [← q7] at hjx
    have hjt:j < n * size:=by simp at hjx;omega
    rw [← q7,Array.getD_eq_getD_getElem?,List.getD_eq_getElem?_getD,List.getElem?_take,if_pos hjt];simp
   rw [e1];exact this)
  exact ⟨_,K.moreV_le,r1,r2 n (Nat.le_refl _)⟩
theorem append_exec {o:Oper} {t t2:Nat} {x y:Operand} {v u v':Value} (ho:o.op = .call { callee:=.builtin .append,args:=#[x,y],argTypes:=#[t,t2] }) (hx:a.eval x = v) (hy:a.eval y = u)
  (hr:(Builtin.append_ #[t,t2] o.type #[v,u]).run P w = .ok v' w'):(execOp a.eval o).run P w = .ok (.value v') w':=by
 simp [execOp,ho,resolve,invoke,builtin,hx,hy,hr]
theorem ok_appV {o:Oper} {t t2 e:Nat} {x y:Operand} {x':Opd} {i:TypeInfo} {z:Value} {v:V} {news:List (List C)} {ns:List Value} (ho:o.op = .call { callee:=.builtin .append,args:=#[x,y],argTypes:=#[t,t2] }) (hu:P.underlying t = some (.slice e)) (hi:P.info? e = some i) (hz:i.zero = some z)
  (hzs:z.cells.size = i.size) (hx:trX x = some x') (hna:Src P w t2 (a.eval y) i.size news.length ns) (hnlen:(∀ r ∈ news,r.length = i.size) → ns.length = news.length * i.size) (hn1:∀ u ∈ ns,u.oneCell' = true) (hnr:(∀ r ∈ news,r.length = i.size) → ∀ k (hk:k < news.length) j (hj:j < news[k].length),RC κ.m news[k][j] (ns.getD (k * i.size + j) undef))
  (hs:appV e i.size i.bytes (x'.ev ρ) news σ = some (v,σ')) (hrep:Rep w0 κ σ w) (he:EnvOk κ ρ a):Res w0 κ σ' v ((execOp a.eval o).run P w):=by
 have hxr:=ev_ok he hx
 have hyv:a.eval y = a.eval y:=rfl
 unfold appV at hs
 split at hs
 ·rename_i b k hxe
  rw [hxe] at hxr
  by_cases hnn:news = []
  ·subst hnn
   simp only at hs;injection hs with hs
   injection hs with e1 e2
   subst e1 e2;generalize hxv:a.eval x = u at hxr
   cases hxr with
   | vec r1 r2 r3 r4 r5 r6=>
     rename_i n cap
     have hns:ns = []:=List.eq_nil_of_length_eq_zero (by simpa using hnlen (by simp))
     subst hns
     have hr:=app_none (P:=P) (w:=w) (t:=t) (t2:=t2) (ty:=o.type) (A0:=some ⟨κ.pos b,0,none⟩) (n:=k) (cap:=cap) hu hi (Nat.le_trans r4 r5) hna
     exact ⟨κ,_,w,.inl (append_exec ho hxv hyv hr),K.le_refl κ,hrep,.vec r1 r2 r3 r4 r5 r6⟩
  have hs:(match σ[b]? with
   | some (.vec e' size' cs)=>if e' = e ∧ size' = i.size ∧ k * i.size ≤ cs.length ∧ news ≠ [] ∧ (∀ r ∈ news,r.length = i.size) ∧ (k + news.length) * i.bytes ≤ 140737488355328 ∧ k + news.length ≤ 140737488355328 then
      some (V.vec σ.length (k + news.length),σ.set b .gone ++ [.vec e i.size (cs.take (k * i.size) ++ news.flatten)]) else none
   | _=>none) = some (v,σ'):=by
   cases news with
   | nil=>exact absurd rfl hnn
   | cons q r=>exact hs
  split at hs
  ·rename_i e' size' cs hb
   split at hs
   ·rename_i hc
    obtain ⟨he1,rfl,hkc,hne,hnl,hby,hmx⟩:=hc
    have he1:=he1.symm
    subst he1;injection hs with hs
    injection hs with e1 e2
    subst e1 e2
    have hnlen:=hnlen hnl
    have hnr:=hnr hnl
    have hmp:0 < news.length:=List.length_pos_iff.2 hne
    obtain ⟨hlt,hb'⟩:=List.getElem?_eq_some_iff.1 hb
    have hblk:=hrep.blk b hlt
    rw [hb'] at hblk;obtain ⟨vs,n1,cap1,k0,k1,k2,k3,k4,k5,k6⟩:=hblk.row;generalize hxv:a.eval x = u at hxr
    cases hxr with
    | vec r1 r2 r3 r4 r5 r6=>
      rename_i n cap;rw [k0] at r3;injection r3 with _ e1 e2
      subst e1 e2
      have hvl:(vs.toList.take (k * i.size)).length = k * i.size:=by
       have:=Nat.mul_le_mul_right i.size (Nat.le_trans r4 r5)
       rw [List.length_take,Array.length_toList,k5];omega
      have hown0:w.ownsRow w0.heap.size e i.size (.slice (some ⟨κ.pos b,0,none⟩) k cap1) k (vs.toList.take (k * i.size)):=
       ⟨hvl,.inr ⟨κ.pos b,cap1,vs,rfl,hblk.own,k1,Nat.le_trans r4 r5,k4,k5,rfl⟩⟩
      obtain ⟨v',w',g,hr,hown',hvb,hcase⟩:=app_run (P:=P) (w0:=w0) (w:=w) (t:=t) (t2:=t2) (ty:=o.type) (n:=k) (m:=news.length) (xs:=vs.toList.take (k * i.size)) (news:=ns) hu hi hz hzs (.inr hown0) hnlen hna hn1 hmp hby hmx hrep.ext.size
      have hR0:=hrep.give b
      have hfree:∀ x (hx:x < (σ.set b .gone).length),((σ.set b .gone)[x]).lies κ x ≠ some (κ.pos b):=fun x hx=>by
       have hx':x < σ.length:=by simpa using hx
       by_cases hxb:x = b
       ·subst hxb;rw [List.getElem_set_self];intro e;cases e
       ·rw [List.getElem_set_ne (Ne.symm hxb)]
        intro e;exact hrep.apart x b hx' hlt _ hxb e (by rw [hb'];rfl)
      have hR1:Rep w0 κ (σ.set b .gone) w' ∧ (∀ o,κ.m g o = none) ∧ ∀ x (hx:x < (σ.set b .gone).length),((σ.set b .gone)[x]).lies κ x ≠ some g:=by
       rcases hcase with ⟨c1,c3,c4⟩ | ⟨rfl,c2⟩
       ·have hg:g = κ.pos b:=by
         have:=held_own c1
         injection this with this
         exact this.symm
        subst hg;exact ⟨hR0.poke c3 (Below.grown hrep.ext c3 hrep.ext.size (fun k hk=>by injection hk with hk;omega)) hblk.free hfree (hrep.rest_own hlt (by rw [hb'];rfl)),hblk.free,hfree⟩
       ·exact ⟨hR0.grow c2,fun o=>hrep.fresh (Nat.le_refl _) o,fun x hx hl=>by have:=(hR0.lies_lt hx hl).2;omega⟩
      obtain ⟨κ',q1,q2,q3⟩:=hR1.1.vecOf (cs:=cs.take (k * i.size) ++ news.flatten) (by omega) hown' hvb hR1.2.1 hR1.2.2 (flat_app (by rw [hvl,List.length_take];omega) hnl (fun j hj=>by
       have hj':j < k * i.size:=by rw [List.length_take] at hj;omega
       have hjc:j < cs.length:=by omega
       have:=k6 j hjc
       rw [List.getElem_take,List.getD_eq_getElem?_getD,List.getElem?_take,if_pos hj']
       simpa [Array.getD_eq_getD_getElem?] using this) hnr) (by rw [List.length_append,List.length_take,flatten_len news hnl,Nat.add_mul];omega)
      rw [List.length_set] at q3;exact ⟨κ',v',w',.inl (append_exec ho hxv hyv hr),q1,q2,q3⟩
   ·cases hs
  ·cases hs
 ·rename_i b rows hxe
  rw [hxe] at hxr;split at hs
  ·rename_i e' size' n hb
   split at hs
   ·rename_i hc
    obtain ⟨he1,rfl,hrn,hnl,hby,hmx⟩:=hc
    have he1:=he1.symm
    subst he1;injection hs with hs
    injection hs with e1 e2
    subst e1 e2
    have hnlen:=hnlen hnl
    have hnr:=hnr hnl
    obtain ⟨hlt,hb'⟩:=List.getElem?_eq_some_iff.1 hb
    have hblk:=hrep.blk b hlt
    rw [hb'] at hblk;generalize hxv:a.eval x = u at hxr
    cases hxr with
    | osl r1 r2 r3 r4 r5 r6=>
      rename_i f
      have hff:f = n:=by have:=hblk.fr;rw [r3] at this;injection this
      subst hff
      have hu':=r5 hrn
      have hrs:∀ q ∈ rows,q.length = i.size:=fun q hq=>(r6 q hq).trans hblk.sz
      by_cases hm:news.length = 0
      ·have:news = []:=List.eq_nil_of_length_eq_zero hm
       subst this;obtain ⟨s1,A1,cap1,xs1,hv1,_,hcap1,_⟩:=r1.sl_of
       have hns:ns = []:=List.eq_nil_of_length_eq_zero (by simpa using hnlen)
       subst hns
       have hr:=app_none (P:=P) (w:=w) (t:=t) (t2:=t2) (ty:=o.type) (A0:=A1) (n:=rows.length) (cap:=cap1) hu hi hcap1 hna
       refine ⟨κ,u,w,.inl (append_exec ho hxv hyv (by rw [hv1];exact hr)),K.le_refl κ,?_,?_⟩
       ·simp only [List.length_nil,Nat.add_zero]
        rw [← hb',List.set_getElem_self];exact hrep
       ·rw [List.append_nil]
        exact .osl r1 r2 r3 r4 r5 r6
      ·have hmp:0 < news.length:=by omega
       have hv:∃ xs:List Value,xs.length = rows.length * i.size ∧ (∀ k (hk:k < rows.length) j (hj:j < rows[k].length),RC κ.m rows[k][j] (xs.getD (k * i.size + j) undef)) ∧
         ((rows.length = 0 ∧ xs = [] ∧ ∃ A0,u = .slice A0 0 0) ∨ w.ownsRow w0.heap.size e i.size u rows.length xs):=by
        rcases hblk.row with ⟨h0,A0,hA0⟩ | ⟨xs,ho'⟩
        ·have hr0:rows = []:=List.eq_nil_of_length_eq_zero (by omega)
         subst hr0;exact ⟨[],by simp,fun k hk=>by simp at hk,.inl ⟨rfl,rfl,A0,by rw [hu',hA0]⟩⟩
        ·rw [← hu',← hrn] at ho'
         obtain ⟨s1,A1,cap1,xs1,hv1,k0,_,_,k3,k4,k5⟩:=r1.sl_of
         by_cases hne:rows = []
         ·subst hne
          exact ⟨xs,ho'.1,fun k hk=>by simp at hk,.inr ho'⟩
         have hpos:0 < rows.length:=List.length_pos_iff.2 hne
         have hs1:s1 = i.size:=by rw [← k0 _ (List.getElem_mem hpos),hrs _ (List.getElem_mem hpos)]
         subst hs1;obtain ⟨bb,oo,hA1,k4⟩:=k4 hne;rcases ho'.2 with ⟨_,h0⟩ | ⟨g,cap,cur,hvg,hbg,hg,hnc,hcm,hcs,htake⟩
         ·omega
         ·rw [hvg] at hv1
          injection hv1 with hv1 _ _
          rw [hA1] at hv1;injection hv1 with hv1
          injection hv1 with hg1 ho1 _
          subst hg1 ho1
          have hxx:xs1 = xs:=by
           apply List.ext_getElem (by rw [k3,ho'.1])
           intro k hk1 hk2
           have q1:=k4 k hk1
           rw [List.getElem?_eq_getElem hk1] at q1
           have q2:=hrep.mem _ _ _ q1
           have q3:=ho'.cells (g:=g) (by rw [hvg];rfl) k xs[k] (List.getElem?_eq_getElem hk2)
           rw [add_lit] at q3;rw [q2] at q3;injection q3
          subst hxx;exact ⟨xs1,k3,k5,.inr ho'⟩
       obtain ⟨xs,hxl,hxr',hv⟩:=hv;obtain ⟨v',w',g,hr,hown',hvb,hcase⟩:=app_run (P:=P) (w0:=w0) (w:=w) (t:=t) (t2:=t2) (ty:=o.type) (n:=rows.length) (m:=news.length) (v:=u) (xs:=xs) (news:=ns) hu hi hz hzs hv hnlen hna hn1 hmp (by rw [hrn];exact hby) (by rw [hrn];exact hmx) hrep.ext.size
       have hgb:w.grownBy w' (some g) ∧ Below w0.heap.size w0 w' ∧ (∀ x (hx:x < σ.length),x ≠ b → (σ[x]).lies κ x ≠ some g) ∧ (∀ p q,κ.m g p = some q → p < f * i.size ∧ (xs ++ ns)[p]? = some q) ∧ κ.rest g = none:=by
        rcases hcase with ⟨c1,c3,c4⟩ | ⟨rfl,c2⟩
        ·refine ⟨c3,Below.grown hrep.ext c3 hrep.ext.size (fun k hk=>by injection hk with hk;omega),fun x hx hne hl=>?_,fun p q hq=>?_,hrep.rest_own hlt (by rw [hb'];simp only [Blk.lies];rw [← hu',c1])⟩
         ·refine hrep.apart x b hx hlt g hne hl ?_
          rw [hb'];simp only [Blk.lies];rw [← hu',c1]
         ·have hlt':p < f * i.size:=by
           rcases Nat.lt_or_ge p (f * i.size) with h' | h'
           ·exact h'
           ·rw [hblk.free g (by rw [← hu',c1]) p h'] at hq;cases hq
          refine ⟨hlt',?_⟩;rcases hv with ⟨h0,_⟩ | ho'
          ·rw [← hrn,h0] at hlt';simp at hlt'
          ·have hpx:p < xs.length:=by rw [hxl,hrn];exact hlt'
           have q3:=ho'.cells (held_own c1) p xs[p] (List.getElem?_eq_getElem hpx)
           rw [add_lit,Nat.zero_add,hrep.mem _ _ _ hq] at q3;injection q3 with q3
           rw [List.getElem?_append_left hpx,List.getElem?_eq_getElem hpx,q3]
        ·refine ⟨⟨c2.os,c2.tape,c2.output,c2.size,fun k hk _=>c2.block k hk⟩,hrep.ext.trans (c2.mono hrep.ext.size),fun x hx _ hl=>?_,fun p q hq=>?_,hrep.rest_new (Nat.le_refl _)⟩
         ·have:=(hrep.lies_lt hx hl).2;omega
         ·rw [hrep.fresh (Nat.le_refl _)] at hq;cases hq
       obtain ⟨g1,g2,g3,g4,g5⟩:=hgb;obtain ⟨hrep',hle⟩:=hrep.grew (k:=f + news.length) hb (by omega) (by rw [← hrn];exact hown') hvb g1 g2 g3 g4 g5
       refine ⟨_,v',w',.inl (append_exec ho hxv hyv hr),hle,hrep',?_⟩
       have hv'':∃ cap,v' = .slice (some ⟨g,0,none⟩) (rows ++ news).length cap ∧ (rows ++ news).length ≤ cap ∧ cap ≤ maxLen:=by
        rcases hown'.2 with ⟨_,h0⟩ | ⟨g',cap,cur,hvg,_,_,hnc,hcm,_,_⟩
        ·omega
        ·rw [hvg] at hvb
         injection hvb with hvb
         subst hvb;exact ⟨cap,by rw [hvg,List.length_append],by rw [List.length_append];exact hnc,hcm⟩
       obtain ⟨cap',hv1,hv2,hv3⟩:=hv''
       have hrc:=rows_RC (m:=(κ.grew b (f + news.length) g v' (xs ++ ns)).m) (rows:=rows ++ news) (size:=i.size) (xs:=xs ++ ns) (by rw [hown'.1,List.length_append]) (fun q hq=>by
        rcases List.mem_append.1 hq with hq | hq
        ·exact hrs q hq
        ·exact hnl q hq) (fun k hk j hj=>RC.mono hle.m (rows_app hxl hrs hxr' hnr k hk j hj)) (b:=g) (o:=0) (cap:=cap') (fun k hk=>by
        rw [Nat.zero_add]
        show (if g = g ∧ k < (xs ++ ns).length then _ else _) = _
        rw [if_pos ⟨rfl,hk⟩]) hv2 hv3
       rw [← hv1] at hrc;refine .osl (f:=f + news.length) hrc r2 (by show (if b = b then _ else _) = _;rw [if_pos rfl]) (by rw [List.length_append];omega) (fun _=>by show _ = (if b = b then _ else _);rw [if_pos rfl]) (fun q hq=>?_)
       rcases List.mem_append.1 hq with hq | hq
       ·exact r6 q hq
       ·exact (hnl q hq).trans hblk.sz.symm
   ·cases hs
  ·cases hs
 ·rename_i olds hxe
  rw [hxe] at hxr;split at hs
  ·rename_i hc
   obtain ⟨hne,hol,hnl,hby,hmx⟩:=hc;injection hs with hs
   injection hs with e1 e2
   subst e1 e2
   have hnlen:=hnlen hnl
   have hnr:=hnr hnl
   generalize hxv:a.eval x = u at hxr
   cases hxr with
   | csl r1=>
     rename_i A0
     have hold:∃ xs:List Value,xs.length = olds.length * i.size ∧ (∀ k (hk:k < olds.length) j (hj:j < olds[k].length),RC κ.m olds[k][j] (xs.getD (k * i.size + j) undef)) ∧
       (olds.length ≠ 0 → ∃ b o,A0 = some ⟨b,o,none⟩ ∧ ∀ k,k < xs.length → w.cell? ⟨b,o + k,none⟩ = xs[k]?):=by
      obtain ⟨s1,A1,cap1,xs1,hv1,k0,_,_,k3,k4,k5⟩:=r1.sl_of
      by_cases h0:olds = []
      ·subst h0
       exact ⟨[],by simp,fun k hk=>by simp at hk,fun h=>absurd rfl h⟩
      ·have hpos:0 < olds.length:=List.length_pos_iff.2 h0
       have hs1:s1 = i.size:=by rw [← k0 _ (List.getElem_mem hpos),hol _ (List.getElem_mem hpos)]
       subst hs1;obtain ⟨bb,oo,hA1,k4⟩:=k4 h0;injection hv1 with hv1 _ _
       refine ⟨xs1,k3,k5,fun _=>⟨bb,oo,by rw [hv1,hA1],fun k hk=>?_⟩⟩
       have q:=k4 k hk
       rw [List.getElem?_eq_getElem hk] at q ⊢;exact hrep.mem _ _ _ q
     obtain ⟨xo,hxo,hxor,hxoc⟩:=hold
     have hO:=hrep.own e i.size A0
     have hleO:κ.le (κ.own (.slice A0 0 0) i.size):=K.own_le
     have frn:(κ.own (.slice A0 0 0) i.size).fr σ.length = some 0:=by show (if σ.length = κ.n then _ else _) = _;rw [if_pos hrep.n.symm]
     have svn:(κ.own (.slice A0 0 0) i.size).sv σ.length = .slice A0 0 0:=by show (if σ.length = κ.n then _ else _) = _;rw [if_pos hrep.n.symm]
     have szn:(κ.own (.slice A0 0 0) i.size).sz σ.length = i.size:=by show (if σ.length = κ.n then _ else _) = _;rw [if_pos hrep.n.symm]
     have hnn:σ.length < (κ.own (.slice A0 0 0) i.size).n:=by show _ < κ.n + 1;rw [hrep.n];omega
     have hal:∀ q ∈ olds ++ news,q.length = i.size:=fun q hq=>by
      rcases List.mem_append.1 hq with hq | hq
      ·exact hol q hq
      ·exact hnl q hq
     by_cases hm:news.length = 0
     ·have:news = []:=List.eq_nil_of_length_eq_zero hm
      subst this
      have:olds = []:=by rcases hne with h | h;exact h;exact absurd rfl h
      subst this
      have hns:ns = []:=List.eq_nil_of_length_eq_zero (by simpa using hnlen)
      subst hns
      have hr:=app_none (P:=P) (w:=w) (t:=t) (t2:=t2) (ty:=o.type) (A0:=A0) (n:=0) (cap:=0) hu hi (Nat.le_refl _) hna
      refine ⟨_,_,w,.inl (append_exec ho hxv hyv hr),hleO,hO,?_⟩;exact .osl (hleO.m |> fun q=>r1.mono q) hnn frn (Nat.le_refl _) (fun _=>svn.symm) (by simp)
     ·have hmp:0 < news.length:=by omega
      obtain ⟨v',w',hr,hown',hvb,c2⟩:=app_fresh (P:=P) (w0:=w0) (w:=w) (t:=t) (t2:=t2) (ty:=o.type) (n:=olds.length) (m:=news.length) (A0:=A0) (xs:=xo) (news:=ns) hu hi hz hzs hxo hxoc hnlen hna hmp hby hmx hrep.ext.size;obtain ⟨hrep',hle⟩:=hO.grew (k:=olds.length + news.length) (n:=0) (b:=σ.length) (e:=e) (size:=i.size) (by simp) (by omega) hown' hvb ⟨c2.os,c2.tape,c2.output,c2.size,fun k hk _=>c2.block k hk⟩ (hrep.ext.trans (c2.mono hrep.ext.size))
       (fun x hx _ hl=>by have:=(hO.lies_lt hx hl).2;omega) (fun p q hq=>by rw [hO.fresh (Nat.le_refl _)] at hq;cases hq) (hO.rest_new (Nat.le_refl _))
      rw [show (σ ++ [Blk.spare e i.size 0]).set σ.length (.spare e i.size (olds.length + news.length)) = σ ++ [.spare e i.size (olds.length + news.length)] from by simp] at hrep'
      refine ⟨_,v',w',.inl (append_exec ho hxv hyv hr),K.le_trans hleO hle,hrep',?_⟩
      have hv'':∃ cap,v' = .slice (some ⟨w.heap.size,0,none⟩) (olds ++ news).length cap ∧ (olds ++ news).length ≤ cap ∧ cap ≤ maxLen:=by
       rcases hown'.2 with ⟨_,h0⟩ | ⟨g',cap,cur,hvg,_,_,hnc,hcm,_,_⟩
       ·omega
       ·rw [hvg] at hvb
        injection hvb with hvb
        subst hvb;exact ⟨cap,by rw [hvg,List.length_append],by rw [List.length_append];exact hnc,hcm⟩
      obtain ⟨cap',hv1,hv2,hv3⟩:=hv''
      have hrc:=rows_RC (m:=((κ.own (.slice A0 0 0) i.size).grew σ.length (olds.length + news.length) w.heap.size v' (xo ++ ns)).m) (rows:=olds ++ news) (size:=i.size) (xs:=xo ++ ns) (by rw [hown'.1,List.length_append]) hal (fun k hk j hj=>RC.mono (K.le_trans hleO hle).m (rows_app hxo hol hxor hnr k hk j hj)) (b:=w.heap.size) (o:=0) (cap:=cap') (fun k hk=>by
       rw [Nat.zero_add]
       show (if w.heap.size = w.heap.size ∧ k < (xo ++ ns).length then _ else _) = _
       rw [if_pos ⟨rfl,hk⟩]) hv2 hv3
      rw [← hv1] at hrc;exact .osl (f:=olds.length + news.length) hrc hnn (by show (if σ.length = σ.length then _ else _) = _;rw [if_pos rfl]) (by rw [List.length_append];omega) (fun _=>by show _ = (if σ.length = σ.length then _ else _);rw [if_pos rfl]) (fun q hq=>(hal q hq).trans szn.symm)
  ·cases hs
 ·cases hs
theorem ok_app {o:Oper} {t e:Nat} {x y:Operand} {x' y':Opd} {i:TypeInfo} {z:Value} {v:V} (ho:o.op = .call { callee:=.builtin .append,args:=#[x,y],argTypes:=#[t,t] }) (hu:P.underlying t = some (.slice e)) (hi:P.info? e = some i) (hz:i.zero = some z)
  (hzs:z.cells.size = i.size) (hx:trX x = some x') (hy:trX y = some y') (hs:step ρ σ (.app e i.size i.bytes x' y') = some (v,σ')) (hrep:Rep w0 κ σ w) (he:EnvOk κ ρ a):Res w0 κ σ' v ((execOp a.eval o).run P w):=by
 have hyr:=ev_ok he hy
 simp only [step] at hs
 split at hs
 ·rename_i news hnews
  have hyc:=hyr.rows_of hnews
  by_cases hnl:∀ r ∈ news,r.length = i.size
  ·obtain ⟨A,c,ns,hyv,hnlen,hna,hn1,hnr⟩:=RC.source hrep hyc hnl
   exact ok_appV ho hu hi hz hzs hx (by rw [hyv];exact Src.slice hu hnlen hna) (fun _=>hnlen) hn1 (fun _=>hnr) hs hrep he
  ·unfold appV at hs
   split at hs
   ·split at hs
    ·exact absurd (by simp) hnl
    ·split at hs
     ·rw [if_neg (fun h=>hnl h.2.2.2.2.1)] at hs;cases hs
     ·cases hs
   ·split at hs
    ·rw [if_neg (fun h=>hnl h.2.2.2.1)] at hs;cases hs
    ·cases hs
   ·rw [if_neg (fun h=>hnl h.2.2.1)] at hs;cases hs
   ·cases hs
 ·cases hs
theorem ok_appVec {o:Oper} {t e:Nat} {x y:Operand} {x' y':Opd} {i:TypeInfo} {z:Value} {olds news:List (List C)} (ho:o.op = .call { callee:=.builtin .append,args:=#[x,y],argTypes:=#[t,t] }) (hu:P.underlying t = some (.slice e)) (hi:P.info? e = some i) (hz:i.zero = some z)
  (hzs:z.cells.size = i.size) (hx:trX x = some x') (hy:trX y = some y') (hxe:x'.ev ρ = .csl olds) (hye:(y'.ev ρ).rows = some news) (hne:news ≠ []) (hol:∀ r ∈ olds,r.length = i.size) (hnl:∀ r ∈ news,r.length = i.size)
  (hby:(olds.length + news.length) * i.bytes ≤ 140737488355328) (hmx:olds.length + news.length ≤ 140737488355328) (hrep:Rep w0 κ σ w) (he:EnvOk κ ρ a):Res w0 κ (σ ++ [.vec e i.size (olds ++ news).flatten]) (.vec σ.length (olds.length + news.length)) ((execOp a.eval o).run P w):=by
 have hxr:=ev_ok he hx
 have hyr:=ev_ok he hy
 have hyc:=hyr.rows_of hye
 obtain ⟨A,c,ns,hyv,hnlen,hna,hn1,hnr⟩:=RC.source hrep hyc hnl
 have hmp:0 < news.length:=List.length_pos_iff.2 hne
 rw [hxe] at hxr
 generalize hxv:a.eval x = u at hxr
 cases hxr with
 | csl r1=>
   rename_i A0
   have hold:∃ xs:List Value,xs.length = olds.length * i.size ∧ (∀ k (hk:k < olds.length) j (hj:j < olds[k].length),RC κ.m olds[k][j] (xs.getD (k * i.size + j) undef)) ∧
     (olds.length ≠ 0 → ∃ b o,A0 = some ⟨b,o,none⟩ ∧ ∀ k,k < xs.length → w.cell? ⟨b,o + k,none⟩ = xs[k]?):=by
    obtain ⟨s1,A1,cap1,xs1,hv1,k0,_,_,k3,k4,k5⟩:=r1.sl_of
    by_cases h0:olds = []
    ·subst h0
     exact ⟨[],by simp,fun k hk=>by simp at hk,fun h=>absurd rfl h⟩
    ·have hpos:0 < olds.length:=List.length_pos_iff.2 h0
     have hs1:s1 = i.size:=by rw [← k0 _ (List.getElem_mem hpos),hol _ (List.getElem_mem hpos)]
     subst hs1;obtain ⟨bb,oo,hA1,k4⟩:=k4 h0;injection hv1 with hv1 _ _
     refine ⟨xs1,k3,k5,fun _=>⟨bb,oo,by rw [hv1,hA1],fun k hk=>?_⟩⟩
     have q:=k4 k hk
     rw [List.getElem?_eq_getElem hk] at q ⊢;exact hrep.mem _ _ _ q
   obtain ⟨xo,hxo,hxor,hxoc⟩:=hold;obtain ⟨v',w',hr,hown',hvb,c2⟩:=app_fresh (P:=P) (w0:=w0) (w:=w) (t:=t) (t2:=t) (ty:=o.type) (n:=olds.length) (m:=news.length) (A0:=A0) (xs:=xo) (news:=ns) hu hi hz hzs hxo hxoc hnlen (Src.slice (P:=P) (w:=w) hu hnlen hna) hmp hby hmx hrep.ext.size
   have hal:∀ q ∈ olds ++ news,q.length = i.size:=fun q hq=>by
    rcases List.mem_append.1 hq with hq | hq
    ·exact hol q hq
    ·exact hnl q hq
   obtain ⟨κ',q1,q2,q3⟩:=(hrep.grow c2).vecOf (cs:=[] ++ (olds ++ news).flatten) (by omega) hown' hvb (fun o=>hrep.fresh (Nat.le_refl _) o) (fun x hx hl=>by have:=(hrep.lies_lt hx hl).2;omega)
    (flat_app (xs:=[]) rfl hal (fun j hj=>by simp at hj) (rows_app hxo hol hxor hnr)) (by rw [List.nil_append,flatten_len _ hal,List.length_append])
   exact ⟨κ',v',w',.inl (append_exec ho hxv hyv hr),q1,q2,q3⟩
theorem ok_appS {o:Oper} {t t2 e:Nat} {x y:Operand} {x' y':Opd} {i:TypeInfo} {z:Value} {v:V} (ho:o.op = .call { callee:=.builtin .append,args:=#[x,y],argTypes:=#[t,t2] }) (hu:P.underlying t = some (.slice e)) (hu2:P.underlying t2 = some .string) (hi:P.info? e = some i) (hz:i.zero = some z)
  (hzs:z.cells.size = i.size) (h1:i.size = 1) (hx:trX x = some x') (hy:trX y = some y') (hs:step ρ σ (.appS e i.bytes x' y') = some (v,σ')) (hrep:Rep w0 κ σ w) (he:EnvOk κ ρ a):Res w0 κ σ' v ((execOp a.eval o).run P w):=by
 have hyr:=ev_ok he hy
 simp only [step] at hs
 split at hs
 ·rename_i l hl
  rw [hl] at hyr
  have hyv:=hyr.str_of
  have hbl:(byteRows l).length = l.length:=by simp [byteRows]
  refine ok_appV (news:=byteRows l) (ns:=l.map fun b=>Value.int .u8 b.toNat) ho hu hi hz hzs hx (by rw [hyv,hbl,h1];exact Src.str hu2) (fun _=>by rw [hbl,h1];simp) (fun u hu=>?_) (fun _ k hk j hj=>?_) (by rw [h1];exact hs) hrep he
  ·obtain ⟨b,_,rfl⟩:=List.mem_map.1 hu
   rfl
  ·have hk':k < l.length:=by rw [hbl] at hk;exact hk
   have hj':j = 0:=by simp [byteRows] at hj;exact hj
   subst hj'
   have e1:(byteRows l)[k] = [.int .u8 l[k].toNat]:=by simp [byteRows]
   simp only [e1,List.getElem_cons_zero,h1,Nat.mul_one,Nat.add_zero];rw [getD_of (by simpa using hk'),List.getElem_map]
   exact .int _ _
 ·cases hs
end

section
variable {P:Program} {w0 w w':World} {κ:K} {σ σ':H} {a:Act} {ρ:Env}

theorem Rep.mapNew (h:Rep w0 κ σ w):Rep w0 (κ.more w.heap.size) (σ ++ [.mp []]) (w.alloc (.map #[] 0)) ∧ RV (κ.more w.heap.size) (.mp σ.length) (.map (some w.heap.size)):=by
 have hle:κ.le (κ.more w.heap.size):=K.more_le
 have hA:=h.alloc (.map #[] 0)
 have hpos:∀ b,b < σ.length → (κ.more w.heap.size).pos b = κ.pos b:=fun b hb=>by show (if b = κ.n then _ else _) = _;rw [if_neg (by rw [h.n];omega)]
 have hfr:∀ b,b < σ.length → (κ.more w.heap.size).fr b = κ.fr b:=fun b hb=>by show (if b = κ.n then _ else _) = _;rw [if_neg (by rw [h.n];omega)]
 have hposn:(κ.more w.heap.size).pos σ.length = w.heap.size:=by show (if σ.length = κ.n then _ else _) = _;rw [if_pos h.n.symm]
 have hfrn:(κ.more w.heap.size).fr σ.length = none:=by show (if σ.length = κ.n then _ else _) = _;rw [if_pos h.n.symm]
 have hlies:∀ b (hb:b < σ.length),(σ[b]).lies (κ.more w.heap.size) b = (σ[b]).lies κ b:=fun b hb=>Blk.lies_same (hpos b hb) rfl
 refine ⟨⟨by show κ.n + 1 = _;rw [h.n];simp,hA.ext,hA.mem,fun b hb=>?_,fun x y hx hy g hne=>?_,fun l o hr=>⟨(hA.rest l o hr).1,(hA.rest l o hr).2.1,rest_push hlies (h.rest l o hr).2.2 (by simp only [Blk.lies,hposn];intro e;injection e with e;have:=(Array.getElem?_eq_some_iff.1 (h.rest l o hr).1).1;omega)⟩,hA.lim⟩,?_⟩
 ·rcases Nat.lt_or_ge b σ.length with hb' | hb'
  ·rw [List.getElem_append_left hb']
   exact Blk.is_le (κ:=κ) rfl hle (hpos b hb') (hfr b hb') rfl rfl (hA.blk b hb')
  ·have hbe:b = σ.length:=by simp at hb;omega
   subst hbe;rw [List.getElem_append_right (Nat.le_refl _)];simp only [Nat.sub_self,List.getElem_cons_zero];exact ⟨hfrn,⟨#[],0,by rw [hposn];exact heap_alloc_new w _,rfl,fun j hj=>by simp at hj⟩,by rw [hposn];exact h.ext.size,fun o=>by rw [hposn];exact h.fresh (Nat.le_refl _) o⟩
 ·rcases Nat.lt_or_ge x σ.length with hx' | hx' <;> rcases Nat.lt_or_ge y σ.length with hy' | hy'
  ·rw [List.getElem_append_left hx',List.getElem_append_left hy',hlies x hx',hlies y hy']
   exact h.apart x y hx' hy' g hne
  ·have hye:y = σ.length:=by simp at hy;omega
   subst hye;rw [List.getElem_append_left hx',hlies x hx',List.getElem_append_right (Nat.le_refl _)];simp only [Nat.sub_self,List.getElem_cons_zero,Blk.lies,hposn];intro h1 h2
   have:=(h.lies_lt hx' h1).2
   injection h2;omega
  ·have hxe:x = σ.length:=by simp at hx;omega
   subst hxe;rw [List.getElem_append_left hy',hlies y hy',List.getElem_append_right (Nat.le_refl _)];simp only [Nat.sub_self,List.getElem_cons_zero,Blk.lies,hposn];intro h1 h2
   have:=(h.lies_lt hy' h2).2
   injection h1;omega
  ·simp at hx hy;omega
 ·have:=RV.mp (κ:=κ.more w.heap.size) (b:=σ.length) (by show _ < κ.n + 1;rw [h.n];omega) hfrn
  rwa [hposn] at this
theorem ok_mkmap {o:Oper} {t:TypeId} (ho:o.op = .makeMap t none) (hrep:Rep w0 κ σ w):Res w0 κ (σ ++ [.mp []]) (.mp σ.length) ((execOp a.eval o).run P w):=by
 obtain ⟨h1,h2⟩:=hrep.mapNew
 refine ⟨_,_,_,.inl ?_,K.more_le,h1,h2⟩
 simp [execOp,ho,Instr.makeMap,Result.andThen]

theorem ofLeaf_cells {z:Value} {c:C} (h:ofLeaf z = some (.c c)):z.cells = #[z]:=by
 unfold ofLeaf at h
 split at h <;> first | (cases h;done) | rfl | (split at h <;> first | rfl | cases h)
theorem ok_mkvec {o:Oper} {t e:TypeId} {l:Nat} {i:TypeInfo} {z:Value} {zc:C} (ho:o.op = .makeSlice t (.tmp l) (.tmp l)) (hu:P.underlying t = some (.slice e)) (hi:P.info? e = some i) (hz:i.zero = some z) (hzc:ofLeaf z = some (.c zc)) (hs1:i.size = 1)
  {v:V} (hs:step ρ σ (.mkvec e i.bytes zc (.t l)) = some (v,σ')) (hrep:Rep w0 κ σ w) (he:EnvOk κ ρ a):Res w0 κ σ' v ((execOp a.eval o).run P w):=by
 simp only [step] at hs
 split at hs
 ·rename_i k n hx
  split at hs
  ·rename_i hn
   obtain ⟨h0,hb,hm⟩:=hn;injection hs with hs
   injection hs with q1 q2
   subst q1 q2
   have hv:=he l
   have hx:ρ l = .c (.int k n):=hx
   rw [hx] at hv
   have hev:a.eval (.tmp l) = .int k n:=by
    have e1:a.eval (.tmp l) = a.tmps.getD l undef:=rfl
    rw [e1];generalize a.tmps.getD l undef = u at hv
    cases hv with
    | c hc=>cases hc;rfl
   have hrun:=run_make (P:=P) w t e i z hu hi hz k k n n h0 (Int.le_refl _) (by omega) (by omega)
   have hA:=hrep.alloc (.cells (madeCells z.cells (n.toNat * i.size)) e)
   have hcs:=ofLeaf_cells hzc
   have hrc:RC κ.m zc z:=by
    have:=ofLeaf_ok (κ:=κ) hzc
    cases this with
    | c h=>exact h
   obtain ⟨r1,r2⟩:=hA.vecAt (g:=w.heap.size) (e:=e) (size:=1) (n:=n.toNat) (cap:=n.toNat) (cs:=List.replicate n.toNat zc) (cur:=madeCells z.cells (n.toNat * i.size)) hrep.ext.size (fun o=>hrep.fresh (Nat.le_refl _) o) (fun x hx hl=>by have:=(hrep.lies_lt hx hl).2;omega) (heap_alloc_new w _) (by simp) (Nat.le_refl _) (by unfold maxLen;omega) (by rw [size_madeCells,hs1]) (fun j hj=>by
    have hj':j < n.toNat:=by simpa using hj
    rw [hs1,hcs];simp only [List.getElem_replicate]
    have:(madeCells #[z] (n.toNat * 1)).getD j undef = z:=by
     simp [madeCells,Array.getD_eq_getD_getElem?,hj',Nat.mod_one]
    rw [this];exact hrc)
   refine ⟨_,_,_,.inl ?_,K.moreV_le,r1,r2 _ (Nat.le_refl _)⟩;simp [execOp,ho,hev,hrun,Result.andThen]
  ·cases hs
 ·cases hs

theorem keyD_is {d:TypeDesc} {q:KD} (h:keyD d = some q) {x:C} {v:Value} {m:Mem} (hx:RC m x v) (hq:q.ok x = true):MapKept.IsKey d v:=by
 cases d <;> simp only [keyD] at h <;> first | (cases h;done) | skip
 all_goals injection h with h;subst h
 all_goals cases hx <;> simp_all [KD.ok,MapKept.IsKey]
theorem eqK_now {d:TypeDesc} {q:KD} (h:keyD d = some q) {x y:C} {u v:Value} {m:Mem} (hx:RC m x u) (hy:RC m y v) (hqx:q.ok x = true) (hqy:q.ok y = true):Instr.sameNow d u v = some (eqK x y):=by
 cases d <;> simp only [keyD] at h <;> first | (cases h;done) | skip
 all_goals injection h with h;subst h
 all_goals cases hx <;> first | (simp [KD.ok] at hqx;done) | skip
 all_goals cases hy <;> first | (simp [KD.ok] at hqy;done) | skip
 all_goals simp_all [KD.ok,Instr.sameNow,eqK,bs_beq]
theorem eqK_eq {q:KD} {x y:C} (hqx:q.ok x = true) (hqy:q.ok y = true) (h:eqK x y = true):x = y:=by
 cases q <;> cases x <;> simp [KD.ok] at hqx <;> cases y <;> simp [KD.ok] at hqy <;> simp_all [eqK]
def EntsAre (m:Mem) (kvs:List (C × C)) (es:List MapEntry):Prop:=es.length = kvs.length ∧ ∀ j (hj:j < kvs.length) (hj':j < es.length),RC m kvs[j].1 (es[j]).key ∧ RC m kvs[j].2 (es[j]).val
theorem EntsAre.cons_inv {m:Mem} {p:C × C} {kvs:List (C × C)} {es:List MapEntry} (h:EntsAre m (p :: kvs) es):∃ e r,es = e :: r ∧ RC m p.1 e.key ∧ RC m p.2 e.val ∧ EntsAre m kvs r:=by
 cases es with
 | nil=>have:=h.1;simp at this
 | cons e r=>
   have h0:=h.2 0 (by simp) (by simp)
   exact ⟨e,r,rfl,h0.1,h0.2,by have:=h.1;simpa using this,fun j hj hj'=>h.2 (j + 1) (by simpa using hj) (by simpa using hj')⟩
theorem find_now {m:Mem} {d:TypeDesc} {q:KD} (hd:keyD d = some q) {k:C} {kv:Value} (hk:RC m k kv) (hq:q.ok k = true):∀ {kvs:List (C × C)} {es:List MapEntry} (i:Nat),EntsAre m kvs es → (kvs.all fun p=>q.ok p.1) = true →
  (findC k kvs = none ∧ Instr.findNow d kv es i = some none ∧ ∀ v,updC k v kvs = kvs ++ [(k,v)]) ∨
  ∃ j x e,findC k kvs = some x ∧ Instr.findNow d kv es i = some (some (i + j,e.val)) ∧ es[j]? = some e ∧ RC m x e.val ∧ e.key = kv ∧ ∀ v,updC k v kvs = kvs.set j (k,v)
 | [],es,i,h,_=>by
   have:es = []:=List.eq_nil_of_length_eq_zero h.1
   subst this;exact .inl ⟨rfl,rfl,fun v=>rfl⟩
 | p :: kvs,es,i,h,ha=>by
   obtain ⟨e,r,rfl,h1,h2,h3⟩:=h.cons_inv;rw [List.all_cons,Bool.and_eq_true] at ha;obtain ⟨pk,pv⟩:=p;simp only at h1 h2 ha
   have hs:=eqK_now hd hk h1 hq ha.1
   cases he:eqK k pk with
   | true=>
     right
     have hkk:=eqK_eq hq ha.1 he
     refine ⟨0,pv,e,by rw [findC,he];rfl,by rw [Instr.findNow,hs,he];rfl,rfl,h2,?_,fun v=>by rw [updC,he];rfl⟩
     obtain ⟨rr,q1,q2⟩:=MapKept.sameNow_of_keys (keyD_is hd hk hq) (keyD_is hd h1 ha.1);rw [hs,he] at q1;injection q1 with q1
     exact (q2.1 q1.symm).symm
   | false=>
     rcases find_now hd hk hq (i + 1) h3 ha.2 with ⟨q1,q2,q3⟩ | ⟨j,x,e',q1,q2,q3,q4,q5,q6⟩
     ·left
      refine ⟨by rw [findC,he];exact q1,by rw [Instr.findNow,hs,he];exact q2,fun v=>by rw [updC,he];show _ :: updC k v kvs = _;rw [q3];rfl⟩
     ·right
      refine ⟨j + 1,x,e',by rw [findC,he];exact q1,?_,q3,q4,q5,fun v=>by rw [updC,he];show _ :: updC k v kvs = _;rw [q6];rfl⟩
      rw [Instr.findNow,hs,he]
      show Instr.findNow d kv r (i + 1) = _
      rw [q2,Nat.add_assoc,Nat.add_comm 1 j]
theorem mapP_some {t:TypeId} {q:KD} {z:C} (h:mapP P t = some (q,z)):∃ kt et d,P.underlying t = some (.map kt et) ∧ P.underlying kt = some d ∧ keyD d = some q ∧ zeroP P et = some (.c z):=by
 unfold mapP at h
 split at h
 ·rename_i kt et hu
  split at h
  ·rename_i d z' hk hz
   split at h
   ·rename_i q' hq
    injection h with h
    injection h with h1 h2
    subst h1 h2;exact ⟨kt,et,d,hu,hk,hq,hz⟩
   ·cases h
  ·cases h
 ·cases h
theorem mapK_some {t:TypeId} {q:KD} (h:mapK P t = some q):∃ kt et d,P.underlying t = some (.map kt et) ∧ P.underlying kt = some d ∧ keyD d = some q:=by
 unfold mapK at h
 split at h
 ·rename_i kt et hu
  split at h
  ·rename_i d hk
   exact ⟨kt,et,d,hu,hk,h⟩
  ·cases h
 ·cases h
theorem zero_run {t:TypeId} {x:V} (h:zeroP P t = some x):∃ z,(zeroValue t).run P w = .ok z w ∧ RV κ x z:=by
 unfold zeroP at h
 split at h
 ·rename_i i hi
  split at h
  ·rename_i z hz
   refine ⟨z,?_,ofV_ok h⟩;simp [zeroValue,typeInfo,hi,hz,Result.andThen]
  ·cases h
 ·cases h
theorem RV.mp_of {b:Nat} {v:Value} (r:RV κ (.mp b) v):v = .map (some (κ.pos b)):=by cases r;rfl
theorem RV.c_of {x:C} {v:Value} (r:RV κ (.c x) v):RC κ.m x v:=by cases r;assumption
theorem ok_look {o:Oper} {t:TypeId} {x k:Operand} {ok:Bool} {q:KD} {z:C} {x' k':Opd} {v:V} (ho:o.op = .lookup t x k ok) (hm:mapP P t = some (q,z)) (hx:trX x = some x') (hk:trX k = some k') (hs:step ρ σ (.look ok q z x' k') = some (v,σ')) (hrep:Rep w0 κ σ w) (he:EnvOk κ ρ a):Res w0 κ σ' v ((execOp a.eval o).run P w):=by
 obtain ⟨kt,et,d,hu,hkt,hq,hz⟩:=mapP_some hm
 simp only [step] at hs
 split at hs
 ·rename_i b kc e1 e2
  split at hs
  ·rename_i kvs hb
   split at hs
   ·rename_i hc
    injection hs with hs
    injection hs with q1 q2
    subst q1 q2
    have rx:=ev_ok he hx
    have rk:=ev_ok he hk
    rw [e1] at rx;rw [e2] at rk
    have hxv:=rx.mp_of
    have hkc:=rk.c_of
    obtain ⟨hlt,hb'⟩:=List.getElem?_eq_some_iff.1 hb
    have hblk:=hrep.blk b hlt
    rw [hb'] at hblk;obtain ⟨es,clock,k1,k2,k3⟩:=hblk.row
    have hkey:=keyD_is hq hkc hc.1
    rcases find_now hq hkc hc.1 0 ⟨k2,k3⟩ hc.2 with ⟨f1,f2,_⟩ | ⟨j,y,e,f1,f2,_,f4,_⟩
    ·obtain ⟨zv,z1,z2⟩:=zero_run (w:=w) (κ:=κ) hz
     have hrun:(Instr.lookup t (a.eval x) (a.eval k) ok).run P w = .ok (if ok then .tuple #[zv,.bool false] else zv) w:=by
      rw [hxv]
      cases ok <;> simp [Instr.lookup,run_underlying hu,MapKept.run_getObj_map k1,MapKept.run_checkKey hkt hkey,MapKept.run_findKey hkt f2,z1,Result.andThen]
     refine Res.still (v':=if ok then .tuple #[zv,.bool false] else zv) (by simp [execOp,ho,hrun,Result.andThen]) hrep ?_
     rw [f1];unfold lookV
     cases ok
     ·exact z2
     ·refine .tup (xs:=[zv,.bool false]) rfl fun j hj=>?_
      match j,hj with
      | 0,_=>exact z2
      | 1,_=>exact .c (.bool _)
    ·have hrun:(Instr.lookup t (a.eval x) (a.eval k) ok).run P w = .ok (if ok then .tuple #[e.val,.bool true] else e.val) w:=by
      rw [hxv]
      cases ok <;> simp [Instr.lookup,run_underlying hu,MapKept.run_getObj_map k1,MapKept.run_checkKey hkt hkey,MapKept.run_findKey hkt f2,Result.andThen]
     refine Res.still (v':=if ok then .tuple #[e.val,.bool true] else e.val) (by simp [execOp,ho,hrun,Result.andThen]) hrep ?_
     rw [f1];unfold lookV
     cases ok
     ·exact .c f4
     ·refine .tup (xs:=[e.val,.bool true]) rfl fun j hj=>?_
      match j,hj with
      | 0,_=>exact .c f4
      | 1,_=>exact .c (.bool _)
   ·cases hs
  ·cases hs
 ·cases hs
theorem Rep.mapSet (h:Rep w0 κ σ w) {b:Nat} {kvs kvs':List (C × C)} {es es':Array MapEntry} {clock clock':Nat} (hb:σ[b]? = some (.mp kvs)) (hold:w.heap[κ.pos b]? = some (.map es clock)) (hnew:EntsAre κ.m kvs' es'.toList) :
  Rep w0 κ (σ.set b (.mp kvs')) { w with heap:=w.heap.setIfInBounds (κ.pos b) (.map es' clock') }:=by
 obtain ⟨hlt,hb'⟩:=List.getElem?_eq_some_iff.1 hb
 have hblk:=h.blk b hlt
 rw [hb'] at hblk
 obtain ⟨hself,hother⟩:=MapKept.heap_set (w:=w) (o':=.map es' clock') hold
 refine ⟨by simpa using h.n,?_,fun x o v hm=>?_,fun x hx=>?_,fun x y hx hy g hne=>?_,fun l o hr=>?_,by simpa using h.lim⟩
 rotate_right
 ·obtain ⟨a1,a2,a3⟩:=h.rest l o hr
  have hb1:=a3 b hlt
  rw [hb'] at hb1;exact ⟨(hother l (fun e=>hb1 (by rw [e];rfl))).trans a1,a2,rest_set (fun _ _ _=>rfl) a3 hb1⟩
 ·exact h.ext.trans ⟨rfl,rfl,rfl,by simp,fun k hk=>hother k (by have:=hblk.own;omega)⟩
 ·have hne:x ≠ κ.pos b:=fun e=>by rw [e,hblk.free] at hm;cases hm
  rw [World.cell?_of_block (w:=w) (a:=⟨x,o,none⟩) (hother x hne)];exact h.mem x o v hm
 ·by_cases hxb:x = b
  ·subst hxb
   rw [List.getElem_set_self];exact ⟨hblk.fr,⟨es',clock',hself,hnew.1,hnew.2⟩,hblk.own,hblk.free⟩
  ·have hx':x < σ.length:=by simpa using hx
   rw [List.getElem_set_ne (Ne.symm hxb)];refine Blk.is_of (h.blk x hx') fun g hg=>hother g fun e=>?_
   subst e;exact h.apart x b hx' hlt _ hxb hg (by rw [hb'];rfl)
 ·have hx':x < σ.length:=by simpa using hx
  have hy':y < σ.length:=by simpa using hy
  have lies_set:∀ z (hz:z < σ.length) (hz':z < (σ.set b (.mp kvs')).length),((σ.set b (.mp kvs'))[z]).lies κ z = (σ[z]).lies κ z:=fun z hz hz'=>by
   by_cases hzb:z = b
   ·subst hzb
    rw [List.getElem_set_self,hb']
    rfl
   ·rw [List.getElem_set_ne (Ne.symm hzb)]
  rw [lies_set x hx',lies_set y hy'];exact h.apart x y hx' hy' g hne
theorem EntsAre.snoc {m:Mem} {kvs:List (C × C)} {es:List MapEntry} {k v:C} {e:MapEntry} (h:EntsAre m kvs es) (h1:RC m k e.key) (h2:RC m v e.val):EntsAre m (kvs ++ [(k,v)]) (es ++ [e]):=by
 refine ⟨by simp [h.1],fun j hj hj'=>?_⟩
 rcases Nat.lt_or_ge j kvs.length with hl | hl
 ·have hl':j < es.length:=by rw [h.1];exact hl
  rw [List.getElem_append_left hl,List.getElem_append_left hl'];exact h.2 j hl hl'
 ·have hje:j = kvs.length:=by simp at hj;omega
  subst hje
  have e1:(kvs ++ [(k,v)])[kvs.length] = (k,v):=by simp
  have e2:(es ++ [e])[kvs.length] = e:=by
   rw [List.getElem_append_right (by rw [h.1];exact Nat.le_refl _)]
   simp [h.1]
  rw [e1,e2];exact ⟨h1,h2⟩
theorem EntsAre.put {m:Mem} {kvs:List (C × C)} {es:List MapEntry} {k v:C} {f:MapEntry → MapEntry} {i:Nat} (h:EntsAre m kvs es) (hf:∀ e,RC m k (f e).key ∧ RC m v (f e).val):EntsAre m (kvs.set i (k,v)) (es.modify i f):=by
 refine ⟨by simp [h.1],fun j hj hj'=>?_⟩
 have hj1:j < kvs.length:=by simpa using hj
 have hj2:j < es.length:=by rw [h.1];exact hj1
 by_cases hij:i = j
 ·subst hij
  have e1:(es.modify i f)[i] = f es[i]:=by rw [List.getElem_modify];simp
  rw [List.getElem_set_self,e1];exact hf _
 ·have e1:(es.modify i f)[j] = es[j]:=by rw [List.getElem_modify,if_neg hij]
  rw [List.getElem_set_ne hij,e1];exact h.2 j hj1 hj2
theorem ok_mupd {o:Oper} {t:TypeId} {x k y:Operand} {q:KD} {x' k' y':Opd} {v:V} (ho:o.op = .mapUpdate t x k y) (hm:mapK P t = some q) (hx:trX x = some x') (hk:trX k = some k') (hy:trX y = some y') (hs:step ρ σ (.mupd q x' k' y') = some (v,σ')) (hrep:Rep w0 κ σ w) (he:EnvOk κ ρ a):Res w0 κ σ' v ((execOp a.eval o).run P w):=by
 obtain ⟨kt,et,d,hu,hkt,hq⟩:=mapK_some hm
 simp only [step] at hs
 split at hs
 ·rename_i b kc vc e1 e2 e3
  split at hs
  ·rename_i kvs hb
   split at hs
   ·rename_i hc
    injection hs with hs
    injection hs with q1 q2
    subst q1 q2
    have rx:=ev_ok he hx
    have rk:=ev_ok he hk
    have ry:=(ev_ok he hy).toC e3
    rw [e1] at rx;rw [e2] at rk
    have hxv:=rx.mp_of
    have hkc:=rk.c_of
    obtain ⟨hlt,hb'⟩:=List.getElem?_eq_some_iff.1 hb
    have hblk:=hrep.blk b hlt
    rw [hb'] at hblk;obtain ⟨es,clock,k1,k2,k3⟩:=hblk.row
    have hkey:=keyD_is hq hkc hc.1
    rcases find_now hq hkc hc.1 0 ⟨k2,k3⟩ hc.2 with ⟨f1,f2,f3⟩ | ⟨j,z,e,f1,f2,f3',f4,f5,f6⟩
    ·have hrun:(Instr.mapUpdate t (a.eval x) (a.eval k) (a.eval y)).run P w = .ok () { w with heap:=w.heap.setIfInBounds (κ.pos b) (.map (es.push { key:=a.eval k,val:=a.eval y,born:=clock }) (clock + 1)) }:=by
      rw [hxv];simp [Instr.mapUpdate,run_underlying hu,MapKept.run_getObj_map k1,MapKept.run_checkKey hkt hkey,MapKept.run_findKey hkt f2,MapKept.run_setObj_map _ k1,Result.andThen]
     rw [f3];exact ⟨κ,undef,{ w with heap:=w.heap.setIfInBounds (κ.pos b) (.map (es.push { key:=a.eval k,val:=a.eval y,born:=clock }) (clock + 1)) },.inr ⟨by simp [execOp,ho,hrun,Result.andThen],rfl⟩,K.le_refl κ,hrep.mapSet hb k1 (by rw [Array.toList_push];exact EntsAre.snoc (e:={ key:=a.eval k,val:=a.eval y,born:=clock }) ⟨k2,k3⟩ hkc ry),.void⟩
    ·have hst:(Instr.keyThatStays (((es[j]?).map (·.key)).getD (a.eval k)) (a.eval k)).run P w = .ok (a.eval k) w:=by
      have:es[j]? = some e:=by rw [← Array.getElem?_toList];exact f3'
      rw [this];simp only [Option.map_some,Option.getD_some,f5];exact MapKept.run_keyThatStays hkey
     have hrun:(Instr.mapUpdate t (a.eval x) (a.eval k) (a.eval y)).run P w = .ok () { w with heap:=w.heap.setIfInBounds (κ.pos b) (.map (es.modify j fun e=>{ e with key:=a.eval k,val:=a.eval y }) clock) }:=by
      rw [hxv];rw [Nat.zero_add] at f2;simp [Instr.mapUpdate,run_underlying hu,MapKept.run_getObj_map k1,MapKept.run_checkKey hkt hkey,MapKept.run_findKey hkt f2,hst,MapKept.run_setObj_map _ k1,Result.andThen]
     rw [f6];exact ⟨κ,undef,{ w with heap:=w.heap.setIfInBounds (κ.pos b) (.map (es.modify j fun e=>{ e with key:=a.eval k,val:=a.eval y }) clock) },.inr ⟨by simp [execOp,ho,hrun,Result.andThen],rfl⟩,K.le_refl κ,hrep.mapSet hb k1 (by rw [Array.toList_modify];exact EntsAre.put (f:=fun e=>{ e with key:=a.eval k,val:=a.eval y }) ⟨k2,k3⟩ fun e=>⟨hkc,ry⟩),.void⟩
   ·cases hs
  ·cases hs
 ·cases hs
end

section
variable {P:Program} {w0 w w':World} {κ:K} {σ σ':H} {a:Act} {ρ:Env}

theorem list1 {α:Type} {l:Array α} {x:α} (h:l.toList = [x]):l = #[x]:=by apply Array.ext';simpa using h
theorem list2 {α:Type} {l:Array α} {x y:α} (h:l.toList = [x,y]):l = #[x,y]:=by apply Array.ext';simpa using h
theorem step_builtin {o:Oper} {b:Builtin} {args:Array Operand} {ats:Array TypeId} {ins:Ins} {v:V} (ho:o.op = .call { callee:=.builtin b,args,argTypes:=ats }) (htr:trBuiltin P b args.toList ats.toList = some ins)
  (hs:step ρ σ ins = some (v,σ')) (hrep:Rep w0 κ σ w) (he:EnvOk κ ρ a):Res w0 κ σ' v ((execOp a.eval o).run P w):=by
 unfold trBuiltin at htr
 split at htr
 ·rename_i x t h1 h2
  rw [list1 h1,list1 h2] at ho;exact ok_len ho (by unfold trBuiltin;exact htr) hs hrep he
 ·rename_i x y t t' h1 h2
  split at htr
  ·rename_i ht
   subst ht;rw [list2 h1,list2 h2] at ho;split at htr
   ·rename_i e hu
    split at htr
    ·rename_i i hi
     split at htr
     ·rename_i z hz
      split at htr
      ·rename_i hc
       obtain ⟨x',y',hx,hy,rfl⟩:=tr2_some htr;exact ok_app ho hu hi hz hc.1 hx hy hs hrep he
      ·cases htr
     ·cases htr
    ·cases htr
   ·cases htr
  ·rw [list2 h1,list2 h2] at ho
   split at htr
   ·rename_i e hu hu2
    split at htr
    ·rename_i i hi
     split at htr
     ·rename_i z hz
      split at htr
      ·rename_i hc
       obtain ⟨x',y',hx,hy,rfl⟩:=tr2_some htr;exact ok_appS ho hu hu2 hi hz hc.1 hc.2 hx hy hs hrep he
      ·cases htr
     ·cases htr
    ·cases htr
   ·cases htr
 ·rename_i x y h1
  rw [list2 h1] at ho;obtain ⟨x',y',hx,hy,rfl⟩:=tr2_some htr;simp only [step] at hs;split at hs
  ·rename_i k p k' q e1 e2
   injection hs with hs
   injection hs with q1 q2
   subst q1 q2;exact ok_mx ho hx hy e1 e2 hrep he
  ·cases hs
 ·rename_i x y h1
  rw [list2 h1] at ho;obtain ⟨x',y',hx,hy,rfl⟩:=tr2_some htr;simp only [step] at hs;split at hs
  ·rename_i k p k' q e1 e2
   injection hs with hs
   injection hs with q1 q2
   subst q1 q2;exact ok_mn ho hx hy e1 e2 hrep he
  ·cases hs
 ·cases htr
theorem step_ok {o:Oper} {ins:Ins} {v:V} (htr:trOp P o.op = some ins) (hs:step ρ σ ins = some (v,σ')) (hrep:Rep w0 κ σ w) (he:EnvOk κ ρ a):Res w0 κ σ' v ((execOp a.eval o).run P w):=by
 cases ho:o.op with
 | move x=>
   rw [ho] at htr;obtain ⟨y,hy,rfl⟩:=tr1_some htr;simp only [step] at hs;injection hs with hs
   injection hs with q1 q2
   subst q1 q2;exact ok_mov (.inl ho) hy hrep he
 | assign x=>
   rw [ho] at htr;obtain ⟨y,hy,rfl⟩:=tr1_some htr;simp only [step] at hs;injection hs with hs
   injection hs with q1 q2
   subst q1 q2;exact ok_mov (.inr ho) hy hrep he
 | pick c x y=>
   rw [ho] at htr;simp only [trOp] at htr;split at htr
   ·rename_i c' x' y' hc hx hy
    injection htr with htr
    subst htr;simp only [step] at hs;split at hs
    ·rename_i t ht
     injection hs with hs
     injection hs with q1 q2
     subst q1 q2;exact ok_pick ho hc hx hy ht hrep he
    ·cases hs
   ·cases htr
 | alloc t=>
   rw [ho] at htr;simp only [trOp] at htr;split at htr
   ·rename_i z hz
    injection htr with htr
    subst htr
    have hs':(if leaves z.cellsV = true then some (V.ptr σ.length 0,σ ++ [Blk.cells z.cellsV (tagP P t)]) else none) = some (v,σ'):=hs
    by_cases hl:leaves z.cellsV = true
    ·rw [if_pos hl] at hs'
     injection hs' with hs'
     injection hs' with q1 q2
     subst q1 q2;exact ok_alloc ho hz hl hrep
    ·rw [if_neg hl] at hs'
     cases hs'
   ·cases htr
 | box t x=>
   rw [ho] at htr;obtain ⟨y,hy,rfl⟩:=tr1_some htr;simp only [step] at hs;split at hs
   ·rename_i hl
    injection hs with hs
    injection hs with q1 q2
    subst q1 q2;exact ok_box ho hy hl hrep he
   ·cases hs
 | build t parts=>
   rw [ho] at htr;simp only [trOp] at htr;split at htr
   ·rename_i fields z hu hz
    split at htr
    ·rename_i pl hpl
     split at htr
     ·rename_i ps hps
      split at htr
      ·rename_i hl
       injection htr with htr
       subst htr;simp only [step] at hs;split at hs
       ·rename_i cs hf
        injection hs with hs
        injection hs with q1 q2
        subst q1 q2;exact ok_build ho hu hz hl hpl hps hf hrep he
       ·cases hs
      ·cases htr
     ·cases htr
    ·cases htr
   ·cases htr
 | buildSlice t n parts=>
   rw [ho] at htr;simp only [trOp] at htr;split at htr
   ·rename_i e hu
    split at htr
    ·rename_i i hi
     split at htr
     ·rename_i z ps hz hps
      split at htr
      ·rename_i hc
       injection htr with htr
       subst htr;simp only [step] at hs;split at hs
       ·rename_i rows hr
        injection hs with hs
        injection hs with q1 q2
        subst q1 q2;exact ok_bsl ho hu hi hz hps hc.2.1 hc.2.2.1 hc.2.2.2 hr hrep he
       ·cases hs
      ·cases htr
     ·cases htr
    ·cases htr
   ·cases htr
 | load t x=>rw [ho] at htr;exact ok_load ho htr hs hrep he
 | store t x y=>rw [ho] at htr;exact ok_store ho htr hs hrep he
 | nilCheck x=>rw [ho] at htr;exact ok_nilck ho htr hs hrep he
 | binOp op t x y t'=>
   rw [ho] at htr;simp only [trOp] at htr;split at htr
   ·split at htr
    ·obtain ⟨x',y',hx,hy,rfl⟩:=tr2_some htr
     exact ok_bin ho hx hy hs hrep he
    ·cases htr
   ·split at htr
    ·obtain ⟨x',y',hx,hy,rfl⟩:=tr2_some htr
     exact ok_bin ho hx hy hs hrep he
    ·cases htr
   ·rename_i hu
    split at htr
    ·obtain ⟨x',y',hx,hy,rfl⟩:=tr2_some htr
     exact ok_eqb ho hu rfl hx hy hs hrep he
    ·obtain ⟨x',y',hx,hy,rfl⟩:=tr2_some htr
     exact ok_eqb ho hu rfl hx hy hs hrep he
    ·cases htr
   ·rename_i e hu
    split at htr
    ·obtain ⟨neg,x',hop,hx,rfl⟩:=trEqn_some htr
     exact ok_eqn ho hs hrep he hop hx rfl (.inl ⟨rfl,rfl,e,hu⟩)
    ·cases htr
   ·rename_i ms hu
    split at htr
    ·obtain ⟨neg,x',hop,hx,rfl⟩:=trEqn_some htr
     exact ok_eqn ho hs hrep he hop hx rfl (.inr (.inl ⟨rfl,rfl,ms,hu⟩))
    ·cases htr
   ·rename_i p q r hu
    split at htr
    ·obtain ⟨neg,x',hop,hx,rfl⟩:=trEqn_some htr
     exact ok_eqn ho hs hrep he hop hx rfl (.inr (.inr ⟨rfl,rfl,p,q,r,hu⟩))
    ·cases htr
   ·split at htr
    ·unfold trEqz at htr
     split at htr
     ·obtain ⟨y',hy',rfl⟩:=tr1_some htr
      cases hs
     ·obtain ⟨y',hy',rfl⟩:=tr1_some htr
      cases hs
     ·cases htr
    ·cases htr
   ·rename_i fields hu
    split at htr
    ·rename_i ks hks
     split at htr
     ·cases htr
     ·rename_i hg
      simp only [Bool.or_eq_true,not_or,Bool.not_eq_true] at hg;split at htr
      ·obtain ⟨x',y',hx,hy,rfl⟩:=tr2_some htr
       exact ok_eqs ho hu hks hg.1 hg.2 rfl hx hy hs hrep he
      ·obtain ⟨x',y',hx,hy,rfl⟩:=tr2_some htr
       exact ok_eqs ho hu hks hg.1 hg.2 rfl hx hy hs hrep he
      ·cases htr
    ·cases htr
   ·cases htr
 | unOp op t x=>rw [ho] at htr;exact ok_un ho htr hs hrep he
 | convert s t x=>rw [ho] at htr;exact ok_conv ho htr hs hrep he
 | makeFunc fn first caps=>
   rw [ho] at htr;unfold trOp at htr;split at htr
   all_goals first | (rename_i h;cases h;done) | skip
   all_goals first | (cases htr;done) | skip
   rename_i f caps' hh;injection hh with h1 h2 h3
   subst h1 h2 h3;exact ok_mkfn ho (by unfold trOp;exact htr) hs hrep he
 | slice t x lo hi mx=>
   rw [ho] at htr;simp only [trOp] at htr;split at htr
   ·rename_i hu
    split at htr
    ·rename_i x' lo' hi' hx h1 h2
     injection htr with htr
     subst htr;exact ok_sls ho hu hx h1 h2 hs hrep he
    ·cases htr
   ·rename_i e hu
    split at htr
    ·rename_i i x' lo' hi' mx' hi0 hx h1 h2 h3
     split at htr
     ·cases htr
     ·rename_i hmh
      injection htr with htr
      subst htr;exact ok_slr ho hu hi0 hx h1 h2 h3 hmh hs hrep he
    ·cases htr
   ·cases htr
 | fieldAddr s x f=>rw [ho] at htr;exact ok_fadd ho htr hs hrep he
 | field s x f=>rw [ho] at htr;exact ok_field ho htr hs hrep he
 | indexAddr t x k=>rw [ho] at htr;exact ok_iadd ho htr hs hrep he
 | index t x k=>rw [ho] at htr;exact ok_index ho htr hs hrep he
 | extract x k=>rw [ho] at htr;exact ok_ext ho htr hs hrep he
 | makeMap t r=>
   rw [ho] at htr
   cases r with
   | none=>
     have htr:some Ins.mkmap = some ins:=htr
     injection htr with htr
     subst htr;simp only [step] at hs;injection hs with hs
     injection hs with q1 q2
     subst q1 q2;exact ok_mkmap ho hrep
   | some r=>have htr:none = some ins:=htr;cases htr
 | makeSlice t l c=>
   rw [ho] at htr
   cases l with
   | tmp l=>
     cases c with
     | tmp c=>
       simp only [trOp,trMake] at htr;split at htr
       ·rename_i hlc
        subst hlc;split at htr
        ·rename_i e hu
         split at htr
         ·rename_i i hi
          split at htr
          ·rename_i z hz
           split at htr
           ·rename_i zc hzc
            split at htr
            ·rename_i hsz
             injection htr with htr
             subst htr;exact ok_mkvec ho hu hi hz hzc hsz.1 hs hrep he
            ·cases htr
           ·cases htr
          ·cases htr
         ·cases htr
        ·cases htr
       ·cases htr
     | const _=>simp [trOp,trMake] at htr
     | func _=>simp [trOp,trMake] at htr
     | global _=>simp [trOp,trMake] at htr
   | const _=>simp [trOp,trMake] at htr
   | func _=>simp [trOp,trMake] at htr
   | global _=>simp [trOp,trMake] at htr
 | lookup t x k ok=>
   rw [ho] at htr;simp only [trOp] at htr;split at htr
   ·rename_i q z hm
    obtain ⟨x',k',hx,hk,rfl⟩:=tr2_some htr;exact ok_look ho hm hx hk hs hrep he
   ·cases htr
 | mapUpdate t x k y=>
   rw [ho] at htr;simp only [trOp] at htr;split at htr
   ·rename_i q x' k' y' hm hx hk hy
    injection htr with htr
    subst htr;exact ok_mupd ho hm hx hk hy hs hrep he
   ·cases htr
 | call c=>
   rw [ho] at htr;simp only [trOp] at htr;obtain ⟨callee,args,ats⟩:=c
   cases callee with
   | builtin b=>exact step_builtin ho htr hs hrep he
   | value f=>
     simp only at htr;split at htr
     ·injection htr with htr
      subst htr;simp only [step] at hs
      cases hs
     ·cases htr
   | invoke r m=>cases htr
 | _=>rw [ho] at htr;cases htr
end
end Go.Lamb
