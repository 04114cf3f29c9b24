/- . -/
import Derived.Test.YtpcmcfajfnpjeaaGreatDoorQJ10
import Derived.Test.YtpcmcfajfnpjeaaGreatDoorQLexL
set_option linter.unusedSimpArgs false
set_option linter.unusedVariables false
set_option maxHeartbeats 8000000
set_option maxRecDepth 20000
namespace Go.Lamb
open Go Go.RowKit
noncomputable section

structure XS where
 t:TR
 σ:H
 v:Bool
def XS.st (s:XS):St:=⟨s.t.get,s.σ⟩

/-! ### what a function leaves -/
def wk0 (n:Nat):V → V
 | .osl b r=>bif Nat.blt b n then .osl b r else .c (.sl r)
 | v=>v
def wk1 (n:Nat):V → V
 | .agg vs=>.agg (vs.map (wk0 n))
 | v=>wk0 n v
def wk2 (n:Nat):V → V
 | .tup vs=>.tup (vs.map (wk1 n))
 | v=>wk1 n v
theorem wk0_wk (n:Nat) (v:V):V.wk v (wk0 n v):=by
 cases v <;> simp only [wk0] <;> first | exact .rfl _ | skip
 rename_i b r
 cases Nat.blt b n
 ·exact .osl b r
 ·exact .rfl _
theorem wk_map {f:V → V} (hf:∀ v,V.wk v (f v)) (l:List V):(l.map f).length = l.length ∧ ∀ j (hj:j < l.length) (hj':j < (l.map f).length),V.wk l[j] (l.map f)[j]:=
 ⟨List.length_map _,fun j hj hj'=>by rw [List.getElem_map];exact hf _⟩
theorem wk1_wk (n:Nat) (v:V):V.wk v (wk1 n v):=by
 cases v <;> simp only [wk1] <;> first | exact wk0_wk n _ | skip
 exact .agg (wk_map (wk0_wk n) _).1 (wk_map (wk0_wk n) _).2
theorem wk2_wk (n:Nat) (v:V):V.wk v (wk2 n v):=by
 cases v <;> simp only [wk2] <;> first | exact wk1_wk n _ | skip
 exact .tup (wk_map (wk1_wk n) _).1 (wk_map (wk1_wk n) _).2
def lowB:Nat → Nat → V → Bool
 | 0,_,_=>false
 | d + 1,n,v=>match v with
   | .ptr b _=>Nat.blt b n
   | .osl b _=>Nat.blt b n
   | .mp b=>Nat.blt b n
   | .vec b _=>Nat.blt b n
   | .fn _ l=>l.all (lowB d n)
   | .agg l=>l.all (lowB d n)
   | .tup l=>l.all (lowB d n)
   | _=>true
theorem lowB_low:∀ {d n:Nat} {v:V},lowB d n v = true → V.low n v
 | 0,_,_,h=>by cases h
 | d + 1,n,v,h=>by
   cases v <;> simp only [lowB] at h
   case void=>exact .void
   case any=>exact .any
   case c x=>exact .c x
   case ptr b o=>exact .ptr (Nat.le_of_ble_eq_true h)
   case osl b r=>exact .osl (Nat.le_of_ble_eq_true h)
   case csl r=>exact .csl r
   case fn f l=>exact .fn fun x hx=>lowB_low (List.all_eq_true.1 h x hx)
   case nilf=>exact .nilf
   case mp b=>exact .mp (Nat.le_of_ble_eq_true h)
   case nilm=>exact .nilm
   case vec b k=>exact .vec (Nat.le_of_ble_eq_true h)
   case agg l=>exact .agg fun x hx=>lowB_low (List.all_eq_true.1 h x hx)
   case tup l=>exact .tup fun x hx=>lowB_low (List.all_eq_true.1 h x hx)
def okBlk (n:Nat):Blk → Bool
 | .cells cs _=>cs.all (lowB 4 n)
 | _=>true
theorem okH_ok {n:Nat} {σ:H} (hl:σ.length = n) (h:σ.all (okBlk n) = true):H.ok σ:=by
 intro b hb cs tg hc x hx
 have:=List.all_eq_true.1 h b hb
 rw [hc] at this
 rw [hl]
 exact lowB_low (List.all_eq_true.1 this x hx)

/-! ### elements that are not written any more, wherever the slice stands -/
def sub0 (b size:Nat) (cs:List C):V → V
 | .vec c k=>bif Nat.beq c b && Nat.ble (k * size) cs.length then .c (.sl (rowsOf size k cs)) else .vec c k
 | v=>v
def sub1 (b size:Nat) (cs:List C):V → V
 | .agg vs=>.agg (vs.map (sub0 b size cs))
 | .fn f vs=>.fn f (vs.map (sub0 b size cs))
 | v=>sub0 b size cs v
def sub2 (b size:Nat) (cs:List C):V → V
 | .tup vs=>.tup (vs.map (sub1 b size cs))
 | v=>sub1 b size cs v
def subB (b size:Nat) (cs:List C):Blk → Blk
 | .cells vs tg=>.cells (vs.map (sub0 b size cs)) tg
 | x=>x
section
variable {κ:K} {b size:Nat} {cs:List C}
theorem sub0_ok (hf:∀ k v,k * size ≤ cs.length → RV κ (.vec b k) v → RC κ.m (.sl (rowsOf size k cs)) v) {x:V} {v:Value} (h:RV κ x v):RV κ (sub0 b size cs x) v ∧ (x.leaf = true → (sub0 b size cs x).leaf = true):=by
 cases x <;> simp only [sub0] <;> first | exact ⟨h,id⟩ | skip
 rename_i c k
 cases hc:(Nat.beq c b && Nat.ble (k * size) cs.length)
 ·exact ⟨h,id⟩
 ·simp only [Bool.and_eq_true] at hc
  have e:=Nat.eq_of_beq_eq_true hc.1
  subst e;exact ⟨.c (hf k v (Nat.le_of_ble_eq_true hc.2) h),fun _=>rfl⟩
theorem sub1_ok (hf:∀ k v,k * size ≤ cs.length → RV κ (.vec b k) v → RC κ.m (.sl (rowsOf size k cs)) v) {x:V} {v:Value} (h:RV κ x v):RV κ (sub1 b size cs x) v:=by
 cases x <;> simp only [sub1] <;> first | exact (sub0_ok hf h).1 | skip
 ·cases h with
  | fn h h1=>exact .fn (by simpa using h) fun j hj=>by rw [List.getElem_map];exact (sub0_ok hf (h1 j (by simpa using hj))).1
 ·cases h with
  | agg h h1=>exact .agg (by simpa using h) fun j hj=>by rw [List.getElem_map];exact (sub0_ok hf (h1 j (by simpa using hj))).1
theorem sub2_ok (hf:∀ k v,k * size ≤ cs.length → RV κ (.vec b k) v → RC κ.m (.sl (rowsOf size k cs)) v) {x:V} {v:Value} (h:RV κ x v):RV κ (sub2 b size cs x) v:=by
 cases x <;> simp only [sub2] <;> first | exact sub1_ok hf h | skip
 cases h with
 | tup h h1=>exact .tup (by simpa using h) fun j hj=>by rw [List.getElem_map];exact sub1_ok hf (h1 j (by simpa using hj))
theorem Rep.subB {w0 w:World} {σ:H} (hf:∀ k v,k * size ≤ cs.length → RV κ (.vec b k) v → RC κ.m (.sl (rowsOf size k cs)) v) (h:Rep w0 κ σ w):Rep w0 κ (σ.map (Lamb.subB b size cs)) w:=by
 have hl:∀ z (hz:z < σ.length),(Lamb.subB b size cs σ[z]).lies κ z = (σ[z]).lies κ z:=fun z hz=>by
  generalize σ[z] = X
  cases X <;> rfl
 refine ⟨by simpa using h.n,h.ext,h.mem,fun x hx=>?_,fun x y hx hy g hne=>?_,fun l o hr=>⟨(h.rest l o hr).1,(h.rest l o hr).2.1,fun z hz=>by rw [List.getElem_map,hl z (by simpa using hz)];exact (h.rest l o hr).2.2 z (by simpa using hz)⟩,h.lim⟩
 ·have hx':x < σ.length:=by simpa using hx
  rw [List.getElem_map]
  have h1:=h.blk x hx'
  generalize σ[x] = X at h1 ⊢
  cases X with
  | cells vs tg=>
    obtain ⟨us,t,k1,k2,k3⟩:=h1.row;refine ⟨h1.fr,⟨us,t,k1,by simpa using k2,fun j hj=>?_⟩,h1.own,h1.free,h1.ty⟩
    rw [List.getElem_map]
    have:=k3 j (by simpa using hj)
    exact ⟨(sub0_ok hf this.2).2 this.1,(sub0_ok hf this.2).1⟩
  | spare e s n=>exact h1
  | mp kvs=>exact h1
  | vec e s c=>exact h1
  | gone=>exact h1
 ·have hx':x < σ.length:=by simpa using hx
  have hy':y < σ.length:=by simpa using hy
  rw [List.getElem_map,List.getElem_map,hl x hx',hl y hy'];exact h.apart x y hx' hy' g hne
end
def TR.mapT (f:V → V):TR → TR
 | .e=>.e
 | .n v l r=>.n (f v) (l.mapT f) (r.mapT f)
theorem TR.mapT_get {f:V → V} (hf:f .void = .void):∀ (t:TR) (i:Nat),(t.mapT f).get i = f (t.get i)
 | .e,i=>hf.symm
 | .n v l r,0=>rfl
 | .n v l r,i + 1=>by
   rcases Nat.mod_two_eq_zero_or_one i with hi | hi
   ·rw [TR.mapT,TR.get_even _ _ _ _ hi,TR.get_even _ _ _ _ hi,TR.mapT_get hf l]
   ·rw [TR.mapT,TR.get_odd _ _ _ _ hi,TR.get_odd _ _ _ _ hi,TR.mapT_get hf r]
def fT {α:Type}:TR → (TR → α) → α
 | .e,k=>k .e
 | .n v l r,k=>fV1 v fun v=>fT l fun l=>fT r fun r=>k (.n v l r)
theorem fT_eq {α:Type}:∀ (t:TR) (k:TR → α),fT t k = k t
 | .e,k=>rfl
 | .n v l r,k=>by simp only [fT,fV1_eq,fT_eq l,fT_eq r]
def frzX (s:XS) (b:Nat):XS:=match s.σ[b]? with
 | some (.vec _ size cs)=>⟨s.t.mapT (sub2 b size cs),(s.σ.set b .gone).map (subB b size cs),s.v⟩
 | _=>s
theorem frzX_lew {n0:Nat} (s:XS) (b:Nat):Lew n0 (frzX s b).st s.st:=by
 unfold frzX
 split
 ·rename_i e size cs hb
  intro w0 κ0 n κ a w hκ hR;obtain ⟨κ',h1,h2,h3⟩:=Rep.frzV hR.rep hb;refine ⟨κ',h2.subB h3,fun j=>?_,hR.size,hR.defers,K.le_trans hR.le h1⟩
  show RV κ' ((s.t.mapT (sub2 b size cs)).get j) _
  rw [TR.mapT_get rfl];exact sub2_ok h3 ((hR.env j).mono h1)
 ·exact Lew.refl _ _
def frzL:List Nat → XS → XS
 | [],s=>s
 | b :: l,s=>frzL l (frzX s b)
theorem frzL_lew {n0:Nat}:∀ (l:List Nat) (s:XS),Lew n0 (frzL l s).st s.st
 | [],s=>Lew.refl _ _
 | b :: l,s=>(frzL_lew l (frzX s b)).trans (frzX_lew s b)
def vecIx:Nat → H → List Nat
 | _,[]=>[]
 | i,.vec .. :: l=>i :: vecIx (i + 1) l
 | i,_ :: l=>vecIx (i + 1) l
def vecIn:V → List Nat
 | .vec b _=>[b]
 | .agg vs=>vs.flatMap fun v=>match v with | .vec b _=>[b] | _=>[]
 | _=>[]
def FinX (r:List ResV) (n0:Nat) (R:V → H → Prop) (s:St):Prop:=
 ∃ vs,resEval s r = some vs ∧ (R (resV vs) s.σ ∨ ∃ d τ,V.wk (resV vs) d ∧ V.low n0 d ∧ n0 ≤ s.σ.length ∧ H.wk s.σ τ ∧ H.ok (τ.take n0) ∧ R d (τ.take n0))
def FinXL (r:List ResV) (n0:Nat) (R:V → H → Prop) (s:St):Prop:=∃ t,Lew n0 t s ∧ FinX r n0 R t
theorem DC.of_walkX {P:Program} {w0:World} {σ:H} {f:FuncId} {fn:Func} {c:Code} {x:AC} {r:List ResV} {args:List V} {R:V → H → Prop} (hm:P.follows .mixedOrders = true) (hf:P.funcs[f]? = some fn) (hb:fn.body = some c) (htr:tr P fn.ntmps c = some x) (hres:trRes P fn.results.toList = some r)
  (hargs:args.length ≤ fn.ntmps) (hen:Enters P f) (hW:W P w0 σ.length (FinXL r σ.length R) [.code x] ⟨argEnv args,σ⟩):DC P w0 f args σ R:=by
 refine ⟨hen,fun κ w vs hrep hfit=>?_⟩
 refine calls_of_wp hf hb ?_
 have hR:Rel w0 κ fn.ntmps κ ⟨argEnv args,σ⟩ { tmps:=vs.toArray ++ Array.replicate (fn.ntmps - vs.toArray.size) undef,defers:=[] } w:=
  ⟨hrep,argEnv_ok hfit _,by simp [hfit.1];omega,rfl,K.le_refl κ⟩
 have hfin:∀ s κ' a w,Rel w0 κ fn.ntmps κ' s a w → FinXL r σ.length R s → a.defers = [] ∧ ∃ v,(results fn a.tmps).run P w = .ok v w ∧ ∃ v' d σ' κ'',Ending.returned v = .returned v' ∧ R d σ' ∧ κ.le κ'' ∧ Rep w0 κ'' σ' w ∧ RV κ'' d v':=by
  rintro s0 κ0' a w hR0 ⟨s,hls,vs,h1,hh⟩;obtain ⟨κ',hR'⟩:=hls w0 κ fn.ntmps κ0' a w hrep.n hR0;obtain ⟨v,k1,k2⟩:=results_ok hR' hres h1;rcases hh with h | ⟨d,τ,h2,h3,h4,h5,h6,h7⟩
  ·exact ⟨hR'.defers,v,k1,v,_,s.σ,κ',rfl,h,hR'.le,hR'.rep,k2⟩
  ·have hcut:=(hR'.rep.wkH h5).cut σ.length (by rw [h5.1];exact h4) h6
   exact ⟨hR'.defers,v,k1,v,d,τ.take σ.length,κ'.cut σ.length,rfl,h7,K.cut_le hR'.le (by rw [hrep.n];exact Nat.le_refl _),hcut,(k2.wk h2).cut h3⟩
 refine wp_mono (code_sound (n0:=σ.length) hrep.n hm c x htr hW hR) ?_
 rintro e a w' ⟨s,κ',hR',hs⟩
 cases e with
 | normal=>
   obtain ⟨t,hl,hq⟩:=W.inv_done hs;obtain ⟨κ2,hR2⟩:=hl w0 κ fn.ntmps κ' a w' hrep.n hR';exact hfin t κ2 a w' hR2 hq
 | ret=>exact hfin s κ' a w' hR' hs
 | exit id=>obtain ⟨k',hp,_⟩:=hs;cases hp
 | goto l=>exact hs.elim
 | panic ch=>exact hs.elim
 | outgrown=>exact hs.elim

/-! ### one operation -/
def st_mov (x:Opd) (ρ:Env) (σ:H):Option (V × H):=some (x.ev ρ,σ)
def st_pick (c:Opd) (a:Opd) (b:Opd) (ρ:Env) (σ:H):Option (V × H):=match c.ev ρ with
 | .c (.bool t)=>some (if t then a.ev ρ else b.ev ρ,σ)
 | _=>none
def st_box (x:Opd) (tg:Option TypeId) (ρ:Env) (σ:H):Option (V × H):=if leaves (x.ev ρ).cellsV then some (.ptr σ.length 0,σ ++ [.cells (x.ev ρ).cellsV tg]) else none
def st_build (zero:List V) (parts:List (Nat × Nat × Opd)) (ρ:Env) (σ:H):Option (V × H):=match fillV ρ zero parts with
 | some cs=>some (.agg cs,σ)
 | none=>none
def st_bsl (size:Nat) (parts:List Opd) (ρ:Env) (σ:H):Option (V × H):=match rowsV ρ size parts with
 | some rows=>some (.csl rows,σ)
 | none=>none
def st_load1 (x:Opd) (ρ:Env) (σ:H):Option (V × H):=match cellsAt σ (x.ev ρ) with
 | some (cs,o)=>match cs[o]? with
   | some u=>some (u,σ)
   | none=>none
 | none=>none
def st_loadn (n:Nat) (x:Opd) (ρ:Env) (σ:H):Option (V × H):=match cellsAt σ (x.ev ρ) with
 | some (cs,o)=>if o + n ≤ cs.length then some (.agg ((cs.drop o).take n),σ) else none
 | none=>none
def st_store (n:Nat) (x:Opd) (y:Opd) (ρ:Env) (σ:H):Option (V × H):=match x.ev ρ with
 | .ptr b o=>match σ[b]? with
   | some (.cells cs tg)=>if (y.ev ρ).cellsV.length = n ∧ o + n ≤ cs.length ∧ leaves (y.ev ρ).cellsV = true then some (.void,σ.set b (.cells (cs.take o ++ (y.ev ρ).cellsV ++ cs.drop (o + n)) tg)) else none
   | some (.vec e size cs)=>match toCs (y.ev ρ).cellsV with
     | some ys=>if ys.length = n ∧ o + n ≤ cs.length then some (.void,σ.set b (.vec e size (cs.take o ++ ys ++ cs.drop (o + n)))) else none
     | none=>none
   | _=>none
 | _=>none
def st_nilck (x:Opd) (ρ:Env) (σ:H):Option (V × H):=match x.ev ρ with
 | .ptr b o=>some (.ptr b o,σ)
 | .c (.ref cs o)=>some (.c (.ref cs o),σ)
 | .fn f caps=>some (.fn f caps,σ)
 | _=>none
def st_bin (op:BinOp) (x:Opd) (y:Opd) (ρ:Env) (σ:H):Option (V × H):=match binV op (x.ev ρ) (y.ev ρ) with
 | some v=>some (v,σ)
 | none=>none
def st_eqb (neg:Bool) (x:Opd) (y:Opd) (ρ:Env) (σ:H):Option (V × H):=match x.ev ρ,y.ev ρ with
 | .c (.bool p),.c (.bool q)=>some (.c (.bool (if neg then !(p == q) else p == q)),σ)
 | _,_=>none
def st_eqn (neg:Bool) (k:Nat) (x:Opd) (ρ:Env) (σ:H):Option (V × H):=match (x.ev ρ).isNil k with
 | some p=>some (.c (.bool (if neg then !p else p)),σ)
 | none=>none
def st_eqs (neg:Bool) (ks:List Nat) (x:Opd) (y:Opd) (ρ:Env) (σ:H):Option (V × H):=match x.ev ρ,y.ev ρ with
 | .agg xs,.agg ys=>match eqL ks xs ys with
   | some p=>some (.c (.bool (if neg then !p else p)),σ)
   | none=>none
 | _,_=>none
def st_un (op:UnOp) (x:Opd) (ρ:Env) (σ:H):Option (V × H):=match op,x.ev ρ with
 | .not,.c (.bool b)=>some (.c (.bool (!b)),σ)
 | .neg,.c (.int k n)=>some (.c (.int k (k.wrap (0 - n))),σ)
 | _,_=>none
def st_conv (k:IntKind) (x:Opd) (ρ:Env) (σ:H):Option (V × H):=match x.ev ρ with
 | .c (.int _ n)=>some (.c (.int k (k.wrap n)),σ)
 | _=>none
def st_mkfn (f:FuncId) (caps:List Opd) (ρ:Env) (σ:H):Option (V × H):=some (.fn f (caps.map (·.ev ρ)),σ)
def st_strc (x:Opd) (ρ:Env) (σ:H):Option (V × H):=match x.ev ρ with
 | .c (.str l)=>some (.c (.str l),σ)
 | _=>none
def st_b2s (x:Opd) (ρ:Env) (σ:H):Option (V × H):=match (x.ev ρ).rows with
 | some r=>match bytesC r with
   | some l=>some (.c (.str l),σ)
   | none=>none
 | none=>none
def st_sls (x:Opd) (lo:Option Opd) (hi:Option Opd) (ρ:Env) (σ:H):Option (V × H):=match x.ev ρ with
 | .c (.str l)=>match boundV ρ l.length hi with
   | some h=>match boundL ρ h lo with
     | some a=>some (.c (.str ((l.drop a).take (h - a))),σ)
     | none=>none
   | none=>none
 | _=>none
def st_slr (size:Nat) (x:Opd) (lo:Option Opd) (hi:Option Opd) (mx:Option Opd) (ρ:Env) (σ:H):Option (V × H):=match (x.ev ρ).sub lo mx with
 | some (b,k)=>match boundV ρ k hi with
   | some h=>some (.vec b h,σ)
   | none=>none
 | none=>match (x.ev ρ).rows with
 | some r=>if ∀ cs ∈ r,cs.length = size then match boundV ρ r.length hi with
   | some h=>match boundL ρ h lo with
     | some a=>match mx with
       | none=>some (.c (.sl ((r.drop a).take (h - a))),σ)
       | some m=>match boundV ρ r.length (some m) with
         | some m'=>if m' = h then some (.csl ((r.drop a).take (h - a)),σ) else none
         | none=>none
     | none=>none
   | none=>none else none
 | none=>none
def st_fadd (off:Nat) (x:Opd) (ρ:Env) (σ:H):Option (V × H):=match x.ev ρ with
 | .ptr b o=>some (.ptr b (o + off),σ)
 | .c (.ref cs o)=>some (.c (.ref cs (o + off)),σ)
 | _=>none
def st_field1 (off:Nat) (x:Opd) (ρ:Env) (σ:H):Option (V × H):=match x.ev ρ with
 | .agg vs=>match vs[off]? with
   | some u=>some (u,σ)
   | none=>none
 | _=>none
def st_fieldn (off:Nat) (n:Nat) (x:Opd) (ρ:Env) (σ:H):Option (V × H):=match x.ev ρ with
 | .agg vs=>if off + n ≤ vs.length then some (.agg ((vs.drop off).take n),σ) else none
 | _=>none
def st_iadd (size:Nat) (x:Opd) (i:Opd) (ρ:Env) (σ:H):Option (V × H):=match i.ev ρ with
 | .c (.int _ j)=>match x.ev ρ with
   | .vec b k=>if 0 ≤ j ∧ j < k then some (.ptr b (j.toNat * size),σ) else none
   | u=>match u.rows with
     | some r=>if 0 ≤ j ∧ j < r.length then match r[j.toNat]? with
        | some cs=>if cs.length = size then some (.c (.ref cs 0),σ) else none
        | none=>none
       else none
     | none=>none
 | _=>none
def st_index (x:Opd) (i:Opd) (ρ:Env) (σ:H):Option (V × H):=match x.ev ρ,i.ev ρ with
 | .c (.str l),.c (.int _ j)=>if 0 ≤ j ∧ j < l.length then match l[j.toNat]? with
    | some b=>some (.c (.int .u8 b.toNat),σ)
    | none=>none
   else none
 | _,_=>none
def st_ext (x:Opd) (i:Nat) (ρ:Env) (σ:H):Option (V × H):=match x.ev ρ with
 | .tup vs=>match vs[i]? with
   | some u=>some (u,σ)
   | none=>none
 | _=>none
def st_lens (x:Opd) (ρ:Env) (σ:H):Option (V × H):=match x.ev ρ with
 | .c (.str l)=>some (.c (.int .i64 l.length),σ)
 | _=>none
def st_lenr (x:Opd) (ρ:Env) (σ:H):Option (V × H):=match x.ev ρ with
 | .vec _ k=>some (.c (.int .i64 k),σ)
 | u=>match u.rows with
   | some r=>some (.c (.int .i64 r.length),σ)
   | none=>none
def st_app (e:TypeId) (size:Nat) (bytes:Nat) (x:Opd) (y:Opd) (ρ:Env) (σ:H):Option (V × H):=match (y.ev ρ).rows with
 | some news=>appV e size bytes (x.ev ρ) news σ
 | none=>none
def st_appS (e:TypeId) (bytes:Nat) (x:Opd) (y:Opd) (ρ:Env) (σ:H):Option (V × H):=match y.ev ρ with
 | .c (.str l)=>appV e 1 bytes (x.ev ρ) (byteRows l) σ
 | _=>none
def st_mx (x:Opd) (y:Opd) (ρ:Env) (σ:H):Option (V × H):=match x.ev ρ,y.ev ρ with
 | .c (.int k a),.c (.int _ b)=>some (.c (.int k (if b > a then b else a)),σ)
 | _,_=>none
def st_mn (x:Opd) (y:Opd) (ρ:Env) (σ:H):Option (V × H):=match x.ev ρ,y.ev ρ with
 | .c (.int k a),.c (.int _ b)=>some (.c (.int k (if b < a then b else a)),σ)
 | _,_=>none
def st_eqz (_:Bool) (_:Opd) (ρ:Env) (σ:H):Option (V × H):=none
def st_mkvec (e:TypeId) (bytes:Nat) (z:C) (x:Opd) (ρ:Env) (σ:H):Option (V × H):=match x.ev ρ with
 | .c (.int _ n)=>if 0 ≤ n ∧ bytes * n ≤ 140737488355328 ∧ n ≤ 140737488355328 then some (.vec σ.length n.toNat,σ ++ [.vec e 1 (List.replicate n.toNat z)]) else none
 | _=>none
def st_mkmap (ρ:Env) (σ:H):Option (V × H):=some (.mp σ.length,σ ++ [.mp []])
def st_look (ok:Bool) (q:KD) (z:C) (x:Opd) (k:Opd) (ρ:Env) (σ:H):Option (V × H):=match x.ev ρ,k.ev ρ with
 | .mp b,.c kc=>match σ[b]? with
   | some (.mp kvs)=>if q.ok kc = true ∧ (kvs.all fun p=>q.ok p.1) = true then some (lookV ok z (findC kc kvs),σ) else none
   | _=>none
 | _,_=>none
def st_mupd (q:KD) (x:Opd) (k:Opd) (y:Opd) (ρ:Env) (σ:H):Option (V × H):=match x.ev ρ,k.ev ρ,(y.ev ρ).toC with
 | .mp b,.c kc,some vc=>match σ[b]? with
   | some (.mp kvs)=>if q.ok kc = true ∧ (kvs.all fun p=>q.ok p.1) = true then some (.void,σ.set b (.mp (updC kc vc kvs))) else none
   | _=>none
 | _,_,_=>none
def st_lenm (x:Opd) (ρ:Env) (σ:H):Option (V × H):=match x.ev ρ with
 | .mp b=>match σ[b]? with
   | some (.mp kvs)=>some (.c (.int .i64 kvs.length),σ)
   | _=>none
 | _=>none
def st_call (_:Opd) (_:List Opd) (ρ:Env) (σ:H):Option (V × H):=none
def st_bad (ρ:Env) (σ:H):Option (V × H):=none
def stepF (i:Ins):Env → H → Option (V × H):=match i with
 | .mov a0=>st_mov a0
 | .pick a0 a1 a2=>st_pick a0 a1 a2
 | .box a0 a1=>st_box a0 a1
 | .build a0 a1=>st_build a0 a1
 | .bsl a0 a1=>st_bsl a0 a1
 | .load1 a0=>st_load1 a0
 | .loadn a0 a1=>st_loadn a0 a1
 | .store a0 a1 a2=>st_store a0 a1 a2
 | .nilck a0=>st_nilck a0
 | .bin a0 a1 a2=>st_bin a0 a1 a2
 | .eqb a0 a1 a2=>st_eqb a0 a1 a2
 | .eqn a0 a1 a2=>st_eqn a0 a1 a2
 | .eqs a0 a1 a2 a3=>st_eqs a0 a1 a2 a3
 | .un a0 a1=>st_un a0 a1
 | .conv a0 a1=>st_conv a0 a1
 | .mkfn a0 a1=>st_mkfn a0 a1
 | .strc a0=>st_strc a0
 | .b2s a0=>st_b2s a0
 | .sls a0 a1 a2=>st_sls a0 a1 a2
 | .slr a0 a1 a2 a3 a4=>st_slr a0 a1 a2 a3 a4
 | .fadd a0 a1=>st_fadd a0 a1
 | .field1 a0 a1=>st_field1 a0 a1
 | .fieldn a0 a1 a2=>st_fieldn a0 a1 a2
 | .iadd a0 a1 a2=>st_iadd a0 a1 a2
 | .index a0 a1=>st_index a0 a1
 | .ext a0 a1=>st_ext a0 a1
 | .lens a0=>st_lens a0
 | .lenr a0=>st_lenr a0
 | .app a0 a1 a2 a3 a4=>st_app a0 a1 a2 a3 a4
 | .appS a0 a1 a2 a3=>st_appS a0 a1 a2 a3
 | .mx a0 a1=>st_mx a0 a1
 | .mn a0 a1=>st_mn a0 a1
 | .eqz a0 a1=>st_eqz a0 a1
 | .mkmap=>st_mkmap
 | .mkvec a0 a1 a2 a3=>st_mkvec a0 a1 a2 a3
 | .look a0 a1 a2 a3 a4=>st_look a0 a1 a2 a3 a4
 | .mupd a0 a1 a2 a3=>st_mupd a0 a1 a2 a3
 | .lenm a0=>st_lenm a0
 | .call a0 a1=>st_call a0 a1
 | .bad=>st_bad
theorem stepF_eq (ρ:Env) (σ:H) (i:Ins):stepF i ρ σ = step ρ σ i:=by cases i <;> rfl
section
variable {α:Type}
def Ins.easy:Ins → Bool
 | .mov _ | .pick .. | .load1 _ | .nilck _ | .field1 .. | .ext .. | .strc _=>true
 | _=>false
def Ins.callParts:Ins → Option (Opd × List Opd)
 | .call f l=>some (f,l)
 | _=>none
theorem callParts_some {i:Ins} {f:Opd} {l:List Opd} (h:i.callParts = some (f,l)):i = .call f l:=by
 cases i <;> first | (cases h;done) | (injection h with h;injection h with h1 h2;subst h1 h2;rfl)
def vecK (ρ:Env) (σ:H) (i:Ins):Option (V × H):=match i with
 | .app e size bytes x y=>match x.ev ρ with
   | .csl olds=>match (y.ev ρ).rows with
     | some news=>bif !news.isEmpty && ((olds.all fun r=>Nat.beq r.length size) && ((news.all fun r=>Nat.beq r.length size) && (Nat.ble ((olds.length + news.length) * bytes) 140737488355328 && Nat.ble (olds.length + news.length) 140737488355328)))
        then some (.vec σ.length (olds.length + news.length),σ ++ [.vec e size (olds ++ news).flatten]) else none
     | none=>none
   | _=>none
 | _=>none
theorem vecK_some {ρ:Env} {σ:H} {i:Ins} {v:V} {σ':H} (h:vecK ρ σ i = some (v,σ')):∃ e size bytes x y olds news,i = .app e size bytes x y ∧ x.ev ρ = .csl olds ∧ (y.ev ρ).rows = some news ∧
  (news ≠ [] ∧ (∀ r ∈ olds,r.length = size) ∧ (∀ r ∈ news,r.length = size) ∧ (olds.length + news.length) * bytes ≤ 140737488355328 ∧ olds.length + news.length ≤ 140737488355328) ∧ v = .vec σ.length (olds.length + news.length) ∧ σ' = σ ++ [.vec e size (olds ++ news).flatten]:=by
 unfold vecK at h
 split at h
 ·rename_i e size bytes x y
  split at h
  ·rename_i olds hx
   split at h
   ·rename_i news hy
    cases hc:(!news.isEmpty && ((olds.all fun r=>Nat.beq r.length size) && ((news.all fun r=>Nat.beq r.length size) && (Nat.ble ((olds.length + news.length) * bytes) 140737488355328 && Nat.ble (olds.length + news.length) 140737488355328)))) with
    | false=>rw [hc] at h;cases h
    | true=>
      rw [hc] at h;injection h with h
      injection h with h1 h2
      simp only [Bool.and_eq_true,List.all_eq_true] at hc;obtain ⟨c1,c2,c3,c4,c5⟩:=hc;exact ⟨e,size,bytes,x,y,olds,news,rfl,hx,hy,⟨(by intro hn;subst hn;cases c1),fun r hr=>Nat.eq_of_beq_eq_true (c2 r hr),fun r hr=>Nat.eq_of_beq_eq_true (c3 r hr),Nat.le_of_ble_eq_true c4,Nat.le_of_ble_eq_true c5⟩,h1.symm,h2.symm⟩
   ·cases h
  ·cases h
 ·cases h
def forceK (q e:Bool) (j:Nat) (v:V) (σ σ':H) (k:V → H → Option α):Option α:=
 cond q (cond e (fV0 v fun v=>k v σ) (fV1 v fun v=>k v σ)) (fV1 v fun v=>fAt σ' j fun σ'=>k v σ')
def blkOf:V → Option Nat
 | .ptr b _=>some b
 | .osl b _=>some b
 | .mp b=>some b
 | _=>none
def Ins.turns (ρ:Env) (σ:H):Ins → Nat
 | .store _ x _=>(blkOf (x.ev ρ)).getD σ.length
 | .mupd _ x _ _=>(blkOf (x.ev ρ)).getD σ.length
 | .app _ _ _ x _=>(blkOf (x.ev ρ)).getD σ.length
 | .appS _ _ x _=>(blkOf (x.ev ρ)).getD σ.length
 | _=>σ.length
def stepK (ρ:Env) (σ:H) (i:Ins) (k:V → H → Option α):Option α:=
 match stepF i ρ σ with
 | none=>none
 | some p=>match p with
   | (v,σ')=>forceK i.quiet i.easy (i.turns ρ σ) v σ σ' k
theorem stepK_some {ρ:Env} {σ:H} {i:Ins} {k:V → H → Option α} {b:α} (h:stepK ρ σ i k = some b):∃ v σ',step ρ σ i = some (v,σ') ∧ k v σ' = some b:=by
 unfold stepK at h
 rw [stepF_eq] at h
 cases hs:step ρ σ i with
 | none=>rw [hs] at h;cases h
 | some p=>
   obtain ⟨v,σ'⟩:=p;rw [hs] at h;refine ⟨v,σ',rfl,?_⟩;simp only at h;unfold forceK at h
   cases hq:i.quiet
   ·simp only [hq,cond_false,fV1_eq,fAt_eq] at h
    exact h
   ·rw [quiet_step hq hs]
    simp only [hq,cond_true] at h
    cases he:i.easy
    ·simp only [he,cond_false,fV1_eq] at h;exact h
    ·simp only [he,cond_true,fV0_eq] at h;exact h
def putO (t:TR) (d:Option Nat) (v:V) (k:TR → Option α):Option α:=match d with
 | none=>k t
 | some d=>t.putK d v k
theorem putO_some {t:TR} {d:Option Nat} {v:V} {k:TR → Option α} {b:α} (h:putO t d v k = some b):∃ t':TR,k t' = some b ∧ t'.get = Env.put t.get d v:=by
 cases d with
 | none=>exact ⟨t,h,rfl⟩
 | some d=>
   obtain ⟨t',h1,h2⟩:=TR.putK_some h;exact ⟨t',h1,funext fun j=>h2 j⟩
def evsK (ρ:Env) (l:List Opd):(List V → Option α) → Option α:=List.rec (motive:=fun _=>(List V → Option α) → Option α) (fun k=>k []) (fun o _ ih k=>fV0 (o.ev ρ) fun v=>ih fun r=>k (v :: r)) l
theorem evsK_cons (ρ:Env) (o:Opd) (l:List Opd) (k:List V → Option α):evsK ρ (o :: l) k = fV0 (o.ev ρ) fun v=>evsK ρ l fun r=>k (v :: r):=rfl
theorem evsK_eq (ρ:Env):∀ (l:List Opd) (k:List V → Option α),evsK ρ l k = k (l.map (·.ev ρ))
 | [],k=>rfl
 | o :: l,k=>by simp only [evsK_cons,fV0_eq,evsK_eq ρ l,List.map_cons]
def fnOf:V → Option (FuncId × List V)
 | .fn f l=>some (f,l)
 | _=>none
theorem fnOf_some {v:V} {f:FuncId} {l:List V} (h:fnOf v = some (f,l)):v = .fn f l:=by
 cases v <;> first | (cases h;done) | (injection h with h;injection h with h1 h2;subst h1 h2;rfl)
end
abbrev Caller:=FuncId → List V → H → Option (V × H)
def Caller.Ok (P:Program) (w0:World) (call:Caller):Prop:=∀ f args σ v σ',call f args σ = some (v,σ') → DC P w0 f args σ (Same v σ')
section
variable {α:Type} {P:Program} {w0:World} {call:Caller}
def callK (call:Caller) (ρ:Env) (σ:H) (f:Opd) (l:List Opd) (k:FuncId → List V → V → H → Option α):Option α:=match fnOf (f.ev ρ) with
 | none=>none
 | some p=>match p with
   | (fid,caps)=>evsK ρ l fun l=>match call fid (l ++ caps) σ with
     | none=>none
     | some p=>match p with
       | (v,σ')=>k fid (l ++ caps) v σ'
theorem callK_some {ρ:Env} {σ:H} {f:Opd} {l:List Opd} {k:FuncId → List V → V → H → Option α} {b:α} (h:callK call ρ σ f l k = some b):∃ fid caps v σ',f.ev ρ = .fn fid caps ∧ call fid (l.map (·.ev ρ) ++ caps) σ = some (v,σ') ∧ k fid (l.map (·.ev ρ) ++ caps) v σ' = some b:=by
 unfold callK at h
 split at h
 ·cases h
 ·rename_i p hp
  obtain ⟨fid,caps⟩:=p;simp only [evsK_eq] at h;split at h
  ·cases h
  ·rename_i p hc
   obtain ⟨v,σ'⟩:=p;exact ⟨fid,caps,v,σ',fnOf_some hp,hc,h⟩
def canonC (call:Caller) (σ:H) (o:AOp) (ih:TR → (TR → Option α) → Option α) (t:TR) (k:TR → Option α) (f:Opd) (l:List Opd):Option α:=
 callK call t.get σ f l fun _ _ v σ'=>cond (eqHs σ' σ) (putO t o.dst v fun t=>ih t k) none
def canonS (σ:H) (o:AOp) (ih:TR → (TR → Option α) → Option α) (t:TR) (k:TR → Option α):Option α:=
 cond o.ins.quiet (stepK t.get σ o.ins fun v _=>putO t o.dst v fun t=>ih t k) none
def canonI (call:Caller) (σ:H) (o:AOp) (ih:TR → (TR → Option α) → Option α) (t:TR) (k:TR → Option α):Option α:=match o.ins.callParts with
 | none=>canonS σ o ih t k
 | some p=>match p with
   | (f,l)=>canonC call σ o ih t k f l
def canon1 (call:Caller) (σ:H) (o:AOp) (ih:TR → (TR → Option α) → Option α) (t:TR) (k:TR → Option α):Option α:=match wantedV t.get o.guard with
 | none=>none
 | some b=>match b with
   | false=>putO t o.dst .void fun t=>ih t k
   | true=>canonI call σ o ih t k
def canonX (call:Caller) (σ:H) (l:List AOp):TR → (TR → Option α) → Option α:=List.rec (motive:=fun _=>TR → (TR → Option α) → Option α) (fun t k=>k t) (fun o _ ih=>canon1 call σ o ih) l
theorem canonX_cons (σ:H) (o:AOp) (l:List AOp) (t:TR) (k:TR → Option α):canonX call σ (o :: l) t k = canon1 call σ o (canonX call σ l) t k:=rfl
theorem canonX_some (hc:Caller.Ok P w0 call) {σ:H} {b:α}:∀ {l:List AOp} {t:TR} {k:TR → Option α},canonX call σ l t k = some b → ∃ t',k t' = some b ∧ Canon P w0 σ l t.get t'.get
 | [],t,k,h=>⟨t,h,.nil⟩
 | o :: l,t,k,h=>by
   rw [canonX_cons] at h;unfold canon1 at h;split at h
   ·cases h
   ·rename_i b' hg
    cases b' with
    | false=>
      obtain ⟨t1,h1,h2⟩:=putO_some h;obtain ⟨t',h3,h4⟩:=canonX_some hc h1;refine ⟨t',h3,.cons (.skip hg) ?_⟩;rw [← h2];exact h4
    | true=>
      simp only at h;unfold canonI at h;split at h
      ·unfold canonS at h
       cases hq:o.ins.quiet with
       | false=>rw [hq] at h;cases h
       | true=>
         rw [hq] at h;simp only [cond_true] at h;obtain ⟨v,σ',h0,h00⟩:=stepK_some h
         have:=quiet_step hq h0
         subst this;obtain ⟨t1,h1,h2⟩:=putO_some h00;obtain ⟨t',h3,h4⟩:=canonX_some hc h1;refine ⟨t',h3,.cons (.step hg h0) ?_⟩;rw [← h2];exact h4
      ·rename_i p hp
       obtain ⟨f,l'⟩:=p
       have hi:=callParts_some hp
       simp only at h;unfold canonC at h;obtain ⟨fid,caps,v,σ',hf,hcl,hk⟩:=callK_some h
       cases he:eqHs σ' σ with
       | false=>rw [he] at hk;cases hk
       | true=>
         rw [he] at hk;simp only [cond_true] at hk
         have e:=eqHs_eq he
         subst e;obtain ⟨t1,h1,h2⟩:=putO_some hk;obtain ⟨t',h3,h4⟩:=canonX_some hc h1;refine ⟨t',h3,.cons (.call hg hi hf (hc _ _ _ _ _ hcl)) ?_⟩;rw [← h2];exact h4
def sameOn (ρ:Env) (i:Ins) (v:V):List H → Bool
 | []=>true
 | τ :: l=>match stepF i ρ τ with
   | none=>false
   | some (u,τ')=>eqVs u v && (eqHs τ' τ && sameOn ρ i v l)
theorem sameOn_mem {ρ:Env} {i:Ins} {v:V}:∀ {l:List H},sameOn ρ i v l = true → ∀ τ ∈ l,step ρ τ i = some (v,τ)
 | [],_,τ,hτ=>by cases hτ
 | x :: l,h,τ,hτ=>by
   unfold sameOn at h;rw [stepF_eq] at h;split at h
   ·cases h
   ·rename_i u τ' hs
    simp only [Bool.and_eq_true] at h;rcases List.mem_cons.1 hτ with rfl | hτ
    ·rw [hs,eqVs_eq h.1,eqHs_eq h.2.1]
    ·exact sameOn_mem h.2.2 τ hτ
def callOn (call:Caller) (f:FuncId) (args:List V) (v:V):List H → Bool
 | []=>true
 | τ :: l=>match call f args τ with
   | none=>false
   | some (u,τ')=>eqVs u v && (eqHs τ' τ && callOn call f args v l)
theorem callOn_mem {f:FuncId} {args:List V} {v:V}:∀ {l:List H},callOn call f args v l = true → ∀ τ ∈ l,call f args τ = some (v,τ)
 | [],_,τ,hτ=>by cases hτ
 | x :: l,h,τ,hτ=>by
   unfold callOn at h;split at h
   ·cases h
   ·rename_i u τ' hs
    simp only [Bool.and_eq_true] at h;rcases List.mem_cons.1 hτ with rfl | hτ
    ·rw [hs,eqVs_eq h.1,eqHs_eq h.2.1]
    ·exact callOn_mem h.2.2 τ hτ
abbrev EarlyT (α:Type):=TR → H → List H → (TR → H → Option α) → Option α
def earlyV (vm:Bool) (o:AOp) (ih:EarlyT α) (t:TR) (σ:H) (past:List H) (k:TR → H → Option α):Option α:=match cond vm (vecK t.get σ o.ins) none with
 | none=>stepK t.get σ o.ins fun v σ'=>putO t o.dst v fun t=>ih t σ' (σ :: past) k
 | some p=>match p with
   | (v,σ')=>fV1 v fun v=>fH σ' fun σ'=>putO t o.dst v fun t=>ih t σ' (σ :: past) k
def earlyL (vm:Bool) (call:Caller) (o:AOp) (ih:EarlyT α) (t:TR) (σ:H) (past:List H) (k:TR → H → Option α):Option α:=match o.ins.callParts with
 | none=>earlyV vm o ih t σ past k
 | some p=>match p with
   | (f,l)=>callK call t.get σ f l fun _ _ v σ'=>putO t o.dst v fun t=>ih t σ' (σ :: past) k
def earlyQ (call:Caller) (o:AOp) (lo:Nat) (ih:EarlyT α) (t:TR) (σ:H) (past:List H) (k:TR → H → Option α):Option α:=match o.ins.callParts with
 | none=>cond o.ins.quiet (stepK t.get σ o.ins fun v _=>cond (o.ins.pure || sameOn t.get o.ins v (past.take (past.length - lo))) (putO t o.dst v fun t=>ih t σ past k) none) none
 | some p=>match p with
   | (f,l)=>callK call t.get σ f l fun fid args v σ'=>cond (eqHs σ' σ && callOn call fid args v (past.take (past.length - lo))) (putO t o.dst v fun t=>ih t σ past k) none
def early1 (vm:Bool) (call:Caller) (e:EOp) (ih:EarlyT α) (t:TR) (σ:H) (past:List H) (k:TR → H → Option α):Option α:=match e with
 | ⟨o,loud,lo⟩=>match wantedV t.get o.guard with
   | none=>none
   | some b=>match b with
     | false=>putO t o.dst .void fun t=>ih t σ (cond loud (σ :: past) past) k
     | true=>cond loud (earlyL vm call o ih t σ past k) (earlyQ call o lo ih t σ past k)
def earlyX (vm:Bool) (call:Caller) (l:List EOp):EarlyT α:=List.rec (motive:=fun _=>EarlyT α) (fun t σ _ k=>k t σ) (fun e _ ih=>early1 vm call e ih) l
theorem earlyX_cons (vm:Bool) (e:EOp) (l:List EOp) (t:TR) (σ:H) (past:List H) (k:TR → H → Option α):earlyX vm call (e :: l) t σ past k = early1 vm call e (earlyX vm call l) t σ past k:=rfl
theorem earlyX_some (vm:Bool) (hc:Caller.Ok P w0 call) {b:α}:∀ {l:List EOp} {t:TR} {σ:H} {past:List H} {k:TR → H → Option α},earlyX vm call l t σ past k = some b → ∃ t' σ' past',k t' σ' = some b ∧ CanonE P w0 l t.get σ past t'.get σ' past'
 | [],t,σ,past,k,h=>⟨t,σ,past,h,.nil⟩
 | ⟨o,loud,lo⟩ :: l,t,σ,past,k,h=>by
   rw [earlyX_cons] at h;unfold early1 at h;simp only at h;split at h
   ·cases h
   ·rename_i b' hg
    cases b' with
    | false=>
      simp only at h;obtain ⟨t1,h1,h2⟩:=putO_some h;obtain ⟨t',σ',past',h3,h4⟩:=earlyX_some vm hc h1;refine ⟨t',σ',past',h3,?_⟩;rw [h2] at h4
      cases loud
      ·exact .quiet (.skip hg) (fun τ _=>.skip hg) h4
      ·exact .loud (.skip hg) h4
    | true=>
      cases loud with
      | true=>
        simp only [cond_true] at h;unfold earlyL at h;split at h
        ·unfold earlyV at h
         split at h
         ·obtain ⟨v,σ',h0,h00⟩:=stepK_some h
          obtain ⟨t1,h1,h2⟩:=putO_some h00;obtain ⟨t',σ1,past',h3,h4⟩:=earlyX_some vm hc h1;refine ⟨t',σ1,past',h3,.loud (.step hg h0) ?_⟩;rw [← h2];exact h4
         ·rename_i p hp
          obtain ⟨v,σ'⟩:=p
          have hp:vecK t.get σ o.ins = some (v,σ'):=by
           cases vm with
           | false=>cases hp
           | true=>exact hp
          obtain ⟨e,size,bytes,x,y,olds,news,e1,e2,e3,e4,e5,e6⟩:=vecK_some hp;subst e5 e6;simp only [fV1_eq,fH_eq] at h;obtain ⟨t1,h1,h2⟩:=putO_some h;obtain ⟨t',σ1,past',h3,h4⟩:=earlyX_some vm hc h1;refine ⟨t',σ1,past',h3,.loud (.vec hg e1 e2 e3 e4) ?_⟩;rw [← h2];exact h4
        ·rename_i p hp
         obtain ⟨f,l'⟩:=p
         have hi:=callParts_some hp
         simp only at h;obtain ⟨fid,caps,v,σ',hf,hcl,hk⟩:=callK_some h;obtain ⟨t1,h1,h2⟩:=putO_some hk;obtain ⟨t',σ1,past',h3,h4⟩:=earlyX_some vm hc h1;refine ⟨t',σ1,past',h3,.loud (.call hg hi hf (hc _ _ _ _ _ hcl)) ?_⟩;rw [← h2];exact h4
      | false=>
        simp only [cond_false] at h;unfold earlyQ at h;split at h
        ·cases hq:o.ins.quiet with
         | false=>rw [hq] at h;cases h
         | true=>
           rw [hq] at h;simp only [cond_true] at h;obtain ⟨v,σ',h0,h00⟩:=stepK_some h
           have:=quiet_step hq h0
           subst this
           cases he:(o.ins.pure || sameOn t.get o.ins v (past.take (past.length - lo))) with
           | false=>rw [he] at h00;cases h00
           | true=>
             rw [he] at h00;simp only [cond_true] at h00;obtain ⟨t1,h1,h2⟩:=putO_some h00;obtain ⟨t',σ1,past',h3,h4⟩:=earlyX_some vm hc h1;refine ⟨t',σ1,past',h3,.quiet (.step hg h0) (fun τ hτ=>?_) ?_⟩
             ·simp only [Bool.or_eq_true] at he
              rcases he with he | he
              ·exact .step hg (pure_step he h0)
              ·exact .step hg (sameOn_mem he τ hτ)
             ·rw [← h2];exact h4
        ·rename_i p hp
         obtain ⟨f,l'⟩:=p
         have hi:=callParts_some hp
         simp only at h;obtain ⟨fid,caps,v,σ',hf,hcl,hk⟩:=callK_some h
         cases he:(eqHs σ' σ && callOn call fid (l'.map (·.ev t.get) ++ caps) v (past.take (past.length - lo))) with
         | false=>rw [he] at hk;cases hk
         | true=>
           rw [he] at hk;simp only [cond_true] at hk;simp only [Bool.and_eq_true] at he
           have e:=eqHs_eq he.1
           subst e;obtain ⟨t1,h1,h2⟩:=putO_some hk;obtain ⟨t',σ1,past',h3,h4⟩:=earlyX_some vm hc h1;refine ⟨t',σ1,past',h3,.quiet (.call hg hi hf (hc _ _ _ _ _ hcl)) (fun τ hτ=>.call hg hi hf (hc _ _ _ _ _ (callOn_mem he.2 τ hτ))) ?_⟩
           rw [← h2];exact h4
end
def allQuiet:List AOp → Bool
 | []=>true
 | o :: l=>(match o.ins with | .call ..=>true | i=>i.quiet) && allQuiet l

/-! ### a run -/
structure CE where
 x:AC
 r:List ResV
 n:Nat
 d:Nat
inductive CT where
 | e
 | n (f:FuncId) (c:CE) (l r:CT)
def CT.get (t:CT) (f:FuncId):Option CE:=CT.rec (motive:=fun _=>Option CE) none (fun g c _ _ gl gr=>cond (Nat.beq f g) (some c) (cond (Nat.blt f g) gl gr)) t
def CodeX (P:Program) (f:FuncId) (c:CE):Prop:=∃ fn,CodeIs P f c.n fn c.x c.r
def CT.Ok (P:Program):CT → Prop
 | .e=>True
 | .n f c l r=>CodeX P f c ∧ CT.Ok P l ∧ CT.Ok P r
theorem CT.get_ok {P:Program} {f:FuncId} {c:CE}:∀ {t:CT},CT.Ok P t → t.get f = some c → CodeX P f c
 | .e,_,h=>by cases h
 | .n g c' l r,hk,h=>by
   have h':cond (Nat.beq f g) (some c') (cond (Nat.blt f g) (l.get f) (r.get f)) = some c:=h
   cases hb:Nat.beq f g with
   | true=>
     rw [hb] at h';injection h' with h'
     subst h'
     have:=Nat.eq_of_beq_eq_true hb
     subst this;exact hk.1
   | false=>
     rw [hb] at h'
     cases hl:Nat.blt f g with
     | true=>rw [hl] at h';exact CT.get_ok hk.2.1 h'
     | false=>rw [hl] at h';exact CT.get_ok hk.2.2 h'
structure XP where
 P:Program
 ext:Caller
 code:CT
 keep:FuncId → Bool
 vec:FuncId → Bool
structure XP.Ok (X:XP) (w0:World):Prop where
 ext:Caller.Ok X.P w0 X.ext
 code:CT.Ok X.P X.code
def argsT (i:Nat) (l:List V):TR → (TR → Option XS) → Option XS:=List.rec (motive:=fun _=>Nat → TR → (TR → Option XS) → Option XS) (fun _ t k=>k t) (fun v _ ih i t k=>t.putK i v fun t=>ih (Nat.succ i) t k) l i
theorem argsT_cons (i:Nat) (v:V) (l:List V) (t:TR) (k:TR → Option XS):argsT i (v :: l) t k = t.putK i v fun t=>argsT (i + 1) l t k:=rfl
def endK (r:List ResV) (n0:Nat) (keep:Bool) (s:XS) (vs:List V):Option (V × H):=
 cond keep (fTup (resV vs) fun d=>some (d,s.σ))
  (fTup (wk2 n0 (resV vs)) fun d=>fS (s.σ.take n0) fun τ=>cond (lowB 5 n0 d && (Nat.ble n0 s.σ.length && τ.all (okBlk n0))) (some (d,τ)) (fTup (resV vs) fun d=>some (d,s.σ)))
def endX (keep:Bool) (r:List ResV) (n0:Nat) (s0:XS):Option (V × H):=match frzL (cond keep [] (vecIx n0 (s0.σ.drop n0))) s0 with
 | s=>match resEval s.st r with
   | none=>none
   | some vs=>endK r n0 keep s vs
def packK (keep:Bool) (n0:Nat) (r:Option (V × H)):Option (V × H):=cond keep (match r with
 | none=>none
 | some p=>match p with
   | (d,σ)=>match packX n0 d σ with
     | none=>some (d,σ)
     | some q=>match q with
       | (d,τ)=>fTup d fun d=>fH τ fun τ=>some (d,τ)) r
theorem packK_ok {P:Program} {w0:World} {f:FuncId} {args:List V} {σ:H} {keep:Bool} {r:Option (V × H)} (hr:∀ d σ',r = some (d,σ') → DC P w0 f args σ (Same d σ')) {v:V} {σ':H} (h:packK keep σ.length r = some (v,σ')):DC P w0 f args σ (Same v σ'):=by
 unfold packK at h
 cases keep with
 | false=>exact hr _ _ h
 | true=>
   simp only [cond_true] at h;split at h
   ·cases h
   ·rename_i p
    obtain ⟨d,σ1⟩:=p;simp only at h;split at h
    ·injection h with h
     injection h with h1 h2
     subst h1 h2;exact hr _ _ rfl
    ·rename_i q hq
     obtain ⟨d',τ⟩:=q;simp only [fTup_eq,fH_eq] at h;injection h with h
     injection h with h1 h2
     subst h1 h2;exact packX_ok (hr _ _ rfl) hq
def callC (X:XP) (ex:List It → XS → Option XS) (f:FuncId) (c:CE) (args:List V) (σ:H):Option (V × H):=
 cond (Nat.beq args.length c.n) (match argsT 0 args (TR.full c.d) fun t=>fB (X.vec f) fun v=>ex [.code c.x] ⟨t,σ,v⟩ with
  | none=>none
  | some s=>packK (X.keep f) σ.length (endX (X.keep f) c.r σ.length s)) none
def callX (X:XP) (ex:List It → XS → Option XS):Caller:=fun f args σ=>match X.ext f args σ with
 | some r=>some r
 | none=>match X.code.get f with
   | none=>none
   | some c=>callC X ex f c args σ
def Ins.thaws:Ins → List Nat
 | .app _ _ _ x y=>y.tmps ++ x.tmps
 | i=>i.looks
def exThaw (ex:List It → XS → Option XS) (o:AOp) (l:List AOp) (k:List It) (s:XS):Option XS:=match o.ins.thaws.flatMap fun d=>vecIn (s.t.get d) with
 | []=>none
 | b :: _=>match frzX s b with
   | s'=>fT s'.t fun t=>fH s'.σ fun σ=>ex (.ops (o :: l) :: k) ⟨t,σ,s.v⟩
def exStep (ex:List It → XS → Option XS) (o:AOp) (l:List AOp) (k:List It) (s:XS):Option XS:=match stepF o.ins s.t.get s.σ with
 | none=>exThaw ex o l k s
 | some p=>match p with
   | (v,σ')=>forceK o.ins.quiet o.ins.easy (o.ins.turns s.t.get s.σ) v s.σ σ' fun v σ'=>putO s.t o.dst v fun t=>fB s.v fun v=>ex (.ops l :: k) ⟨t,σ',v⟩
def exVec (ex:List It → XS → Option XS) (o:AOp) (l:List AOp) (k:List It) (s:XS):Option XS:=match vecK s.t.get s.σ o.ins with
 | none=>exStep ex o l k s
 | some p=>match p with
   | (v,σ')=>fV1 v fun v=>fH σ' fun σ'=>putO s.t o.dst v fun t=>fB s.v fun v=>ex (.ops l :: k) ⟨t,σ',v⟩
def exIns (X:XP) (ex:List It → XS → Option XS) (o:AOp) (l:List AOp) (k:List It) (s:XS):Option XS:=match o.ins.callParts with
 | none=>cond s.v (exVec ex o l k s) (exStep ex o l k s)
 | some p=>match p with
   | (f,as_)=>callK (callX X ex) s.t.get s.σ f as_ fun _ _ v σ'=>putO s.t o.dst v fun t=>fB s.v fun v=>ex (.ops l :: k) ⟨t,σ',v⟩
def exOp (X:XP) (ex:List It → XS → Option XS) (o:AOp) (l:List AOp) (k:List It) (s:XS):Option XS:=match wantedV s.t.get o.guard with
 | none=>none
 | some b=>match b with
   | false=>putO s.t o.dst .void fun t=>fB s.v fun v=>ex (.ops l :: k) ⟨t,s.σ,v⟩
   | true=>exIns X ex o l k s
def exOps (X:XP) (ex:List It → XS → Option XS) (l:List AOp) (k:List It) (s:XS):Option XS:=match l with
 | []=>ex k s
 | o :: l=>exOp X ex o l k s
def boolOf:V → Option Bool
 | .c x=>match x with
   | .bool b=>some b
   | _=>none
 | _=>none
theorem boolOf_some {v:V} {b:Bool} (h:boolOf v = some b):v = .c (.bool b):=by
 cases v <;> first | (cases h;done) | skip
 rename_i x
 cases x <;> first | (cases h;done) | (injection h with h;subst h;rfl)
def exCond (ex:List It → XS → Option XS) (c:Opd) (x y:AC) (k:List It) (s:XS):Option XS:=match boolOf (c.ev s.t.get) with
 | none=>none
 | some b=>cond b (ex (.code x :: k) s) (ex (.code y :: k) s)
def exExit (ex:List It → XS → Option XS) (id:Nat) (k:List It) (s:XS):Option XS:=match popTo id k with
 | none=>none
 | some k'=>ex k' s
def exDreg (X:XP) (ex:List It → XS → Option XS) (l:List AOp) (e:List EOp) (k:List It) (s:XS):Option XS:=
 cond (allQuiet l && e.isEmpty) (canonX (callX X ex) s.σ l s.t fun t=>fB s.v fun v=>ex k ⟨t,s.σ,v⟩) (match e with
  | []=>none
  | o :: e=>earlyX s.v (callX X ex) (o :: e) s.t s.σ [] fun t σ=>fB s.v fun v=>ex k ⟨t,σ,v⟩)
def exCode (X:XP) (ex:List It → XS → Option XS) (c:AC) (k:List It) (s:XS):Option XS:=match c with
 | .skip=>ex k s
 | .reg l=>exOps X ex l k s
 | .seq a b=>ex (.code a :: .code b :: k) s
 | .block id c=>ex (.code c :: .endb id :: k) s
 | .exit id=>exExit ex id k s
 | .cond c x y=>exCond ex c x y k s
 | .loop c=>ex (.code c :: .code (.loop c) :: k) s
 | .ret=>some s
 | .dreg l e=>exDreg X ex l e k s
 | .bad=>none
def exIt (X:XP) (ex:List It → XS → Option XS) (it:It) (k:List It) (s:XS):Option XS:=match it with
 | .code c=>exCode X ex c k s
 | .endb _=>ex k s
 | .inv _=>none
 | .ops l=>exOps X ex l k s
def stepX (X:XP) (ex:List It → XS → Option XS) (k:List It) (s:XS):Option XS:=match k with
 | []=>some s
 | it :: k=>exIt X ex it k s
def exec (X:XP) (n:Nat):List It → XS → Option XS:=Nat.rec (motive:=fun _=>List It → XS → Option XS) (fun _ _=>none) (fun _ ex=>stepX X ex) n
theorem exec_succ (X:XP) (n:Nat) (k:List It) (s:XS):exec X (n + 1) k s = stepX X (exec X n) k s:=rfl

inductive Rl (X:XP) (s':XS) (n:Nat):List It → List It → Prop where
 | nil:Rl X s' n [] []
 | cons (it:It) {k k2:List It} (h:Rl X s' n k k2):Rl X s' n (it :: k) (it :: k2)
 | inv (c:AC) (I:St → Prop) {k k2:List It} (h:Rl X s' n k k2) (hI:∀ j,j ≤ n → ∀ s,exec X j (.code (.loop c) :: k) s = some s' → I s.st):Rl X s' n (.code (.loop c) :: k) (.inv I :: k2)
theorem Rl.less {X:XP} {s':XS} {n m:Nat} (hm:m ≤ n) {k k2:List It} (h:Rl X s' n k k2):Rl X s' m k k2:=by
 induction h with
 | nil=>exact .nil
 | cons it _ ih=>exact .cons it ih
 | inv c I _ hI ih=>exact .inv c I ih fun j hj=>hI j (by omega)
theorem Rl.refl {X:XP} {s':XS} {n:Nat}:∀ (k:List It),Rl X s' n k k
 | []=>.nil
 | it :: k=>.cons it (Rl.refl k)
theorem Rl.pop {X:XP} {s':XS} {n:Nat} {id:Nat} {k k2:List It} (h:Rl X s' n k k2):∀ {k':List It},popTo id k = some k' → ∃ k2',popTo id k2 = some k2' ∧ Rl X s' n k' k2':=by
 induction h with
 | nil=>intro k' h;cases h
 | cons it h ih=>
   rename_i k k2;intro k' hp
   cases it with
   | endb j=>
     simp only [popTo] at hp ⊢
     by_cases hj:j = id
     ·rw [if_pos hj] at hp ⊢
      injection hp with hp
      subst hp;exact ⟨k2,rfl,h⟩
     ·rw [if_neg hj] at hp ⊢
      exact ih hp
   | code c=>exact ih hp
   | ops l=>exact ih hp
   | inv I=>exact ih hp
 | inv c I h hI ih=>intro k' hp;exact ih hp
section
variable {X:XP} {w0:World}
theorem argsT_some {b:XS}:∀ {l:List V} {i:Nat} {t:TR} {k:TR → Option XS},argsT i l t k = some b → ∃ t',k t' = some b ∧ ∀ j,t'.get j = if i ≤ j ∧ j < i + l.length then l.getD (j - i) .void else t.get j
 | [],i,t,k,h=>⟨t,h,fun j=>by rw [if_neg (by simp)]⟩
 | v :: l,i,t,k,h=>by
   rw [argsT_cons] at h;obtain ⟨t1,h1,h2⟩:=TR.putK_some h;obtain ⟨t',h3,h4⟩:=argsT_some h1;refine ⟨t',h3,fun j=>?_⟩
   rw [h4,h2];simp only [List.length_cons]
   by_cases hj:j = i
   ·subst hj
    rw [if_neg (by omega),if_pos rfl,if_pos (by omega),Nat.sub_self]
    rfl
   ·rw [if_neg hj]
    by_cases hj2:i + 1 ≤ j ∧ j < i + 1 + l.length
    ·rw [if_pos hj2,if_pos (by omega),show j - i = (j - (i + 1)) + 1 from by omega]
     rfl
    ·rw [if_neg hj2,if_neg (by omega)]
theorem endX_fin {keep:Bool} {r:List ResV} {n0:Nat} {s0:XS} {v:V} {σ':H} (h:endX keep r n0 s0 = some (v,σ')):FinXL r n0 (Same v σ') s0.st:=by
 unfold endX at h
 refine ⟨_,frzL_lew (cond keep [] (vecIx n0 (s0.σ.drop n0))) s0,?_⟩
 generalize frzL (cond keep [] (vecIx n0 (s0.σ.drop n0))) s0 = s at h ⊢
 simp only at h
 cases hr:resEval s.st r with
 | none=>rw [hr] at h;cases h
 | some vs=>
   rw [hr] at h;simp only [endK,fTup_eq,fS_eq] at h;refine ⟨vs,hr,?_⟩
   cases keep with
   | true=>
     simp only [cond_true] at h;injection h with h
     injection h with h1 h2
     exact .inl ⟨h1,h2⟩
   | false=>
     simp only [cond_false] at h
     cases hb:(lowB 5 n0 (wk2 n0 (resV vs)) && (Nat.ble n0 s.σ.length && (s.σ.take n0).all (okBlk n0))) with
     | false=>
       rw [hb] at h;injection h with h
       injection h with h1 h2
       exact .inl ⟨h1,h2⟩
     | true=>
       rw [hb] at h;injection h with h
       injection h with h1 h2
       simp only [Bool.and_eq_true] at hb
       have hn:n0 ≤ s.σ.length:=Nat.le_of_ble_eq_true hb.2.1
       exact .inr ⟨_,s.σ,wk2_wk n0 _,lowB_low hb.1,hn,H.wk_refl _,okH_ok (by simp [hn]) hb.2.2,h1,h2⟩
theorem callX_ok (hX:X.Ok w0) {ex:List It → XS → Option XS} (hex:∀ k s s' n0 Q,ex k s = some s' → Q s'.st → W X.P w0 n0 Q k s.st):Caller.Ok X.P w0 (callX X ex):=by
 intro f args σ v σ' h
 unfold callX at h
 cases he:X.ext f args σ with
 | some r=>
   rw [he] at h;injection h with h
   subst h;exact hX.ext _ _ _ _ _ he
 | none=>
   rw [he] at h;simp only at h
   cases hc:X.code.get f with
   | none=>rw [hc] at h;cases h
   | some c=>
     rw [hc] at h;simp only at h;obtain ⟨fn,K⟩:=CT.get_ok hX.code hc;unfold callC at h
     cases hl:Nat.beq args.length c.n with
     | false=>rw [hl] at h;cases h
     | true=>
       rw [hl] at h;simp only [cond_true] at h;split at h
       ·cases h
       ·rename_i s hs
        obtain ⟨t,h1,h2⟩:=argsT_some hs;simp only [fB_eq] at h1
        have hρ:(⟨t,σ,X.vec f⟩:XS).st = ⟨argEnv args,σ⟩:=by
         show (⟨t.get,σ⟩:St) = _
         congr 1
         funext j
         rw [h2,TR.full_get];unfold argEnv
         by_cases hj:j < args.length
         ·rw [if_pos (by omega)];simp
         ·rw [if_neg (by omega)]
          rw [List.getD_eq_getElem?_getD,List.getElem?_eq_none (by omega)]
          rfl
        have hn:args.length ≤ fn.ntmps:=by rw [Nat.eq_of_beq_eq_true hl];exact K.hn
        refine packK_ok (fun v σ' h=>?_) h
        refine DC.of_walkX K.hm K.hf K.hb K.htr K.hres hn K.en ?_;rw [← hρ]
        exact hex _ _ _ _ _ h1 (endX_fin h)
theorem exec_W (hX:X.Ok w0):∀ (n:Nat) (k k2:List It) (s s':XS) (n0:Nat) (Q:St → Prop),exec X n k s = some s' → Rl X s' n k k2 → Q s'.st → W X.P w0 n0 Q k2 s.st:=by
 intro n
 induction n using Nat.strongRecOn with
 | _ n ih=>
 intro k k2 s s' n0 Q h hk hQ
 cases n with
 | zero=>cases h
 | succ n=>
 have IH:∀ {k k2:List It} {s:XS},exec X n k s = some s' → Rl X s' n k k2 → W X.P w0 n0 Q k2 s.st:=fun h hk=>ih n (Nat.lt_succ_self _) _ _ _ _ _ _ h hk hQ
 have hcall:Caller.Ok X.P w0 (callX X (exec X n)):=callX_ok hX fun k s s' n0 Q h hQ=>ih n (Nat.lt_succ_self _) _ _ _ _ _ _ h (Rl.refl k) hQ
 cases hk with
 | nil=>
   injection h with h
   subst h;exact .done hQ
 | inv c I hk hI=>exact .inv (hI (n + 1) (Nat.le_refl _) s h)
 | cons it hk=>
 rename_i k k2
 rw [exec_succ] at h
 have hk':=hk.less (Nat.le_succ n)
 have hops:∀ l,exOps X (exec X n) l k s = some s' → W X.P w0 n0 Q (.ops l :: k2) s.st:=by
  intro l h
  cases l with
  | nil=>exact .opsNil (IH h hk')
  | cons o l=>
    have h:exOp X (exec X n) o l k s = some s':=h
    unfold exOp at h;split at h
    ·cases h
    ·rename_i b hg
     cases b with
     | false=>
       obtain ⟨t',h1,h2⟩:=putO_some h;simp only [fB_eq] at h1;refine .opsSkip hg ?_
       have:=IH h1 (.cons _ hk')
       show W X.P w0 n0 Q _ ⟨Env.put s.t.get o.dst .void,s.σ⟩
       rw [← h2];exact this
     | true=>
       have h:exIns X (exec X n) o l k s = some s':=h
       have hstep:exStep (exec X n) o l k s = some s' → W X.P w0 n0 Q (.ops (o :: l) :: k2) s.st:=by
        intro h;unfold exStep at h;rw [stepF_eq] at h;split at h
        ·unfold exThaw at h
         split at h
         ·cases h
         ·rename_i b _ _
          simp only [fT_eq,fH_eq] at h;refine .weak (frzX_lew s b) ?_
          have hv:(frzX s b).v = s.v:=by unfold frzX;split <;> rfl
          rw [← hv] at h;exact IH h (.cons _ hk')
        ·rename_i p hs
         obtain ⟨v,σ'⟩:=p
         have hK:stepK s.t.get s.σ o.ins (fun v σ'=>putO s.t o.dst v fun t=>fB s.v fun v=>exec X n (.ops l :: k) ⟨t,σ',v⟩) = some s':=by
          unfold stepK;rw [stepF_eq,hs];exact h
         obtain ⟨v,σ',h0,h00⟩:=stepK_some hK;obtain ⟨t',h1,h2⟩:=putO_some h00;simp only [fB_eq] at h1;refine .opsStep hg h0 ?_
         have:=IH h1 (.cons _ hk')
         show W X.P w0 n0 Q _ ⟨Env.put s.t.get o.dst v,σ'⟩
         rw [← h2];exact this
       unfold exIns at h;split at h
       ·cases hsv:s.v with
        | false=>rw [hsv] at h;exact hstep h
        | true=>
          rw [hsv] at h;simp only [cond_true] at h;unfold exVec at h;split at h
          ·exact hstep h
          ·rename_i p hvk
           obtain ⟨v,σ'⟩:=p;obtain ⟨e,size,bytes,x,y,olds,news,hi,hx,hy,hc,rfl,rfl⟩:=vecK_some hvk;simp only [fV1_eq,fH_eq] at h;obtain ⟨t',h1,h2⟩:=putO_some h;simp only [fB_eq] at h1;refine .opsVec hg hi hx hy hc ?_
           have:=IH h1 (.cons _ hk')
           show W X.P w0 n0 Q _ ⟨Env.put s.t.get o.dst (V.vec (List.length s.σ) (olds.length + news.length)),_⟩
           rw [← h2];exact this
       ·rename_i p hp
        obtain ⟨f,l'⟩:=p
        have hi:=callParts_some hp
        simp only at h;obtain ⟨fid,caps,v,σ',hf,hcl,hk⟩:=callK_some h;obtain ⟨t',h1,h2⟩:=putO_some hk;simp only [fB_eq] at h1;refine .opsCall hg hi hf (hcall _ _ _ _ _ hcl) fun d τ hd=>?_
        obtain ⟨rfl,rfl⟩:=hd
        have:=IH h1 (.cons _ hk')
        show W X.P w0 n0 Q _ ⟨Env.put s.t.get o.dst d,τ⟩
        rw [← h2];exact this
 cases it with
 | inv I=>cases h
 | endb id=>exact .endb (IH h hk')
 | ops l=>exact hops l h
 | code c=>
   cases c with
   | skip=>exact .skip (IH h hk')
   | reg l=>exact .reg (hops l h)
   | seq a b=>exact .seq (IH h (.cons _ (.cons _ hk')))
   | block id c=>exact .block (IH h (.cons _ (.cons _ hk')))
   | ret=>injection h with h;subst h;exact .ret hQ
   | bad=>cases h
   | exit id=>
     have h:exExit (exec X n) id k s = some s':=h
     unfold exExit at h;split at h
     ·cases h
     ·rename_i k' hp
      obtain ⟨k2',h1,h2⟩:=hk'.pop hp;exact .exit h1 (IH h h2)
   | cond c x y=>
     have h:exCond (exec X n) c x y k s = some s':=h
     unfold exCond at h;split at h
     ·cases h
     ·rename_i b hb
      have hb:=boolOf_some hb
      cases b with
      | true=>exact .cond (t:=true) hb (fun _=>IH h (.cons _ hk')) (fun e=>by cases e)
      | false=>exact .cond (t:=false) hb (fun e=>by cases e) (fun _=>IH h (.cons _ hk'))
   | loop c=>
     refine .loop (α:={ p:Nat × XS // p.1 ≤ n + 1 ∧ exec X p.1 (.code (.loop c) :: k) p.2 = some s' }) (fun p=>p.1.2.st) (fun p=>p.1.1) ⟨(n + 1,s),Nat.le_refl _,h⟩ (Lew.refl _ _) (fun p=>?_)
     obtain ⟨⟨m,t⟩,hm1,hm2⟩:=p
     cases m with
     | zero=>cases hm2
     | succ m=>
       refine ih m (by simp only at hm1;omega) (.code c :: .code (.loop c) :: k) _ t s' n0 Q hm2 (.cons _ (.inv c _ (hk.less (by simp only at hm1;omega)) fun j hj s'' hs''=>?_)) hQ
       exact ⟨⟨(j,s''),by simp only at hm1 ⊢;omega,hs''⟩,by simp only;omega,Lew.refl _ _⟩
   | dreg l e=>
     have h:exDreg X (exec X n) l e k s = some s':=h
     unfold exDreg at h
     cases hq:(allQuiet l && e.isEmpty) with
     | true=>
       rw [hq] at h;obtain ⟨t',h1,h2⟩:=canonX_some hcall h;simp only [fB_eq] at h1;exact .dreg h2 (IH h1 hk')
     | false=>
       rw [hq] at h;simp only [cond_false] at h
       cases e with
       | nil=>cases h
       | cons o e=>
         obtain ⟨t',σ',past',h1,h2⟩:=earlyX_some _ hcall h;simp only [fB_eq] at h1;exact .dregE (List.cons_ne_nil _ _) h2 (IH h1 hk')
def runX (X:XP) (n:Nat) (f:FuncId) (args:List V) (σ:H):Option (V × H):=callX X (exec X n) f args σ
theorem runX_ok (hX:X.Ok w0) {n:Nat} {f:FuncId} {args:List V} {σ:H} {v:V} {σ':H} (h:runX X n f args σ = some (v,σ')):DC X.P w0 f args σ (Same v σ'):=
 callX_ok hX (fun k s s' n0 Q h hQ=>exec_W hX n k k s s' n0 Q h (Rl.refl k) hQ) f args σ v σ' h
def isTrue:Option (V × H) → Bool
 | some (.c (.bool true),[])=>true
 | _=>false
theorem runX_true {G:World → Prop} (hG:∀ w w',G w → Below w.heap.size w w' → G w') (hX:∀ w,G w → X.Ok w) {n:Nat} {f:FuncId} (h:isTrue (runX X n f [] []) = true) {w0:World} (h0:G w0) (σ:H):DC X.P w0 f [] σ (Same (.c (.bool true)) σ):=by
 have hr:runX X n f [] [] = some (.c (.bool true),[]):=by
  unfold isTrue at h;split at h
  ·assumption
  ·cases h
 refine DC.of_calls (runX_ok (hX w0 h0) hr).enters (fun κ w vs hrep hfit=>⟨.bool true,.c (.bool true),?_⟩)
 have hv:vs = []:=Fits.nil_inv hfit
 subst hv
 have hw:=hX w (hG w0 w h0 hrep.ext)
 refine (DC.calls (runX_ok hw hr) (vs:=[]) ⟨rfl,fun j hj=>by simp at hj⟩).mono ?_
 rintro e w' ⟨v,d,σ',κ',rfl,⟨rfl,rfl⟩,h3,h4⟩
 refine ⟨?_,h4⟩
 cases h3 with
 | c h=>cases h;rfl
end
end
end Go.Lamb
namespace Go.Lamb
open Go Go.RowKit

structure OpT where
 name:List UInt8
 prec:Int
 fix:Int
 deriving DecidableEq,Inhabited
def findL (l:List OpT) (name:List UInt8):Option OpT:=l.find? (·.name == name)
inductive Pre where
 | mk (k:Int) (name:List UInt8) (n:Int) (l:List Pre) (pos:Int)
 deriving Inhabited
def Pre.k:Pre → Int | .mk k _ _ _ _=>k
def Pre.name:Pre → List UInt8 | .mk _ s _ _ _=>s
def Pre.n:Pre → Int | .mk _ _ n _ _=>n
def Pre.l:Pre → List Pre | .mk _ _ _ l _=>l
def Pre.pos:Pre → Int | .mk _ _ _ _ a=>a
def Pre.app (a b:Pre) (pos:Int):Pre:=.mk 3 [] 0 [a,b] pos

def lastPos (t:List Tok):Int:=(t.getLast?.map (·.pos)).getD 0
def tokL (t:List Tok) (i:Nat):Tok:=(t[i]?).getD ⟨0,[],0,lastPos t⟩
def opOf (l:List OpT) (t:Tok):Option OpT:=if t.kind = 1 ∨ t.kind = 4 then findL l t.text else none
def beginsL (l:List OpT) (t:Tok):Bool:=if t.kind = 1 ∨ t.kind = 4 then (opOf l t).isNone else t.kind = 2 ∨ t.kind = 3 ∨ t.kind = 5
def lamAt (t:List Tok) (i:Nat):Bool:=((tokL t i).kind = 1 ∨ (tokL t i).kind = 2) ∧ (tokL t (i + 1)).kind = 8
def besideL (a b:OpT) (fix:Int):Bool:=b.prec > a.prec ∨ (b.prec = a.prec ∧ a.fix = fix ∧ b.fix = fix)

structure Bad where
 e:Int
 pos:Int
 deriving DecidableEq
structure Made where
 p:Pre
 by_:Option (OpT × Int)
def clashL (o:OpT) (m:Made):Bool:=match m.by_ with
 | none=>false
 | some (b,_)=>!besideL o b 1
def applyL (o:OpT) (pos:Int) (a b:Pre):Pre:=Pre.app (Pre.app (.mk 0 o.name 0 [] pos) a pos) b pos
def nextL (o:OpT):Int:=if o.fix = 2 then o.prec else IntKind.i64.wrap (o.prec + 1)

mutual
def atomF:Nat → List OpT → List Tok → Nat → Nat → Option (Except Bad (Pre × Nat))
 | 0,_,_,_,_=>none
 | f + 1,l,t,depth,i=>
   let x:=tokL t i
   if beginsL l x = false then some (.error ⟨30,x.pos⟩)
   else if x.kind = 5 then
    let y:=tokL t (i + 1)
    if (opOf l y).isSome ∧ (tokL t (i + 2)).kind = 6 then some (.ok (.mk 0 y.text 0 [] y.pos,i + 3))
    else if 200 ≤ depth then some (.error ⟨31,x.pos⟩)
    else match exprF f l t 0 (depth + 1) (i + 1) with
     | none=>none
     | some (.error b)=>some (.error b)
     | some (.ok (m,j))=>if (tokL t j).kind = 6 then some (.ok (m.p,j + 1)) else some (.error ⟨30,(tokL t j).pos⟩)
   else if x.kind = 3 then some (.ok (.mk 2 [] x.n [] x.pos,i + 1))
   else if x.kind ≠ 4 ∧ (tokL t (i + 1)).kind = 8 then
    if 200 ≤ depth then some (.error ⟨31,x.pos⟩)
    else match exprF f l t 0 (depth + 1) (i + 2) with
     | none=>none
     | some (.error b)=>some (.error b)
     | some (.ok (m,j))=>some (.ok (.mk 4 x.text 0 [m.p] x.pos,j))
   else some (.ok (.mk (if x.kind = 2 then 1 else 0) x.text 0 [] x.pos,i + 1))
def argsF:Nat → List OpT → List Tok → Nat → Nat → Pre → Int → Bool → Option (Except Bad (Pre × Nat))
 | 0,_,_,_,_,_,_,_=>none
 | f + 1,l,t,depth,i,p,pos,last=>
   if last = true ∨ beginsL l (tokL t i) = false then some (.ok (p,i))
   else match atomF f l t depth i with
    | none=>none
    | some (.error b)=>some (.error b)
    | some (.ok (q,j))=>argsF f l t depth j (Pre.app p q pos) pos (lamAt t i)
def exprF:Nat → List OpT → List Tok → Int → Nat → Nat → Option (Except Bad (Made × Nat))
 | 0,_,_,_,_,_=>none
 | f + 1,l,t,least,depth,i=>
   match atomF f l t depth i with
   | none=>none
   | some (.error b)=>some (.error b)
   | some (.ok (p,j))=>match argsF f l t depth j p p.pos (lamAt t i) with
     | none=>none
     | some (.error b)=>some (.error b)
     | some (.ok (q,k))=>chainF f l t least depth k ⟨q,none⟩
def chainF:Nat → List OpT → List Tok → Int → Nat → Nat → Made → Option (Except Bad (Made × Nat))
 | 0,_,_,_,_,_,_=>none
 | f + 1,l,t,least,depth,i,m=>
   match opOf l (tokL t i) with
   | none=>some (.ok (m,i))
   | some o=>
     if o.prec < least then some (.ok (m,i))
     else if clashL o m = true then some (.error ⟨32,(tokL t i).pos⟩)
     else if 200 ≤ depth then some (.error ⟨31,(tokL t i).pos⟩)
     else match exprF f l t (nextL o) (depth + 1) (i + 1) with
      | none=>none
      | some (.error b)=>some (.error b)
      | some (.ok (r,j))=>match r.by_ with
        | some (b,pos)=>if besideL o b 2 = true then chainF f l t least depth j ⟨applyL o (tokL t i).pos m.p r.p,some (o,(tokL t i).pos)⟩ else some (.error ⟨32,pos⟩)
        | none=>chainF f l t least depth j ⟨applyL o (tokL t i).pos m.p r.p,some (o,(tokL t i).pos)⟩
end

def Args (l:List OpT) (t:List Tok) (depth i:Nat) (p:Pre) (pos:Int) (last:Bool) (r:Except Bad (Pre × Nat)):Prop:=∃ f,argsF f l t depth i p pos last = some r
end Go.Lamb
