/- . -/
import Derived.Test.YtpcmcfajfnpjeaaGreatDoorQJ36
import Derived.Test.YtpcmcfajfnpjeaaGreatDoorQJ14
import Derived.Test.YtpcmcfajfnpjeaaGreatDoorQJ12
import Derived.Test.YtpcmcfajfnpjeaaGreatDoorQTyA2
import Derived.Test.YtpcmcfajfnpjeaaGreatDoorChecked
import Derived.Test.YtpcmcfajfnpjeaaGreatDoorQJ35
import Derived.Test.YtpcmcfajfnpjeaaGreatDoorQLexA
import Derived.Lib.Builder
import Derived.Laws.Externs
import Derived.OwnWalk
import Derived.Handy
import Derived.BigRegion
import Derived.Lib.ItoaMem
import Derived.Test.YtpcmcfajfnpjeaaGreatDoorQLexC
import Derived.Test.YtpcmcfajfnpjeaaGreatDoorQRefH
import Derived.Test.YtpcmcfajfnpjeaaGreatDoorQRefI
import Derived.Test.YtpcmcfajfnpjeaaGreatDoorQLxD
import Derived.Test.YtpcmcfajfnpjeaaGreatDoorQLexG
import Derived.Lib.ItoaLen
import Derived.Test.YtpcmcfajfnpjeaaGreatDoorQLexGl
set_option linter.unusedSimpArgs false
set_option linter.unusedVariables false
set_option maxHeartbeats 8000000
set_option maxRecDepth 20000
namespace Go.Proofs.YtpcmcfajfnpjeaaGreatDoor
open Go Go.RowKit Go.Lamb

/-! ### two, side by side; below a pi; with a goal -/
structure Small (t:Typ):Prop where
 valid:validM t = true
 nodes:nodesM t ≤ 80
 near:nearM 1099511627776 t = true
end Go.Proofs.YtpcmcfajfnpjeaaGreatDoor
namespace Go.Proofs.YtpcmcfajfnpjeaaGreatDoor
open Go Go.RowKit Go.Lamb
end Go.Proofs.YtpcmcfajfnpjeaaGreatDoor
namespace Go.Proofs.YtpcmcfajfnpjeaaGreatDoor
open Go.RowKit Go.Lamb
attribute [local go_sem] advO_skip advO_reg advO_seq advO_block advO_exit advO_endb advO_opsNil advO_ops advG_yes advG_no advG_none advS_some advS_none advO_cond advO_loop advO_dreg advO_ret advO_bad advO_inv advO_nil advO_zero wantedV Lamb.step ev_t ev_k put_some put_none argEnv popTo cellsAt V.cellsV V.rows V.sub V.toC toCs fillV bytesC byteRows appV rowsV boundV boundL binV binInt binStr eqC eqL V.isNil leaves V.leaf Ins.quiet Ins.pure List.getD_cons_zero List.getD_cons_succ List.getD_nil List.all_cons List.all_nil List.length_cons List.length_nil List.take_succ_cons List.take_zero List.drop_succ_cons List.drop_zero List.cons_append List.nil_append List.append_nil List.append_assoc List.map_cons List.map_nil List.getElem?_cons_zero List.getElem?_cons_succ List.length_append List.length_set hget0 hget hset0 hset hsets hgs0 hgs hss0 hss List.set_cons_zero List.set_cons_succ List.forall_mem_cons List.not_mem_nil false_implies implies_true Option.map_some Bool.and_true Bool.true_and Bool.not_not Bool.not_true Bool.not_false Bool.and_self Bool.or_true Bool.true_or Bool.or_false Bool.false_or Bool.and_false Bool.false_and Bool.false_eq_true beq_self_eq_true and_self and_true true_and if_true if_false Nat.zero_add Nat.add_zero Nat.le_refl Int.toNat_natCast decide_true decide_false beq_t beq_f List.length_map List.getElem?_map I S B opsC toksC OpT.v OpT.cs OpT.zero Tok.v Tok.cs Pre.v Pre.cs_eq k_mk name_mk n_mk l_mk pos_mk Pre.app applyL natCast0 natCast1 natCast2 AOp.o AOp.m AOp.f AOp.l AOp.d AOp.n AOp.x AOp.s AOp.k AOp.y AOp.z EOp.q low_c low_void low_any low_csl low_nilf low_ptr low_osl low_agg low_tup low_fn resEval advPO_nil advPO_loud advPO_quiet pL_yes pL_no pLS_some pLS_none pQ_yes pQ_no pQS_some pQS_loud eq_self Nat.sub_zero
attribute [local go_sem] Typ.v Typ.cs_eq tk_mk tname_mk tn_mk tl_mk
def cOpenBody:AC:=.block 1 (.dreg [⟨some 10,.loadn 4 (.t 2),none⟩,⟨some 11,.loadn 4 (.t 5),none⟩,⟨some 12,.mov (.t 4),none⟩,⟨some 13,.call (.k (.fn 83 [])) [(.t 11),(.k (.c (.int .i64 0))),(.t 12)],none⟩,⟨some 14,.call (.k (.fn 138 [])) [(.t 10),(.k (.c (.int .i64 0))),(.t 13)],none⟩,⟨none,.store 4 (.t 2) (.t 14),none⟩]
 [⟨⟨some 11,.loadn 4 (.t 5),none⟩,false,0⟩,⟨⟨some 12,.mov (.t 4),none⟩,false,0⟩,⟨⟨some 13,.call (.k (.fn 83 [])) [(.t 11),(.k (.c (.int .i64 0))),(.t 12)],none⟩,true,0⟩,⟨⟨some 10,.loadn 4 (.t 2),none⟩,false,0⟩,⟨⟨some 14,.call (.k (.fn 138 [])) [(.t 10),(.k (.c (.int .i64 0))),(.t 13)],none⟩,true,1⟩,⟨⟨none,.store 4 (.t 2) (.t 14),none⟩,true,2⟩])
theorem open_body (w0:World) (σ:H) (z u:Typ) (i:Nat) (hi:i ≤ 30000000000) (c:Blk) (hz:nearM 2305843009213693952 z = true) (hu:nearM 2305843009213693952 u = true) (hsu:nearM 2305843009213693952 (shiftM 0 (i:Int) u) = true) (nu:nodesM u ≤ 12000000000) (nz:nodesM z ≤ 12000000000) (nm:nodesM u * nodesM z ≤ 12000000000) :
  W Tryz.prog w0 (σ.length + 2) (fun _=>False) [.code cOpenBody,.inv (fun s'=>s'.σ = σ ++ [.cells (substM 0 (shiftM 0 (i:Int) u) z).v.cellsV,c])] ⟨(((base.put (some 2) (.ptr σ.length 0)).put (some 4) (I (i:Int))).put (some 5) (.c (.ref [.int .i64 u.k,.str u.name,.int .i64 u.n,.sl (u.l.map Typ.cs)] 0))),σ ++ [.cells z.v.cellsV,c]⟩:=by
 have hS:=fun σ=>term_Shift w0 u 0 (i:Int) (by decide) (by decide) (by omega) (by omega) hu nu σ
 have hsn:nodesM (shiftM 0 (i:Int) u) ≤ nodesM u:=shift_nodes 0 i u 0
 have hT:=fun σ=>term_Subst w0 z 0 (shiftM 0 (i:Int) u) (by decide) (by decide) hsu (by omega) hz nz (Nat.le_trans (Nat.mul_le_mul_right _ hsn) nm) σ
 generalize shiftM 0 (i:Int) u = v at *
 generalize substM 0 v z = y at *
 ((try refine W.a ?_);simp only [go_sem,seval,cOpenBody])
 apply W.dregE (List.cons_ne_nil _ _)
 case hc=>
  (apply CanonE.advPO;simp only [go_sem,seval])
  (apply CanonE.call (hS _);(case hg=>rfl);(case hf=>rfl);(case ha=>first | rfl | simp))
  (apply CanonE.advPO;simp only [go_sem,seval])
  (apply CanonE.call (hT _);(case hg=>rfl);(case hf=>rfl);(case ha=>first | rfl | simp))
  (apply CanonE.advPO;simp only [go_sem,seval])
  exact CanonE.nil
 ((try refine W.a ?_);simp only [go_sem,seval])
 exact .inv rfl
end Go.Proofs.YtpcmcfajfnpjeaaGreatDoor
namespace Go.Proofs.YtpcmcfajfnpjeaaGreatDoor
open Go.RowKit Go.Shelf Go.Lamb
attribute [local go_sem] Oper.semAt_some

def KpC (Bs b off len:Nat) (A B:World):Prop:=(∀ v,A.cell? ⟨Bs,0,none⟩ = some v → B.cell? ⟨Bs,0,none⟩ = some v) ∧ ∀ j,j < len * 4 → ∀ v,A.cell? ⟨b,off + j,none⟩ = some v → B.cell? ⟨b,off + j,none⟩ = some v
theorem KpC.refl (Bs b off len:Nat) (A:World):KpC Bs b off len A A:=⟨fun _ h=>h,fun _ _ _ h=>h⟩
theorem KpC.trans {Bs b off len:Nat} {A B C:World} (h:KpC Bs b off len A B) (k:KpC Bs b off len B C):KpC Bs b off len A C:=⟨fun v e=>k.1 v (h.1 v e),fun j hj v e=>k.2 j hj v (h.2 j hj v e)⟩
theorem KpC.turn {Bs b off len:Nat} (W:World) (l:Nat) (o o':Obj) (h:W.heap[l]? = some o) (hc:o.isCells = false):KpC Bs b off len W (W.putObj l o'):=
 ⟨fun v e=>cell_kept e (grownBy_putObj' W l o') (fun r e=>by cases e;exact ⟨o,h,hc⟩),fun j _ v e=>cell_kept e (grownBy_putObj' W l o') (fun r e=>by cases e;exact ⟨o,h,hc⟩)⟩
set_option maxRecDepth 100000 in
set_option maxHeartbeats 2000000 in
theorem back1_inT (F:Fence) (n:Nat) (hf:F.fn 226) (hro:F.round = none) (hn:1 ≤ n) (l Bs n₀ b off len cap:Nat) (A:Option Addr) (hA:0 < len → A = some ⟨b,off,none⟩) (xs:Nat → Value) (hreach:len ≤ 1000000) (hb:0 < len → b < n₀) (J Jx:List (Fin len) → World → Prop)
  (hY:∀ pre (x:Fin len) W,J pre W → pre.length < len → YieldAt F (n - 1) Tryz.prog l #[.int .i64 (x.1:Nat),cellsOf4 xs x.1] W fun e W'=>
    (e = .returned (.bool true) ∧ J (pre ++ [x]) W' ∧ KpC Bs b off len W W') ∨ (e = .returned (.bool false) ∧ Jx (pre ++ [x]) W'))
  (W:World) (hBs:W.cell? ⟨Bs,0,none⟩ = some (.slice A len cap)) (hc:∀ j,j < len * 4 → W.cell? ⟨b,off + j,none⟩ = some (xs j)) (h0:J [] W) :
  CallsIn F n Tryz.prog 226 #[.func (.yield l) #[] #[],.pointer (some ⟨Bs,0,none⟩)] W fun e W'=>(∃ v,e = .returned v) ∧
   ((∃ ys,ys.map Fin.val = downTo len len ∧ J ys W') ∨ (∃ pre,True ∧ Jx pre W')):=by
 have hw0:IntKind.i64.wrap ((len:Int) - 1) = (len:Int) - 1:=wrap_in (by omega) (by omega)
 refine callsIn_of_wp Tryz.func226 rfl hf ?_ hro
 simp only [Tryz.ntmps226,List.size_toArray,List.length_cons,List.length_nil,Nat.reduceAdd,Nat.reduceSub,Array.replicate_succ,Array.replicate_zero,List.push_toArray,List.append_toArray,List.nil_append,List.cons_append]
 gi_wp2
 gi_loopw [3] (fun i wr=>∃ (k:Nat) (pre:List (Fin len)),k ≤ len ∧ i = .int .i64 ((len:Int) - 1 - k) ∧ pre.map Fin.val = downTo len k ∧ J pre wr ∧ KpC Bs b off len W wr)
  (fun i _=>(intOf i + 1).toNat)
 case atStart=>exact ⟨0,[],Nat.zero_le _,by simp [hw0],rfl,h0,KpC.refl _ _ _ _ _⟩
 case round=>
  obtain ⟨k,pre,hk,rfl,hpre,hJs,hnx⟩:=hrel
  have hBx:=hnx.1 _ hBs
  by_cases hlt:k < len
  ·have hcx:∀ j,j < len * 4 → wr.cell? ⟨b,off + j,none⟩ = some (xs j):=fun j h=>hnx.2 j h _ (hc j h)
   obtain ⟨m,hm,hmm⟩:∃ m,m < len ∧ len - 1 - k = m:=⟨_,by omega,rfl⟩
   obtain ⟨fn,tmps,assign,body,hy,hR⟩:=hY _ ⟨m,hm⟩ wr hJs (by rw [← List.length_map (f:=Fin.val),hpre,downTo_length];exact hlt)
   have e:(len:Int) - 1 - k = (m:Int):=by omega
   have hpre':(pre ++ [(⟨m,hm⟩:Fin len)]).map Fin.val = downTo len (k + 1):=by rw [List.map_append,hpre,downTo_succ,hmm];rfl
   obtain rfl:=hA (by omega)
   rw [e]
   have c0:=hcx (m * 4) (by omega)
   have c1:=hcx (m * 4 + 1) (by omega)
   have c2:=hcx (m * 4 + 2) (by omega)
   have c3:=hcx (m * 4 + 3) (by omega)
   rw [← Nat.add_assoc] at c1 c2 c3
   unfold cellsOf4 at hy
   dsimp only at hy
   gi_wp2
   refine hR.mono ?_
   rintro e W3 (⟨rfl,hJ3,hk3⟩ | ⟨rfl,hJx3⟩)
   ·gi_wp2
    go_roundw
    case rel=>exact ⟨k + 1,_,by omega,by simp only [Value.int.injEq,true_and];omega,hpre',hJ3,hnx.trans hk3⟩
    case measure=>simp [intOf]
   ·gi_wp2
    refine bodyPost_ret (results_none rfl _ _ _) rfl ?_
    exact ⟨⟨_,rfl⟩,.inr ⟨_,trivial,hJx3⟩⟩
  ·obtain rfl:k = len:=by omega
   have e:(k:Int) - 1 - k = -1:=by omega
   rw [e]
   gi_wp2
   go_end0
   exact ⟨⟨_,rfl⟩,.inl ⟨_,hpre,hJs⟩⟩
set_option maxHeartbeats 1000000 in
theorem back_inT (F:Fence) (n:Nat) (hf:F.fn 137) (hro:F.round = none) (a:Option Addr) (len cap:Nat) (w:World) :
  CallsIn F n Tryz.prog 137 #[.slice a len cap] w fun e w'=>e = .returned (.func (.func 226) #[] #[.pointer (some ⟨w.heap.size,0,none⟩)]) ∧ w' = w.alloc (.cells #[.slice a len cap] 28):=by
 refine callsIn_of_wp Tryz.func137 rfl hf ?_ hro
 simp only [Tryz.ntmps137,List.size_toArray,List.length_cons,List.length_nil,Nat.reduceAdd,Nat.reduceSub,Array.replicate_succ,Array.replicate_zero,List.push_toArray,List.append_toArray,List.nil_append,List.cons_append]
 gi_wp2
 go_ret
 exact ⟨rfl,rfl⟩
theorem back_stopsT (F:Fence) (n:Nat) (hf:F.fn 226) (hro:F.round = none) (hn:1 ≤ n) (Bs n₀ b off len cap:Nat) (A:Option Addr) (hA:0 < len → A = some ⟨b,off,none⟩) (xs:Nat → Value) (hreach:len ≤ 1000000) (hb:0 < len → b < n₀) (w:World) (hBw:Bs < w.heap.size) (hn₀:n₀ ≤ w.heap.size)
  (hBs:w.cell? ⟨Bs,0,none⟩ = some (.slice A len cap)) (hc:∀ j,j < len * 4 → w.cell? ⟨b,off + j,none⟩ = some (xs j)) :
  SeqStopsK F n Tryz.prog 226 #[.pointer (some ⟨Bs,0,none⟩)] (fun x:Fin len=>#[.int .i64 (x.1:Nat),cellsOf4 xs x.1]) (KpC Bs b off len) (fun ys=>ys.map Fin.val = downTo len len) (fun _=>True) len w:=fun l J Jx W hW _ _ hY h0=>by
 refine back1_inT F n hf hro hn l Bs n₀ b off len cap A hA xs hreach hb J Jx hY W ((hW.cell (p:=⟨Bs,0,none⟩) hBw).trans hBs) (fun j hj=>?_) h0
 have hb':=hb (by omega)
 exact (hW.cell (p:=⟨b,off + j,none⟩) (by show b < _;omega)).trans (hc j hj)
end Go.Proofs.YtpcmcfajfnpjeaaGreatDoor
namespace Go.Lamb
open Go Go.RowKit
def openI (i:Nat):List Typ → Typ → Typ
 | [],t=>t
 | u :: l,t=>substM 0 (shiftM 0 i u) (openI (i + 1) l t)
end Go.Lamb
namespace Go.Proofs.YtpcmcfajfnpjeaaGreatDoor
open Go.RowKit Go.Shelf Go.Lamb
attribute [local go_sem] Oper.semAt_some
def ZSt (us:List Typ) (z0:Typ) (pre:List (_root_.Fin us.length)) (z:Typ):Prop:=z = pre.foldl (fun z x=>substM 0 (shiftM 0 (x.1:Nat) us[x]) z) z0
def opC (z:Typ):H:=[.cells [I z.k,S z.name,I z.n,.c (tysC z.l)],.cells [I 0,S [],I 0,.csl []]]
def OpI (w0:World) (κ:K) (σ:H) (w:World) (us:List Typ) (z0:Typ) (pre:List (_root_.Fin us.length)) (W:World):Prop:=
 ∃ κ1 z,Rep w0 κ1 (σ ++ opC z) W ∧ κ.le κ1 ∧ κ1.pos σ.length = w.heap.size ∧ κ1.pos (σ.length + 1) = w.heap.size + 1 ∧ ZSt us z0 pre z ∧ w.heap.size + 3 ≤ W.heap.size
theorem lies_le {w0 w W:World} {κ κ1:K} {σ L:H} (h:Rep w0 κ σ w) (hle:κ.le κ1) (h1:Rep w0 κ1 (σ ++ L) W) {b:Nat} (hb:b < σ.length):(σ[b]).lies κ1 b = (σ[b]).lies κ b:=by
 have x:=h.blk b hb
 have y:=h1.blk b (by simp;omega)
 rw [List.getElem_append_left hb] at y
 have hn:b < κ.n:=by rw [h.n];exact hb
 cases hσ:σ[b] with
 | cells cs tg=>
   rw [hσ] at x
   simp [Blk.lies,(hle.cells b hn x.fr).2]
 | spare e size n=>
   rw [hσ] at x y
   obtain ⟨f',q1,q2,q3,q4⟩:=hle.spare b n hn x.fr
   have:f' = n:=by have:=y.fr;rw [q1] at this;injection this
   simp only [Blk.lies,q3 this]
 | mp kvs=>
   rw [hσ] at x
   simp [Blk.lies,(hle.cells b hn x.fr).2]
 | vec e size cs=>
   rw [hσ] at x
   simp [Blk.lies,(hle.cells b hn x.fr).2]
 | gone=>rfl
theorem op_far {w0 w W:World} {κ κ1:K} {σ:H} {z:Typ} (h:Rep w0 κ σ w) (hle:κ.le κ1) (h1:Rep w0 κ1 (σ ++ opC z) W) (p0:κ1.pos σ.length = w.heap.size) (p1:κ1.pos (σ.length + 1) = w.heap.size + 1) {b g:Nat} (hb:b < (σ ++ opC z).length) (hl:((σ ++ opC z)[b]).lies κ1 b = some g) :
  g < w.heap.size + 2 ∧ (w.heap.size ≤ g → ∃ vs t,W.heap[g]? = some (.cells vs t (0,0))):=by
 rcases Nat.lt_or_ge b σ.length with hb' | hb'
 ·rw [List.getElem_append_left hb',lies_le h hle h1 hb'] at hl
  have:=(h.lies_lt hb' hl).2
  exact ⟨by omega,fun _=>by omega⟩
 ·have hy:=h1.blk b hb
  have hb2:b - σ.length < 2:=by simp [opC] at hb;omega
  rw [List.getElem_append_right hb'] at hl hy
  rcases (by omega:b = σ.length ∨ b = σ.length + 1) with rfl | rfl
  ·simp only [Nat.sub_self,opC,List.getElem_cons_zero] at hl hy
   obtain ⟨vs,t,k1,_⟩:=hy.row
   have e:κ1.pos σ.length = g:=by simpa [Blk.lies] using hl
   rw [e] at k1
   exact ⟨by omega,fun _=>⟨vs,t,k1⟩⟩
  ·simp only [Nat.add_sub_cancel_left,opC,List.getElem_cons_succ,List.getElem_cons_zero] at hl hy
   obtain ⟨vs,t,k1,_⟩:=hy.row
   have e:κ1.pos (σ.length + 1) = g:=by simpa [Blk.lies] using hl
   rw [e] at k1
   exact ⟨by omega,fun _=>⟨vs,t,k1⟩⟩
theorem opI_own {w0 w:World} {κ:K} {σ:H} (hrep:Rep w0 κ σ w) {us:List Typ} {z0:Typ} {B:Nat} (hB:w.heap.size ≤ B):OwnFrom B (OpI w0 κ σ w us z0):=by
 rintro pre W W' row ⟨κ1,z,h1,hle,p0,p1,h6,h7⟩ hg hr
 refine ⟨κ1,z,h1.kept hg (fun r e=>⟨Nat.le_trans hrep.ext.size (Nat.le_trans hB (hr r e).1),(hr r e).2⟩) (fun b hb g hl e=>?_) (fun l o hk e=>?_),hle,p0,p1,h6,Nat.le_trans h7 hg.size⟩
 ·obtain ⟨f1,f2⟩:=op_far hrep hle h1 p0 p1 hb hl
  obtain ⟨q1,o,q2,q3⟩:=hr g e
  obtain ⟨vs,t,q4⟩:=f2 (by omega)
  rw [q4] at q2
  injection q2 with q2
  rw [← q2] at q3
  cases q3
 ·rw [hle.rest] at hk
  have:=(Array.getElem?_eq_some_iff.1 (hrep.rest l o hk).1).1
  have:=(hr l e).1
  omega
theorem opI_start {w0 w:World} {κ:K} {σ:H} (hrep:Rep w0 κ σ w) (us:List Typ) (z0:Typ) (t0 t1 t2 t3:Value) (ht:TyCells κ.m z0 t0 t1 t2 t3) (o:Obj) :
  OpI w0 κ σ w us z0 [] (((w.alloc (.cells #[t0,t1,t2,t3] 30)).alloc (.cells #[.int .i64 0,.string ⟨#[]⟩,.int .i64 0,.slice none 0 0] 30)).alloc o):=by
 obtain ⟨h1,_⟩:=hrep.box (cs:=[I z0.k,S z0.name,I z0.n,.c (tysC z0.l)]) (vs:=[t0,t1,t2,t3]) 30 (tg:=none) (fun T h=>by cases h) rfl rfl (fun j hj=>by
  rcases (by simp at hj;omega:j = 0 ∨ j = 1 ∨ j = 2 ∨ j = 3) with rfl | rfl | rfl | rfl
  ·exact .c ht.1
  ·exact .c ht.2.1
  ·exact .c ht.2.2.1
  ·exact .c ht.2.2.2)
 obtain ⟨h2,_⟩:=h1.box (cs:=[I 0,S [],I 0,.csl []]) (vs:=[.int .i64 0,.string ⟨#[]⟩,.int .i64 0,.slice none 0 0]) 30 (tg:=none) (fun T h=>by cases h) rfl rfl (fun j hj=>by
  rcases (by simp at hj;omega:j = 0 ∨ j = 1 ∨ j = 2 ∨ j = 3) with rfl | rfl | rfl | rfl
  ·exact .c (.int _ _)
  ·exact .c (.str [] (by decide))
  ·exact .c (.int _ _)
  ·exact .csl (RC.sl [] 0 none 0 [] (fun r hr=>by cases hr) (by simp) (by decide) rfl (fun h=>absurd rfl h) (fun i hi=>by simp at hi)))
 have h3:=h2.alloc o
 rw [List.append_assoc] at h3
 refine ⟨_,z0,h3,K.le_trans K.more_le K.more_le,?_,?_,rfl,by simp⟩
 ·simp [K.more,hrep.n]
 ·simp [K.more,hrep.n]
end Go.Proofs.YtpcmcfajfnpjeaaGreatDoor
namespace Go.Proofs.YtpcmcfajfnpjeaaGreatDoor
open Go Go.RowKit Go.Lamb
theorem applyM_assoc {f:Typ} {a b:List Typ} (ha:a ≠ []):applyM (applyM f a) b = applyM f (a ++ b):=by
 cases a with
 | nil=>exact absurd rfl ha
 | cons x a=>
   cases b with
   | nil=>rw [applyM_nil,List.append_nil]
   | cons y b=>
     rw [applyM_cons f x a,applyM_cons _ y b,List.cons_append,applyM_cons f x (a ++ y :: b)]
     rw [if_pos ⟨rfl,by rw [tl_mk];simp⟩,tl_mk]
     simp [List.append_assoc]
theorem walk_app {f:Typ → Int → Typ} {k:Int} {t:Typ} (hv:validM t = true) (h6:t.k = 6):walkM f k t = applyM (walkM f k (t.l.headD .none)) (t.l.tail.map (walkM f k)):=by
 obtain ⟨e1,e2,a,b,l,hl,ha⟩:=valid_app hv h6
 rw [walkM_eq,if_neg (by omega),if_pos h6,hl,List.headD_cons,List.tail_cons,List.map_cons,List.map_cons,withM]
 by_cases hk:(walkM f k a).k = 6
 ·rw [if_pos ⟨h6,by simp,by simpa using hk,by rw [hl];simpa using ha⟩]
  rfl
 ·rw [if_neg (fun h=>hk (by simpa using h.2.2.1)),h6,e1,e2,applyM_plain hk]
theorem walk_lam {f:Typ → Int → Typ} {k:Int} {t:Typ} (hv:validM t = true) (h5:t.k = 5):walkM f k t = .mk 5 [] 0 (t.l.map (walkM f (k + 1))):=by
 obtain ⟨e1,e2,_⟩:=valid_lam hv h5
 rw [walkM_eq,if_pos h5,withM,if_neg (fun h=>by have:=h.1;omega),h5,e1,e2]
theorem walk_leaf {f:Typ → Int → Typ} {k:Int} {t:Typ} (h5:t.k ≠ 5) (h6:t.k ≠ 6):walkM f k t = f t k:=by
 rw [walkM_eq,if_neg h5,if_neg h6]
theorem walk_apply (g:Typ → Int → Typ) (k:Int) {x:Typ} (hx:validM x = true) {ys:List Typ} (hy:ys ≠ []) (hyv:∀ u ∈ ys,validM u = true):walkM g k (applyM x ys) = applyM (walkM g k x) (ys.map (walkM g k)):=by
 have hv:=applyM_valid hx hyv
 have h6:(applyM x ys).k = 6:=by unfold applyM;rw [if_neg hy];rfl
 rw [walk_app hv h6]
 by_cases hk:x.k = 6
 ·rw [walk_app hx hk]
  obtain ⟨_,_,a,b,l,hl,ha⟩:=valid_app hx hk
  have e:(applyM x ys).l = a :: (b :: l ++ ys):=by
   unfold applyM
   rw [if_neg hy,tl_mk,if_pos ⟨hk,by rw [hl];simp⟩,hl]
   rfl
  rw [e,hl,List.headD_cons,List.tail_cons,List.headD_cons,List.tail_cons,applyM_assoc (by simp),List.map_append]
 ·have e:(applyM x ys).l = x :: ys:=by
   unfold applyM
   rw [if_neg hy,tl_mk,if_neg (fun h=>hk h.1)]
   rfl
  rw [e,List.headD_cons,List.tail_cons]
theorem walk_valid {Q:Typ → Prop} (hQ:∀ t,Q t → validM t = true ∧ ∀ u ∈ t.l,Q u) {f:Typ → Int → Typ} {k0 D:Int} (hf:∀ u (d:Int),k0 ≤ d → d ≤ D → Q u → u.k ≠ 5 → u.k ≠ 6 → validM (f u d) = true) (t:Typ):∀ k,k0 ≤ k → k + nodesM t ≤ D → Q t → validM (walkM f k t) = true:=by
 refine Typ.ind (P:=fun t=>∀ k,k0 ≤ k → k + nodesM t ≤ D → Q t → validM (walkM f k t) = true) (fun t ih k hk hD hq=>?_) t
 obtain ⟨hv,hqk⟩:=hQ t hq
 have hdn:∀ x ∈ t.l,k + nodesM x ≤ D ∧ k + 1 + nodesM x ≤ D:=fun x hx=>by have:=nodesM_mem hx;omega
 have hp:=nodesM_pos t
 by_cases h5:t.k = 5
 ·rw [walk_lam hv h5]
  obtain ⟨_,_,b,hl⟩:=valid_lam hv h5
  rw [hl]
  exact valid_mkLam (ih b (by rw [hl];simp) (k + 1) (by omega) (hdn b (by rw [hl];simp)).2 (hqk b (by rw [hl];simp)))
 ·by_cases h6:t.k = 6
  ·rw [walk_app hv h6]
   obtain ⟨_,_,a,b,l,hl,ha⟩:=valid_app hv h6
   rw [hl]
   refine applyM_valid (ih a (by rw [hl];simp) k hk (hdn a (by rw [hl];simp)).1 (hqk a (by rw [hl];simp))) (fun u hu=>?_)
   obtain ⟨x,hx,rfl⟩:=List.mem_map.1 hu
   have hx':x ∈ t.l:=by rw [hl];exact List.mem_cons_of_mem _ hx
   exact ih x hx' k hk (hdn x hx').1 (hqk x hx')
  ·rw [walk_leaf h5 h6]
   exact hf t k hk (by omega) hq h5 h6
theorem walk_walk {Q:Typ → Prop} (hQ:∀ t,Q t → validM t = true ∧ ∀ u ∈ t.l,Q u) {f g h:Typ → Int → Typ} {j k0 D:Int} (hfv:∀ u (d:Int),k0 ≤ d → d ≤ D → Q u → u.k ≠ 5 → u.k ≠ 6 → validM (f u d) = true) (hh:∀ u (d:Int),k0 ≤ d → d ≤ D → Q u → u.k ≠ 5 → u.k ≠ 6 → walkM g (j + d) (f u d) = h u d) (t:Typ):∀ k,k0 ≤ k → k + nodesM t ≤ D → Q t → walkM g (j + k) (walkM f k t) = walkM h k t:=by
 refine Typ.ind (P:=fun t=>∀ k,k0 ≤ k → k + nodesM t ≤ D → Q t → walkM g (j + k) (walkM f k t) = walkM h k t) (fun t ih k hk hD hq=>?_) t
 obtain ⟨hv,hqk⟩:=hQ t hq
 have hdn:∀ x ∈ t.l,k + nodesM x ≤ D ∧ k + 1 + nodesM x ≤ D:=fun x hx=>by have:=nodesM_mem hx;omega
 have hp:=nodesM_pos t
 by_cases h5:t.k = 5
 ·rw [walk_lam hv h5,walk_lam hv h5]
  obtain ⟨_,_,b,hl⟩:=valid_lam hv h5
  have hb:=hqk b (by rw [hl];simp)
  have hbv:=walk_valid hQ hfv b (k + 1) (by omega) (hdn b (by rw [hl];simp)).2 hb
  rw [hl,List.map_cons,List.map_nil,walk_lam (valid_mkLam hbv) rfl,tl_mk,List.map_cons,List.map_nil,List.map_cons,List.map_nil]
  have:=ih b (by rw [hl];simp) (k + 1) (by omega) (hdn b (by rw [hl];simp)).2 hb
  rw [← Int.add_assoc] at this
  rw [this]
 ·by_cases h6:t.k = 6
  ·rw [walk_app hv h6,walk_app hv h6]
   obtain ⟨_,_,a,b,l,hl,ha⟩:=valid_app hv h6
   have hkv:∀ x ∈ t.l,validM (walkM f k x) = true:=fun x hx=>walk_valid hQ hfv x k hk (hdn x hx).1 (hqk x hx)
   rw [hl] at hkv
   rw [hl,List.headD_cons,List.tail_cons,walk_apply g (j + k) (hkv a (by simp)) (by simp) (fun u hu=>by
    obtain ⟨x,hx,rfl⟩:=List.mem_map.1 hu
    exact hkv x (List.mem_cons_of_mem _ hx)),ih a (by rw [hl];simp) k hk (hdn a (by rw [hl];simp)).1 (hqk a (by rw [hl];simp)),List.map_map]
   congr 1
   refine List.map_congr_left fun x hx=>?_
   have hx':x ∈ t.l:=by rw [hl];exact List.mem_cons_of_mem _ hx
   exact ih x hx' k hk (hdn x hx').1 (hqk x hx')
  ·rw [walk_leaf h5 h6,walk_leaf h5 h6]
   exact hh t k hk (by omega) hq h5 h6
def Nr (m:Int) (t:Typ):Prop:=validM t = true ∧ nearM m t = true
theorem Nr.her (m:Int):∀ t,Nr m t → validM t = true ∧ ∀ u ∈ t.l,Nr m u:=fun t h=>⟨h.1,fun u hu=>⟨valid_kids h.1 u hu,near_kids h.2 u hu⟩⟩
/-! ### opened at once -/
def openFn (us:List Typ):Typ → Int → Typ:=fun u k=>if u.k = 3 ∧ u.n ≥ k then (if u.n < k + us.length then shiftM 0 k (us.getD (us.length - 1 - (u.n - k).toNat) .none) else .mk 3 [] (u.n - us.length) []) else u
theorem openFn_lt {us:List Typ} {u:Typ} {d:Int} (h3:u.k = 3) (h1:u.n ≥ d) (h2:u.n < d + us.length):openFn us u d = shiftM 0 d (us.getD (us.length - 1 - (u.n - d).toNat) .none):=by
 unfold openFn;rw [if_pos ⟨h3,h1⟩,if_pos h2]
theorem openFn_ge {us:List Typ} {u:Typ} {d:Int} (h3:u.k = 3) (h1:u.n ≥ d) (h2:¬ u.n < d + us.length):openFn us u d = .mk 3 [] (u.n - us.length) []:=by
 unfold openFn;rw [if_pos ⟨h3,h1⟩,if_neg h2]
def openM (us:List Typ) (k:Int) (t:Typ):Typ:=walkM (openFn us) k t
theorem bound_parts {u:Typ} (hv:validM u = true) (h3:u.k = 3):u.name = [] ∧ u.l = [] ∧ 0 ≤ u.n ∧ u.n ≤ 4611686018427387904:=by
 have hn:=valid_node hv
 unfold nodeM at hn
 simp [h3] at hn
 exact ⟨hn.1.2,hn.2,hn.1.1.1,hn.1.1.2⟩
theorem mk_bound {u:Typ} (hv:validM u = true) (h3:u.k = 3):u = .mk 3 [] u.n []:=by
 obtain ⟨e1,e2,_,_⟩:=bound_parts hv h3
 cases u
 simp only [tk_mk,tname_mk,tl_mk,tn_mk] at *
 subst h3 e1 e2
 rfl
theorem shiftF_near {m b:Int} (hb:0 ≤ b) (hm:m + b ≤ 4611686018427387904) {u:Typ} {d:Int} (hd:0 ≤ d) (hv:validM u = true) (hn:nearM m u = true) (h5:u.k ≠ 5) (h6:u.k ≠ 6):validM (shiftF 0 b u d) = true:=by
 have hl:=valid_leaf hv h5 h6
 unfold shiftF
 split
 ·rename_i h
  obtain ⟨e1,e2,e3,e4⟩:=bound_parts hv h.1
  have:=near_node hn (by omega)
  refine valid_of ?_ (fun x hx=>by rw [tl_mk,hl] at hx;cases hx)
  simp [nodeM,tk_mk,tn_mk,tl_mk,tname_mk,h.1,e1,e2]
  omega
 ·exact hv
theorem shift_shift {m a b:Int} (ha:0 ≤ a) (hb:0 ≤ b) (hmb:m + a ≤ 4611686018427387904) (u:Typ) (hu:Nr m u):shiftM 0 b (shiftM 0 a u) = shiftM 0 (a + b) u:=by
 have h:=walk_walk (Nr.her m) (f:=shiftF 0 a) (g:=shiftF 0 b) (h:=shiftF 0 (a + b)) (j:=0) (k0:=0) (D:=nodesM u) (fun v d hd _ hq h5 h6=>shiftF_near ha hmb hd hq.1 hq.2 h5 h6) (fun v d hd _ hq h5 h6=>?_) u 0 (Int.le_refl _) (by omega) hu
 ·rw [Int.zero_add] at h
  exact h
 ·rw [Int.zero_add]
  unfold shiftF
  by_cases h3:v.k = 3 ∧ v.n ≥ d + 0
  ·rw [if_pos h3,if_pos h3,walk_leaf (by rw [tk_mk];exact h5) (by rw [tk_mk];exact h6),if_pos ⟨by rw [tk_mk];exact h3.1,by rw [tn_mk];omega⟩,tk_mk,tname_mk,tn_mk,tl_mk,Int.add_assoc]
  ·rw [if_neg h3,if_neg h3,walk_leaf h5 h6,if_neg h3]
theorem open_shift {us:List Typ} {m j:Int} (hj:0 ≤ j) (hmb:m + (j + us.length) ≤ 4611686018427387904) (u:Typ) (hu:Nr m u):walkM (openFn us) j (shiftM 0 (us.length + j) u) = shiftM 0 j u:=by
 have h:=walk_walk (Nr.her m) (f:=shiftF 0 (us.length + j)) (g:=openFn us) (h:=shiftF 0 j) (j:=j) (k0:=0) (D:=nodesM u) (fun v d hd _ hq h5 h6=>shiftF_near (by omega) (by omega) hd hq.1 hq.2 h5 h6) (fun v d hd _ hq h5 h6=>?_) u 0 (Int.le_refl _) (by omega) hu
 ·rw [Int.add_zero] at h
  exact h
 ·unfold shiftF
  by_cases h3:v.k = 3 ∧ v.n ≥ d + 0
  ·have hb:=mk_bound hq.1 h3.1
   rw [if_pos h3,if_pos h3,walk_leaf (by rw [tk_mk];exact h5) (by rw [tk_mk];exact h6)]
   unfold openFn
   rw [if_pos ⟨by rw [tk_mk];exact h3.1,by rw [tn_mk];omega⟩,if_neg (by rw [tn_mk];omega),tn_mk]
   obtain ⟨e1,e2,_,_⟩:=bound_parts hq.1 h3.1
   rw [h3.1,e1,e2]
   congr 1
   omega
  ·rw [if_neg h3,if_neg h3,walk_leaf h5 h6]
   unfold openFn
   rw [if_neg (fun h=>h3 ⟨h.1,by omega⟩)]
theorem subst_valid {s:Typ} {m b:Int} (hs:Nr m s) (hm0:0 ≤ m) (hmb:m + b ≤ 4611686018427387904) {u:Typ} {d:Int} (hd:0 ≤ d) (hd':d ≤ b) (hv:validM u = true):validM (substF 0 s u d) = true:=by
 unfold substF
 split
 ·exact hv
 ·rename_i h
  have h3:u.k = 3:=by omega
  obtain ⟨e1,e2,e3,e4⟩:=bound_parts hv h3
  split
  ·exact (shift_valid (Int.le_refl _) hd hm0 (by omega) _ 0 (Int.le_refl _) hs.1 hs.2).1
  ·refine valid_of ?_ (fun x hx=>by rw [tl_mk,e2] at hx;cases hx)
   simp [nodeM,tk_mk,tn_mk,tl_mk,tname_mk,h3,e1,e2]
   omega
theorem openM_snoc {us:List Typ} {u:Typ} {m:Int} (hu:Nr m u) (hm0:0 ≤ m) (hmb:m ≤ 4611686000000000000) (t:Typ) (ht:Nr m t) (hlen:us.length ≤ 100) (hnt:nodesM t ≤ 12000000000):openM (us ++ [u]) 0 t = openM us 0 (substM 0 (shiftM 0 us.length u) t):=by
 have hsh:=shift_valid (a:=0) (b:=us.length) (m:=m) (Int.le_refl _) (by omega) hm0 (by omega) u 0 (Int.le_refl _) hu.1 hu.2
 have h:=walk_walk (Nr.her m) (f:=substF 0 (shiftM 0 us.length u)) (g:=openFn us) (h:=openFn (us ++ [u])) (j:=0) (k0:=0) (D:=nodesM t) (fun v d hd hdD hq h5 h6=>subst_valid (b:=12000000000) hsh (by omega) (by omega) hd (by omega) hq.1) (fun v d hd hdD hq h5 h6=>?_) t 0 (Int.le_refl _) (by omega) ht
 ·rw [Int.zero_add] at h
  exact h.symm
 ·rw [Int.zero_add]
  unfold substF
  by_cases h3:v.k ≠ 3 ∨ v.n < d + 0
  ·rw [if_pos h3,walk_leaf h5 h6]
   unfold openFn
   rw [if_neg (fun h=>by omega),if_neg (fun h=>by omega)]
  ·rw [if_neg h3]
   have hv3:v.k = 3:=by omega
   have hge:v.n ≥ d:=by omega
   have hL:(us ++ [u]).length = us.length + 1:=by simp
   by_cases he:v.n = d + 0
   ·rw [if_pos he]
    have hs1:=shift_shift (m:=m) (a:=us.length) (b:=d) (by omega) hd (by omega) u hu
    rw [hs1,open_shift (m:=m) hd (by omega) u hu]
    unfold openFn
    rw [if_pos ⟨hv3,hge⟩,hL,if_pos (by omega)]
    have e:us.length + 1 - 1 - (v.n - d).toNat = us.length:=by omega
    rw [e,List.getD_eq_getElem?_getD,List.getElem?_append_right (Nat.le_refl _),Nat.sub_self]
    rfl
   ·rw [if_neg he,walk_leaf (by rw [tk_mk];omega) (by rw [tk_mk];omega)]
    by_cases hlt:v.n - 1 < d + us.length
    ·rw [openFn_lt (by rw [tk_mk];exact hv3) (by rw [tn_mk];omega) (by rw [tn_mk];exact hlt),openFn_lt hv3 hge (by rw [hL];omega),hL,tn_mk]
     have e1:us.length + 1 - 1 - (v.n - d).toNat = us.length - 1 - (v.n - 1 - d).toNat:=by omega
     have e2:us.length - 1 - (v.n - 1 - d).toNat < us.length:=by omega
     rw [e1,List.getD_eq_getElem?_getD,List.getD_eq_getElem?_getD,List.getElem?_append_left e2]
    ·rw [openFn_ge (by rw [tk_mk];exact hv3) (by rw [tn_mk];omega) (by rw [tn_mk];exact hlt),openFn_ge hv3 hge (by rw [hL];omega),hL,tn_mk]
     congr 1
     omega
theorem openM_nodes {us:List Typ} {C:Nat} (hC:1 ≤ C) (hb:∀ u ∈ us,nodesM u ≤ C) (t:Typ) (j:Nat):nodesM (walkM (openFn us) (j:Int) t) ≤ C * nodesM t:=by
 refine nodesM_walk hC (fun v k _ _=>?_) t j
 have hv1:=nodesM_pos v
 have hv:nodesM v ≤ C * nodesM v:=Nat.le_mul_of_pos_left _ hC
 unfold openFn
 split
 ·split
  ·rename_i h hlt
   have hq:us.length - 1 - (v.n - k).toNat < us.length:=by omega
   rw [List.getD_eq_getElem?_getD,List.getElem?_eq_getElem hq,Option.getD_some]
   exact Nat.le_trans (shift_nodes 0 k _ 0) (Nat.le_trans (hb _ (List.getElem_mem hq)) (Nat.le_mul_of_pos_right _ hv1))
  ·have e:nodesM (.mk 3 [] (v.n - us.length) []) = 1:=by rw [nodesM_mk];rfl
   rw [e]
   exact Nat.le_trans hv1 hv
 ·exact hv
end Go.Proofs.YtpcmcfajfnpjeaaGreatDoor
namespace Go.Proofs.YtpcmcfajfnpjeaaGreatDoor
open Go.RowKit Go.Shelf Go.Lamb
attribute [local go_sem] Oper.semAt_some
theorem opI_step {w0 w W:World} {κ:K} {σ:H} (hrep:Rep w0 κ σ w) {us:List Typ} {z0:Typ} {pre:List (_root_.Fin us.length)} {c:Code} {l m:Nat} (htr:tr Tryz.prog 16 c = some cOpenBody) (hfc:flatC c = true) (hI:OpI w0 κ σ w us z0 pre W) (x:_root_.Fin us.length)
  (hbd:∀ z,ZSt us z0 pre z → nearM 2305843009213693952 z = true ∧ nodesM z ≤ 12000000000 ∧ nodesM us[x] * nodesM z ≤ 12000000000) (hx1:x.1 ≤ 30000000000) (hu:nearM 2305843009213693952 us[x] = true) (hsu:nearM 2305843009213693952 (shiftM 0 (x.1:Nat) us[x]) = true) (nu:nodesM us[x] ≤ 12000000000)
  (u0 u1 u2 u3:Value) (hx:TyCells κ.m us[x] u0 u1 u2 u3) (Bx:Nat) (hBx:w.heap.size + 3 ≤ Bx) (e0:W.cell? ⟨Bx,0,none⟩ = some u0) (e1:W.cell? ⟨Bx,1,none⟩ = some u1) (e2:W.cell? ⟨Bx,2,none⟩ = some u2) (e3:W.cell? ⟨Bx,3,none⟩ = some u3)
  (a:Act) (hsz:a.tmps.size = 16) (hd:a.defers = []) (g2:a.tmps.getD 2 undef = .pointer (some ⟨w.heap.size,0,none⟩)) (g4:a.tmps.getD 4 undef = .int .i64 (x.1:Nat)) (g5:a.tmps.getD 5 undef = .pointer (some ⟨Bx,0,none⟩)) :
  c.wpIn (inR l) m Tryz.prog (fun e _ W2=>e = .normal ∧ KeepsFrom w.heap.size W W2 ∧ (∀ b o v,κ.m b o = some v → W2.cell? ⟨b,o,none⟩ = some v) ∧ (∀ o v,W.cell? ⟨w.heap.size + 2,o,none⟩ = some v → W2.cell? ⟨w.heap.size + 2,o,none⟩ = some v) ∧ OpI w0 κ σ w us z0 (pre ++ [x]) W2) a W:=by
 obtain ⟨κ1,z,h1,hle1,p0,p1,hz,hsW⟩:=hI
 obtain ⟨b1,b2,b3⟩:=hbd z hz
 have hn1:κ1.n = σ.length + 2:=by rw [h1.n];simp [opC]
 have far:∀ g,w.heap.size + 2 ≤ g → ∀ b (hb:b < (σ ++ opC z).length),((σ ++ opC z)[b]).lies κ1 b ≠ some g:=fun g hg b hb e=>by
  have:=(op_far hrep hle1 h1 p0 p1 hb e).1
  omega
 have h2:=h1.learnA (g:=Bx) (far Bx (by omega))
 have l2:κ1.le (κ1.learn W Bx):=K.learn_le h1
 have far2:∀ g,w.heap.size + 2 ≤ g → ∀ b (hb:b < (σ ++ opC z).length),((σ ++ opC z)[b]).lies (κ1.learn W Bx) b ≠ some g:=fun g hg b hb e=>far g hg b hb e
 have q0:(κ1.learn W Bx).pos σ.length = w.heap.size:=p0
 have q1:(κ1.learn W Bx).pos (σ.length + 1) = w.heap.size + 1:=p1
 generalize hκ2:κ1.learn W Bx = κ2 at h2 l2 far2 q0 q1
 have h3:=h2.learnA (g:=w.heap.size + 2) (far2 _ (Nat.le_refl _))
 have l3:κ2.le (κ2.learn W (w.heap.size + 2)):=K.learn_le h2
 have mx:∀ o v,W.cell? ⟨Bx,o,none⟩ = some v → (κ2.learn W (w.heap.size + 2)).m Bx o = some v:=fun o v hv=>by
  refine l3.m _ _ _ ?_
  rw [← hκ2]
  show (if Bx = Bx then _ else _) = _
  rw [if_pos rfl];exact hv
 have ms:∀ o v,W.cell? ⟨w.heap.size + 2,o,none⟩ = some v → (κ2.learn W (w.heap.size + 2)).m (w.heap.size + 2) o = some v:=fun o v hv=>by
  show (if w.heap.size + 2 = w.heap.size + 2 then _ else _) = _
  rw [if_pos rfl];exact hv
 generalize hκ3:κ2.learn W (w.heap.size + 2) = κ3 at h3 l3 mx ms
 have s0:κ3.pos σ.length = w.heap.size:=by rw [← hκ3];exact q0
 have s1:κ3.pos (σ.length + 1) = w.heap.size + 1:=by rw [← hκ3];exact q1
 have l13:κ1.le κ3:=K.le_trans l2 l3
 have l03:κ.le κ3:=K.le_trans hle1 l13
 have h4:=h3.setRestA (r:=fun k=>if w.heap.size ≤ k then (W.heap[k]?).bind (fun o=>if o.isCells then none else some o) else κ3.rest k) (lm:=W.heap.size) (fun k o e=>by
  split at e
  ·cases hk:W.heap[k]? with
   | none=>rw [hk] at e;cases e
   | some o'=>
     rw [hk] at e
     simp only [Option.bind_some] at e
     split at e
     ·cases e
     ·rename_i hc
      injection e with e
      subst e
      refine ⟨rfl,by simpa using hc,fun b hb e2=>?_⟩
      obtain ⟨vs,t,q4⟩:=(op_far hrep l03 h3 s0 s1 hb e2).2 (by assumption)
      rw [q4] at hk
      injection hk with hk
      rw [← hk] at hc
      exact hc rfl
  ·exact h3.rest k o e) (Nat.le_refl _)
 have hrest:∀ k o,w.heap.size ≤ k → W.heap[k]? = some o → o.isCells = false → ({ κ3 with rest:=fun k=>if w.heap.size ≤ k then (W.heap[k]?).bind (fun o=>if o.isCells then none else some o) else κ3.rest k,lim:=W.heap.size }:K).rest k = some o:=fun k o hk ho hc=>by
  show (if _ then _ else _) = _
  rw [if_pos hk,ho]
  simp [hc]
 generalize hκ4:({ κ3 with rest:=fun k=>if w.heap.size ≤ k then (W.heap[k]?).bind (fun o=>if o.isCells then none else some o) else κ3.rest k,lim:=W.heap.size }:K) = κ4 at h4 hrest
 have v0:κ4.pos σ.length = w.heap.size:=by rw [← hκ4];exact s0
 have v1:κ4.pos (σ.length + 1) = w.heap.size + 1:=by rw [← hκ4];exact s1
 have hm4:κ4.m = κ3.m:=by rw [← hκ4]
 have hlm:κ4.lim = W.heap.size:=by rw [← hκ4]
 have hn4:κ4.n = σ.length + 2:=by rw [h4.n];simp [opC]
 have hmm:κ.m.le κ4.m:=by rw [hm4];exact l03.m
 have hxx:=hx.mono hmm
 have fr0:κ4.fr σ.length = none:=by
  have:=h4.blk σ.length (by simp [opC])
  rw [List.getElem_append_right (Nat.le_refl _)] at this
  simp only [Nat.sub_self,opC,List.getElem_cons_zero] at this
  exact this.fr
 have fr1:κ4.fr (σ.length + 1) = none:=by
  have:=h4.blk (σ.length + 1) (by simp [opC])
  rw [List.getElem_append_right (by omega)] at this
  simp only [Nat.add_sub_cancel_left,opC,List.getElem_cons_succ,List.getElem_cons_zero] at this
  exact this.fr
 have hRel:Rel w0 κ4 16 κ4 ⟨(((base.put (some 2) (.ptr σ.length 0)).put (some 4) (I (x.1:Nat))).put (some 5) (.c (.ref [.int .i64 us[x].k,.str us[x].name,.int .i64 us[x].n,.sl (us[x].l.map Typ.cs)] 0))),σ ++ opC z⟩ a W:=by
  refine ⟨h4,fun k=>?_,hsz,hd,K.le_refl _⟩
  simp only [put_some]
  by_cases k5:k = 5
  ·subst k5
   simp only [if_true,g5]
   have m0:=mx 0 _ e0
   have m1:=mx 1 _ e1
   have m2:=mx 2 _ e2
   have m3:=mx 3 _ e3
   rw [← hm4] at m0 m1 m2 m3
   exact .c (RC.ref [.int .i64 us[x].k,.str us[x].name,.int .i64 us[x].n,.sl (us[x].l.map Typ.cs)] 0 Bx 0 [u0,u1,u2,u3] rfl (fun k hk=>by
    rcases (by simp at hk;omega:k = 0 ∨ k = 1 ∨ k = 2 ∨ k = 3) with rfl | rfl | rfl | rfl
    ·exact m0
    ·exact m1
    ·exact m2
    ·exact m3) (fun k hk=>by
    rcases (by simp at hk;omega:k = 0 ∨ k = 1 ∨ k = 2 ∨ k = 3) with rfl | rfl | rfl | rfl
    ·exact hxx.1
    ·exact hxx.2.1
    ·exact hxx.2.2.1
    ·exact hxx.2.2.2))
  ·by_cases k4:k = 4
   ·subst k4
    simp [g4]
    exact .c (.int _ _)
   ·by_cases k2:k = 2
    ·subst k2
     simp [g2]
     rw [← v0]
     exact RV.ptr (κ:=κ4) (b:=σ.length) (o:=0) (by omega) fr0
    ·simp [k5,k4,k2]
     exact .any _
 have:=code_soundR (l:=l) (m:=m) hn4 (by kernel_rfl) c cOpenBody htr hfc (open_body w0 σ z us[x] x.1 hx1 (.cells [I 0,S [],I 0,.csl []]) b1 hu hsu nu b2 b3) hRel
 refine wpIn_mono this ?_
 rintro e a2 W2 ⟨s,κ5,hR5,hQ⟩
 cases e with
 | normal=>
   obtain ⟨t,hl,hJ⟩:=Lamb.W.inv_inv hQ
   obtain ⟨κ6,hR6⟩:=hl w0 κ4 16 κ5 a2 W2 hn4 hR5
   have rep:=hR6.rep
   have le:=hR6.le
   rw [hJ] at rep
   have lim:=rep.lim
   rw [le.lim,hlm] at lim
   refine ⟨rfl,⟨lim,fun k o hk ho hc=>?_⟩,?_,fun o v hv=>?_,?_⟩
   ·exact (rep.rest k o (by rw [le.rest];exact hrest k o hk ho hc)).1
   ·exact fun b o v hv=>rep.mem _ _ _ (le.m _ _ _ (hmm _ _ _ hv))
   ·exact rep.mem _ _ _ (le.m _ _ _ (by rw [hm4];exact ms o v hv))
   ·have h6:=rep.setRestA (r:=κ.rest) (lm:=κ.lim) (fun k o hk=>by
     have k0:=hk
     have hk1:κ3.rest k = some o:=by rw [l03.rest];exact hk
     obtain ⟨a1,a2,a3⟩:=h3.rest k o hk1
     have hlt:k < w.heap.size:=(Array.getElem?_eq_some_iff.1 (hrep.rest k o k0).1).1
     have hk6:κ6.rest k = some o:=by
      rw [le.rest,← hκ4]
      show (if _ then _ else _) = _
      rw [if_neg (by omega)]
      exact hk1
     exact rep.rest k o hk6) (Nat.le_trans hrep.lim (by omega))
    have l46:({ κ3 with rest:=κ.rest,lim:=κ.lim }:K).le { κ6 with rest:=κ.rest,lim:=κ.lim }:=⟨by rw [← hκ4] at le;exact le.m,by rw [← hκ4] at le;exact le.n,by rw [← hκ4] at le;exact le.cells,by rw [← hκ4] at le;exact le.spare,by rw [← hκ4] at le;exact le.svs,rfl,rfl⟩
    have l36:κ.le { κ6 with rest:=κ.rest,lim:=κ.lim }:=K.le_trans (b:={ κ3 with rest:=κ.rest,lim:=κ.lim }) ⟨l03.m,l03.n,l03.cells,l03.spare,l03.svs,rfl,rfl⟩ l46
    refine ⟨{ κ6 with rest:=κ.rest,lim:=κ.lim },_,h6,l36,?_,?_,?_,Nat.le_trans hsW lim⟩
    ·exact (le.cells σ.length (by omega) fr0).2.trans v0
    ·exact (le.cells (σ.length + 1) (by omega) fr1).2.trans v1
    ·unfold ZSt at hz ⊢
     rw [List.foldl_append,← hz]
     rfl
 | exit id=>exact absurd hQ.choose_spec.1 (by simp [popTo])
 | ret=>exact hQ.elim
 | goto l=>exact hQ.elim
 | panic c=>exact hQ.elim
 | outgrown=>exact hQ.elim
end Go.Proofs.YtpcmcfajfnpjeaaGreatDoor
namespace Go.Proofs.YtpcmcfajfnpjeaaGreatDoor
open Go.RowKit Go.Shelf Go.Lamb
attribute [local go_sem] Oper.semAt_some
theorem openI_snoc (u:Typ):∀ (us:List Typ) (i:Nat) (t:Typ),openI i (us ++ [u]) t = openI i us (substM 0 (shiftM 0 ((i + us.length:Nat):Int) u) t)
 | [],i,t=>rfl
 | x :: us,i,t=>by
   rw [List.cons_append,openI,openI,openI_snoc u us (i + 1) t,List.length_cons,Nat.add_assoc i 1,Nat.add_comm 1]
theorem fold_same {α β:Type} {f g:β → α → β}:∀ (l:List α) (z:β),(∀ z x,x ∈ l → f z x = g z x) → l.foldl f z = l.foldl g z
 | [],z,h=>rfl
 | x :: l,z,h=>by
   rw [List.foldl_cons,List.foldl_cons,h z x (List.mem_cons_self ..)]
   exact fold_same l _ (fun z y hy=>h z y (List.mem_cons_of_mem _ hy))
theorem down_cons (n:Nat):downTo (n + 1) (n + 1) = n :: downTo n n:=by
 unfold downTo
 rw [List.range_succ_eq_map,List.map_cons,List.map_map]
 congr 1
 refine List.map_congr_left fun j hj=>?_
 simp only [Function.comp]
 omega
theorem down_mem {n i:Nat} (h:i ∈ downTo n n):i < n:=by
 unfold downTo at h
 obtain ⟨j,hj,rfl⟩:=List.mem_map.1 h
 have:=List.mem_range.1 hj
 omega
theorem down_fold:∀ (n:Nat) (us:List Typ),us.length = n → ∀ z,(downTo n n).foldl (fun z i=>substM 0 (shiftM 0 (i:Nat) (us.getD i .none)) z) z = openI 0 us z
 | 0,us,hn,z=>by
   obtain rfl:=List.eq_nil_of_length_eq_zero hn
   rfl
 | n + 1,us,hn,z=>by
   have hne:us ≠ []:=fun e=>by rw [e] at hn;cases hn
   obtain ⟨vs,u,rfl⟩:∃ vs u,us = vs ++ [u]:=⟨us.dropLast,us.getLast hne,(List.dropLast_concat_getLast hne).symm⟩
   have hvn:vs.length = n:=by rw [List.length_append,List.length_cons,List.length_nil] at hn;omega
   have e:(vs ++ [u]).getD n .none = u:=by
    rw [List.getD_eq_getElem?_getD,List.getElem?_append_right (by omega),hvn,Nat.sub_self];rfl
   rw [down_cons,List.foldl_cons,e,openI_snoc,Nat.zero_add,hvn,← down_fold n vs hvn]
   refine fold_same _ _ (fun z i hi=>?_)
   have:=down_mem hi
   have e2:(vs ++ [u]).getD i .none = vs.getD i .none:=by
    rw [List.getD_eq_getElem?_getD,List.getElem?_append_left (by omega),← List.getD_eq_getElem?_getD]
   rw [e2]
theorem open_z (us:List Typ) (z0:Typ) (ys:List (_root_.Fin us.length)) (hS:ys.map Fin.val = downTo us.length us.length):ys.foldl (fun z x=>substM 0 (shiftM 0 (x.1:Nat) us[x]) z) z0 = openI 0 us z0:=by
 rw [← down_fold us.length us rfl,← hS,List.foldl_map]
 refine fold_same _ _ (fun z x _=>?_)
 have e:us.getD x.1 .none = us[x]:=by
  rw [List.getD_eq_getElem?_getD,List.getElem?_eq_getElem x.2];rfl
 rw [e]
set_option maxRecDepth 100000 in
set_option maxHeartbeats 4000000 in
theorem open_run {w0 w:World} {κ:K} {σ:H} (hrep:Rep w0 κ σ w) (z0:Typ) (us:List Typ) (hl:us.length ≤ 1000)
  (hbd:∀ (pre:List (_root_.Fin us.length)) (z:Typ) (x:_root_.Fin us.length),pre.length < us.length → ZSt us z0 pre z → (nearM 2305843009213693952 z = true ∧ nodesM z ≤ 12000000000 ∧ nodesM us[x] * nodesM z ≤ 12000000000) ∧ nearM 2305843009213693952 us[x] = true ∧ nearM 2305843009213693952 (shiftM 0 (x.1:Nat) us[x]) = true ∧ nodesM us[x] ≤ 12000000000)
  (A:Option Addr) (len cap:Nat) (t0 t1 t2 t3:Value) (ht:TyCells κ.m z0 t0 t1 t2 t3) (pc:Nat) (po:Nat) (hpc:w.cell? ⟨pc,po,none⟩ = some (.slice A len cap)) (hfv:RC κ.m (tysC us) (.slice A len cap)) :
  Calls Tryz.prog 136 #[.agg #[t0,t1,t2,t3],.pointer (some ⟨pc,po,none⟩)] w (fun e w'=>∃ v κ',e = .returned v ∧ κ.le κ' ∧ Rep w0 κ' σ w' ∧ RV κ' (openI 0 us z0).v v):=by
 obtain ⟨rfl,xs,hx,hxs⟩:=rows_cells hfv
 obtain ⟨b,off,hA,hm⟩:∃ b off,(0 < us.length → A = some ⟨b,off,none⟩) ∧ (0 < us.length → ∀ k,k < us.length * 4 → κ.m b (off + k) = some (xs k)):=by
  by_cases h:0 < us.length
  ·obtain ⟨b,o,e,h'⟩:=hx h
   exact ⟨b,o,fun _=>e,fun _=>h'⟩
  ·exact ⟨0,0,fun h'=>absurd h' h,fun h'=>absurd h' h⟩
 have hm':∀ k,k < us.length * 4 → w.cell? ⟨b,off + k,none⟩ = some (xs k):=fun k hk=>hrep.mem _ _ _ (hm (by omega) k hk)
 have hb:0 < us.length → b < w.heap.size:=fun h=>hrep.mem_lt (hm h 0 (by omega))
 have hpl:pc < w.heap.size:=cell_lt hpc
 refine (callsIn_wide (n:=3)).1 ?_
 refine callsIn_of_wp_marks Tryz.func136 rfl trivial ?_ rfl
 simp only [Tryz.ntmps136,List.size_toArray,List.length_cons,List.length_nil,Nat.reduceAdd,Nat.reduceSub,Array.replicate_succ,Array.replicate_zero,List.push_toArray,List.append_toArray,List.nil_append,List.cons_append]
 have hpc1:∀ o1 o2,((w.alloc o1).alloc o2).cell? ⟨pc,po,none⟩ = some (.slice A us.length cap):=fun o1 o2=>cell_alloc_l _ (cell_alloc_l _ hpc)
 gi_wp2_with (refine ⟨trivial,?_⟩;gi_at_call 137;refine (back_inT Fence.wide 2 trivial rfl _ _ _ _).mono ?_;rintro e w' ⟨rfl,rfl⟩)
 obtain ⟨W0,hW0⟩:∃ W0,(((w.alloc (.cells #[t0,t1,t2,t3] 30)).alloc (.cells #[.int .i64 0,.string ⟨#[]⟩,.int .i64 0,.slice none 0 0] 30)).alloc (.cells #[.slice A us.length cap] 28)) = W0:=⟨_,rfl⟩
 have hI0:OpI w0 κ σ w us z0 [] W0:=hW0 ▸ opI_start hrep us z0 t0 t1 t2 t3 ht _
 rw [hW0]
 have hsz:W0.heap.size = w.heap.size + 3:=by rw [← hW0];simp
 have hBel:Below w.heap.size w W0:=by
  rw [← hW0]
  exact (((Below.refl _ w).alloc (Nat.le_refl _) _).alloc (by simp) _).alloc (by simp;omega) _
 have hcD:W0.cell? ⟨w.heap.size + 1 + 1,0,none⟩ = some (.slice A us.length cap):=by
  rw [← hW0]
  exact World.cell?_alloc_at _ _ _ _ (by simp)
 refine wpIn_rangeFunc_ownH rfl (by omega) (gf:=226) (lb:=#[.pointer (some ⟨w.heap.size + 1 + 1,0,none⟩)]) rfl trivial (enters_of Tryz.func226 (by kernel_rfl) rfl)
  (back_stopsT Fence.wide 2 trivial rfl (by omega) (w.heap.size + 1 + 1) w.heap.size b off us.length cap A hA xs (by omega) hb W0 (by omega) (by omega) hcD (fun j hj=>(hBel.cell (p:=⟨b,off + j,none⟩) (hb (by omega))).trans (hm' j hj)))
  KpC.trans (fun W l o o' _ h hc _=>KpC.turn W l o o' h hc) (Below.refl _ _) (fun _=>rfl)
  (OpI w0 κ σ w us z0)
  (fun _ _ _=>False) (opI_own hrep (by omega)) (fun _ _ _ _ _ h=>h.elim) hI0
  (fun x a' W=>∃ Bx,w.heap.size + 3 ≤ Bx ∧ W.cell? ⟨Bx,0,none⟩ = some (xs (x.1 * 4)) ∧ W.cell? ⟨Bx,1,none⟩ = some (xs (x.1 * 4 + 1)) ∧ W.cell? ⟨Bx,2,none⟩ = some (xs (x.1 * 4 + 2)) ∧ W.cell? ⟨Bx,3,none⟩ = some (xs (x.1 * 4 + 3)) ∧ a' = { tmps:=#[.agg #[t0,t1,t2,t3],.pointer (some ⟨pc,po,none⟩),.pointer (some ⟨w.heap.size,0,none⟩),.pointer (some ⟨w.heap.size + 1,0,none⟩),.int .i64 (x.1:Nat),.pointer (some ⟨Bx,0,none⟩),.slice A us.length cap,.func (.func 226) #[] #[.pointer (some ⟨w.heap.size + 1 + 1,0,none⟩)],.int .i64 (x.1:Nat),cellsOf4 xs x.1,undef,undef,undef,undef,undef,undef],defers:=[] }) ?hAx ?assign ?body ?done ?stop
 case stop=>
  rintro D c pre W _ _ h _
  exact h.elim
 case hAx=>
  rintro x a' _ W W' row ⟨Bx,h1,h2,h3,h4,h5,h6⟩ hg hr
  have hr':∀ r,row = some r → ∃ o:Obj,W.heap[r]? = some o ∧ o.isCells = false:=fun r e=>(hr r e).2
  exact ⟨Bx,h1,cell_kept h2 hg hr',cell_kept h3 hg hr',cell_kept h4 hg hr',cell_kept h5 hg hr',h6⟩
 case assign=>
  intro l pre x W K hi hK
  obtain ⟨k0,k1,k2,k3⟩:=hxs x.1 x.2
  have o0:=k0.one
  have o1:=k1.one
  have o2:=k2.one
  have o3:=k3.one
  have r0:=fun (W:World) (a:Addr)=>run_store Tryz.prog W a _ .plain o0
  have r1:=fun (W:World) (a:Addr)=>run_store Tryz.prog W a _ .plain o1
  have r2:=fun (W:World) (a:Addr)=>run_store Tryz.prog W a _ .plain o2
  have r3:=fun (W:World) (a:Addr)=>run_store Tryz.prog W a _ .plain o3
  have hsW:w.heap.size + 3 ≤ W.heap.size:=by obtain ⟨_,_,_,_,_,_,_,h⟩:=hi;exact h
  unfold cellsOf4
  gi_wp2
  refine hK _ _ ((KeepsOthers.alloc _ _).from _) ⟨fun v e=>cell_alloc_l _ e,fun j _ v e=>cell_alloc_l _ e⟩ (opI_own hrep (Nat.le_refl _) _ _ _ none hi (World.grownBy_alloc W _ none) (fun r e=>by cases e)) ⟨W.heap.size,hsW,?_,?_,?_,?_,rfl⟩
  all_goals exact World.cell?_alloc_at _ _ _ _ rfl
 case body=>
  rintro l pre x a' W hl2 hrec hI ⟨Bx,hBx,e0,e1,e2,e3,rfl⟩ hlt
  obtain ⟨_,b4,b5,b6⟩:=hbd pre _ x hlt rfl
  refine wpIn_mono (opI_step hrep (l:=l) (m:=3 - 1 - 1) (by kernel_rfl) (by kernel_rfl) hI x (fun z hz=>(hbd pre z x hlt hz).1) (by have:=x.2;omega) b4 b5 b6 _ _ _ _ (hxs x.1 x.2) Bx hBx e0 e1 e2 e3 _ rfl rfl rfl rfl rfl) ?_
  rintro e a2 W2 ⟨rfl,q1,q2,q3,q4⟩
  refine ⟨⟨q1.size,fun k o hk=>q1.same k o (by omega)⟩,⟨fun v hv=>q3 0 v hv,fun j hj v hv=>?_⟩,q4⟩
  obtain ⟨κ1,z,h1,hle,_⟩:=hI
  have hmm:=hm (by omega) j hj
  have:=h1.mem _ _ _ (hle.m _ _ _ hmm)
  rw [this] at hv
  injection hv with hv
  subst hv
  exact q2 _ _ _ hmm
 case done=>
  rintro D ys W hD hS ⟨κ1,z,h1,hle,p0,p1,hz,hsW⟩ hK
  have y0:=h1.blk σ.length (by simp [opC])
  rw [List.getElem_append_right (Nat.le_refl _)] at y0
  simp only [Nat.sub_self,opC,List.getElem_cons_zero] at y0
  have y1:=h1.blk (σ.length + 1) (by simp [opC])
  rw [List.getElem_append_right (by omega)] at y1
  simp only [Nat.add_sub_cancel_left,opC,List.getElem_cons_succ,List.getElem_cons_zero] at y1
  have y1free:=y1.free
  obtain ⟨vs,T,k1,k2,k3⟩:=y0.row
  obtain ⟨us',T',k1',k2',k3'⟩:=y1.row
  rw [p0] at k1
  rw [p1] at k1'
  have hvs:vs.size = 4:=k2
  have hus:us'.size = 4:=k2'
  have cz:TyCells κ1.m z (vs.getD 0 undef) (vs.getD 1 undef) (vs.getD 2 undef) (vs.getD 3 undef):=by
   have a0:=(k3 0 (by simp)).2
   have a1:=(k3 1 (by simp)).2
   have a2:=(k3 2 (by simp)).2
   have a3:=(k3 3 (by simp)).2
   simp only [List.getElem_cons_zero,List.getElem_cons_succ] at a0 a1 a2 a3
   generalize vs.getD 0 undef = c0 at *
   generalize vs.getD 1 undef = c1 at *
   generalize vs.getD 2 undef = c2 at *
   generalize vs.getD 3 undef = c3 at *
   cases a0 with | c a0=>cases a1 with | c a1=>cases a2 with | c a2=>cases a3 with | c a3=>exact ⟨a0,a1,a2,a3⟩
  have q:∀ j,j < 4 → W.cell? ⟨w.heap.size,j,none⟩ = some (vs.getD j undef):=fun j hj=>by
   rw [Lib.cell_of_heap k1 j,Array.getElem?_eq_getElem (by omega)]
   simp [Array.getD,hvs,hj]
  have q0:=q 0 (by omega)
  have q1:=q 1 (by omega)
  have q2:=q 2 (by omega)
  have q3:=q 3 (by omega)
  have g:∀ j,j < 4 → W.cell? ⟨w.heap.size + 1,j,none⟩ = some (us'.getD j undef):=fun j hj=>by
   rw [Lib.cell_of_heap k1' j,Array.getElem?_eq_getElem (by omega)]
   simp [Array.getD,hus,hj]
  have g0:=g 0 (by omega)
  have g1:=g 1 (by omega)
  have g2:=g 2 (by omega)
  have g3:=g 3 (by omega)
  have e0:=Lib.frozen_of_heap k1' 0
  have e1:=Lib.frozen_of_heap k1' 1
  have e2:=Lib.frozen_of_heap k1' 2
  have e3:=Lib.frozen_of_heap k1' 3
  generalize vs.getD 0 undef = c0 at *
  generalize vs.getD 1 undef = c1 at *
  generalize vs.getD 2 undef = c2 at *
  generalize vs.getD 3 undef = c3 at *
  have o0:=cz.1.one
  have o1:=cz.2.1.one
  have o2:=cz.2.2.1.one
  have o3:=cz.2.2.2.one
  have r0:=fun (W:World) (a:Addr)=>run_store Tryz.prog W a _ .plain o0
  have r1:=fun (W:World) (a:Addr)=>run_store Tryz.prog W a _ .plain o1
  have r2:=fun (W:World) (a:Addr)=>run_store Tryz.prog W a _ .plain o2
  have r3:=fun (W:World) (a:Addr)=>run_store Tryz.prog W a _ .plain o3
  clear q g k3 k3' y0 y1 hxs hx hm hm'
  gi_wp2
  have hK':(set4 W (w.heap.size + 1) c0 c1 c2 c3).heap[D]? = some (.deferred (some [])):=(set4_keeps (W:=W) (B:=w.heap.size + 1) (a:=c0) (b:=c1) (c:=c2) (d:=c3)).same D _ hK rfl
  obtain ⟨n0,n1,n2,n3⟩:=set4_in (a:=c0) (b:=c1) (c:=c2) (d:=c3) g0 g1 g2 g3
  refine ⟨by simp,.inl ⟨_,_,rfl,run_takeDeferred hK',?_⟩⟩
  have hp:∀ {a:Addr} {v:Value},(set4 W (w.heap.size + 1) c0 c1 c2 c3).cell? a = some v → ((set4 W (w.heap.size + 1) c0 c1 c2 c3).putObj D (.deferred none)).cell? a = some v:=fun h=>cell_kept h (grownBy_putObj' _ D (.deferred none)) (fun r e=>by cases e;exact ⟨_,hK',rfl⟩)
  have hws:=hrep.ext.size
  have hcut:=h1.cut σ.length (by simp) (by rw [List.take_left];exact hrep.ok)
  rw [List.take_left] at hcut
  have hlow:∀ b (hb:b < σ.length) gg,(σ[b]).lies (κ1.cut σ.length) b = some gg → gg < w.heap.size:=fun b hb gg hl2=>by
   have e:(σ[b]).lies (κ1.cut σ.length) b = (σ[b]).lies κ b:=lies_le hrep hle h1 hb
   rw [e] at hl2
   exact (hrep.lies_lt hb hl2).2
  have hrst:∀ k o,(κ1.cut σ.length).rest k = some o → k < w.heap.size:=fun k o hk=>by
   have hk2:κ1.rest k = some o:=hk
   rw [hle.rest] at hk2
   exact (Array.getElem?_eq_some_iff.1 (hrep.rest k o hk2).1).1
  have hpk:=hcut.poke (w':=set4 W (w.heap.size + 1) c0 c1 c2 c3) (g:=w.heap.size + 1) ⟨rfl,rfl,rfl,by rw [set4_size];exact Nat.le_refl _,fun k hk hne=>by
   have hne:k ≠ w.heap.size + 1:=fun e=>hne (by rw [e])
   unfold set4 World.setCell
   simp [Array.getElem?_modify,Ne.symm hne]⟩ (set4_below h1.ext (by omega)) (fun o=>by rw [← p1];exact y1free o) (fun b hb hl2=>by have:=hlow b hb _ hl2;omega) (by
   cases hk:(κ1.cut σ.length).rest (w.heap.size + 1) with
   | none=>rfl
   | some o=>have:=hrst _ _ hk;omega)
  have hkp:=hpk.kept (grownBy_putObj' (set4 W (w.heap.size + 1) c0 c1 c2 c3) D (.deferred none)) (fun r e=>by cases e;exact ⟨by omega,_,hK',rfl⟩) (fun b hb gg hl2 e=>by injection e with e;have:=hlow b hb _ hl2;omega) (fun k o hk e=>by injection e with e;have:=hrst k o hk;omega)
  change LeavesInM _ _ _ _ _ _ _ _ ((set4 W (w.heap.size + 1) c0 c1 c2 c3).putObj D (.deferred none))
  generalize hWf:(set4 W (w.heap.size + 1) c0 c1 c2 c3).putObj D (.deferred none) = Wf at *
  have u0:=hp n0
  have u1:=hp n1
  have u2:=hp n2
  have u3:=hp n3
  have hres:(loadVar 30 ⟨w.heap.size + 1,0,none⟩).run Tryz.prog Wf = .ok (.agg #[c0,c1,c2,c3]) Wf:=by
   obtain ⟨i0,hi,hz0,hz1,hz2⟩:=info_parts tmInfo
   have:=run_loadCells (P:=Tryz.prog) Wf ⟨w.heap.size + 1,0,none⟩ 4 (fun j=>[c0,c1,c2,c3].getD j undef) (fun j hj=>by
    rw [add_lit,Nat.zero_add]
    rcases (by omega:j = 0 ∨ j = 1 ∨ j = 2 ∨ j = 3) with rfl | rfl | rfl | rfl
    ·exact u0
    ·exact u1
    ·exact u2
    ·exact u3)
   simp only [loadVar,Sem.run_bind,Sem.run_pure,Result.andThen_ok,Go.Lamb.run_isAgg Tryz.underlying30,isAggD,if_true,Go.Lamb.run_sizeOf hi,hz1,this]
   rfl
  refine ⟨.agg #[c0,c1,c2,c3],by simp [results,Tryz.f136,asAddr,hres],_,κ1.cut σ.length,rfl,K.cut_le hle (by rw [hrep.n];exact Nat.le_refl _),hkp,?_⟩
  have hzz:z = openI 0 us z0:=by
   rw [hz]
   exact open_z us z0 ys hS
  rw [← hzz]
  refine RV.agg (xs:=[c0,c1,c2,c3]) rfl fun j hj=>?_
  rcases (by simp at hj;omega:j = 0 ∨ j = 1 ∨ j = 2 ∨ j = 3) with rfl | rfl | rfl | rfl
  ·exact .c cz.1
  ·exact .c cz.2.1
  ·exact .c cz.2.2.1
  ·exact .c cz.2.2.2
end Go.Proofs.YtpcmcfajfnpjeaaGreatDoor
namespace Go.Proofs.YtpcmcfajfnpjeaaGreatDoor
open Go.RowKit Go.Shelf Go.Lamb
theorem clause_Open2G (w0:World) (z0:Typ) (us:List Typ) (hl:us.length ≤ 1000)
  (hbd:∀ (pre:List (_root_.Fin us.length)) (z:Typ) (x:_root_.Fin us.length),pre.length < us.length → ZSt us z0 pre z → (nearM 2305843009213693952 z = true ∧ nodesM z ≤ 12000000000 ∧ nodesM us[x] * nodesM z ≤ 12000000000) ∧ nearM 2305843009213693952 us[x] = true ∧ nearM 2305843009213693952 (shiftM 0 (x.1:Nat) us[x]) = true ∧ nodesM us[x] ≤ 12000000000)
  (σ:H) (b o:Nat) (cs:List V) (tg:Option TypeId) (hb:σ[b]? = some (.cells cs tg)) (y:V) (hy:cs[o]? = some y) (hw:V.wk y (.c (tysC us))):DC Tryz.prog w0 136 [z0.v,.ptr b o] σ (Same (openI 0 us z0).v σ):=by
 refine ⟨enters_fn Tryz.func136 (by kernel_rfl) rfl,fun κ w vs hrep hfit=>?_⟩
 obtain ⟨v,ys,rfl,hv,hfit⟩:=hfit.cons_inv
 obtain ⟨u,zs,rfl,hu,hfit⟩:=hfit.cons_inv
 have:=hfit.nil_inv
 subst this
 have hu':u = .pointer (some ⟨κ.pos b,o,none⟩):=by cases hu;rfl
 subst hu'
 obtain ⟨hlt,hb'⟩:=List.getElem?_eq_some_iff.1 hb
 obtain ⟨hlo,ho'⟩:=List.getElem?_eq_some_iff.1 hy
 have hblk:=hrep.blk b hlt
 rw [hb'] at hblk
 obtain ⟨vs,T,k1,k2,k3⟩:=hblk.row
 have hk:=(k3 o hlo).2
 rw [ho'] at hk
 have hk:=RV.wk hw hk
 have hc:w.cell? ⟨κ.pos b,o,none⟩ = some (vs.getD o undef):=by
  rw [Lib.cell_of_heap k1 o,Array.getElem?_eq_getElem (by omega)]
  simp [Array.getD,k2,hlo]
 generalize vs.getD o undef = q at hk hc
 unfold Typ.v at hv
 cases hv with
 | agg h h1=>
   rename_i xs
   match xs,h with
   | [x0,x1,x2,x3],_=>
     have e0:=h1 0 (by simp)
     have e1:=h1 1 (by simp)
     have e2:=h1 2 (by simp)
     have e3:=h1 3 (by simp)
     cases hk with
     | c hk=>
       have hk':=hk
       unfold tysC at hk
       cases hk with
       | sl rows s A cap xs h0 h1 h2 h3 h4 h5=>
         cases e0 with
         | c e0=>
           cases e1 with
           | c e1=>
             cases e2 with
             | c e2=>
               cases e3 with
               | c e3=>
                 refine (open_run hrep z0 us hl hbd A _ cap _ _ _ _ ⟨e0,e1,e2,e3⟩ _ _ hc hk').mono ?_
                 rintro e w' ⟨v,κ',rfl,q1,q2,q3⟩
                 exact ⟨v,_,σ,κ',rfl,⟨rfl,rfl⟩,q1,q2,q3⟩
end Go.Proofs.YtpcmcfajfnpjeaaGreatDoor
namespace Go.Proofs.YtpcmcfajfnpjeaaGreatDoor
open Go Go.RowKit Go.Lamb
theorem pow20 (n:Nat):1 ≤ 20 ^ n:=by
 induction n with
 | zero=>decide
 | succ n ih=>rw [Nat.pow_succ];omega
theorem walk_near {Q:Typ → Prop} (hQ:∀ t,Q t → validM t = true ∧ ∀ u ∈ t.l,Q u) {f:Typ → Int → Typ} {k0 D M:Int} (hM:0 ≤ M) (hf:∀ u (d:Int),k0 ≤ d → d ≤ D → Q u → u.k ≠ 5 → u.k ≠ 6 → nearM M (f u d) = true) (t:Typ):∀ k,k0 ≤ k → k + nodesM t ≤ D → Q t → nearM M (walkM f k t) = true:=by
 refine Typ.ind (P:=fun t=>∀ k,k0 ≤ k → k + nodesM t ≤ D → Q t → nearM M (walkM f k t) = true) (fun t ih k hk hD hq=>?_) t
 obtain ⟨hv,hqk⟩:=hQ t hq
 have hdn:∀ x ∈ t.l,k + nodesM x ≤ D ∧ k + 1 + nodesM x ≤ D:=fun x hx=>by have:=nodesM_mem hx;omega
 have hp:=nodesM_pos t
 by_cases h5:t.k = 5
 ·rw [walk_lam hv h5]
  refine near_of (.inr (by simp [tn_mk];omega)) (fun u hu=>?_)
  rw [tl_mk] at hu
  obtain ⟨x,hx,rfl⟩:=List.mem_map.1 hu
  exact ih x hx (k + 1) (by omega) (hdn x hx).2 (hqk x hx)
 ·by_cases h6:t.k = 6
  ·rw [walk_app hv h6]
   obtain ⟨_,_,a,b,l,hl,ha⟩:=valid_app hv h6
   rw [hl]
   refine applyM_near hM (ih a (by rw [hl];simp) k hk (hdn a (by rw [hl];simp)).1 (hqk a (by rw [hl];simp))) (fun u hu=>?_)
   obtain ⟨x,hx,rfl⟩:=List.mem_map.1 hu
   have hx':x ∈ t.l:=by rw [hl];exact List.mem_cons_of_mem _ hx
   exact ih x hx' k hk (hdn x hx').1 (hqk x hx')
  ·rw [walk_leaf h5 h6]
   exact hf t k hk (by omega) hq h5 h6
theorem subst_keeps {s t:Typ} {C:Nat} (hC:1 ≤ C) (hs:Nr 1099511627790 s) (hsn:nodesM s ≤ C) (ht:Nr 2199023255552 t) (hn:nodesM t ≤ 12000000000):Nr 2199023255552 (substM 0 s t) ∧ nodesM (substM 0 s t) ≤ C * nodesM t:=by
 refine ⟨⟨?_,?_⟩,?_⟩
 ·exact walk_valid (Nr.her 2199023255552) (k0:=0) (D:=12000000000) (fun u d h0 h1 hq h5 h6=>subst_valid (b:=12000000000) hs (by omega) (by omega) h0 h1 hq.1) t 0 (Int.le_refl _) (by omega) ht
 ·refine walk_near (Nr.her 2199023255552) (k0:=0) (D:=12000000000) (by omega) (fun u d h0 h1 hq h5 h6=>?_) t 0 (Int.le_refl _) (by omega) ht
  unfold substF
  split
  ·exact hq.2
  ·rename_i h
   have h3:u.k = 3:=by omega
   obtain ⟨e1,e2,e3,e4⟩:=bound_parts hq.1 h3
   split
   ·exact near_more (by omega) _ (shift_valid (Int.le_refl _) h0 (by omega) (by omega) s 0 (Int.le_refl _) hs.1 hs.2).2
   ·have:=near_node hq.2 (by omega)
    refine near_of (.inr (by rw [tn_mk];omega)) (fun x hx=>by rw [tl_mk,e2] at hx;cases hx)
 ·exact nodesM_walk hC (fun u j h5 h6=>by
   have hu:=nodesM_pos u
   unfold substF
   split
   ·exact Nat.le_mul_of_pos_left _ hC
   split
   ·exact Nat.le_trans (shift_nodes 0 j s 0) (Nat.le_trans hsn (Nat.le_mul_of_pos_right _ hu))
   ·rw [nodesM_mk,← nodesM_eq]
    exact Nat.le_mul_of_pos_left _ hC) t 0
structure OpnU (us:List Typ):Prop where
 len:us.length ≤ 6
 all:∀ u ∈ us,validM u = true ∧ nearM 1099511627776 u = true ∧ nodesM u ≤ 20
theorem OpnU.shift {us:List Typ} (h:OpnU us) {u:Typ} (hu:u ∈ us) {x:Nat} (hx:x ≤ 6):Nr 1099511627790 (shiftM 0 (x:Int) u) ∧ nodesM (shiftM 0 (x:Int) u) ≤ 20:=by
 obtain ⟨h1,h2,h3⟩:=h.all u hu
 have hs:=shift_valid (a:=0) (b:=(x:Int)) (m:=1099511627776) (Int.le_refl _) (by omega) (by omega) (by omega) u 0 (Int.le_refl _) h1 h2
 have hn:=shift_nodes 0 (x:Int) u 0
 exact ⟨⟨hs.1,near_more (by omega) _ hs.2⟩,Nat.le_trans hn h3⟩
theorem opn_fold {us:List Typ} (h:OpnU us):∀ (pre:List (_root_.Fin us.length)) (z:Typ),Nr 2199023255552 z → 20 ^ pre.length * nodesM z ≤ 12000000000 → Nr 2199023255552 (pre.foldl (fun z x=>substM 0 (shiftM 0 (x.1:Nat) us[x]) z) z) ∧ nodesM (pre.foldl (fun z x=>substM 0 (shiftM 0 (x.1:Nat) us[x]) z) z) ≤ 20 ^ pre.length * nodesM z
 | [],z,hz,hn=>⟨hz,by simp⟩
 | x :: pre,z,hz,hn=>by
   have hx:=x.2
   have hl:=h.len
   obtain ⟨s1,s2⟩:=h.shift (us:=us) (u:=us[x]) (List.getElem_mem _) (x:=x.1) (by omega)
   rw [List.length_cons,Nat.pow_succ] at hn ⊢
   have hp:1 ≤ 20 ^ pre.length:=pow20 _
   have hz1:nodesM z ≤ 12000000000:=Nat.le_trans (Nat.le_mul_of_pos_left _ (by omega)) hn
   obtain ⟨k1,k2⟩:=subst_keeps (by decide) s1 s2 hz hz1
   have hb:20 ^ pre.length * nodesM (substM 0 (shiftM 0 (x.1:Nat) us[x]) z) ≤ 20 ^ pre.length * 20 * nodesM z:=by
    rw [Nat.mul_assoc]
    exact Nat.mul_le_mul_left _ k2
   obtain ⟨r1,r2⟩:=opn_fold h pre (substM 0 (shiftM 0 (x.1:Nat) us[x]) z) k1 (Nat.le_trans hb hn)
   exact ⟨r1,Nat.le_trans r2 hb⟩
theorem openI_M:∀ (n:Nat) (us:List Typ),us.length = n → OpnU us → ∀ (z:Typ),Nr 2199023255552 z → 20 ^ n * nodesM z ≤ 12000000000 → openI 0 us z = openM us 0 z
 | 0,us,hn,h,z,hz,hb=>by
   obtain rfl:=List.eq_nil_of_length_eq_zero hn
   show z = openM [] 0 z
   have key:∀ (t:Typ) (k:Int),validM t = true → walkM (openFn []) k t = t:=by
    intro t
    refine Typ.ind (P:=fun t=>∀ k,validM t = true → walkM (openFn []) k t = t) (fun t ih k hv=>?_) t
    by_cases h5:t.k = 5
    ·obtain ⟨e1,e2,b,hl⟩:=valid_lam hv h5
     rw [walk_lam hv h5,hl,List.map_cons,List.map_nil,ih b (by rw [hl];simp) _ (valid_kids hv b (by rw [hl];simp))]
     cases t
     simp only [tk_mk,tname_mk,tn_mk,tl_mk] at *
     subst h5 e1 e2 hl
     rfl
    ·by_cases h6:t.k = 6
     ·obtain ⟨e1,e2,a,b,l,hl,ha⟩:=valid_app hv h6
      have hm:∀ (l:List Typ),(∀ u ∈ l,u ∈ t.l) → l.map (walkM (openFn []) k) = l:=fun l hs=>by
       conv=>rhs;rw [← List.map_id l]
       exact List.map_congr_left (fun u hu=>ih u (hs u hu) k (valid_kids hv u (hs u hu)))
      rw [walk_app hv h6,hl,List.headD_cons,List.tail_cons,ih a (by rw [hl];simp) k (valid_kids hv a (by rw [hl];simp)),hm (b :: l) (fun u hu=>by rw [hl];exact List.mem_cons_of_mem _ hu),applyM_plain ha]
      cases t
      simp only [tk_mk,tname_mk,tn_mk,tl_mk] at *
      subst h6 e1 e2 hl
      rfl
     ·rw [walk_leaf h5 h6]
      unfold openFn
      split
      ·rename_i h
       rw [if_neg (by simp;omega)]
       have:=mk_bound hv h.1
       simp only [List.length_nil,Int.ofNat_zero,Int.natCast_zero,Int.sub_zero]
       exact this.symm
      ·rfl
   exact (key z 0 hz.1).symm
 | n + 1,us,hn,h,z,hz,hb=>by
   have hne:us ≠ []:=fun e=>by rw [e] at hn;cases hn
   obtain ⟨vs,u,rfl⟩:∃ vs u,us = vs ++ [u]:=⟨us.dropLast,us.getLast hne,(List.dropLast_concat_getLast hne).symm⟩
   have hvn:vs.length = n:=by rw [List.length_append,List.length_cons,List.length_nil] at hn;omega
   have hl:=h.len
   rw [hn] at hl
   have hv:OpnU vs:=⟨by omega,fun x hx=>h.all x (List.mem_append_left _ hx)⟩
   obtain ⟨a1,a2,a3⟩:=h.all u (by simp)
   obtain ⟨s1,s2⟩:=h.shift (u:=u) (by simp) (x:=vs.length) (by omega)
   rw [Nat.pow_succ] at hb
   have hp:1 ≤ 20 ^ n:=pow20 _
   have hz1:20 * nodesM z ≤ 12000000000:=by
    rw [Nat.mul_assoc] at hb
    exact Nat.le_trans (Nat.le_mul_of_pos_left _ (by omega)) hb
   obtain ⟨k1,k2⟩:=subst_keeps (by decide) s1 s2 hz (by omega)
   have hb2:20 ^ n * nodesM (substM 0 (shiftM 0 (vs.length:Int) u) z) ≤ 12000000000:=by
    refine Nat.le_trans (Nat.mul_le_mul_left _ k2) ?_
    rw [← Nat.mul_assoc];exact hb
   rw [openI_snoc,Nat.zero_add,openI_M n vs hvn hv _ k1 hb2]
   exact (openM_snoc (m:=2199023255552) ⟨a1,near_more (by omega) _ a2⟩ (by omega) (by omega) z hz (by omega) (by omega)).symm
end Go.Proofs.YtpcmcfajfnpjeaaGreatDoor
namespace Go.Proofs.YtpcmcfajfnpjeaaGreatDoor
open Go.RowKit Go.Lamb
def c220:AC:=.seq (.reg [.o 1 (.box (.t 0)),.o 2 (.box (.k (.agg [.c (.int .i64 0),.c (.str []),.c (.int .i64 0),.csl []]))),.o 3 (.mov (.k (.csl [])))]) (.seq (.seq (.reg [.f 4 0 1,.l 5 4,.o 6 (.bin .neq (.t 5) (.k (.c (.int .i64 6)))),.m 7 6,.z 8 (.loadn 4 (.t 1)) 7,.z 9 (.call (.k (.fn 23 [])) [(.t 8)]) 7,.z 10 (.un .not (.t 9)) 7,.o 11 (.pick (.t 7) (.k (.c (.bool true))) (.t 10))]) (.cond (.t 11) (.seq (.reg [.d 12 4 1,.s 4 2 12,.o 3 (.mov (.k (.csl [])))]) (.ret)) (.skip))) (.seq (.dreg [.f 13 3 1,.l 14 13,.o 15 (.iadd 4 (.t 14) (.k (.c (.int .i64 0)))),.d 16 4 15,.f 17 3 1,.l 18 17,.o 19 (.slr 4 (.t 18) (some (.k (.c (.int .i64 1)))) none none),.k 20 174 [(.t 19)],.s 4 2 16,.m 3 20] [.q (.f 17 3 1),.q (.l 18 17),.q (.o 19 (.slr 4 (.t 18) (some (.k (.c (.int .i64 1)))) none none)),⟨.k 20 174 [(.t 19)],true,0⟩,.q (.f 13 3 1),.q (.l 14 13),.q (.o 15 (.iadd 4 (.t 14) (.k (.c (.int .i64 0))))),.q (.d 16 4 15),⟨.s 4 2 16,true,1⟩,⟨.m 3 20,false,2⟩]) (.ret)))
def r220:List ResV:=[.celln 4 2,.tmp 3]
theorem k220:CodeIs Tryz.prog 220 1 Tryz.f220 c220 r220:=.auto Tryz.func220
def c126:AC:=.seq (.reg [.o 1 (.box (.t 0)),.o 2 (.box (.k (.agg [.c (.int .i64 0),.c (.str []),.c (.int .i64 0),.csl []])))]) (.seq (.block 0 (.seq (.reg [.d 4 4 1,.k 5 23 [(.t 4)],.o 6 (.un .not (.t 5)),.m 3 6]) (.cond (.t 3) (.seq (.reg [.d 7 4 1,.s 4 2 7]) (.ret)) (.seq (.reg [.f 9 0 1,.l 10 9,.o 11 (.bin .eql (.t 10) (.k (.c (.int .i64 5)))),.m 8 11]) (.cond (.t 8) (.seq (.reg [.f 12 3 1,.l 13 12,.o 14 (.iadd 4 (.t 13) (.k (.c (.int .i64 0)))),.d 15 4 14,.s 4 2 15]) (.ret)) (.skip)))))) (.seq (.reg [.d 16 4 1,.k 17 83 [(.t 16),(.k (.c (.int .i64 0))),(.k (.c (.int .i64 1)))],.o 18 (.build [.c (.int .i64 0),.c (.str []),.c (.int .i64 0),.csl []] [(0,1,(.k (.c (.int .i64 3))))]),.o 19 (.bsl 4 [(.t 18)]),.k 20 42 [(.t 17),(.t 19)],.s 4 2 20]) (.ret)))
def r126:List ResV:=[.celln 4 2]
theorem k126:CodeIs Tryz.prog 126 1 Tryz.f126 c126 r126:=.auto Tryz.func126
def c222:AC:=.seq (.reg [.o 2 (.mov (.k (.c (.int .i64 0))))]) (.seq (.seq (.reg [.m 3 0]) (.block 0 (.seq (.seq (.reg [.o 5 (.bin .eql (.t 3) (.k (.c (.str [116,114,117,101])))),.m 4 5]) (.cond (.t 4) (.skip) (.seq (.reg [.o 6 (.bin .eql (.t 3) (.k (.c (.str [102,97,105,108])))),.m 4 6]) (.cond (.t 4) (.skip) (.reg [.o 7 (.bin .eql (.t 3) (.k (.c (.str [33])))),.m 4 7]))))) (.cond (.t 4) (.seq (.reg [.o 2 (.mov (.k (.c (.int .i64 0))))]) (.ret)) (.seq (.seq (.reg [.o 9 (.bin .eql (.t 3) (.k (.c (.str [112,105])))),.m 8 9]) (.cond (.t 8) (.skip) (.reg [.o 10 (.bin .eql (.t 3) (.k (.c (.str [115,105,103,109,97])))),.m 8 10]))) (.cond (.t 8) (.seq (.reg [.o 2 (.mov (.k (.c (.int .i64 1))))]) (.ret)) (.skip))))))) (.seq (.reg [.o 2 (.mov (.k (.c (.int .i64 2))))]) (.ret)))
def r222:List ResV:=[.tmp 2]
theorem k222:CodeIs Tryz.prog 222 1 Tryz.f222 c222 r222:=.auto Tryz.func222
def c125:AC:=.seq (.reg [.o 2 (.box (.t 0)),.o 4 (.mov (.k (.c (.str [])))),.o 5 (.mov (.k (.csl []))),.o 6 (.mov (.k (.c (.int .i64 0))))]) (.seq (.reg [.d 10 4 2,.k 11 220 [(.t 10)],.m 9 11,.x 12 9 0,.x 13 9 1,.o 7 (.box (.k (.agg [.c (.int .i64 0),.c (.str []),.c (.int .i64 0),.csl []]))),.s 4 7 12,.m 8 13]) (.seq (.block 0 (.seq (.reg [.f 15 0 7,.l 16 15,.o 17 (.bin .eql (.t 16) (.k (.c (.int .i64 4)))),.m 18 17,.z 19 (.fadd 0 (.t 7)) 18,.z 20 (.load1 (.t 19)) 18,.z 21 (.bin .eql (.t 20) (.k (.c (.int .i64 3)))) 18,.o 22 (.pick (.t 18) (.k (.c (.bool true))) (.t 21)),.m 14 22]) (.cond (.t 14) (.seq (.reg [.m 23 1,.o 4 (.mov (.k (.c (.str [])))),.o 5 (.mov (.k (.csl []))),.m 6 23]) (.ret)) (.seq (.reg [.f 25 0 7,.l 26 25,.o 27 (.bin .neq (.t 26) (.k (.c (.int .i64 0)))),.m 24 27]) (.cond (.t 24) (.seq (.reg [.o 4 (.mov (.k (.c (.str [])))),.o 5 (.mov (.k (.csl []))),.o 6 (.mov (.k (.c (.int .i64 130))))]) (.ret)) (.seq (.reg [.f 29 1 7,.l 30 29,.k 31 221 [(.t 30)],.o 32 (.un .not (.t 31)),.m 28 32]) (.cond (.t 28) (.seq (.reg [.m 33 8,.o 4 (.mov (.k (.c (.str [])))),.m 5 33,.o 6 (.mov (.k (.c (.int .i64 0))))]) (.ret)) (.seq (.reg [.m 35 8,.o 36 (.lenr (.t 35)),.f 37 1 7,.l 38 37,.k 39 222 [(.t 38)],.o 40 (.bin .neq (.t 36) (.t 39)),.m 34 40]) (.cond (.t 34) (.seq (.reg [.o 4 (.mov (.k (.c (.str [])))),.o 5 (.mov (.k (.csl []))),.o 6 (.mov (.k (.c (.int .i64 130))))]) (.ret)) (.skip)))))))))) (.seq (.reg [.f 41 1 7,.l 42 41,.m 43 8,.m 4 42,.m 5 43,.o 6 (.mov (.k (.c (.int .i64 0))))]) (.ret))))
def r125:List ResV:=[.tmp 4,.tmp 5,.tmp 6]
theorem k125:CodeIs Tryz.prog 125 2 Tryz.f125 c125 r125:=.auto Tryz.func125
def c45:AC:=.seq (.reg [.o 1 (.box (.t 0)),.o 2 (.mov (.k (.c (.int .i64 0))))]) (.seq (.seq (.reg [.d 9 4 1,.k 10 23 [(.t 9)],.o 11 (.un .not (.t 10))]) (.cond (.t 11) (.seq (.reg [.o 2 (.mov (.k (.c (.int .i64 1))))]) (.ret)) (.skip))) (.seq (.reg [.d 13 4 1,.k 14 125 [(.t 13),(.k (.c (.int .i64 133)))],.m 12 14,.x 15 12 0,.x 16 12 1,.x 17 12 2,.m 3 15,.m 4 16,.m 5 17]) (.seq (.seq (.reg [.m 18 5,.o 19 (.bin .neq (.t 18) (.k (.c (.int .i64 0))))]) (.cond (.t 19) (.seq (.reg [.m 20 5,.m 2 20]) (.ret)) (.skip))) (.seq (.seq (.reg [.m 21 3]) (.block 0 (.seq (.reg [.o 23 (.bin .eql (.t 21) (.k (.c (.str [58,45])))),.m 22 23]) (.cond (.t 22) (.seq (.reg [.o 2 (.mov (.k (.c (.int .i64 130))))]) (.ret)) (.seq (.seq (.reg [.o 25 (.bin .eql (.t 21) (.k (.c (.str [44])))),.m 24 25]) (.cond (.t 24) (.skip) (.reg [.o 26 (.bin .eql (.t 21) (.k (.c (.str [59])))),.m 24 26]))) (.cond (.t 24) (.seq (.seq (.reg [.m 27 4,.o 28 (.iadd 4 (.t 27) (.k (.c (.int .i64 0)))),.d 29 4 28,.k 30 45 [(.t 29)],.m 6 30]) (.seq (.reg [.m 31 6,.o 32 (.bin .neq (.t 31) (.k (.c (.int .i64 0))))]) (.cond (.t 32) (.seq (.reg [.m 33 6,.m 2 33]) (.ret)) (.skip)))) (.seq (.reg [.m 34 4,.o 35 (.iadd 4 (.t 34) (.k (.c (.int .i64 1)))),.d 36 4 35,.k 37 45 [(.t 36)],.m 2 37]) (.ret))) (.seq (.reg [.o 39 (.bin .eql (.t 21) (.k (.c (.str [61,62])))),.m 38 39]) (.cond (.t 38) (.seq (.seq (.reg [.m 41 4,.o 42 (.iadd 4 (.t 41) (.k (.c (.int .i64 0)))),.d 43 4 42,.k 44 41 [(.t 43)],.m 40 44,.x 45 40 0,.x 46 40 1,.m 7 45,.m 8 46]) (.seq (.reg [.m 47 8,.o 48 (.bin .neq (.t 47) (.k (.c (.int .i64 0))))]) (.cond (.t 48) (.seq (.reg [.m 49 8,.m 2 49]) (.ret)) (.skip)))) (.seq (.reg [.m 50 4,.o 51 (.iadd 4 (.t 50) (.k (.c (.int .i64 1)))),.d 52 4 51,.k 53 45 [(.t 52)],.m 2 53]) (.ret))) (.seq (.seq (.reg [.o 55 (.bin .eql (.t 21) (.k (.c (.str [112,105])))),.m 54 55]) (.cond (.t 54) (.skip) (.reg [.o 56 (.bin .eql (.t 21) (.k (.c (.str [115,105,103,109,97])))),.m 54 56]))) (.cond (.t 54) (.seq (.reg [.m 57 4,.o 58 (.iadd 4 (.t 57) (.k (.c (.int .i64 0)))),.d 59 4 58,.k 60 126 [(.t 59)],.k 61 45 [(.t 60)],.m 2 61]) (.ret)) (.skip))))))))))) (.seq (.reg [.o 2 (.mov (.k (.c (.int .i64 0))))]) (.ret))))))
def r45:List ResV:=[.tmp 2]
theorem k45:CodeIs Tryz.prog 45 1 Tryz.f45 c45 r45:=.auto Tryz.func45
def c332:AC:=.seq (.reg [.o 4 (.mov (.k (.c (.bool false))))]) (.seq (.reg [.o 8 (.mkmap),.m 5 8]) (.seq (.seq (.reg [.m 9 0,.o 10 (.lenr (.t 9)),.o 11 (.mov (.k (.c (.int .i64 0))))]) (.block 0 (.loop (.seq (.reg [.o 12 (.bin .lss (.t 11) (.t 10))]) (.seq (.cond (.t 12) (.skip) (.exit 0)) (.seq (.block 1 (.seq (.reg [.o 13 (.iadd 4 (.t 9) (.t 11)),.d 14 4 13,.o 7 (.box (.k (.agg [.c (.int .i64 0),.c (.str []),.c (.int .i64 0),.csl []]))),.s 4 7 14]) (.seq (.seq (.reg [.f 15 0 7,.l 16 15,.o 17 (.bin .neq (.t 16) (.k (.c (.int .i64 3)))),.m 18 17,.z 19 (.fadd 2 (.t 7)) 18,.z 20 (.load1 (.t 19)) 18,.z 21 (.mov (.t 1)) 18,.z 22 (.bin .geq (.t 20) (.t 21)) 18,.o 23 (.pick (.t 18) (.k (.c (.bool true))) (.t 22)),.m 24 23,.z 25 (.mov (.t 5)) 24,.z 26 (.fadd 2 (.t 7)) 24,.z 27 (.load1 (.t 26)) 24,.z 28 (.look false (.i .i64) (.bool false) (.t 25) (.t 27)) 24,.o 29 (.pick (.t 24) (.k (.c (.bool true))) (.t 28))]) (.cond (.t 29) (.seq (.reg [.o 4 (.mov (.k (.c (.bool false))))]) (.ret)) (.skip))) (.reg [.m 30 5,.f 31 2 7,.l 32 31,⟨none,.mupd (.i .i64) (.t 30) (.t 32) (.k (.c (.bool true))),none⟩])))) (.reg [.o 33 (.bin .add (.t 11) (.k (.c (.int .i64 1)))),.m 11 33]))))))) (.seq (.reg [.o 4 (.mov (.k (.c (.bool true))))]) (.ret))))
def r332:List ResV:=[.tmp 4]
theorem k332:CodeIs Tryz.prog 332 2 Tryz.f332 c332 r332:=.auto Tryz.func332
def c279:AC:=.seq (.reg [.o 2 (.box (.t 0)),.o 3 (.box (.t 1)),.o 4 (.mov (.k (.c (.bool false))))]) (.seq (.seq (.reg [.f 7 0 2,.l 8 7,.o 9 (.bin .eql (.t 8) (.k (.c (.int .i64 5))))]) (.cond (.t 9) (.seq (.dreg [.f 10 3 2,.l 11 10,.o 12 (.iadd 4 (.t 11) (.k (.c (.int .i64 0)))),.d 13 4 12,.l 14 3,.o 15 (.bin .add (.t 14) (.k (.c (.int .i64 1)))),.k 16 279 [(.t 13),(.t 15)],.m 4 16] [.q (.f 10 3 2),.q (.l 11 10),.q (.o 12 (.iadd 4 (.t 11) (.k (.c (.int .i64 0))))),.q (.d 13 4 12),.q (.l 14 3),.q (.o 15 (.bin .add (.t 14) (.k (.c (.int .i64 1))))),⟨.k 16 279 [(.t 13),(.t 15)],true,0⟩,⟨.m 4 16,false,1⟩]) (.ret)) (.skip))) (.seq (.reg [.d 18 4 2,.k 19 220 [(.t 18)],.m 17 19,.x 20 17 0,.x 21 17 1,.o 5 (.box (.k (.agg [.c (.int .i64 0),.c (.str []),.c (.int .i64 0),.csl []]))),.s 4 5 20,.m 6 21]) (.seq (.block 0 (.seq (.reg [.f 23 0 5,.l 24 23,.o 25 (.bin .eql (.t 24) (.k (.c (.int .i64 5)))),.m 22 25]) (.cond (.t 22) (.seq (.reg [.o 4 (.mov (.k (.c (.bool false))))]) (.ret)) (.seq (.reg [.f 27 0 5,.l 28 27,.o 29 (.bin .eql (.t 28) (.k (.c (.int .i64 4)))),.m 30 29,.z 31 (.fadd 0 (.t 5)) 30,.z 32 (.load1 (.t 31)) 30,.z 33 (.bin .eql (.t 32) (.k (.c (.int .i64 3)))) 30,.z 34 (.mov (.t 33)) 30,.y 35 (.fadd 2 (.t 5)) 34,.y 36 (.load1 (.t 35)) 34,.y 37 (.load1 (.t 3)) 34,.y 38 (.bin .geq (.t 36) (.t 37)) 34,.z 39 (.pick (.t 34) (.t 38) (.k (.c (.bool false)))) 30,.o 40 (.pick (.t 30) (.k (.c (.bool true))) (.t 39)),.m 26 40]) (.cond (.t 26) (.seq (.reg [.m 41 6,.l 42 3,.k 43 332 [(.t 41),(.t 42)],.m 4 43]) (.ret)) (.skip)))))) (.seq (.reg [.m 44 6,.o 45 (.mkfn 333 [(.t 3)]),.k 46 77 [(.t 44),(.t 45)],.o 47 (.un .not (.t 46)),.m 4 47]) (.ret)))))
def r279:List ResV:=[.tmp 4]
theorem k279:CodeIs Tryz.prog 279 2 Tryz.f279 c279 r279:=.auto Tryz.func279
def c217:AC:=.seq (.reg [.o 3 (.box (.t 0)),.o 4 (.box (.t 1)),.o 6 (.mov (.k (.c (.int .i64 0))))]) (.seq (.reg [.d 13 4 3,.k 14 125 [(.t 13),(.k (.c (.int .i64 131)))],.m 12 14,.x 15 12 0,.x 16 12 1,.x 17 12 2,.m 7 15,.m 8 16,.m 9 17]) (.seq (.seq (.reg [.m 18 9,.o 19 (.bin .neq (.t 18) (.k (.c (.int .i64 0))))]) (.cond (.t 19) (.seq (.reg [.m 20 9,.m 6 20]) (.ret)) (.skip))) (.seq (.seq (.reg [.m 21 7]) (.block 0 (.seq (.block 5 (.seq (.block 4 (.seq (.block 3 (.seq (.block 2 (.seq (.block 1 (.seq (.seq (.seq (.reg [.o 23 (.bin .eql (.t 21) (.k (.c (.str [])))),.m 22 23]) (.cond (.t 22) (.exit 1) (.skip))) (.seq (.seq (.reg [.o 25 (.bin .eql (.t 21) (.k (.c (.str [44])))),.m 24 25]) (.cond (.t 24) (.exit 2) (.skip))) (.seq (.seq (.reg [.o 27 (.bin .eql (.t 21) (.k (.c (.str [112,105])))),.m 26 27]) (.cond (.t 26) (.exit 3) (.skip))) (.seq (.seq (.reg [.o 29 (.bin .eql (.t 21) (.k (.c (.str [61,62])))),.m 28 29]) (.cond (.t 28) (.exit 4) (.skip))) (.seq (.reg [.o 31 (.bin .eql (.t 21) (.k (.c (.str [58,45])))),.m 30 31]) (.cond (.t 30) (.exit 5) (.skip))))))) (.exit 0))) (.seq (.seq (.seq (.reg [.f 32 2 4,.l 33 32,.o 34 (.un .not (.t 33)),.m 35 34,.y 36 (.mov (.t 8)) 35,.y 37 (.call (.k (.fn 77 [])) [(.t 36),(.k (.fn 278 []))]) 35,.o 38 (.pick (.t 35) (.t 37) (.k (.c (.bool false))))]) (.cond (.t 38) (.seq (.reg [.o 6 (.mov (.k (.c (.int .i64 132))))]) (.ret)) (.skip))) (.seq (.dreg [.m 39 2,.f 40 0 4,.l 41 40,.d 42 4 3,.d 43 3 4,.k 44 280 [(.t 43)],.o 45 (.build [.c (.int .i64 0),.c (.int .i64 0),.c (.str []),.c (.int .i64 0),.csl [],.c (.int .i64 0),.c (.str []),.c (.int .i64 0),.csl []] [(0,1,(.t 41)),(1,4,(.t 42)),(5,4,(.t 44))]),.o 46 (.call (.t 39) [(.t 45)])] [.q (.d 43 3 4),⟨.k 44 280 [(.t 43)],true,0⟩,.q (.m 39 2),.q (.f 40 0 4),.q (.l 41 40),.q (.d 42 4 3),⟨.o 45 (.build [.c (.int .i64 0),.c (.int .i64 0),.c (.str []),.c (.int .i64 0),.csl [],.c (.int .i64 0),.c (.str []),.c (.int .i64 0),.csl []] [(0,1,(.t 41)),(1,4,(.t 42)),(5,4,(.t 44))]),false,1⟩,⟨.o 46 (.call (.t 39) [(.t 45)]),true,1⟩]) (.seq (.reg [.o 6 (.mov (.k (.c (.int .i64 0))))]) (.ret)))) (.exit 0)))) (.seq (.seq (.seq (.dreg [.m 47 8,.o 48 (.iadd 4 (.t 47) (.k (.c (.int .i64 0)))),.d 49 4 48,.d 50 3 4,.m 51 2,.k 52 217 [(.t 49),(.t 50),(.t 51)],.m 10 52] [.q (.m 47 8),.q (.o 48 (.iadd 4 (.t 47) (.k (.c (.int .i64 0))))),.q (.d 49 4 48),.q (.d 50 3 4),.q (.m 51 2),⟨.k 52 217 [(.t 49),(.t 50),(.t 51)],true,0⟩,⟨.m 10 52,false,1⟩]) (.seq (.reg [.m 53 10,.o 54 (.bin .neq (.t 53) (.k (.c (.int .i64 0))))]) (.cond (.t 54) (.seq (.reg [.m 55 10,.m 6 55]) (.ret)) (.skip)))) (.seq (.dreg [.m 56 8,.o 57 (.iadd 4 (.t 56) (.k (.c (.int .i64 1)))),.d 58 4 57,.d 59 3 4,.m 60 2,.k 61 217 [(.t 58),(.t 59),(.t 60)],.m 6 61] [.q (.m 56 8),.q (.o 57 (.iadd 4 (.t 56) (.k (.c (.int .i64 1))))),.q (.d 58 4 57),.q (.d 59 3 4),.q (.m 60 2),⟨.k 61 217 [(.t 58),(.t 59),(.t 60)],true,0⟩,⟨.m 6 61,false,1⟩]) (.ret))) (.exit 0)))) (.seq (.seq (.dreg [.m 62 8,.o 63 (.iadd 4 (.t 62) (.k (.c (.int .i64 0)))),.d 64 4 63,.k 65 126 [(.t 64)],.d 66 3 4,.k 67 281 [(.t 66)],.m 68 2,.k 69 217 [(.t 65),(.t 67),(.t 68)],.m 6 69] [.q (.m 62 8),.q (.o 63 (.iadd 4 (.t 62) (.k (.c (.int .i64 0))))),.q (.d 64 4 63),⟨.k 65 126 [(.t 64)],true,0⟩,.q (.d 66 3 4),⟨.k 67 281 [(.t 66)],true,1⟩,.q (.m 68 2),⟨.k 69 217 [(.t 65),(.t 67),(.t 68)],true,2⟩,⟨.m 6 69,false,3⟩]) (.ret)) (.exit 0)))) (.reg [.m 70 8,.k 71 282 [(.t 70)]]))) (.seq (.seq (.seq (.reg [.m 72 8,.o 73 (.iadd 4 (.t 72) (.k (.c (.int .i64 1)))),.d 74 4 73,.k 75 45 [(.t 74)],.m 11 75]) (.seq (.reg [.m 76 11,.o 77 (.bin .neq (.t 76) (.k (.c (.int .i64 0))))]) (.cond (.t 77) (.seq (.reg [.m 78 11,.m 6 78]) (.ret)) (.skip)))) (.seq (.dreg [.m 79 8,.o 80 (.iadd 4 (.t 79) (.k (.c (.int .i64 0)))),.d 81 4 80,.d 82 3 4,.m 83 8,.o 84 (.iadd 4 (.t 83) (.k (.c (.int .i64 1)))),.d 85 4 84,.k 86 283 [(.t 82),(.t 85)],.m 87 2,.k 88 217 [(.t 81),(.t 86),(.t 87)],.m 6 88] [.q (.d 82 3 4),.q (.m 83 8),.q (.o 84 (.iadd 4 (.t 83) (.k (.c (.int .i64 1))))),.q (.d 85 4 84),⟨.k 86 283 [(.t 82),(.t 85)],true,0⟩,.q (.m 79 8),.q (.o 80 (.iadd 4 (.t 79) (.k (.c (.int .i64 0))))),.q (.d 81 4 80),.q (.m 87 2),⟨.k 88 217 [(.t 81),(.t 86),(.t 87)],true,1⟩,⟨.m 6 88,false,2⟩]) (.ret))) (.exit 0))))) (.seq (.reg [.o 6 (.mov (.k (.c (.int .i64 131))))]) (.ret)))))
def r217:List ResV:=[.tmp 6]
theorem k217:CodeIs Tryz.prog 217 3 Tryz.f217 c217 r217:=.auto Tryz.func217
def c278:AC:=.seq (.reg [.o 1 (.box (.t 0)),.o 2 (.mov (.k (.c (.bool false))))]) (.seq (.reg [.d 3 4 1,.k 4 279 [(.t 3),(.k (.c (.int .i64 0)))],.o 5 (.un .not (.t 4)),.m 2 5]) (.ret))
def r278:List ResV:=[.tmp 2]
theorem k278:CodeIs Tryz.prog 278 1 Tryz.f278 c278 r278:=.auto Tryz.func278
def c123:AC:=.seq (.reg [.o 2 (.box (.t 0)),.o 3 (.box (.t 1)),.o 4 (.mov (.k (.csl []))),.o 5 (.mov (.k (.c (.int .i64 0))))]) (.seq (.reg [.o 6 (.box (.k (.csl [])))]) (.seq (.seq (.reg [.d 8 4 2,.d 9 3 3,.o 10 (.mkfn 218 [(.t 6)]),.k 11 217 [(.t 8),(.t 9),(.t 10)],.m 7 11]) (.seq (.reg [.m 12 7,.o 13 (.bin .neq (.t 12) (.k (.c (.int .i64 0))))]) (.cond (.t 13) (.seq (.reg [.m 14 7,.o 4 (.mov (.k (.csl []))),.m 5 14]) (.ret)) (.skip)))) (.seq (.reg [.l 15 6,.m 4 15,.o 5 (.mov (.k (.c (.int .i64 0))))]) (.ret))))
def r123:List ResV:=[.tmp 4,.tmp 5]
theorem k123:CodeIs Tryz.prog 123 2 Tryz.f123 c123 r123:=.auto Tryz.func123
def c218:AC:=.seq (.reg [.o 2 (.box (.t 0))]) (.reg [.l 3 1,.d 4 9 2,.o 5 (.bsl 9 [(.t 4)]),.o 6 (.app 88 9 120 (.t 3) (.t 5)),.s 1 1 6])
def r218:List ResV:=[]
theorem k218:CodeIs Tryz.prog 218 2 Tryz.f218 c218 r218:=.auto Tryz.func218
def c223:AC:=.seq (.reg [.o 3 (.box (.t 0)),.o 6 (.box (.k (.agg [.c (.int .i64 0),.c (.str []),.c (.int .i64 0),.csl []])))]) (.seq (.seq (.reg [.f 9 0 3,.l 10 9]) (.block 0 (.seq (.reg [.o 12 (.bin .eql (.t 10) (.k (.c (.int .i64 4)))),.m 11 12]) (.cond (.t 11) (.seq (.reg [.f 13 2 3,.l 14 13,.m 15 1,.o 16 (.bin .lss (.t 14) (.t 15))]) (.cond (.t 16) (.seq (.reg [.m 17 2,.m 18 1,.o 19 (.bin .add (.t 17) (.t 18)),.o 20 (.bin .sub (.t 19) (.k (.c (.int .i64 1)))),.f 21 2 3,.l 22 21,.o 23 (.bin .sub (.t 20) (.t 22)),.o 24 (.build [.c (.int .i64 0),.c (.str []),.c (.int .i64 0),.csl []] [(0,1,(.k (.c (.int .i64 3)))),(2,1,(.t 23))]),.s 4 6 24]) (.ret)) (.skip))) (.seq (.reg [.o 26 (.bin .eql (.t 10) (.k (.c (.int .i64 3)))),.m 25 26]) (.cond (.t 25) (.seq (.reg [.f 27 2 3,.l 28 27,.m 29 2,.o 30 (.bin .geq (.t 28) (.t 29))]) (.cond (.t 30) (.reg [.f 31 2 3,.l 32 31,.m 33 1,.o 34 (.bin .add (.t 32) (.t 33)),.f 35 2 3,.s 1 35 34]) (.skip))) (.seq (.reg [.o 37 (.bin .eql (.t 10) (.k (.c (.int .i64 5)))),.m 36 37]) (.cond (.t 36) (.seq (.reg [.f 38 3 3,.l 39 38,.o 40 (.iadd 4 (.t 39) (.k (.c (.int .i64 0)))),.d 41 4 40,.m 42 1,.m 43 2,.o 44 (.bin .add (.t 43) (.k (.c (.int .i64 1)))),.k 45 223 [(.t 41),(.t 42),(.t 44)],.k 46 44 [(.k (.c (.int .i64 1))),(.t 45)],.s 4 6 46]) (.ret)) (.seq (.reg [.o 48 (.bin .eql (.t 10) (.k (.c (.int .i64 6)))),.m 47 48]) (.cond (.t 47) (.seq (.reg [.f 49 3 3,.l 50 49,.k 51 174 [(.t 50)],.m 7 51]) (.seq (.seq (.reg [.m 52 7,.o 53 (.lenr (.t 52)),.o 54 (.mov (.k (.c (.int .i64 0))))]) (.block 1 (.loop (.seq (.reg [.o 55 (.bin .lss (.t 54) (.t 53))]) (.seq (.cond (.t 55) (.skip) (.exit 1)) (.seq (.block 2 (.seq (.reg [.m 56 54,.m 8 56]) (.reg [.m 57 7,.m 58 8,.m 59 7,.m 60 8,.o 61 (.iadd 4 (.t 59) (.t 60)),.d 62 4 61,.m 63 1,.m 64 2,.k 65 223 [(.t 62),(.t 63),(.t 64)],.o 66 (.iadd 4 (.t 57) (.t 58)),.s 4 66 65]))) (.reg [.o 67 (.bin .add (.t 54) (.k (.c (.int .i64 1)))),.m 54 67]))))))) (.reg [.m 68 7,.f 69 3 3,.s 1 69 68]))) (.skip))))))))))) (.seq (.reg [.d 70 4 3,.s 4 6 70]) (.ret)))
def r223:List ResV:=[.celln 4 6]
theorem k223:CodeIs Tryz.prog 223 3 Tryz.f223 c223 r223:=.auto Tryz.func223
def c127:AC:=.seq (.reg [.o 2 (.box (.t 0)),.o 4 (.box (.k (.agg [.c (.int .i64 0),.c (.str []),.c (.int .i64 0),.csl []])))]) (.seq (.seq (.reg [.d 5 4 2,.k 6 23 [(.t 5)],.o 7 (.un .not (.t 6))]) (.cond (.t 7) (.seq (.reg [.d 8 4 2,.s 4 4 8]) (.ret)) (.skip))) (.seq (.reg [.d 9 4 2,.m 10 1,.o 11 (.mx (.t 10) (.k (.c (.int .i64 0)))),.k 12 223 [(.t 9),(.t 11),(.k (.c (.int .i64 0)))],.s 4 4 12]) (.ret)))
def r127:List ResV:=[.celln 4 4]
theorem k127:CodeIs Tryz.prog 127 2 Tryz.f127 c127 r127:=.auto Tryz.func127
def c46:AC:=.seq (.reg [.o 2 (.box (.t 0)),.o 4 (.mov (.k (.csl []))),.o 5 (.mov (.k (.c (.int .i64 0))))]) (.seq (.seq (.reg [.d 6 4 2,.k 7 23 [(.t 6)],.o 8 (.un .not (.t 7)),.m 9 8,.z 10 (.mov (.t 1)) 9,.z 11 (.bin .gtr (.t 10) (.k (.c (.int .i64 4096)))) 9,.o 12 (.pick (.t 9) (.k (.c (.bool true))) (.t 11))]) (.cond (.t 12) (.seq (.reg [.o 4 (.mov (.k (.csl []))),.o 5 (.mov (.k (.c (.int .i64 1))))]) (.ret)) (.skip))) (.seq (.reg [.d 13 4 2,.m 14 1,.k 15 127 [(.t 13),(.t 14)],.m 16 1,.o 17 (.mx (.t 16) (.k (.c (.int .i64 0)))),.o 18 (.build [.c (.int .i64 0),.csl [],.c (.bool false)] [(0,1,(.t 17))]),.k 19 123 [(.t 15),(.t 18)],.x 20 19 0,.x 21 19 1,.m 4 20,.m 5 21]) (.ret)))
def r46:List ResV:=[.tmp 4,.tmp 5]
theorem k46:CodeIs Tryz.prog 46 2 Tryz.f46 c46 r46:=.auto Tryz.func46
def c334:AC:=.seq (.reg [.o 2 (.mov (.k (.csl [])))]) (.seq (.reg [.m 3 0,.m 4 0,.o 5 (.lenr (.t 4)),.m 6 0,.o 7 (.lenr (.t 6)),.o 8 (.slr 4 (.t 3) none (some (.t 5)) (some (.t 7))),.m 2 8]) (.ret))
def r334:List ResV:=[.tmp 2]
theorem k334:CodeIs Tryz.prog 334 1 Tryz.f334 c334 r334:=.auto Tryz.func334
end Go.Proofs.YtpcmcfajfnpjeaaGreatDoor
namespace Go.Lamb
open Go Go.RowKit
end Go.Lamb
namespace Go.Lamb
open Go Go.RowKit
/-! ### values, as lines -/
end Go.Lamb
namespace Go.Lamb
open Go Go.RowKit
theorem rows4 (l:List Typ):∀ r ∈ l.map Typ.cs,r.length = 4:=fun r hr=>by
 obtain ⟨u,_,rfl⟩:=List.mem_map.1 hr
 rw [Typ.cs_eq];rfl
end Go.Lamb
namespace Go.Proofs.YtpcmcfajfnpjeaaGreatDoor
open Go.RowKit Go.Lamb
attribute [local go_sem] advO_skip advO_reg advO_seq advO_block advO_exit advO_endb advO_opsNil advO_ops advG_yes advG_no advG_none advS_some advS_none advO_cond advO_loop advO_dreg advO_ret advO_bad advO_inv advO_nil advO_zero wantedV Lamb.step ev_t ev_k put_some put_none argEnv popTo cellsAt V.cellsV V.rows V.sub V.toC toCs fillV bytesC byteRows appV rowsV boundV boundL binV binInt binStr eqC eqL V.isNil leaves V.leaf Ins.quiet Ins.pure List.getD_cons_zero List.getD_cons_succ List.getD_nil List.all_cons List.all_nil List.length_cons List.length_nil List.take_succ_cons List.take_zero List.drop_succ_cons List.drop_zero List.cons_append List.nil_append List.append_nil List.append_assoc List.map_cons List.map_nil List.getElem?_cons_zero List.getElem?_cons_succ List.length_append List.length_set hget0 hget hset0 hset hsets hgs0 hgs hss0 hss List.set_cons_zero List.set_cons_succ List.forall_mem_cons List.not_mem_nil false_implies implies_true Option.map_some Bool.and_true Bool.true_and Bool.not_not Bool.not_true Bool.not_false Bool.and_self Bool.or_true Bool.true_or Bool.or_false Bool.false_or Bool.and_false Bool.false_and Bool.false_eq_true beq_self_eq_true and_self and_true true_and if_true if_false Nat.zero_add Nat.add_zero Nat.le_refl Int.toNat_natCast decide_true decide_false beq_t beq_f List.length_map List.getElem?_map I S B opsC toksC OpT.v OpT.cs OpT.zero Tok.v Tok.cs Pre.v Pre.cs_eq k_mk name_mk n_mk l_mk pos_mk Pre.app applyL natCast0 natCast1 natCast2 AOp.o AOp.m AOp.f AOp.l AOp.d AOp.n AOp.x AOp.s AOp.k AOp.y AOp.z EOp.q low_c low_void low_any low_csl low_nilf low_ptr low_osl low_agg low_tup low_fn resEval advPO_nil advPO_loud advPO_quiet pL_yes pL_no pLS_some pLS_none pQ_yes pQ_no pQS_some pQS_loud eq_self Nat.sub_zero
section
attribute [local go_sem] Typ.v Typ.cs_eq tk_mk tname_mk tn_mk tl_mk tysC rz_len rz_g0 rz_g rz_s0 rz_s rz_sb

theorem sizeTs_mem {x:Typ}:∀ {l:List Typ},x ∈ l → sizeT x ≤ sizeTs l
 | [],h=>by simp at h
 | y :: l,h=>by
   rw [sizeTs]
   rcases List.mem_cons.1 h with rfl | h
   ·omega
   ·have:=sizeTs_mem h;omega
def varB (n:Int):Blk:=.cells [I n]
attribute [local go_sem] varB
theorem ty_Vars1 (w0:World) (n v:Int) (σ:H) (b:Nat) (D:b < σ.length):DC Tryz.prog w0 263 [I v,.ptr b 0] (rz σ b (varB n)) (Same Typ.none.v (rz σ b (varB (varMax n v)))):=by
 refine k263.go rfl (fun hok hsz=>?_)
 have hokv:H.ok (rz σ b (varB (varMax n v))):=rz_ok D hok (fun cs tg hc x hx=>by
  unfold varB at hc
  injection hc with hc _
  subst hc
  simp only [List.mem_cons,List.not_mem_nil,or_false] at hx
  subst hx;exact .c _)
 have e:Typ.none.v = .agg [I 0,S [],I 0,.c (.sl [])]:=rfl
 rw [e]
 unfold varMax at hokv ⊢
 ((try refine W.a ?_);simp only [go_sem,seval,c263,rzA D])
 (refine W.fg (hokv) (d:=.agg [I 0,S [],I 0,.c (.sl [])]) (by simp only [r263,go_sem,seval];rfl) (by simp only [resV,go_sem,seval];exact wk_here) ?_)
 exact ⟨rfl,rfl⟩
theorem varB_ok {σ:H} {b:Nat} (D:b < σ.length) {X:Blk} (h:H.ok (rz σ b X)) (n:Int):H.ok (rz σ b (varB n)):=rz_ok D h (fun cs tg hc x hx=>by
 unfold varB at hc
 injection hc with hc _
 subst hc
 simp only [List.mem_cons,List.not_mem_nil,or_false] at hx
 subst hx;exact .c _)
theorem sizeT_pos (p:Typ):1 ≤ sizeT p:=by rw [sizeT_eq];split <;> omega
theorem len_size:∀ l:List Typ,l.length ≤ sizeTs l
 | []=>by simp
 | x :: l=>by rw [sizeTs,List.length_cons];have:=len_size l;have:=sizeT_pos x;omega
theorem ty_replaceV (w0:World) (p:Typ):sizeT p ≤ 1000000 → ∀ (n:Int) (σ:H) (b:Nat) (D:b < σ.length),DC Tryz.prog w0 259 [p.v,.fn 263 [.ptr b 0]] (rz σ b (varB n)) (Same (noneT p).v (rz σ b (varB (varsT n p)))):=by
 refine Typ.ind (P:=fun p=>sizeT p ≤ 1000000 → ∀ (n:Int) (σ:H) (b:Nat) (D:b < σ.length),DC Tryz.prog w0 259 [p.v,.fn 263 [.ptr b 0]] (rz σ b (varB n)) (Same (noneT p).v (rz σ b (varB (varsT n p))))) (fun p ih hb n σ b D=>?_) p
 refine k259.go rfl (fun hok hsz=>?_)
 have hlen:=typ_len hsz (List.mem_cons_self ..)
 rw [noneT_eq,varsT_eq]
 by_cases hk:p.k = 1
 ·have n1:(p.k == 1) = true:=by simpa using hk
  rw [if_pos hk,if_pos hk]
  ((try refine W.a ?_);simp only [go_sem,seval,c259,n1,rzA D])
  refine W.yes rfl ?_
  ((try refine W.a ?_);simp only [go_sem,seval,rzA D])
  (refine W.c1 (DC.lift1 D (fun D'=>ty_Vars1 w0 n p.n _ b D')) ?_;simp only [go_sem,seval,rzA D,Typ.none])
  (refine W.fg (varB_ok D hok (varMax n p.n)) (d:=Typ.none.v) (by simp only [r259,go_sem,seval,Typ.none];rfl) (by simp only [resV,go_sem,seval,Typ.none];exact wk_here) ?_ (hl:=by (first | exact .c _ | (simp only [go_sem,seval,Typ.none];done))))
  exact ⟨rfl,rfl⟩
 ·have n1:(p.k == 1) = false:=by simpa using hk
  rw [if_neg hk,if_neg hk]
  ((try refine W.a ?_);simp only [go_sem,seval,c259,n1,rzA D])
  refine W.no rfl ?_
  ((try refine W.a ?_);simp only [go_sem,seval,rzA D])
  have hls:=len_size p.l
  have hbs:sizeTs p.l ≤ 1000000:=by rw [sizeT_eq,if_neg hk] at hb;omega
  cases hA:arrowT p
  ·(refine W.c1 (ty_arrow w0 p _) ?_;simp only [go_sem,seval,hA,rzA D])
   refine W.no rfl ?_
   ((try refine W.a ?_);simp only [go_sem,seval,rzA D])
   refine W.ownCell (σ.length + 2) 3 48 4 (cs:=[I 0,S p.name,I 0,.csl []]) (tg:=none) ?_ rfl ?_
   ·simp only [rz_g,List.getElem?_cons_succ,List.getElem?_cons_zero,I,S]
   ·((try refine W.a ?_);simp only [go_sem,seval,rzA D])
    refine W.loopP (fun i=>i ≤ p.l.length) (fun i=>⟨((((((base.put (some 1) (.fn 263 [.ptr b 0])).put (some 4) (.ptr (σ.length + 1) 0)).put (some 5) (.ptr (σ.length + 2) 0)).put (some 22) (.c (tysC p.l))).put (some 23) (I p.l.length)).put (some 24) (I i)),rz σ b (varB (varsTs n (p.l.take i))) ++ [.cells p.v.cellsV,.cells [I 0,S [],I 0,.csl []],.cells [I 0,S p.name,I 0,.osl (σ.length + 3) (((p.l.take i).map noneT).map Typ.cs)],.spare 48 4 i]⟩) (fun i=>p.l.length - i) 0 (Nat.zero_le _) ?_ (fun i hi=>?_)
    ·simp only [go_sem,seval,List.take_zero,varsTs]
     (refine Lew.env ?_;exact lee_here)
    ·by_cases hlt:i < p.l.length
     ·have h1:((i:Int) < (p.l.length:Int)):=by omega
      have hx:p.l[i]? = some p.l[i]:=List.getElem?_eq_getElem hlt
      have hw:=wrap_next hlt hlen
      have htk:p.l.take (i + 1) = p.l.take i ++ [p.l[i]]:=List.take_succ_eq_append_getElem hlt
      have hvt:varsTs n (p.l.take (i + 1)) = varsT (varsTs n (p.l.take i)) p.l[i]:=by rw [htk,varsTs_add,varsTs,varsTs]
      have hb1:(i + 1) * 56 ≤ 140737488355328:=by omega
      have hb2:i + 1 ≤ 140737488355328:=by omega
      have hlk:(p.l.take i).length = i:=by rw [List.length_take];omega
      have hsz':sizeT p.l[i] ≤ 1000000:=Nat.le_trans (sizeTs_mem (List.getElem_mem hlt)) (by omega)
      ((try refine W.a ?_);simp only [go_sem,seval,h1,rzA D])
      refine W.yes rfl ?_
      ((try refine W.a ?_);simp only [go_sem,seval,h1,nat0,hx,rzA D])
      apply W.dregE (List.cons_ne_nil _ _)
      case hc=>
       (apply CanonE.advPO;simp only [go_sem,seval,rzA D])
       (apply CanonE.call (DC.lift1 D (fun D'=>ih p.l[i] (List.getElem_mem hlt) hsz' (varsTs n (p.l.take i)) _ b D'));(case hg=>rfl);(case hf=>rfl);(case ha=>first | rfl | simp))
       (apply CanonE.advPO;simp only [go_sem,seval,rzA D,hb1,hb2,hlk])
       exact CanonE.nil
      ((try refine W.a ?_);simp only [go_sem,seval,hw,rzA D])
      refine .inv ⟨i + 1,hlt,by omega,?_⟩
      rw [hvt,htk]
      simp only [go_sem,seval,List.map_append]
      (refine Lew.cutL (varB_ok D hok (varsT (varsTs n (p.l.take i)) p.l[i])) ?_ (by simp) (by simp) ?_ ?_ ?_;exact lee_here;((try simp only [okB,wkB,go_sem,seval,rz_len]) <;> omega);(simp only [List.length_cons,List.length_nil,Nat.reduceAdd,List.take_succ_cons,List.take_zero,wkB,and_true];(repeat' (refine And.intro ?_ ?_)) <;> (first | exact Blk.wk.rfl _ | exact Blk.wk.gone _ | (refine Blk.wk_cells ?_ rfl;(exact wk_here))));(repeat' (first | exact LowE.base _ | (refine LowE.put ?_ (by first | exact .c _ | ((try simp only [okB,wkB,go_sem,seval,rz_len]) <;> omega))))))
     ·have h1:¬ ((i:Int) < (p.l.length:Int)):=by omega
      have:p.l.take i = p.l:=List.take_of_length_le (by omega)
      ((try refine W.a ?_);simp only [go_sem,seval,h1,rzA D])
      refine W.no rfl ?_
      rw [this]
      ((try refine W.a ?_);simp only [go_sem,seval,rzA D])
      (refine W.fg (varB_ok D hok (varsTs n p.l)) (d:=.agg [I 0,S p.name,I 0,.c (.sl ((p.l.map noneT).map Typ.cs))]) (by simp only [r259,go_sem,seval];rfl) (by simp only [resV,go_sem,seval];exact wk_here) ?_)
      exact ⟨rfl,rfl⟩
  ·(refine W.c1 (ty_arrow w0 p _) ?_;simp only [go_sem,seval,hA,rzA D])
   refine W.yes rfl ?_
   ((try refine W.a ?_);simp only [go_sem,seval,rzA D])
   refine W.ownCell (σ.length + 2) 3 48 4 (cs:=[I 2,S [],I 0,.csl []]) (tg:=none) ?_ rfl ?_
   ·simp only [rz_g,List.getElem?_cons_succ,List.getElem?_cons_zero,I,S]
   ·((try refine W.a ?_);simp only [go_sem,seval,rzA D])
    refine W.loopP (fun i=>i ≤ p.l.length) (fun i=>⟨((((((base.put (some 1) (.fn 263 [.ptr b 0])).put (some 4) (.ptr (σ.length + 1) 0)).put (some 5) (.ptr (σ.length + 2) 0)).put (some 22) (.c (tysC p.l))).put (some 23) (I p.l.length)).put (some 24) (I i)),rz σ b (varB (varsTs n (p.l.take i))) ++ [.cells p.v.cellsV,.cells [I 0,S [],I 0,.csl []],.cells [I 2,S [],I 0,.osl (σ.length + 3) (((p.l.take i).map noneT).map Typ.cs)],.spare 48 4 i]⟩) (fun i=>p.l.length - i) 0 (Nat.zero_le _) ?_ (fun i hi=>?_)
    ·simp only [go_sem,seval,List.take_zero,varsTs]
     (refine Lew.env ?_;exact lee_here)
    ·by_cases hlt:i < p.l.length
     ·have h1:((i:Int) < (p.l.length:Int)):=by omega
      have hx:p.l[i]? = some p.l[i]:=List.getElem?_eq_getElem hlt
      have hw:=wrap_next hlt hlen
      have htk:p.l.take (i + 1) = p.l.take i ++ [p.l[i]]:=List.take_succ_eq_append_getElem hlt
      have hvt:varsTs n (p.l.take (i + 1)) = varsT (varsTs n (p.l.take i)) p.l[i]:=by rw [htk,varsTs_add,varsTs,varsTs]
      have hb1:(i + 1) * 56 ≤ 140737488355328:=by omega
      have hb2:i + 1 ≤ 140737488355328:=by omega
      have hlk:(p.l.take i).length = i:=by rw [List.length_take];omega
      have hsz':sizeT p.l[i] ≤ 1000000:=Nat.le_trans (sizeTs_mem (List.getElem_mem hlt)) (by omega)
      ((try refine W.a ?_);simp only [go_sem,seval,h1,rzA D])
      refine W.yes rfl ?_
      ((try refine W.a ?_);simp only [go_sem,seval,h1,nat0,hx,rzA D])
      apply W.dregE (List.cons_ne_nil _ _)
      case hc=>
       (apply CanonE.advPO;simp only [go_sem,seval,rzA D])
       (apply CanonE.call (DC.lift1 D (fun D'=>ih p.l[i] (List.getElem_mem hlt) hsz' (varsTs n (p.l.take i)) _ b D'));(case hg=>rfl);(case hf=>rfl);(case ha=>first | rfl | simp))
       (apply CanonE.advPO;simp only [go_sem,seval,rzA D,hb1,hb2,hlk])
       exact CanonE.nil
      ((try refine W.a ?_);simp only [go_sem,seval,hw,rzA D])
      refine .inv ⟨i + 1,hlt,by omega,?_⟩
      rw [hvt,htk]
      simp only [go_sem,seval,List.map_append]
      (refine Lew.cutL (varB_ok D hok (varsT (varsTs n (p.l.take i)) p.l[i])) ?_ (by simp) (by simp) ?_ ?_ ?_;exact lee_here;((try simp only [okB,wkB,go_sem,seval,rz_len]) <;> omega);(simp only [List.length_cons,List.length_nil,Nat.reduceAdd,List.take_succ_cons,List.take_zero,wkB,and_true];(repeat' (refine And.intro ?_ ?_)) <;> (first | exact Blk.wk.rfl _ | exact Blk.wk.gone _ | (refine Blk.wk_cells ?_ rfl;(exact wk_here))));(repeat' (first | exact LowE.base _ | (refine LowE.put ?_ (by first | exact .c _ | ((try simp only [okB,wkB,go_sem,seval,rz_len]) <;> omega))))))
     ·have h1:¬ ((i:Int) < (p.l.length:Int)):=by omega
      have:p.l.take i = p.l:=List.take_of_length_le (by omega)
      ((try refine W.a ?_);simp only [go_sem,seval,h1,rzA D])
      refine W.no rfl ?_
      rw [this]
      ((try refine W.a ?_);simp only [go_sem,seval,rzA D])
      (refine W.fg (varB_ok D hok (varsTs n p.l)) (d:=.agg [I 2,S [],I 0,.c (.sl ((p.l.map noneT).map Typ.cs))]) (by simp only [r259,go_sem,seval];rfl) (by simp only [resV,go_sem,seval];exact wk_here) ?_)
      exact ⟨rfl,rfl⟩
theorem ty_Vars (w0:World) (p:Typ) (hb:sizeT p ≤ 1000000) (σ:H):DC Tryz.prog w0 190 [p.v] σ (Same (I (varsT 0 p)) σ):=by
 refine k190.go rfl (fun hok hsz=>?_)
 have hr:∀ m:Int,rz (σ ++ [.cells p.v.cellsV,varB 0]) (σ.length + 1) (varB m) = σ ++ [.cells p.v.cellsV,varB m]:=fun m=>by
  unfold rz
  rw [List.set_append_right _ _ (by omega)]
  simp [Nat.add_sub_cancel_left]
 have hc:=ty_replaceV w0 p hb 0 (σ ++ [.cells p.v.cellsV,varB 0]) (σ.length + 1) (by simp)
 rw [hr,hr] at hc
 ((try refine W.a ?_);simp only [go_sem,seval,c190])
 (refine W.c1 (hc) ?_;simp only [go_sem,seval])
 (refine W.fs (hok) (by simp only [r190,go_sem,seval];rfl) ?_;simp only [resV];try exact V.wk.rfl _)
end
section

section
variable {τ:Nat → H}
end
attribute [local go_sem] Typ.v Typ.cs_eq tk_mk tname_mk tn_mk tl_mk tysC
end
section
attribute [local go_sem] Typ.v Typ.cs_eq tk_mk tname_mk tn_mk tl_mk tysC

end
section
section
end
section
attribute [local go_sem] Typ.v Typ.cs_eq tk_mk tname_mk tn_mk tl_mk tysC
end
end
section
attribute [local go_sem] Typ.v Typ.cs_eq tk_mk tname_mk tn_mk tl_mk tysC
end
section
attribute [local go_sem] Typ.v Typ.cs_eq tk_mk tname_mk tn_mk tl_mk tysC
end
section
def c280:AC:=.seq (.reg [.o 1 (.box (.t 0)),.o 2 (.box (.k (.agg [.c (.int .i64 0),.c (.str []),.c (.int .i64 0),.csl []])))]) (.seq (.seq (.reg [.f 6 1 1,.l 7 6,.o 8 (.lenr (.t 7)),.o 9 (.bin .eql (.t 8) (.k (.c (.int .i64 0))))]) (.cond (.t 9) (.seq (.reg [.o 10 (.build [.c (.int .i64 0),.c (.str []),.c (.int .i64 0),.csl []] [(1,1,(.k (.c (.str [116,114,117,101]))))]),.s 4 2 10]) (.ret)) (.skip))) (.seq (.reg [.f 11 1 1,.l 12 11,.o 13 (.iadd 4 (.t 12) (.k (.c (.int .i64 0)))),.d 14 4 13,.o 3 (.box (.k (.agg [.c (.int .i64 0),.c (.str []),.c (.int .i64 0),.csl []]))),.s 4 3 14]) (.seq (.seq (.reg [.f 15 1 1,.l 16 15,.o 17 (.slr 4 (.t 16) (some (.k (.c (.int .i64 1)))) none none),.o 18 (.lenr (.t 17)),.o 19 (.mov (.k (.c (.int .i64 0))))]) (.block 0 (.loop (.seq (.reg [.o 20 (.bin .lss (.t 19) (.t 18))]) (.seq (.cond (.t 20) (.skip) (.exit 0)) (.seq (.block 1 (.seq (.reg [.o 21 (.iadd 4 (.t 17) (.t 19)),.d 22 4 21,.o 5 (.box (.k (.agg [.c (.int .i64 0),.c (.str []),.c (.int .i64 0),.csl []]))),.s 4 5 22]) (.reg [.o 23 (.build [.c (.int .i64 0),.c (.str []),.c (.int .i64 0),.csl []] [(1,1,(.k (.c (.str [44]))))]),.d 24 4 3,.d 25 4 5,.o 26 (.bsl 4 [(.t 24),(.t 25)]),.k 27 42 [(.t 23),(.t 26)],.s 4 3 27]))) (.reg [.o 28 (.bin .add (.t 19) (.k (.c (.int .i64 1)))),.m 19 28]))))))) (.seq (.reg [.d 29 4 3,.s 4 2 29]) (.ret)))))
def r280:List ResV:=[.celln 4 2]
theorem k280:CodeIs Tryz.prog 280 1 Tryz.f280 c280 r280:=.auto Tryz.func280
def c281:AC:=.seq (.reg [.o 1 (.box (.t 0)),.o 2 (.box (.k (.agg [.c (.int .i64 0),.csl [],.c (.bool false)])))]) (.seq (.reg [.f 6 0 1,.l 7 6,.o 8 (.bin .add (.t 7) (.k (.c (.int .i64 1)))),.f 9 2 1,.l 10 9,.o 11 (.build [.c (.int .i64 0),.csl [],.c (.bool false)] [(0,1,(.t 8)),(2,1,(.t 10))]),.o 3 (.box (.k (.agg [.c (.int .i64 0),.csl [],.c (.bool false)]))),.s 3 3 11]) (.seq (.seq (.reg [.f 12 1 1,.l 13 12,.o 14 (.lenr (.t 13)),.o 15 (.mov (.k (.c (.int .i64 0))))]) (.block 0 (.loop (.seq (.reg [.o 16 (.bin .lss (.t 15) (.t 14))]) (.seq (.cond (.t 16) (.skip) (.exit 0)) (.seq (.block 1 (.seq (.reg [.o 17 (.iadd 4 (.t 13) (.t 15)),.d 18 4 17,.o 5 (.box (.k (.agg [.c (.int .i64 0),.c (.str []),.c (.int .i64 0),.csl []]))),.s 4 5 18]) (.dreg [.f 19 1 3,.l 20 19,.d 21 4 5,.k 22 83 [(.t 21),(.k (.c (.int .i64 0))),(.k (.c (.int .i64 1)))],.o 23 (.bsl 4 [(.t 22)]),.o 24 (.app 30 4 56 (.t 20) (.t 23)),.f 25 1 3,.s 1 25 24] [.q (.d 21 4 5),⟨.k 22 83 [(.t 21),(.k (.c (.int .i64 0))),(.k (.c (.int .i64 1)))],true,0⟩,.q (.f 19 1 3),.q (.l 20 19),⟨.o 23 (.bsl 4 [(.t 22)]),false,1⟩,⟨.o 24 (.app 30 4 56 (.t 20) (.t 23)),true,1⟩,⟨.f 25 1 3,false,2⟩,⟨.s 1 25 24,true,2⟩]))) (.reg [.o 26 (.bin .add (.t 15) (.k (.c (.int .i64 1)))),.m 15 26]))))))) (.seq (.reg [.d 27 3 3,.s 3 2 27]) (.ret))))
def r281:List ResV:=[.celln 3 2]
theorem k281:CodeIs Tryz.prog 281 1 Tryz.f281 c281 r281:=.auto Tryz.func281
def c283:AC:=.seq (.reg [.o 2 (.box (.t 0)),.o 3 (.box (.t 1)),.o 4 (.box (.k (.agg [.c (.int .i64 0),.csl [],.c (.bool false)])))]) (.seq (.dreg [.f 5 1 2,.l 6 5,.k 7 334 [(.t 6)],.d 8 4 3,.o 9 (.bsl 4 [(.t 8)]),.o 10 (.app 30 4 56 (.t 7) (.t 9)),.f 11 1 2,.s 1 11 10] [.q (.f 5 1 2),.q (.l 6 5),⟨.k 7 334 [(.t 6)],true,0⟩,.q (.d 8 4 3),.q (.o 9 (.bsl 4 [(.t 8)])),⟨.o 10 (.app 30 4 56 (.t 7) (.t 9)),true,1⟩,⟨.f 11 1 2,false,2⟩,⟨.s 1 11 10,true,2⟩]) (.seq (.reg [.d 12 3 2,.s 3 4 12]) (.ret)))
def r283:List ResV:=[.celln 3 4]
theorem k283:CodeIs Tryz.prog 283 2 Tryz.f283 c283 r283:=.auto Tryz.func283
end
section
def arV (v:Int) (gs:List Typ) (any:Bool):V:=.agg [I v,.c (.sl (gs.map Typ.cs)),B any]
attribute [local go_sem] Typ.v Typ.cs_eq tk_mk tname_mk tn_mk tl_mk tysC arV
end
section
attribute [local go_sem] Typ.v Typ.cs_eq tk_mk tname_mk tn_mk tl_mk tysC
end
section
attribute [local go_sem] Typ.v Typ.cs_eq tk_mk tname_mk tn_mk tl_mk tysC
end
section
attribute [local go_sem] Typ.v Typ.cs_eq tk_mk tname_mk tn_mk tl_mk tysC arV Cla.v
end
section
attribute [local go_sem] Typ.v Typ.cs_eq tk_mk tname_mk tn_mk tl_mk tysC arV Cla.v Cla.cs
end
section
attribute [local go_sem] Typ.v Typ.cs_eq tk_mk tname_mk tn_mk tl_mk tysC arV
end
section
def c51:AC:=.seq (.reg [.o 2 (.box (.t 0)),.o 4 (.mov (.k (.csl []))),.o 5 (.mov (.k (.c (.int .i64 0))))]) (.seq (.reg [.d 6 4 2,.m 7 1,.k 8 133 [(.t 6),(.t 7),(.k (.c (.int .i64 0)))],.m 9 1,.o 10 (.build [.c (.int .i64 0),.c (.str []),.c (.int .i64 0),.csl []] []),.k 11 128 [(.t 8),(.t 9),(.t 10),(.k (.c (.bool false))),(.k (.c (.bool false)))],.x 12 11 0,.x 13 11 1,.m 4 12,.m 5 13]) (.ret))
def c55:AC:=.seq (.reg [.o 3 (.box (.t 0)),.o 6 (.box (.k (.agg [.c (.int .i64 0),.c (.str []),.c (.int .i64 0),.csl []])))]) (.seq (.reg [.m 11 1,.o 12 (.lenr (.t 11)),.m 7 12]) (.seq (.seq (.reg [.f 13 0 3,.l 14 13,.o 15 (.bin .eql (.t 14) (.k (.c (.int .i64 3)))),.m 16 15,.y 17 (.fadd 2 (.t 3)) 16,.y 18 (.load1 (.t 17)) 16,.y 19 (.mov (.t 2)) 16,.y 20 (.bin .geq (.t 18) (.t 19)) 16,.o 21 (.pick (.t 16) (.t 20) (.k (.c (.bool false))))]) (.cond (.t 21) (.seq (.seq (.reg [.f 22 2 3,.l 23 22,.m 24 2,.m 25 7,.o 26 (.bin .add (.t 24) (.t 25)),.o 27 (.bin .lss (.t 23) (.t 26))]) (.cond (.t 27) (.seq (.reg [.m 28 1,.m 29 7,.o 30 (.bin .sub (.t 29) (.k (.c (.int .i64 1)))),.f 31 2 3,.l 32 31,.m 33 2,.o 34 (.bin .sub (.t 32) (.t 33)),.o 35 (.bin .sub (.t 30) (.t 34)),.o 36 (.iadd 4 (.t 28) (.t 35)),.d 37 4 36,.m 38 2,.k 39 139 [(.t 37),(.k (.c (.int .i64 0))),(.t 38)],.s 4 6 39]) (.ret)) (.skip))) (.seq (.reg [.f 40 2 3,.l 41 40,.m 42 7,.o 43 (.bin .sub (.t 41) (.t 42)),.o 44 (.build [.c (.int .i64 0),.c (.str []),.c (.int .i64 0),.csl []] [(0,1,(.k (.c (.int .i64 3)))),(2,1,(.t 43))]),.s 4 6 44]) (.ret))) (.skip))) (.seq (.seq (.reg [.f 45 0 3,.l 46 45,.o 47 (.bin .neq (.t 46) (.k (.c (.int .i64 5)))),.m 48 47,.y 49 (.fadd 0 (.t 3)) 48,.y 50 (.load1 (.t 49)) 48,.y 51 (.bin .neq (.t 50) (.k (.c (.int .i64 6)))) 48,.o 52 (.pick (.t 48) (.t 51) (.k (.c (.bool false))))]) (.cond (.t 52) (.seq (.reg [.d 53 4 3,.s 4 6 53]) (.ret)) (.skip))) (.seq (.reg [.o 8 (.mov (.k (.csl [])))]) (.seq (.seq (.reg [.o 9 (.mov (.k (.c (.int .i64 0))))]) (.block 0 (.loop (.seq (.seq (.reg [.m 54 9,.f 55 3 3,.l 56 55,.o 57 (.lenr (.t 56)),.o 58 (.bin .lss (.t 54) (.t 57))]) (.cond (.t 58) (.skip) (.exit 0))) (.seq (.block 1 (.seq (.reg [.m 61 2,.m 10 61]) (.seq (.seq (.reg [.f 62 0 3,.l 63 62,.o 64 (.bin .eql (.t 63) (.k (.c (.int .i64 5))))]) (.cond (.t 64) (.reg [.m 65 2,.o 66 (.bin .add (.t 65) (.k (.c (.int .i64 1)))),.m 10 66]) (.skip))) (.reg [.m 67 8,.f 68 3 3,.l 69 68,.m 70 9,.o 71 (.iadd 4 (.t 69) (.t 70)),.d 72 4 71,.m 73 1,.m 74 10,.k 75 55 [(.t 72),(.t 73),(.t 74)],.o 76 (.bsl 4 [(.t 75)]),.o 77 (.app 30 4 56 (.t 67) (.t 76)),.m 8 77])))) (.reg [.m 59 9,.o 60 (.bin .add (.t 59) (.k (.c (.int .i64 1)))),.m 9 60])))))) (.seq (.seq (.reg [.f 78 0 3,.l 79 78,.o 80 (.bin .eql (.t 79) (.k (.c (.int .i64 6))))]) (.cond (.t 80) (.seq (.dreg [.m 81 8,.o 82 (.iadd 4 (.t 81) (.k (.c (.int .i64 0)))),.d 83 4 82,.m 84 8,.o 85 (.slr 4 (.t 84) (some (.k (.c (.int .i64 1)))) none none),.k 86 140 [(.t 83),(.t 85)],.s 4 6 86] [.q (.m 81 8),.q (.o 82 (.iadd 4 (.t 81) (.k (.c (.int .i64 0))))),.q (.d 83 4 82),.q (.m 84 8),.q (.o 85 (.slr 4 (.t 84) (some (.k (.c (.int .i64 1)))) none none)),⟨.k 86 140 [(.t 83),(.t 85)],true,0⟩,⟨.s 4 6 86,true,1⟩]) (.ret)) (.skip))) (.seq (.reg [.f 87 0 3,.l 88 87,.m 89 8,.o 90 (.build [.c (.int .i64 0),.c (.str []),.c (.int .i64 0),.csl []] [(0,1,(.t 88)),(3,1,(.t 89))]),.s 4 6 90]) (.ret))))))))
def r55:List ResV:=[.celln 4 6]
theorem k55:CodeIs Tryz.prog 55 3 Tryz.f55 c55 r55:=.auto Tryz.func55
def c32:AC:=.seq (.reg [.o 2 (.box (.t 0)),.o 3 (.box (.t 1)),.o 4 (.mov (.k (.c (.bool false))))]) (.seq (.seq (.reg [.f 7 0 2,.l 8 7,.f 9 0 3,.l 10 9,.o 11 (.bin .neq (.t 8) (.t 10)),.m 12 11,.z 13 (.fadd 1 (.t 2)) 12,.z 14 (.load1 (.t 13)) 12,.z 15 (.fadd 1 (.t 3)) 12,.z 16 (.load1 (.t 15)) 12,.z 17 (.bin .neq (.t 14) (.t 16)) 12,.o 18 (.pick (.t 12) (.k (.c (.bool true))) (.t 17)),.m 19 18,.z 20 (.fadd 2 (.t 2)) 19,.z 21 (.load1 (.t 20)) 19,.z 22 (.fadd 2 (.t 3)) 19,.z 23 (.load1 (.t 22)) 19,.z 24 (.bin .neq (.t 21) (.t 23)) 19,.o 25 (.pick (.t 19) (.k (.c (.bool true))) (.t 24)),.m 26 25,.z 27 (.fadd 3 (.t 2)) 26,.z 28 (.load1 (.t 27)) 26,.z 29 (.lenr (.t 28)) 26,.z 30 (.fadd 3 (.t 3)) 26,.z 31 (.load1 (.t 30)) 26,.z 32 (.lenr (.t 31)) 26,.z 33 (.bin .neq (.t 29) (.t 32)) 26,.o 34 (.pick (.t 26) (.k (.c (.bool true))) (.t 33))]) (.cond (.t 34) (.seq (.reg [.o 4 (.mov (.k (.c (.bool false))))]) (.ret)) (.skip))) (.seq (.seq (.reg [.o 5 (.mov (.k (.c (.int .i64 0))))]) (.block 0 (.loop (.seq (.seq (.reg [.m 35 5,.f 36 3 2,.l 37 36,.o 38 (.lenr (.t 37)),.o 39 (.bin .lss (.t 35) (.t 38))]) (.cond (.t 39) (.skip) (.exit 0))) (.seq (.block 1 (.seq (.dreg [.f 42 3 2,.l 43 42,.m 44 5,.o 45 (.iadd 4 (.t 43) (.t 44)),.d 46 4 45,.f 47 3 3,.l 48 47,.m 49 5,.o 50 (.iadd 4 (.t 48) (.t 49)),.d 51 4 50,.k 52 32 [(.t 46),(.t 51)],.m 6 52] [.q (.f 42 3 2),.q (.l 43 42),.q (.m 44 5),.q (.o 45 (.iadd 4 (.t 43) (.t 44))),.q (.d 46 4 45),.q (.f 47 3 3),.q (.l 48 47),.q (.m 49 5),.q (.o 50 (.iadd 4 (.t 48) (.t 49))),.q (.d 51 4 50),⟨.k 52 32 [(.t 46),(.t 51)],true,0⟩,⟨.m 6 52,false,1⟩]) (.seq (.reg [.m 53 6,.o 54 (.un .not (.t 53))]) (.cond (.t 54) (.seq (.reg [.o 4 (.mov (.k (.c (.bool false))))]) (.ret)) (.skip))))) (.reg [.m 40 5,.o 41 (.bin .add (.t 40) (.k (.c (.int .i64 1)))),.m 5 41])))))) (.seq (.reg [.o 4 (.mov (.k (.c (.bool true))))]) (.ret))))
def r32:List ResV:=[.tmp 4]
theorem k32:CodeIs Tryz.prog 32 2 Tryz.f32 c32 r32:=.auto Tryz.func32
def c205:AC:=.seq (.reg [.o 1 (.box (.t 0)),.o 2 (.mov (.k (.c (.bool false))))]) (.seq (.reg [.f 3 0 1,.l 4 3,.o 5 (.bin .eql (.t 4) (.k (.c (.int .i64 5)))),.m 6 5,.z 7 (.fadd 0 (.t 1)) 6,.z 8 (.load1 (.t 7)) 6,.z 9 (.bin .eql (.t 8) (.k (.c (.int .i64 6)))) 6,.o 10 (.pick (.t 6) (.k (.c (.bool true))) (.t 9)),.m 2 10]) (.ret))
def r205:List ResV:=[.tmp 2]
theorem k205:CodeIs Tryz.prog 205 1 Tryz.f205 c205 r205:=.auto Tryz.func205
def c284:AC:=.seq (.reg [.o 2 (.box (.t 0)),.o 4 (.mov (.k (.c (.int .i64 0))))]) (.seq (.seq (.reg [.f 5 0 2,.l 6 5,.o 7 (.bin .eql (.t 6) (.k (.c (.int .i64 5))))]) (.cond (.t 7) (.seq (.reg [.m 8 1,.o 9 (.bin .add (.t 8) (.k (.c (.int .i64 1)))),.m 4 9]) (.ret)) (.skip))) (.seq (.reg [.m 10 1,.m 4 10]) (.ret)))
def r284:List ResV:=[.tmp 4]
theorem k284:CodeIs Tryz.prog 284 2 Tryz.f284 c284 r284:=.auto Tryz.func284
def c140:AC:=.seq (.reg [.o 2 (.box (.t 0)),.o 4 (.box (.k (.agg [.c (.int .i64 0),.c (.str []),.c (.int .i64 0),.csl []])))]) (.seq (.seq (.reg [.m 6 1,.o 7 (.lenr (.t 6)),.o 8 (.bin .eql (.t 7) (.k (.c (.int .i64 0))))]) (.cond (.t 8) (.seq (.reg [.d 9 4 2,.s 4 4 9]) (.ret)) (.skip))) (.seq (.reg [.o 5 (.mov (.k (.csl [])))]) (.seq (.seq (.reg [.f 10 0 2,.l 11 10,.o 12 (.bin .eql (.t 11) (.k (.c (.int .i64 6)))),.m 13 12,.y 14 (.fadd 3 (.t 2)) 13,.y 15 (.load1 (.t 14)) 13,.y 16 (.lenr (.t 15)) 13,.y 17 (.bin .gtr (.t 16) (.k (.c (.int .i64 0)))) 13,.o 18 (.pick (.t 13) (.t 17) (.k (.c (.bool false))))]) (.cond (.t 18) (.reg [.m 19 5,.f 20 3 2,.l 21 20,.o 22 (.app 30 4 56 (.t 19) (.t 21)),.m 5 22]) (.reg [.m 23 5,.d 24 4 2,.o 25 (.bsl 4 [(.t 24)]),.o 26 (.app 30 4 56 (.t 23) (.t 25)),.m 5 26]))) (.seq (.reg [.m 27 5,.m 28 1,.o 29 (.app 30 4 56 (.t 27) (.t 28)),.m 5 29]) (.seq (.reg [.m 30 5,.o 31 (.build [.c (.int .i64 0),.c (.str []),.c (.int .i64 0),.csl []] [(0,1,(.k (.c (.int .i64 6)))),(3,1,(.t 30))]),.s 4 4 31]) (.ret))))))
def r140:List ResV:=[.celln 4 4]
theorem k140:CodeIs Tryz.prog 140 2 Tryz.f140 c140 r140:=.auto Tryz.func140
def c285:AC:=.seq (.reg [.o 2 (.box (.t 0)),.o 4 (.box (.k (.agg [.c (.int .i64 0),.c (.str []),.c (.int .i64 0),.csl []])))]) (.seq (.seq (.reg [.f 5 0 2,.l 6 5,.o 7 (.bin .eql (.t 6) (.k (.c (.int .i64 6)))),.m 8 7,.y 9 (.mov (.t 1)) 8,.y 10 (.lenr (.t 9)) 8,.y 11 (.bin .gtr (.t 10) (.k (.c (.int .i64 1)))) 8,.o 12 (.pick (.t 8) (.t 11) (.k (.c (.bool false)))),.m 13 12,.y 14 (.mov (.t 1)) 13,.y 15 (.iadd 4 (.t 14) (.k (.c (.int .i64 0)))) 13,.y 16 (.fadd 0 (.t 15)) 13,.y 17 (.load1 (.t 16)) 13,.y 18 (.bin .eql (.t 17) (.k (.c (.int .i64 6)))) 13,.o 19 (.pick (.t 13) (.t 18) (.k (.c (.bool false)))),.m 20 19,.y 21 (.fadd 3 (.t 2)) 20,.y 22 (.load1 (.t 21)) 20,.y 23 (.iadd 4 (.t 22) (.k (.c (.int .i64 0)))) 20,.y 24 (.fadd 0 (.t 23)) 20,.y 25 (.load1 (.t 24)) 20,.y 26 (.bin .neq (.t 25) (.k (.c (.int .i64 6)))) 20,.o 27 (.pick (.t 20) (.t 26) (.k (.c (.bool false))))]) (.cond (.t 27) (.seq (.dreg [.m 28 1,.o 29 (.iadd 4 (.t 28) (.k (.c (.int .i64 0)))),.d 30 4 29,.m 31 1,.o 32 (.slr 4 (.t 31) (some (.k (.c (.int .i64 1)))) none none),.k 33 140 [(.t 30),(.t 32)],.s 4 4 33] [.q (.m 28 1),.q (.o 29 (.iadd 4 (.t 28) (.k (.c (.int .i64 0))))),.q (.d 30 4 29),.q (.m 31 1),.q (.o 32 (.slr 4 (.t 31) (some (.k (.c (.int .i64 1)))) none none)),⟨.k 33 140 [(.t 30),(.t 32)],true,0⟩,⟨.s 4 4 33,true,1⟩]) (.ret)) (.skip))) (.seq (.reg [.f 34 0 2,.l 35 34,.f 36 1 2,.l 37 36,.f 38 2 2,.l 39 38,.m 40 1,.o 41 (.build [.c (.int .i64 0),.c (.str []),.c (.int .i64 0),.csl []] [(0,1,(.t 35)),(1,1,(.t 37)),(2,1,(.t 39)),(3,1,(.t 40))]),.s 4 4 41]) (.ret)))
def r285:List ResV:=[.celln 4 4]
theorem k285:CodeIs Tryz.prog 285 2 Tryz.f285 c285 r285:=.auto Tryz.func285
def c228:AC:=.seq (.reg [.o 4 (.box (.t 0)),.o 8 (.box (.k (.agg [.c (.int .i64 0),.c (.str []),.c (.int .i64 0),.csl []])))]) (.seq (.seq (.reg [.f 12 0 4,.l 13 12,.o 14 (.bin .eql (.t 13) (.k (.c (.int .i64 3)))),.m 15 14,.y 16 (.fadd 2 (.t 4)) 15,.y 17 (.load1 (.t 16)) 15,.y 18 (.mov (.t 3)) 15,.y 19 (.mov (.t 1)) 15,.y 20 (.bin .add (.t 18) (.t 19)) 15,.y 21 (.bin .geq (.t 17) (.t 20)) 15,.o 22 (.pick (.t 15) (.t 21) (.k (.c (.bool false))))]) (.cond (.t 22) (.seq (.reg [.f 23 0 4,.l 24 23,.f 25 1 4,.l 26 25,.f 27 2 4,.l 28 27,.m 29 2,.o 30 (.bin .add (.t 28) (.t 29)),.f 31 3 4,.l 32 31,.o 33 (.build [.c (.int .i64 0),.c (.str []),.c (.int .i64 0),.csl []] [(0,1,(.t 24)),(1,1,(.t 26)),(2,1,(.t 30)),(3,1,(.t 32))]),.s 4 8 33]) (.ret)) (.skip))) (.seq (.reg [.d 34 4 4,.k 35 205 [(.t 34)],.m 9 35]) (.seq (.seq (.reg [.m 36 9,.o 37 (.un .not (.t 36))]) (.cond (.t 37) (.seq (.reg [.d 38 4 4,.s 4 8 38]) (.ret)) (.skip))) (.seq (.reg [.o 10 (.mov (.k (.csl [])))]) (.seq (.seq (.reg [.o 11 (.mov (.k (.c (.int .i64 0))))]) (.block 0 (.loop (.seq (.seq (.reg [.m 39 11,.f 40 3 4,.l 41 40,.o 42 (.lenr (.t 41)),.o 43 (.bin .lss (.t 39) (.t 42))]) (.cond (.t 43) (.skip) (.exit 0))) (.seq (.block 1 (.dreg [.m 46 10,.f 47 3 4,.l 48 47,.m 49 11,.o 50 (.iadd 4 (.t 48) (.t 49)),.d 51 4 50,.m 52 1,.m 53 2,.d 54 4 4,.m 55 3,.k 56 284 [(.t 54),(.t 55)],.k 57 228 [(.t 51),(.t 52),(.t 53),(.t 56)],.o 58 (.bsl 4 [(.t 57)]),.o 59 (.app 30 4 56 (.t 46) (.t 58)),.m 10 59] [.q (.d 54 4 4),.q (.m 55 3),⟨.k 56 284 [(.t 54),(.t 55)],true,0⟩,.q (.f 47 3 4),.q (.l 48 47),.q (.m 49 11),.q (.o 50 (.iadd 4 (.t 48) (.t 49))),.q (.d 51 4 50),.q (.m 52 1),.q (.m 53 2),⟨.k 57 228 [(.t 51),(.t 52),(.t 53),(.t 56)],true,1⟩,.q (.m 46 10),⟨.o 58 (.bsl 4 [(.t 57)]),false,2⟩,⟨.o 59 (.app 30 4 56 (.t 46) (.t 58)),true,2⟩,⟨.m 10 59,false,3⟩])) (.reg [.m 44 11,.o 45 (.bin .add (.t 44) (.k (.c (.int .i64 1)))),.m 11 45])))))) (.seq (.reg [.d 60 4 4,.m 61 10,.k 62 285 [(.t 60),(.t 61)],.s 4 8 62]) (.ret)))))))
def r228:List ResV:=[.celln 4 8]
theorem k228:CodeIs Tryz.prog 228 4 Tryz.f228 c228 r228:=.auto Tryz.func228
def c139:AC:=.seq (.reg [.o 3 (.box (.t 0)),.o 6 (.box (.k (.agg [.c (.int .i64 0),.c (.str []),.c (.int .i64 0),.csl []])))]) (.seq (.reg [.d 7 4 3,.m 8 1,.m 9 2,.k 10 228 [(.t 7),(.t 8),(.t 9),(.k (.c (.int .i64 0)))],.s 4 6 10]) (.ret))
def r139:List ResV:=[.celln 4 6]
theorem k139:CodeIs Tryz.prog 139 3 Tryz.f139 c139 r139:=.auto Tryz.func139
end
section
def c9:AC:=.seq (.reg [.o 3 (.box (.t 0)),.o 4 (.box (.t 1)),.o 5 (.box (.t 2)),.o 6 (.mov (.k (.c (.bool false))))]) (.seq (.reg [.k 29 39 [],.m 7 29]) (.seq (.seq (.reg [.m 30 7,.o 31 (.un .not (.t 30))]) (.cond (.t 31) (.seq (.reg [.o 6 (.mov (.k (.c (.bool false))))]) (.ret)) (.skip))) (.seq (.reg [.d 32 4 3,.k 33 40 [(.t 32)],.m 8 33]) (.seq (.reg [.d 34 4 4,.k 35 40 [(.t 34)],.m 9 35]) (.seq (.reg [.d 36 4 5,.k 37 40 [(.t 36)],.m 10 37]) (.seq (.reg [.d 38 4 3,.k 39 23 [(.t 38)],.m 11 39]) (.seq (.reg [.d 40 4 4,.k 41 23 [(.t 40)],.m 12 41]) (.seq (.reg [.d 42 4 5,.k 43 23 [(.t 42)],.m 13 43]) (.seq (.seq (.reg [.m 44 8,.m 45 44,.z 46 (.mov (.t 9)) 45,.o 47 (.pick (.t 45) (.k (.c (.bool true))) (.t 46)),.m 48 47,.z 49 (.mov (.t 10)) 48,.o 50 (.pick (.t 48) (.k (.c (.bool true))) (.t 49)),.m 51 50,.z 52 (.mov (.t 11)) 51,.z 53 (.un .not (.t 52)) 51,.o 54 (.pick (.t 51) (.k (.c (.bool true))) (.t 53)),.m 55 54,.z 56 (.mov (.t 12)) 55,.z 57 (.un .not (.t 56)) 55,.o 58 (.pick (.t 55) (.k (.c (.bool true))) (.t 57)),.m 59 58,.z 60 (.mov (.t 13)) 59,.z 61 (.un .not (.t 60)) 59,.o 62 (.pick (.t 59) (.k (.c (.bool true))) (.t 61))]) (.cond (.t 62) (.seq (.reg [.m 63 7,.m 6 63]) (.ret)) (.skip))) (.seq (.reg [.d 65 4 3,.k 66 41 [(.t 65)],.m 64 66,.x 67 64 0,.x 68 64 1,.m 14 67,.m 15 68]) (.seq (.reg [.d 70 4 4,.k 71 41 [(.t 70)],.m 69 71,.x 72 69 0,.x 73 69 1,.m 16 72,.m 17 73]) (.seq (.reg [.o 75 (.build [.c (.int .i64 0),.c (.str []),.c (.int .i64 0),.csl []] [(1,1,(.k (.c (.str [44]))))]),.d 76 4 3,.d 77 4 4,.o 78 (.bsl 4 [(.t 76),(.t 77)]),.k 79 42 [(.t 75),(.t 78)],.k 80 41 [(.t 79)],.m 74 80,.x 81 74 0,.x 82 74 1,.m 18 81,.m 19 82]) (.seq (.seq (.reg [.m 83 15,.o 84 (.bin .neq (.t 83) (.k (.c (.int .i64 0)))),.m 85 84,.z 86 (.mov (.t 17)) 85,.z 87 (.bin .neq (.t 86) (.k (.c (.int .i64 0)))) 85,.o 88 (.pick (.t 85) (.k (.c (.bool true))) (.t 87))]) (.cond (.t 88) (.seq (.reg [.m 89 7,.m 90 89,.y 91 (.mov (.t 19)) 90,.y 92 (.bin .neq (.t 91) (.k (.c (.int .i64 0)))) 90,.o 93 (.pick (.t 90) (.t 92) (.k (.c (.bool false)))),.m 94 93,.y 95 (.mov (.t 18)) 94,.y 96 (.lenr (.t 95)) 94,.y 97 (.bin .eql (.t 96) (.k (.c (.int .i64 0)))) 94,.o 98 (.pick (.t 94) (.t 97) (.k (.c (.bool false)))),.m 6 98]) (.ret)) (.skip))) (.seq (.reg [.o 20 (.mov (.k (.csl [])))]) (.seq (.reg [.m 99 20,.m 100 14,.o 101 (.app 88 9 120 (.t 99) (.t 100)),.m 20 101]) (.seq (.reg [.m 102 20,.m 103 16,.o 104 (.app 88 9 120 (.t 102) (.t 103)),.m 20 104]) (.seq (.reg [.m 105 18,.m 106 20,.k 107 43 [(.t 105),(.t 106)],.m 21 107]) (.seq (.seq (.reg [.m 108 21,.o 109 (.un .not (.t 108)),.m 110 109,.z 111 (.mov (.t 19)) 110,.z 112 (.bin .neq (.t 111) (.k (.c (.int .i64 0)))) 110,.o 113 (.pick (.t 110) (.k (.c (.bool true))) (.t 112))]) (.cond (.t 113) (.seq (.reg [.o 6 (.mov (.k (.c (.bool false))))]) (.ret)) (.skip))) (.seq (.reg [.o 115 (.build [.c (.int .i64 0),.c (.str []),.c (.int .i64 0),.csl []] [(1,1,(.k (.c (.str [112,105]))))]),.d 116 4 3,.k 117 44 [(.k (.c (.int .i64 1))),(.t 116)],.o 118 (.bsl 4 [(.t 117)]),.k 119 42 [(.t 115),(.t 118)],.k 120 41 [(.t 119)],.m 114 120,.x 121 114 0,.x 122 114 1,.m 22 121,.m 23 122]) (.seq (.seq (.reg [.m 123 23,.o 124 (.bin .neq (.t 123) (.k (.c (.int .i64 0)))),.m 125 124,.z 126 (.mov (.t 22)) 125,.z 127 (.lenr (.t 126)) 125,.z 128 (.mov (.t 14)) 125,.z 129 (.lenr (.t 128)) 125,.z 130 (.bin .neq (.t 127) (.t 129)) 125,.o 131 (.pick (.t 125) (.k (.c (.bool true))) (.t 130))]) (.cond (.t 131) (.seq (.reg [.o 6 (.mov (.k (.c (.bool false))))]) (.ret)) (.skip))) (.seq (.seq (.reg [.o 24 (.mov (.k (.c (.int .i64 0))))]) (.block 0 (.loop (.seq (.seq (.reg [.m 132 24,.m 133 14,.o 134 (.lenr (.t 133)),.o 135 (.bin .lss (.t 132) (.t 134))]) (.cond (.t 135) (.skip) (.exit 0))) (.seq (.block 1 (.seq (.dreg [.m 138 22,.m 139 24,.o 140 (.iadd 9 (.t 138) (.t 139)),.f 141 0 140,.l 142 141,.m 143 14,.m 144 24,.o 145 (.iadd 9 (.t 143) (.t 144)),.f 146 0 145,.l 147 146,.o 148 (.bin .add (.t 147) (.k (.c (.int .i64 1)))),.o 149 (.bin .neq (.t 142) (.t 148))] [.q (.m 138 22),.q (.m 139 24),.q (.o 140 (.iadd 9 (.t 138) (.t 139))),.q (.f 141 0 140),.q (.l 142 141),.q (.m 143 14),.q (.m 144 24),.q (.o 145 (.iadd 9 (.t 143) (.t 144))),.q (.f 146 0 145),.q (.l 147 146),.q (.o 148 (.bin .add (.t 147) (.k (.c (.int .i64 1))))),.q (.o 149 (.bin .neq (.t 142) (.t 148)))]) (.cond (.t 149) (.seq (.reg [.o 6 (.mov (.k (.c (.bool false))))]) (.ret)) (.skip)))) (.reg [.m 136 24,.o 137 (.bin .add (.t 136) (.k (.c (.int .i64 1)))),.m 24 137])))))) (.seq (.reg [.o 151 (.build [.c (.int .i64 0),.c (.str []),.c (.int .i64 0),.csl []] [(1,1,(.k (.c (.str [58,45]))))]),.d 152 4 3,.d 153 4 5,.o 154 (.bsl 4 [(.t 152),(.t 153)]),.k 155 42 [(.t 151),(.t 154)],.k 156 41 [(.t 155)],.m 150 156,.x 157 150 0,.x 158 150 1,.m 25 157,.m 26 158]) (.seq (.reg [.o 160 (.build [.c (.int .i64 0),.c (.str []),.c (.int .i64 0),.csl []] [(1,1,(.k (.c (.str [61,62]))))]),.d 161 4 5,.d 162 4 3,.o 163 (.bsl 4 [(.t 161),(.t 162)]),.k 164 42 [(.t 160),(.t 163)],.k 165 41 [(.t 164)],.m 159 165,.x 166 159 0,.x 167 159 1,.m 27 166,.m 28 167]) (.seq (.seq (.reg [.d 168 4 5,.k 169 45 [(.t 168)],.o 170 (.bin .neq (.t 169) (.k (.c (.int .i64 0))))]) (.cond (.t 170) (.seq (.reg [.m 171 7,.m 172 171,.y 173 (.mov (.t 26)) 172,.y 174 (.loadn 4 (.t 5)) 172,.y 175 (.call (.k (.fn 45 [])) [(.t 174)]) 172,.y 176 (.bin .eql (.t 173) (.t 175)) 172,.o 177 (.pick (.t 172) (.t 176) (.k (.c (.bool false)))),.m 178 177,.y 179 (.mov (.t 28)) 178,.y 180 (.mov (.t 26)) 178,.y 181 (.bin .eql (.t 179) (.t 180)) 178,.o 182 (.pick (.t 178) (.t 181) (.k (.c (.bool false)))),.m 6 182]) (.ret)) (.skip))) (.seq (.reg [.m 183 25,.m 184 27,.k 185 43 [(.t 183),(.t 184)],.m 21 185]) (.seq (.reg [.m 186 7,.m 187 186,.y 188 (.mov (.t 26)) 187,.y 189 (.bin .eql (.t 188) (.k (.c (.int .i64 0)))) 187,.o 190 (.pick (.t 187) (.t 189) (.k (.c (.bool false)))),.m 191 190,.y 192 (.mov (.t 28)) 191,.y 193 (.bin .eql (.t 192) (.k (.c (.int .i64 0)))) 191,.o 194 (.pick (.t 191) (.t 193) (.k (.c (.bool false)))),.m 195 194,.y 196 (.mov (.t 21)) 195,.o 197 (.pick (.t 195) (.t 196) (.k (.c (.bool false)))),.m 198 197,.y 199 (.mov (.t 25)) 198,.y 200 (.lenr (.t 199)) 198,.y 201 (.mov (.t 14)) 198,.y 202 (.lenr (.t 201)) 198,.y 203 (.bin .eql (.t 200) (.t 202)) 198,.o 204 (.pick (.t 198) (.t 203) (.k (.c (.bool false)))),.m 6 204]) (.ret)))))))))))))))))))))))))))
def c11:AC:=.seq (.reg [.o 2 (.box (.t 0)),.o 4 (.mov (.k (.c (.bool false))))]) (.seq (.reg [.k 18 39 [],.m 5 18]) (.seq (.seq (.reg [.m 19 5,.o 20 (.un .not (.t 19))]) (.cond (.t 20) (.seq (.reg [.o 4 (.mov (.k (.c (.bool false))))]) (.ret)) (.skip))) (.seq (.reg [.f 21 1 2,.d 22 4 21,.k 23 40 [(.t 22)],.m 6 23]) (.seq (.reg [.f 24 5 2,.d 25 4 24,.k 26 40 [(.t 25)],.m 7 26]) (.seq (.seq (.reg [.m 27 6,.m 28 27,.z 29 (.mov (.t 7)) 28,.o 30 (.pick (.t 28) (.k (.c (.bool true))) (.t 29)),.m 31 30,.z 32 (.mov (.t 1)) 31,.z 33 (.lenr (.t 32)) 31,.z 34 (.bin .gtr (.t 33) (.k (.c (.int .i64 6)))) 31,.o 35 (.pick (.t 31) (.k (.c (.bool true))) (.t 34))]) (.cond (.t 35) (.seq (.reg [.m 36 5,.m 4 36]) (.ret)) (.skip))) (.seq (.reg [.f 37 0 2,.l 38 37,.m 39 1,.o 40 (.lenr (.t 39)),.o 41 (.bin .eql (.t 38) (.t 40)),.m 42 41,.y 43 (.fadd 1 (.t 2)) 42,.y 44 (.loadn 4 (.t 43)) 42,.y 45 (.call (.k (.fn 15 [])) [(.t 44)]) 42,.o 46 (.pick (.t 42) (.t 45) (.k (.c (.bool false)))),.m 47 46,.y 48 (.fadd 5 (.t 2)) 47,.y 49 (.loadn 4 (.t 48)) 47,.y 50 (.call (.k (.fn 15 [])) [(.t 49)]) 47,.o 51 (.pick (.t 47) (.t 50) (.k (.c (.bool false)))),.m 8 51]) (.seq (.seq (.reg [.o 9 (.mov (.k (.c (.int .i64 0))))]) (.block 0 (.loop (.seq (.seq (.reg [.m 52 9,.m 53 1,.o 54 (.lenr (.t 53)),.o 55 (.bin .lss (.t 52) (.t 54))]) (.cond (.t 55) (.skip) (.exit 0))) (.seq (.block 1 (.seq (.reg [.m 58 1,.m 59 9,.o 60 (.iadd 4 (.t 58) (.t 59)),.d 61 4 60,.k 62 52 [(.t 61),(.k (.c (.int .i64 20)))],.m 10 62]) (.seq (.reg [.m 63 1,.m 64 9,.o 65 (.iadd 4 (.t 63) (.t 64)),.d 66 4 65,.k 67 53 [(.t 66),(.k (.c (.int .i64 1099511627776)))],.m 11 67]) (.seq (.seq (.reg [.m 68 10,.m 69 68,.z 70 (.mov (.t 11)) 69,.z 71 (.un .not (.t 70)) 69,.o 72 (.pick (.t 69) (.k (.c (.bool true))) (.t 71))]) (.cond (.t 72) (.seq (.reg [.m 73 5,.m 4 73]) (.ret)) (.skip))) (.reg [.m 74 8,.m 75 74,.y 76 (.mov (.t 1)) 75,.y 77 (.mov (.t 9)) 75,.y 78 (.iadd 4 (.t 76) (.t 77)) 75,.y 79 (.loadn 4 (.t 78)) 75,.y 80 (.call (.k (.fn 15 [])) [(.t 79)]) 75,.o 81 (.pick (.t 75) (.t 80) (.k (.c (.bool false)))),.m 8 81]))))) (.reg [.m 56 9,.o 57 (.bin .add (.t 56) (.k (.c (.int .i64 1)))),.m 9 57])))))) (.seq (.reg [.d 83 9 2,.m 84 1,.k 85 54 [(.t 83),(.t 84)],.m 82 85,.x 86 82 0,.x 87 82 1,.o 12 (.box (.k (.agg [.c (.int .i64 0),.c (.str []),.c (.int .i64 0),.csl []]))),.o 13 (.box (.k (.agg [.c (.int .i64 0),.c (.str []),.c (.int .i64 0),.csl []]))),.s 4 12 86,.s 4 13 87]) (.seq (.seq (.reg [.m 88 8,.o 89 (.un .not (.t 88))]) (.cond (.t 89) (.seq (.reg [.d 90 4 12,.o 91 (.build [.c (.int .i64 0),.c (.str []),.c (.int .i64 0),.csl []] []),.k 92 32 [(.t 90),(.t 91)],.m 14 92]) (.seq (.reg [.d 93 4 13,.o 94 (.build [.c (.int .i64 0),.c (.str []),.c (.int .i64 0),.csl []] []),.k 95 32 [(.t 93),(.t 94)],.m 15 95]) (.seq (.reg [.m 96 5,.m 97 96,.y 98 (.mov (.t 14)) 97,.o 99 (.pick (.t 97) (.t 98) (.k (.c (.bool false)))),.m 100 99,.y 101 (.mov (.t 15)) 100,.o 102 (.pick (.t 100) (.t 101) (.k (.c (.bool false)))),.m 4 102]) (.ret)))) (.skip))) (.seq (.dreg [.d 103 4 12,.f 104 1 2,.d 105 4 104,.m 106 1,.k 107 55 [(.t 105),(.t 106),(.k (.c (.int .i64 0)))],.k 108 32 [(.t 103),(.t 107)],.m 16 108] [.q (.f 104 1 2),.q (.d 105 4 104),.q (.m 106 1),⟨.k 107 55 [(.t 105),(.t 106),(.k (.c (.int .i64 0)))],true,0⟩,.q (.d 103 4 12),⟨.k 108 32 [(.t 103),(.t 107)],true,1⟩,⟨.m 16 108,false,2⟩]) (.seq (.dreg [.d 109 4 13,.f 110 5 2,.d 111 4 110,.m 112 1,.k 113 55 [(.t 111),(.t 112),(.k (.c (.int .i64 0)))],.k 114 32 [(.t 109),(.t 113)],.m 17 114] [.q (.f 110 5 2),.q (.d 111 4 110),.q (.m 112 1),⟨.k 113 55 [(.t 111),(.t 112),(.k (.c (.int .i64 0)))],true,0⟩,.q (.d 109 4 13),⟨.k 114 32 [(.t 109),(.t 113)],true,1⟩,⟨.m 17 114,false,2⟩]) (.seq (.reg [.m 115 5,.m 116 115,.y 117 (.mov (.t 16)) 116,.o 118 (.pick (.t 116) (.t 117) (.k (.c (.bool false)))),.m 119 118,.y 120 (.mov (.t 17)) 119,.o 121 (.pick (.t 119) (.t 120) (.k (.c (.bool false)))),.m 4 121]) (.ret)))))))))))))
def r11:List ResV:=[.tmp 4]
theorem k11:CodeIs Tryz.prog 11 2 Tryz.f11 c11 r11:=.auto Tryz.func11
def c40:AC:=.seq (.reg [.o 1 (.box (.t 0)),.o 2 (.mov (.k (.c (.bool false))))]) (.seq (.reg [.d 4 4 1,.k 5 53 [(.t 4),(.k (.c (.int .i64 1099511627776)))],.m 3 5]) (.seq (.reg [.d 6 4 1,.k 7 52 [(.t 6),(.k (.c (.int .i64 80)))],.m 8 7,.z 9 (.mov (.t 3)) 8,.z 10 (.un .not (.t 9)) 8,.o 11 (.pick (.t 8) (.k (.c (.bool true))) (.t 10)),.m 2 11]) (.ret)))
def r40:List ResV:=[.tmp 2]
theorem k40:CodeIs Tryz.prog 40 1 Tryz.f40 c40 r40:=.auto Tryz.func40
end
section
attribute [local go_sem] Typ.v Typ.cs_eq tk_mk tname_mk tn_mk tl_mk tysC Cla.cs
theorem ref07_Same (w0:World) (p:Typ):∀ (σ:H),DC Tryz.prog w0 32 [p.v,p.v] σ (Same (B true) σ):=by
 refine Typ.ind (P:=fun p=>∀ (σ:H),DC Tryz.prog w0 32 [p.v,p.v] σ (Same (B true) σ)) (fun p ih σ=>?_) p
 refine k32.go rfl (fun hok hsz=>?_)
 have hlen:=typ_len hsz (List.mem_cons_self ..)
 ((try refine W.a ?_);simp only [go_sem,seval,c32,bne_self_eq_false'])
 refine W.no rfl ?_
 ((try refine W.a ?_);simp only [go_sem,seval])
 refine W.loopP (fun i=>i ≤ p.l.length) (fun i=>⟨((((base.put (some 2) (.ptr σ.length 0)).put (some 3) (.ptr (σ.length + 1) 0)).put (some 4) (B false)).put (some 5) (I (i:Nat))),σ ++ [.cells p.v.cellsV,.cells p.v.cellsV]⟩) (fun i=>p.l.length - i) 0 (Nat.zero_le _) ?_ (fun i hi=>?_)
 ·(refine Lew.env ?_;exact lee_here)
 by_cases hlt:i < p.l.length
 ·have h1:((i:Int) < (p.l.length:Int)):=by omega
  have hx:p.l[i]? = some p.l[i]:=List.getElem?_eq_getElem hlt
  have hw:IntKind.i64.wrap ((i:Int) + 1) = ((i + 1:Nat):Int):=wrap_next hlt hlen
  have hS:=fun σ=>ih p.l[i] (List.getElem_mem hlt) σ
  generalize p.l[i] = u at *
  ((try refine W.a ?_);simp only [go_sem,seval,h1])
  refine W.yes rfl ?_
  ((try refine W.a ?_);simp only [go_sem,seval])
  apply W.dregE (List.cons_ne_nil _ _)
  case hc=>
   (apply CanonE.advPO;simp only [go_sem,seval,h1,nat0,hx])
   (apply CanonE.call (hS _);(case hg=>rfl);(case hf=>rfl);(case ha=>first | rfl | simp))
   (apply CanonE.advPO;simp only [go_sem,seval])
   exact CanonE.nil
  ((try refine W.a ?_);simp only [go_sem,seval])
  refine W.no rfl ?_
  ((try refine W.a ?_);simp only [go_sem,seval,hw])
  refine .inv ⟨i + 1,hlt,by omega,?_⟩
  (refine Lew.env ?_;exact lee_here)
 have h1:¬ ((i:Int) < (p.l.length:Int)):=by omega
 ((try refine W.a ?_);simp only [go_sem,seval,h1])
 refine W.no rfl ?_
 ((try refine W.a ?_);simp only [go_sem,seval])
 (refine W.fs (hok) (by simp only [r32,go_sem,seval];rfl) ?_;simp only [resV];try exact V.wk.rfl _)
def over13 (t:Typ):Bool:=decide (leftT t 80 < 0) || !nearM 1099511627776 t
theorem over13_no {t:Typ} (h:over13 t = false) (hv:validM t = true):Small t:=by
 unfold over13 at h
 simp only [Bool.or_eq_false_iff,decide_eq_false_iff_not,Bool.not_eq_false'] at h
 refine ⟨hv,?_,h.2⟩
 have:=leftT_nodesM t 80 (by omega)
 omega
theorem law13_over (w0:World) (t:Typ) (σ:H):DC Tryz.prog w0 40 [t.v] σ (Same (B (over13 t)) σ):=by
 refine k40.go rfl (fun hok hsz=>?_)
 have hN:=fun σ=>ref07_Near w0 1099511627776 (by decide) (by decide) t σ
 have hL:=fun σ=>ref07_Large w0 t 80 (by decide) (by decide) σ
 unfold over13
 generalize decide (leftT t 80 < 0) = bl at *
 generalize nearM 1099511627776 t = bn at *
 ((try refine W.a ?_);simp only [go_sem,seval,c40])
 (refine W.c1 (hN _) ?_;simp only [go_sem,seval])
 ((try refine W.a ?_);simp only [go_sem,seval])
 (refine W.c1 (hL _) ?_;simp only [go_sem,seval])
 cases bl
 ·((try refine W.a ?_);simp only [go_sem,seval])
  (refine W.fs (hok) (by simp only [r40,go_sem,seval];rfl) ?_;simp only [resV];try exact V.wk.rfl _)
 ·((try refine W.a ?_);simp only [go_sem,seval])
  (refine W.fs (hok) (by simp only [r40,go_sem,seval];rfl) ?_;simp only [resV];try exact V.wk.rfl _)
end
section
attribute [local go_sem] Typ.v Typ.cs_eq tk_mk tname_mk tn_mk tl_mk tysC
theorem ref07_inner (w0:World) (t:Typ) (σ:H):DC Tryz.prog w0 205 [t.v] σ (Same (B (t.k == 5 || t.k == 6)) σ):=by
 refine k205.go rfl (fun hok hsz=>?_)
 cases k5:(t.k == 5)
 ·((try refine W.a ?_);simp only [go_sem,seval,c205,k5])
  (refine W.fs (hok) (by simp only [r205,go_sem,seval];rfl) ?_;simp only [resV];try exact V.wk.rfl _)
 ·((try refine W.a ?_);simp only [go_sem,seval,c205,k5])
  (refine W.fs (hok) (by simp only [r205,go_sem,seval];rfl) ?_;simp only [resV];try exact V.wk.rfl _)
theorem ref07_under (w0:World) (t:Typ) (k:Nat) (hk:k ≤ 1000000) (σ:H):DC Tryz.prog w0 284 [t.v,I (k:Int)] σ (Same (I ((if t.k = 5 then k + 1 else k:Nat):Int)) σ):=by
 refine k284.go rfl (fun hok hsz=>?_)
 have hw:IntKind.i64.wrap ((k:Int) + 1) = ((k + 1:Nat):Int):=by rw [wrap_in] <;> omega
 by_cases h5:t.k = 5
 ·have k5:(t.k == 5) = true:=by simp [h5]
  rw [if_pos h5]
  clear h5
  ((try refine W.a ?_);simp only [go_sem,seval,c284,k5])
  refine W.yes rfl ?_
  ((try refine W.a ?_);simp only [go_sem,seval,hw])
  (refine W.fs (hok) (by simp only [r284,go_sem,seval];rfl) ?_;simp only [resV];try exact V.wk.rfl _)
 ·have k5:(t.k == 5) = false:=by simp [h5]
  rw [if_neg h5]
  clear h5
  ((try refine W.a ?_);simp only [go_sem,seval,c284,k5])
  refine W.no rfl ?_
  ((try refine W.a ?_);simp only [go_sem,seval])
  (refine W.fs (hok) (by simp only [r284,go_sem,seval];rfl) ?_;simp only [resV];try exact V.wk.rfl _)
theorem ref07_Apply (w0:World) (f:Typ) (xs:List Typ) (hn:f.l.length + xs.length ≤ 999998) (σ:H):DC Tryz.prog w0 140 [f.v,.c (.sl (xs.map Typ.cs))] σ (Same (applyM f xs).v σ):=by
 refine k140.go rfl (fun hok hsz=>?_)
 by_cases h0:xs = []
 ·have e:applyM f xs = f:=by unfold applyM;rw [if_pos h0]
  rw [e]
  subst h0
  ((try refine W.a ?_);simp only [go_sem,seval,c140])
  refine W.yes rfl ?_
  ((try refine W.a ?_);simp only [go_sem,seval])
  (refine W.fs (hok) (by simp only [r140,go_sem,seval];rfl) ?_;simp only [resV];try exact V.wk.rfl _)
  all_goals (all_goals exact wk_here)
 have hl:0 < xs.length:=List.length_pos_iff.2 h0
 have q0:((xs.length:Int) == 0) = false:=by simp;omega
 have e:applyM f xs = .mk 6 [] 0 ((if f.k = 6 ∧ f.l ≠ [] then f.l else [f]) ++ xs):=by unfold applyM;rw [if_neg h0]
 rw [e]
 clear e
 have hallX:=eq_true (rows4 xs)
 have hallF:=eq_true (rows4 f.l)
 have b1:f.l.length * 56 ≤ 140737488355328:=by omega
 have b2:f.l.length ≤ 140737488355328:=by omega
 have b3:(f.l.length + xs.length) * 56 ≤ 140737488355328:=by omega
 have b4:f.l.length + xs.length ≤ 140737488355328:=by omega
 have b5:(1 + xs.length) * 56 ≤ 140737488355328:=by omega
 have b6:1 + xs.length ≤ 140737488355328:=by omega
 have hA:(f.l ++ xs).map Typ.cs = f.l.map Typ.cs ++ xs.map Typ.cs:=List.map_append
 have hB:([f] ++ xs).map Typ.cs = [.int .i64 f.k,.str f.name,.int .i64 f.n,.sl (f.l.map Typ.cs)] :: xs.map Typ.cs:=by rw [List.cons_append,List.nil_append,List.map_cons,Typ.cs_eq]
 by_cases h6:f.k = 6
 ·have k6:(f.k == 6) = true:=by simp [h6]
  by_cases hf:f.l = []
  ·rw [if_neg (fun h=>h.2 hf)]
   have q1:¬ ((f.l.length:Int) > 0):=by rw [hf];simp
   clear h6 hf
   ((try refine W.a ?_);simp only [go_sem,seval,c140,q0])
   refine W.no rfl ?_
   ((try refine W.a ?_);simp only [go_sem,seval,k6,q1])
   refine W.no rfl ?_
   ((try refine W.a ?_);simp only [go_sem,seval,hallX,hallF,b1,b2,b3,b4,b5,b6,true_or])
   (refine W.fs (hok) (by simp only [r140,go_sem,seval,hB];rfl) ?_ (hl:=by (first | exact .c _ | (simp only [go_sem,seval,hB];done)));simp only [resV,hB];try exact V.wk.rfl _)
   all_goals (all_goals exact wk_here)
  ·rw [if_pos ⟨h6,hf⟩]
   have hp:0 < f.l.length:=List.length_pos_iff.2 hf
   have q1:((f.l.length:Int) > 0):=by omega
   clear h6 hf
   ((try refine W.a ?_);simp only [go_sem,seval,c140,q0])
   refine W.no rfl ?_
   ((try refine W.a ?_);simp only [go_sem,seval,k6,q1])
   refine W.yes rfl ?_
   ((try refine W.a ?_);simp only [go_sem,seval,hallX,hallF,b1,b2,b3,b4,b5,b6,true_or])
   (refine W.fs (hok) (by simp only [r140,go_sem,seval,hA];rfl) ?_ (hl:=by (first | exact .c _ | (simp only [go_sem,seval,hA];done)));simp only [resV,hA];try exact V.wk.rfl _)
   all_goals (all_goals exact wk_here)
 ·have k6:(f.k == 6) = false:=by simp [h6]
  rw [if_neg (fun h=>h6 h.1)]
  clear h6
  ((try refine W.a ?_);simp only [go_sem,seval,c140,q0])
  refine W.no rfl ?_
  ((try refine W.a ?_);simp only [go_sem,seval,k6])
  refine W.no rfl ?_
  ((try refine W.a ?_);simp only [go_sem,seval,hallX,hallF,b1,b2,b3,b4,b5,b6,true_or])
  (refine W.fs (hok) (by simp only [r140,go_sem,seval,hB];rfl) ?_ (hl:=by (first | exact .c _ | (simp only [go_sem,seval,hB];done)));simp only [resV,hB];try exact V.wk.rfl _)
  all_goals (all_goals exact wk_here)
theorem ref07_with (w0:World) (t:Typ) (o:List Typ) (ho:o.length ≤ 400000) (hb:∀ u ∈ o,u.l.length ≤ 400000) (ht:1 < o.length → t.l ≠ []) (σ:H):DC Tryz.prog w0 285 [t.v,.c (.sl (o.map Typ.cs))] σ (Same (withM t o).v σ):=by
 refine k285.go rfl (fun hok hsz=>?_)
 obtain ⟨z,hz⟩:∃ z,z = withM t o:=⟨_,rfl⟩
 rw [← hz]
 by_cases h6:t.k = 6
 ·have k6:(t.k == 6) = true:=by simp [h6]
  by_cases c1:1 < o.length
  ·obtain ⟨o0,o1,rfl⟩:∃ a l,o = a :: l:=by
    cases o with
    | nil=>simp at c1
    | cons a l=>exact ⟨a,l,rfl⟩
   obtain ⟨t0,t1,hl⟩:∃ a l,t.l = a :: l:=by
    have:=ht c1
    cases h:t.l with
    | nil=>exact absurd h this
    | cons a l=>exact ⟨a,l,rfl⟩
   have hx:t.l[0]? = some t0:=by rw [hl];rfl
   have hhd:(t.l.headD .none) = t0:=by rw [hl];rfl
   have q1:((o1.length + 1:Nat):Int) > 1:=by simp at c1;omega
   have h00:(0:Int) < ((o1.length + 1:Nat):Int):=by omega
   have hl00:(0:Int) < (t.l.length:Int):=by rw [hl,List.length_cons];omega
   by_cases c2:o0.k = 6
   ·have p2:(o0.k == 6) = true:=by simp [c2]
    by_cases c3:t0.k = 6
    ·have p3:(t0.k == 6) = true:=by simp [c3]
     have hz':z = .mk t.k t.name t.n (o0 :: o1):=by
      rw [hz,withM,if_neg (fun h=>h.2.2.2 (by rw [hhd];exact c3))]
     subst hz'
     clear c3 c2 h6 hhd hz hl ht
     ((try refine W.a ?_);simp only [go_sem,seval,c285,k6,q1,p2,p3,hx,nat0,bne,h00,hl00])
     refine W.no rfl ?_
     ((try refine W.a ?_);simp only [go_sem,seval])
     (refine W.fs (hok) (by simp only [r285,go_sem,seval];rfl) ?_;simp only [resV];try exact V.wk.rfl _)
     all_goals (all_goals exact wk_here)
    ·have p3:(t0.k == 6) = false:=by simp [c3]
     have hz':z = applyM o0 o1:=by
      rw [hz,withM,if_pos ⟨h6,c1,c2,by rw [hhd];exact c3⟩];rfl
     have hbb:=hb o0 (List.mem_cons_self ..)
     have hA:=fun σ=>ref07_Apply w0 o0 o1 (by simp at ho;omega) σ
     rw [← hz'] at hA
     have hall:=eq_true (rows4 (o0 :: o1))
     rw [List.map_cons,Typ.cs_eq] at hall
     have hlen1:(1:Int) ≤ ((o1.length + 1:Nat):Int):=by omega
     have htk:List.take o1.length (List.map Typ.cs o1) = List.map Typ.cs o1:=List.take_of_length_le (by simp)
     clear c3 c2 h6 hhd hz hl ht hz'
     ((try refine W.a ?_);simp only [go_sem,seval,c285,k6,q1,p2,p3,hx,nat0,bne,h00,hl00])
     refine W.yes rfl ?_
     ((try refine W.a ?_);simp only [go_sem,seval])
     apply W.dregE (List.cons_ne_nil _ _)
     case hc=>
      (apply CanonE.advPO;simp only [go_sem,seval,hall,hlen1,h00,htk,nat0,Nat.add_sub_cancel])
      (apply CanonE.call (hA _);(case hg=>rfl);(case hf=>rfl);(case ha=>first | rfl | simp))
      (apply CanonE.advPO;simp only [go_sem,seval])
      exact CanonE.nil
     ((try refine W.a ?_);simp only [go_sem,seval])
     (refine W.fs (hok) (by simp only [r285,go_sem,seval];rfl) ?_;simp only [resV];try exact V.wk.rfl _)
     all_goals (all_goals exact wk_here)
   ·have p2:(o0.k == 6) = false:=by simp [c2]
    have hz':z = .mk t.k t.name t.n (o0 :: o1):=by
     rw [hz,withM,if_neg (fun h=>c2 h.2.2.1)]
    subst hz'
    clear c2 h6 hhd hz hl ht
    ((try refine W.a ?_);simp only [go_sem,seval,c285,k6,q1,p2,hx,nat0,bne,h00,hl00])
    refine W.no rfl ?_
    ((try refine W.a ?_);simp only [go_sem,seval])
    (refine W.fs (hok) (by simp only [r285,go_sem,seval];rfl) ?_;simp only [resV];try exact V.wk.rfl _)
    all_goals (all_goals exact wk_here)
  ·have q1:¬ ((o.length:Int) > 1):=by omega
   have hz':z = .mk t.k t.name t.n o:=by
    rw [hz,withM,if_neg (fun h=>c1 h.2.1)]
   subst hz'
   clear c1 h6 hz ht
   ((try refine W.a ?_);simp only [go_sem,seval,c285,k6,q1])
   refine W.no rfl ?_
   ((try refine W.a ?_);simp only [go_sem,seval])
   (refine W.fs (hok) (by simp only [r285,go_sem,seval];rfl) ?_;simp only [resV];try exact V.wk.rfl _)
   all_goals (all_goals exact wk_here)
 ·have k6:(t.k == 6) = false:=by simp [h6]
  have hz':z = .mk t.k t.name t.n o:=by
   rw [hz,withM,if_neg (fun h=>h6 h.1)]
  subst hz'
  clear h6 hz ht
  ((try refine W.a ?_);simp only [go_sem,seval,c285,k6])
  refine W.no rfl ?_
  ((try refine W.a ?_);simp only [go_sem,seval])
  (refine W.fs (hok) (by simp only [r285,go_sem,seval];rfl) ?_;simp only [resV];try exact V.wk.rfl _)
  all_goals (all_goals exact wk_here)
theorem ref07_shift (w0:World) (a b:Int) (ha:0 ≤ a) (ha':a ≤ 100000) (hb:0 ≤ b) (hb':b ≤ 1152921504606846976) (t:Typ):nearM 2305843009213693952 t = true → ∀ (k:Nat),k + nodesM t ≤ 400000 → ∀ σ,DC Tryz.prog w0 228 [t.v,I a,I b,I (k:Int)] σ (Same (walkM (shiftF a b) (k:Int) t).v σ):=by
 refine Typ.ind (P:=fun t=>nearM 2305843009213693952 t = true → ∀ (k:Nat),k + nodesM t ≤ 400000 → ∀ σ,DC Tryz.prog w0 228 [t.v,I a,I b,I (k:Int)] σ (Same (walkM (shiftF a b) (k:Int) t).v σ)) (fun t ih hnr k hk σ=>?_) t
 refine k228.go rfl (fun hok hsz=>?_)
 have hp:=nodesM_pos t
 have hw1:IntKind.i64.wrap ((k:Int) + a) = (k:Int) + a:=by rw [wrap_in] <;> omega
 have hIn:=fun σ=>ref07_inner w0 t σ
 by_cases hlf:t.k ≠ 5 ∧ t.k ≠ 6
 ·have k5:(t.k == 5) = false:=by simp [hlf.1]
  have k6:(t.k == 6) = false:=by simp [hlf.2]
  rw [walkM_eq,if_neg hlf.1,if_neg hlf.2]
  rw [k5,k6] at hIn
  by_cases h3:t.k = 3
  ·have k3:(t.k == 3) = true:=by simp [h3]
   have hnn:=near_node hnr (by omega)
   by_cases hge:t.n ≥ (k:Int) + a
   ·have hw2:IntKind.i64.wrap (t.n + b) = t.n + b:=by rw [wrap_in] <;> omega
    have e:shiftF a b t (k:Int) = .mk t.k t.name (t.n + b) t.l:=by unfold shiftF;rw [if_pos ⟨h3,hge⟩]
    rw [e]
    clear hlf h3 ih
    ((try refine W.a ?_);simp only [go_sem,seval,c228,k3,hw1,hge])
    refine W.yes rfl ?_
    ((try refine W.a ?_);simp only [go_sem,seval,hw2])
    (refine W.fs (hok) (by simp only [r228,go_sem,seval];rfl) ?_;simp only [resV];try exact V.wk.rfl _)
    all_goals (all_goals exact wk_here)
   ·have e:shiftF a b t (k:Int) = t:=by unfold shiftF;rw [if_neg (fun h=>hge h.2)]
    rw [e]
    clear hlf h3 ih
    ((try refine W.a ?_);simp only [go_sem,seval,c228,k3,hw1,hge])
    refine W.no rfl ?_
    ((try refine W.a ?_);simp only [go_sem,seval])
    (refine W.c1 (hIn _) ?_;simp only [go_sem,seval])
    ((try refine W.a ?_);simp only [go_sem,seval])
    refine W.yes rfl ?_
    ((try refine W.a ?_);simp only [go_sem,seval])
    (refine W.fs (hok) (by simp only [r228,go_sem,seval];rfl) ?_;simp only [resV];try exact V.wk.rfl _)
    all_goals (all_goals exact wk_here)
  ·have k3:(t.k == 3) = false:=by simp [h3]
   have e:shiftF a b t (k:Int) = t:=by unfold shiftF;rw [if_neg (fun h=>h3 h.1)]
   rw [e]
   clear hlf h3 ih
   ((try refine W.a ?_);simp only [go_sem,seval,c228,k3])
   refine W.no rfl ?_
   ((try refine W.a ?_);simp only [go_sem,seval])
   (refine W.c1 (hIn _) ?_;simp only [go_sem,seval])
   ((try refine W.a ?_);simp only [go_sem,seval])
   refine W.yes rfl ?_
   ((try refine W.a ?_);simp only [go_sem,seval])
   (refine W.fs (hok) (by simp only [r228,go_sem,seval];rfl) ?_;simp only [resV];try exact V.wk.rfl _)
   all_goals (all_goals exact wk_here)
 have hk56:t.k = 5 ∨ t.k = 6:=by omega
 have hin:(t.k == 5 || t.k == 6) = true:=by rcases hk56 with h | h <;> simp [h]
 rw [hin] at hIn
 have k3:(t.k == 3) = false:=by rcases hk56 with h | h <;> simp [h]
 obtain ⟨B,hB⟩:∃ B:Nat,B = (if t.k = 5 then k + 1 else k):=⟨_,rfl⟩
 have hBk:B ≤ k + 1:=by rw [hB];split <;> omega
 have hUn:=fun σ=>ref07_under w0 t k (by omega) σ
 rw [← hB] at hUn
 have hwk:walkM (shiftF a b) (k:Int) t = withM t (t.l.map (walkM (shiftF a b) (B:Int))):=by
  rw [walkM_eq]
  rcases hk56 with h | h
  ·rw [if_pos h,hB,if_pos h];rfl
  ·rw [if_neg (by omega),if_pos h,hB,if_neg (by omega)]
 rw [hwk]
 obtain ⟨o,ho⟩:∃ o,o = t.l.map (walkM (shiftF a b) (B:Int)):=⟨_,rfl⟩
 have hol:o.length = t.l.length:=by rw [ho,List.length_map]
 have hlen:=kids_nodes t
 have hkids:∀ i (hi:i < t.l.length) (hi':i < o.length) σ,DC Tryz.prog w0 228 [t.l[i].v,I a,I b,I (B:Int)] σ (Same o[i].v σ):=fun i hi hi' σ=>by
  have hm:=List.getElem_mem hi
  have:=nodesM_mem hm
  have e:o[i] = walkM (shiftF a b) (B:Int) t.l[i]:=by simp [ho]
  rw [e]
  exact ih _ hm (near_kids hnr _ hm) B (by omega) σ
 have hbig:∀ u ∈ o,u.l.length ≤ 400000:=fun u hu=>by
  rw [ho] at hu
  obtain ⟨v,hv,rfl⟩:=List.mem_map.1 hu
  have h1:=shift_nodes a b v B
  have h2:=kids_nodes (walkM (shiftF a b) (B:Int) v)
  have h3:=nodesM_mem hv
  omega
 have hW:=fun σ=>ref07_with w0 t o (by omega) hbig (fun h e=>by rw [e,List.length_nil] at hol;omega) σ
 rw [← ho]
 clear ho hB hwk ih
 generalize withM t o = z at *
 ((try refine W.a ?_);simp only [go_sem,seval,c228,k3])
 refine W.no rfl ?_
 ((try refine W.a ?_);simp only [go_sem,seval])
 (refine W.c1 (hIn _) ?_;simp only [go_sem,seval])
 ((try refine W.a ?_);simp only [go_sem,seval])
 refine W.no rfl ?_
 ((try refine W.a ?_);simp only [go_sem,seval])
 refine W.own 10 30 4 rfl ?_
 ((try refine W.a ?_);simp only [go_sem,seval])
 refine W.loopP (fun i=>i ≤ t.l.length) (fun i=>⟨(((((((base.put (some 1) (I a)).put (some 2) (I b)).put (some 3) (I (k:Int))).put (some 4) (.ptr σ.length 0)).put (some 8) (.ptr (σ.length + 1) 0)).put (some 10) (.osl (σ.length + 2) ((o.take i).map Typ.cs))).put (some 11) (I (i:Int))),σ ++ [.cells t.v.cellsV,.cells [I 0,S [],I 0,.csl []],.spare 30 4 i]⟩) (fun i=>t.l.length - i) 0 (Nat.zero_le _) ?_ (fun i hi=>?_)
 ·(refine Lew.env ?_;exact lee_here)
 by_cases hlt:i < t.l.length
 ·have hlt':i < o.length:=by omega
  have h1:(i:Int) < (t.l.length:Int):=by omega
  have h0:(0:Int) ≤ (i:Int):=by omega
  have hx:t.l[i]? = some t.l[i]:=List.getElem?_eq_getElem hlt
  have hw:IntKind.i64.wrap ((i:Int) + 1) = ((i + 1:Nat):Int):=by rw [wrap_in] <;> omega
  have hb1:(i + 1) * 56 ≤ 140737488355328:=by omega
  have hb2:i ≤ 140737488355327:=by omega
  have hti:(o.take i).length = i:=by rw [List.length_take];omega
  have hts:(o.take (i + 1)).map Typ.cs = (o.take i).map Typ.cs ++ [[.int .i64 o[i].k,.str o[i].name,.int .i64 o[i].n,.sl (o[i].l.map Typ.cs)]]:=by
   rw [List.take_succ_eq_append_getElem hlt',List.map_append,List.map_cons,List.map_nil,Typ.cs_eq]
  have hki:=fun σ=>hkids i hlt hlt' σ
  generalize o[i] = y at *
  generalize t.l[i] = x at *
  ((try refine W.a ?_);simp only [go_sem,seval,h1])
  refine W.yes rfl ?_
  ((try refine W.a ?_);simp only [go_sem,seval])
  apply W.dregE (List.cons_ne_nil _ _)
  case hc=>
   (apply CanonE.advPO;simp only [go_sem,seval,h1,h0,hx])
   (apply CanonE.call (hUn _);(case hg=>rfl);(case hf=>rfl);(case ha=>first | rfl | simp))
   (apply CanonE.advPO;simp only [go_sem,seval,h1,h0,hx])
   (apply CanonE.call (hki _);(case hg=>rfl);(case hf=>rfl);(case ha=>first | rfl | simp))
   (apply CanonE.advPO;simp only [go_sem,seval,h1,h0,hx,hb1,hb2,hti])
   exact CanonE.nil
  ((try refine W.a ?_);simp only [go_sem,seval,hw])
  refine .inv ⟨i + 1,hlt,by omega,?_⟩
  simp only [go_sem,seval,hts]
  (refine Lew.cutL (hok) ?_ (by simp) (by simp) ?_ ?_ ?_;exact lee_here;((try simp only [okB,wkB,go_sem,seval]) <;> omega);(simp only [List.length_cons,List.length_nil,Nat.reduceAdd,List.take_succ_cons,List.take_zero,wkB,and_true];(repeat' (refine And.intro ?_ ?_)) <;> (first | exact Blk.wk.rfl _ | exact Blk.wk.gone _ | (refine Blk.wk_cells ?_ rfl;(exact wk_here))));(repeat' (first | exact LowE.base _ | (refine LowE.put ?_ (by first | exact .c _ | ((try simp only [okB,wkB,go_sem,seval]) <;> omega))))))
 obtain rfl:i = t.l.length:=by omega
 have h1:¬ ((t.l.length:Nat):Int) < ((t.l.length:Nat):Int):=by omega
 have hta:o.take t.l.length = o:=by rw [← hol,List.take_length]
 rw [hta]
 ((try refine W.a ?_);simp only [go_sem,seval,h1])
 refine W.no rfl ?_
 ((try refine W.a ?_);simp only [go_sem,seval])
 (refine W.c1w (hW _) ?_;simp only [go_sem,seval])
 ((try refine W.a ?_);simp only [go_sem,seval])
 (refine W.fs (hok) (by simp only [r228,go_sem,seval];rfl) ?_;simp only [resV];try exact V.wk.rfl _)
 all_goals (all_goals exact wk_here)
theorem ref07_Shift (w0:World) (t:Typ) (a b:Int) (ha:0 ≤ a) (ha':a ≤ 100000) (hb:0 ≤ b) (hb':b ≤ 1152921504606846976) (hnr:nearM 2305843009213693952 t = true) (hn:nodesM t ≤ 400000) (σ:H):DC Tryz.prog w0 139 [t.v,I a,I b] σ (Same (shiftM a b t).v σ):=by
 refine k139.go rfl (fun hok hsz=>?_)
 have hS:=fun σ=>ref07_shift w0 a b ha ha' hb hb' t hnr 0 (by omega) σ
 have e:(((0:Nat):Int)) = 0:=rfl
 rw [e] at hS
 have hz:shiftM a b t = walkM (shiftF a b) 0 t:=rfl
 rw [hz]
 generalize walkM (shiftF a b) 0 t = z at *
 ((try refine W.a ?_);simp only [go_sem,seval,c139])
 (refine W.c1 (hS _) ?_;simp only [go_sem,seval])
 ((try refine W.a ?_);simp only [go_sem,seval])
 (refine W.fs (hok) (by simp only [r139,go_sem,seval];rfl) ?_;simp only [resV];try exact V.wk.rfl _)
 all_goals (all_goals exact wk_here)
end
section
attribute [local go_sem] Typ.v Typ.cs_eq tk_mk tname_mk tn_mk tl_mk tysC
end
section
attribute [local go_sem] Typ.v Typ.cs_eq tk_mk tname_mk tn_mk tl_mk tysC
theorem ref13_Open (w0:World) (us:List Typ) (hus:∀ u ∈ us,nearM 2305843009213693952 u = true ∧ nodesM u ≤ 100) (hul:us.length ≤ 1000) (t:Typ):validM t = true → nearM 2305843009213693952 t = true → ∀ (k:Nat),k + nodesM t ≤ 1000 → ∀ σ,DC Tryz.prog w0 55 [t.v,.c (.sl (us.map Typ.cs)),I (k:Int)] σ (Same (walkM (openFn us) (k:Int) t).v σ):=by
 refine Typ.ind (P:=fun t=>validM t = true → nearM 2305843009213693952 t = true → ∀ (k:Nat),k + nodesM t ≤ 1000 → ∀ σ,DC Tryz.prog w0 55 [t.v,.c (.sl (us.map Typ.cs)),I (k:Int)] σ (Same (walkM (openFn us) (k:Int) t).v σ)) (fun t ih hv hnr k hk σ=>?_) t
 refine k55.go rfl (fun hok hsz=>?_)
 have hp:=nodesM_pos t
 by_cases hbd:t.k = 3 ∧ t.n ≥ (k:Int)
 ·obtain ⟨h3,hge⟩:=hbd
  have k3:(t.k == 3) = true:=by simp [h3]
  have hnn:=near_node hnr (by omega)
  have hw1:IntKind.i64.wrap ((k:Int) + (us.length:Int)) = (k:Int) + (us.length:Int):=by rw [wrap_in] <;> omega
  rw [walk_leaf (by omega) (by omega)]
  by_cases hlt:t.n < (k:Int) + (us.length:Int)
  ·rw [openFn_lt h3 hge hlt]
   obtain ⟨m,hm⟩:∃ m:Nat,m = us.length - 1 - (t.n - (k:Int)).toNat:=⟨_,rfl⟩
   have hml:m < us.length:=by omega
   have hmi:(us.length:Int) - 1 - (t.n - (k:Int)) = (m:Int):=by omega
   have w1:IntKind.i64.wrap ((us.length:Int) - 1) = (us.length:Int) - 1:=by rw [wrap_in] <;> omega
   have w2:IntKind.i64.wrap (t.n - (k:Int)) = t.n - (k:Int):=by rw [wrap_in] <;> omega
   have w3:IntKind.i64.wrap ((us.length:Int) - 1 - (t.n - (k:Int))) = (m:Int):=by rw [hmi,wrap_in] <;> omega
   have m0:(0:Int) ≤ (m:Int):=by omega
   have m1:(m:Int) < (us.length:Int):=by omega
   have hx:us[m]? = some us[m]:=List.getElem?_eq_getElem hml
   rw [← hm,List.getD_eq_getElem?_getD,hx,Option.getD_some]
   obtain ⟨u1,u2⟩:=hus _ (List.getElem_mem hml)
   have hS:=fun σ=>ref07_Shift w0 us[m] 0 (k:Int) (by decide) (by decide) (by omega) (by omega) u1 (by omega) σ
   generalize shiftM 0 (k:Int) us[m] = z at *
   generalize us[m] = u at *
   clear h3 ih hm hmi hml
   ((try refine W.a ?_);simp only [go_sem,seval,c55,k3,hge])
   refine W.yes rfl ?_
   ((try refine W.a ?_);simp only [go_sem,seval,hw1,hlt])
   refine W.yes rfl ?_
   ((try refine W.a ?_);simp only [go_sem,seval,w1,w2,w3,m0,m1,hx])
   (refine W.c1 (hS _) ?_;simp only [go_sem,seval])
   ((try refine W.a ?_);simp only [go_sem,seval])
   (refine W.fs (hok) (by simp only [r55,go_sem,seval];rfl) ?_;simp only [resV];try exact V.wk.rfl _)
   all_goals (all_goals exact wk_here)
  ·rw [openFn_ge h3 hge hlt]
   have w1:IntKind.i64.wrap (t.n - (us.length:Int)) = t.n - (us.length:Int):=by rw [wrap_in] <;> omega
   clear h3 ih
   ((try refine W.a ?_);simp only [go_sem,seval,c55,k3,hge])
   refine W.yes rfl ?_
   ((try refine W.a ?_);simp only [go_sem,seval,hw1,hlt])
   refine W.no rfl ?_
   ((try refine W.a ?_);simp only [go_sem,seval,w1])
   (refine W.fs (hok) (by simp only [r55,go_sem,seval];rfl) ?_;simp only [resV];try exact V.wk.rfl _)
   all_goals (all_goals exact wk_here)
 have hT:(t.k == 3) = false ∨ (t.k == 3) = true ∧ ¬ t.n ≥ (k:Int):=by
  by_cases h3:t.k = 3
  ·exact .inr ⟨by simp [h3],fun e=>hbd ⟨h3,e⟩⟩
  ·exact .inl (by simp [h3])
 by_cases hlf:t.k ≠ 5 ∧ t.k ≠ 6
 ·have k5:(t.k == 5) = false:=by simp [hlf.1]
  have k6:(t.k == 6) = false:=by simp [hlf.2]
  have e:walkM (openFn us) (k:Int) t = t:=by
   rw [walk_leaf hlf.1 hlf.2]
   unfold openFn
   rw [if_neg hbd]
  rw [e]
  clear hlf ih hbd e
  rcases hT with k3 | ⟨k3,hge⟩
  ·((try refine W.a ?_);simp only [go_sem,seval,c55,k3])
   refine W.no rfl ?_
   ((try refine W.a ?_);simp only [go_sem,seval,bne,k5,k6])
   refine W.yes rfl ?_
   ((try refine W.a ?_);simp only [go_sem,seval])
   (refine W.fs (hok) (by simp only [r55,go_sem,seval];rfl) ?_;simp only [resV];try exact V.wk.rfl _)
   all_goals (all_goals exact wk_here)
  ·((try refine W.a ?_);simp only [go_sem,seval,c55,k3,hge])
   refine W.no rfl ?_
   ((try refine W.a ?_);simp only [go_sem,seval,bne,k5,k6])
   refine W.yes rfl ?_
   ((try refine W.a ?_);simp only [go_sem,seval])
   (refine W.fs (hok) (by simp only [r55,go_sem,seval];rfl) ?_;simp only [resV];try exact V.wk.rfl _)
   all_goals (all_goals exact wk_here)
 have k3:(t.k == 3) = false:=by simp;omega
 clear hT hbd
 obtain ⟨B,hB5,hBk⟩:∃ B:Nat,((t.k == 5) = true ∧ (t.k == 6) = false ∧ IntKind.i64.wrap ((k:Int) + 1) = (B:Int) ∨ (t.k == 5) = false ∧ (t.k == 6) = true ∧ (k:Int) = (B:Int)) ∧ (B = if t.k = 5 then k + 1 else k):=by
  by_cases h5:t.k = 5
  ·exact ⟨k + 1,.inl ⟨by simp [h5],by simp [h5],by rw [wrap_in] <;> omega⟩,by rw [if_pos h5]⟩
  ·exact ⟨k,.inr ⟨by simp [h5],by simp;omega,rfl⟩,by rw [if_neg h5]⟩
 have hBl:B ≤ k + 1:=by rw [hBk];split <;> omega
 obtain ⟨o,ho⟩:∃ o,o = t.l.map (walkM (openFn us) (B:Int)):=⟨_,rfl⟩
 have hol:o.length = t.l.length:=by rw [ho,List.length_map]
 have hlen:=kids_nodes t
 have hkids:∀ i (hi:i < t.l.length) (hi':i < o.length) σ,DC Tryz.prog w0 55 [t.l[i].v,.c (.sl (us.map Typ.cs)),I (B:Int)] σ (Same o[i].v σ):=fun i hi hi' σ=>by
  have hm:=List.getElem_mem hi
  have:=nodesM_mem hm
  have e:o[i] = walkM (openFn us) (B:Int) t.l[i]:=by simp [ho]
  rw [e]
  exact ih _ hm (valid_kids hv _ hm) (near_kids hnr _ hm) B (by omega) σ
 have hbig:∀ u ∈ o,u.l.length ≤ 100000:=fun u hu=>by
  rw [ho] at hu
  obtain ⟨v,hv',rfl⟩:=List.mem_map.1 hu
  have h1:=openM_nodes (us:=us) (C:=100) (by decide) (fun u hu=>(hus u hu).2) v B
  have h2:=kids_nodes (walkM (openFn us) (B:Int) v)
  have h3:=nodesM_mem hv'
  omega
 have hz:∃ z,z = walkM (openFn us) (k:Int) t ∧ ((t.k == 5) = true → z = .mk t.k [] 0 o) ∧ ((t.k == 6) = true → ∃ a l,o = a :: l ∧ z = applyM a l):=by
  refine ⟨_,rfl,fun h=>?_,fun h=>?_⟩
  ·have h5:t.k = 5:=by simpa using h
   rw [walk_lam hv h5,ho,hBk,if_pos h5,h5]
   rfl
  ·have h6:t.k = 6:=by simpa using h
   obtain ⟨_,_,a,b,l,hl,_⟩:=valid_app hv h6
   have hBe:B = k:=by rw [hBk,if_neg (by omega)]
   rw [walk_app hv h6,hl,List.headD_cons,List.tail_cons,ho,hl,hBe]
   exact ⟨_,_,rfl,rfl⟩
 obtain ⟨z,hz0,hz5,hz6⟩:=hz
 rw [← hz0]
 clear ho hBk ih hz0 hlf
 ((try refine W.a ?_);simp only [go_sem,seval,c55,k3])
 refine W.no rfl ?_
 rcases hB5 with ⟨k5,k6,hB⟩ | ⟨k5,k6,hB⟩
 ·((try refine W.a ?_);simp only [go_sem,seval,bne,k5])
  refine W.no rfl ?_
  ((try refine W.a ?_);simp only [go_sem,seval])
  refine W.own 8 30 4 rfl ?_
  ((try refine W.a ?_);simp only [go_sem,seval])
  refine W.loopP (fun i=>i ≤ t.l.length) (fun i=>⟨(((((((base.put (some 1) (.c (.sl (us.map Typ.cs)))).put (some 2) (I (k:Int))).put (some 3) (.ptr σ.length 0)).put (some 6) (.ptr (σ.length + 1) 0)).put (some 7) (I (us.length:Int))).put (some 8) (.osl (σ.length + 2) ((o.take i).map Typ.cs))).put (some 9) (I (i:Int))),σ ++ [.cells t.v.cellsV,.cells [I 0,S [],I 0,.csl []],.spare 30 4 i]⟩) (fun i=>t.l.length - i) 0 (Nat.zero_le _) ?_ (fun i hi=>?_)
  ·(refine Lew.env ?_;exact lee_here)
  by_cases hlt:i < t.l.length
  ·have hlt':i < o.length:=by omega
   have h1:(i:Int) < (t.l.length:Int):=by omega
   have h0:(0:Int) ≤ (i:Int):=by omega
   have hx:t.l[i]? = some t.l[i]:=List.getElem?_eq_getElem hlt
   have hw:IntKind.i64.wrap ((i:Int) + 1) = ((i + 1:Nat):Int):=by rw [wrap_in] <;> omega
   have hb1:(i + 1) * 56 ≤ 140737488355328:=by omega
   have hb2:i ≤ 140737488355327:=by omega
   have hti:(o.take i).length = i:=by rw [List.length_take];omega
   have hts:(o.take (i + 1)).map Typ.cs = (o.take i).map Typ.cs ++ [[.int .i64 o[i].k,.str o[i].name,.int .i64 o[i].n,.sl (o[i].l.map Typ.cs)]]:=by
    rw [List.take_succ_eq_append_getElem hlt',List.map_append,List.map_cons,List.map_nil,Typ.cs_eq]
   have hki:=fun σ=>hkids i hlt hlt' σ
   generalize o[i] = y at *
   generalize t.l[i] = x at *
   ((try refine W.a ?_);simp only [go_sem,seval,h1])
   refine W.yes rfl ?_
   ((try refine W.a ?_);simp only [go_sem,seval,k5])
   refine W.yes rfl ?_
   ((try refine W.a ?_);simp only [go_sem,seval,hB])
   ((try refine W.a ?_);simp only [go_sem,seval,h1,h0,hx])
   (refine W.c1 (hki _) ?_;simp only [go_sem,seval])
   ((try refine W.a ?_);simp only [go_sem,seval,hb1,hb2,hti,hw])
   refine .inv ⟨i + 1,hlt,by omega,?_⟩
   simp only [go_sem,seval,hts]
   (refine Lew.cutL (hok) ?_ (by simp) (by simp) ?_ ?_ ?_;exact lee_here;((try simp only [okB,wkB,go_sem,seval]) <;> omega);(simp only [List.length_cons,List.length_nil,Nat.reduceAdd,List.take_succ_cons,List.take_zero,wkB,and_true];(repeat' (refine And.intro ?_ ?_)) <;> (first | exact Blk.wk.rfl _ | exact Blk.wk.gone _ | (refine Blk.wk_cells ?_ rfl;(exact wk_here))));(repeat' (first | exact LowE.base _ | (refine LowE.put ?_ (by first | exact .c _ | ((try simp only [okB,wkB,go_sem,seval]) <;> omega))))))
  obtain rfl:i = t.l.length:=by omega
  have h1:¬ ((t.l.length:Nat):Int) < ((t.l.length:Nat):Int):=by omega
  have hta:o.take t.l.length = o:=by rw [← hol,List.take_length]
  rw [hta]
  ((try refine W.a ?_);simp only [go_sem,seval,h1])
  refine W.no rfl ?_
  ((try refine W.a ?_);simp only [go_sem,seval,k6])
  refine W.no rfl ?_
  ((try refine W.a ?_);simp only [go_sem,seval])
  obtain rfl:=hz5 k5
  (refine W.fs (hok) (by simp only [r55,go_sem,seval];rfl) ?_;simp only [resV];try exact V.wk.rfl _)
  all_goals (all_goals exact wk_here)
 ·rw [← hB] at hkids
  ((try refine W.a ?_);simp only [go_sem,seval,bne,k5,k6])
  refine W.no rfl ?_
  ((try refine W.a ?_);simp only [go_sem,seval])
  refine W.own 8 30 4 rfl ?_
  ((try refine W.a ?_);simp only [go_sem,seval])
  refine W.loopP (fun i=>i ≤ t.l.length) (fun i=>⟨(((((((base.put (some 1) (.c (.sl (us.map Typ.cs)))).put (some 2) (I (k:Int))).put (some 3) (.ptr σ.length 0)).put (some 6) (.ptr (σ.length + 1) 0)).put (some 7) (I (us.length:Int))).put (some 8) (.osl (σ.length + 2) ((o.take i).map Typ.cs))).put (some 9) (I (i:Int))),σ ++ [.cells t.v.cellsV,.cells [I 0,S [],I 0,.csl []],.spare 30 4 i]⟩) (fun i=>t.l.length - i) 0 (Nat.zero_le _) ?_ (fun i hi=>?_)
  ·(refine Lew.env ?_;exact lee_here)
  by_cases hlt:i < t.l.length
  ·have hlt':i < o.length:=by omega
   have h1:(i:Int) < (t.l.length:Int):=by omega
   have h0:(0:Int) ≤ (i:Int):=by omega
   have hx:t.l[i]? = some t.l[i]:=List.getElem?_eq_getElem hlt
   have hw:IntKind.i64.wrap ((i:Int) + 1) = ((i + 1:Nat):Int):=by rw [wrap_in] <;> omega
   have hb1:(i + 1) * 56 ≤ 140737488355328:=by omega
   have hb2:i ≤ 140737488355327:=by omega
   have hti:(o.take i).length = i:=by rw [List.length_take];omega
   have hts:(o.take (i + 1)).map Typ.cs = (o.take i).map Typ.cs ++ [[.int .i64 o[i].k,.str o[i].name,.int .i64 o[i].n,.sl (o[i].l.map Typ.cs)]]:=by
    rw [List.take_succ_eq_append_getElem hlt',List.map_append,List.map_cons,List.map_nil,Typ.cs_eq]
   have hki:=fun σ=>hkids i hlt hlt' σ
   generalize o[i] = y at *
   generalize t.l[i] = x at *
   ((try refine W.a ?_);simp only [go_sem,seval,h1])
   refine W.yes rfl ?_
   ((try refine W.a ?_);simp only [go_sem,seval,k5])
   refine W.no rfl ?_
   ((try refine W.a ?_);simp only [go_sem,seval])
   ((try refine W.a ?_);simp only [go_sem,seval,h1,h0,hx])
   (refine W.c1 (hki _) ?_;simp only [go_sem,seval])
   ((try refine W.a ?_);simp only [go_sem,seval,hb1,hb2,hti,hw])
   refine .inv ⟨i + 1,hlt,by omega,?_⟩
   simp only [go_sem,seval,hts]
   (refine Lew.cutL (hok) ?_ (by simp) (by simp) ?_ ?_ ?_;exact lee_here;((try simp only [okB,wkB,go_sem,seval]) <;> omega);(simp only [List.length_cons,List.length_nil,Nat.reduceAdd,List.take_succ_cons,List.take_zero,wkB,and_true];(repeat' (refine And.intro ?_ ?_)) <;> (first | exact Blk.wk.rfl _ | exact Blk.wk.gone _ | (refine Blk.wk_cells ?_ rfl;(exact wk_here))));(repeat' (first | exact LowE.base _ | (refine LowE.put ?_ (by first | exact .c _ | ((try simp only [okB,wkB,go_sem,seval]) <;> omega))))))
  obtain rfl:i = t.l.length:=by omega
  have h1:¬ ((t.l.length:Nat):Int) < ((t.l.length:Nat):Int):=by omega
  have hta:o.take t.l.length = o:=by rw [← hol,List.take_length]
  rw [hta]
  ((try refine W.a ?_);simp only [go_sem,seval,h1])
  refine W.no rfl ?_
  obtain ⟨a,l,rfl,hzz⟩:=hz6 k6
  have hA:=fun σ=>ref07_Apply w0 a l (by have:=hbig a (List.mem_cons_self ..);simp at hol;omega) σ
  rw [← hzz] at hA
  have hall:=eq_true (rows4 (a :: l))
  rw [List.map_cons,Typ.cs_eq] at hall
  have hlen1:(1:Int) ≤ ((l.length + 1:Nat):Int):=by omega
  have h00:(0:Int) < ((l.length + 1:Nat):Int):=by omega
  have htk:List.take l.length (List.map Typ.cs l) = List.map Typ.cs l:=List.take_of_length_le (by simp)
  ((try refine W.a ?_);simp only [go_sem,seval,k6])
  refine W.yes rfl ?_
  ((try refine W.a ?_);simp only [go_sem,seval])
  apply W.dregE (List.cons_ne_nil _ _)
  case hc=>
   (apply CanonE.advPO;simp only [go_sem,seval,hall,hlen1,h00,htk,nat0,Nat.add_sub_cancel])
   (apply CanonE.call (hA _);(case hg=>rfl);(case hf=>rfl);(case ha=>first | rfl | simp))
   (apply CanonE.advPO;simp only [go_sem,seval])
   exact CanonE.nil
  ((try refine W.a ?_);simp only [go_sem,seval])
  (refine W.fs (hok) (by simp only [r55,go_sem,seval];rfl) ?_;simp only [resV];try exact V.wk.rfl _)
  all_goals (all_goals exact wk_here)
end
section
attribute [local go_sem] Typ.v Typ.cs_eq tk_mk tname_mk tn_mk tl_mk tysC Cla.v
def zeroT:Typ:=.mk 0 [] 0 []
theorem open_odd (w0:World) (t:Typ) (σ:H):DC Tryz.prog w0 135 [t.v] σ (Same (B (!validM t)) σ):=by
 refine k135.go rfl (fun hok hsz=>?_)
 have hV:=fun σ=>term_Valid w0 t σ
 generalize validM t = z at *
 ((try refine W.a ?_);simp only [go_sem,seval,c135])
 (refine W.c1 (hV _) ?_;simp only [go_sem,seval])
 ((try refine W.a ?_);simp only [go_sem,seval])
 (refine W.fs (hok) (by simp only [r135,go_sem,seval];rfl) ?_;simp only [resV];try exact V.wk.rfl _)
theorem all_odd (us:List Typ):us.any (fun u=>!validM u) = !us.all validM:=by
 rw [List.not_all_eq_any_not]
theorem clause_OpenNo (w0:World) (c:Cla) (us:List Typ) (h:(decide (c.vars = (us.length:Int)) && us.all validM && validM c.head && validM c.body) = false) (σ:H):DC Tryz.prog w0 54 [c.v,.c (.sl (us.map Typ.cs))] σ (Same (.tup [zeroT.v,zeroT.v]) σ):=by
 refine k54.go rfl (fun hok hsz=>?_)
 have hC:=fun σ=>ContainsFunc_term w0 us 135 [] (fun u=>!validM u) σ (fun u hu=>open_odd w0 u σ)
 have o1:=fun σ=>open_odd w0 c.head σ
 have o2:=fun σ=>open_odd w0 c.body σ
 rw [all_odd] at hC
 obtain ⟨vars,head,body⟩:=c
 simp only at h o1 o2
 by_cases hv:vars = (us.length:Int)
 ·have kv:(vars == (us.length:Int)) = true:=by simp [hv]
  rw [decide_eq_true hv] at h
  clear hv
  cases ha:us.all validM
  ·rw [ha] at hC
   clear h o1 o2
   ((try refine W.a ?_);simp only [go_sem,seval,c54,bne,kv])
   (refine W.c1 (hC _) ?_;simp only [go_sem,seval])
   ((try refine W.a ?_);simp only [go_sem,seval])
   refine W.yes rfl ?_
   ((try refine W.a ?_);simp only [go_sem,seval])
   (refine W.fs (hok) (by simp only [r54,go_sem,seval];rfl) ?_;simp only [resV];try exact V.wk.rfl _)
   all_goals (all_goals exact wk_here)
  ·rw [ha] at hC h
   cases hh:validM head
   ·rw [hh] at o1
    clear h o2
    ((try refine W.a ?_);simp only [go_sem,seval,c54,bne,kv])
    (refine W.c1 (hC _) ?_;simp only [go_sem,seval])
    ((try refine W.a ?_);simp only [go_sem,seval])
    (refine W.c1 (o1 _) ?_;simp only [go_sem,seval])
    ((try refine W.a ?_);simp only [go_sem,seval])
    refine W.yes rfl ?_
    ((try refine W.a ?_);simp only [go_sem,seval])
    (refine W.fs (hok) (by simp only [r54,go_sem,seval];rfl) ?_;simp only [resV];try exact V.wk.rfl _)
    all_goals (all_goals exact wk_here)
   ·rw [hh] at o1 h
    have hb:validM body = false:=by simpa using h
    rw [hb] at o2
    clear h
    ((try refine W.a ?_);simp only [go_sem,seval,c54,bne,kv])
    (refine W.c1 (hC _) ?_;simp only [go_sem,seval])
    ((try refine W.a ?_);simp only [go_sem,seval])
    (refine W.c1 (o1 _) ?_;simp only [go_sem,seval])
    ((try refine W.a ?_);simp only [go_sem,seval])
    (refine W.c1 (o2 _) ?_;simp only [go_sem,seval])
    ((try refine W.a ?_);simp only [go_sem,seval])
    refine W.yes rfl ?_
    ((try refine W.a ?_);simp only [go_sem,seval])
    (refine W.fs (hok) (by simp only [r54,go_sem,seval];rfl) ?_;simp only [resV];try exact V.wk.rfl _)
    all_goals (all_goals exact wk_here)
 ·have kv:(vars == (us.length:Int)) = false:=by simp [hv]
  clear hv h
  ((try refine W.a ?_);simp only [go_sem,seval,c54,bne,kv])
  refine W.yes rfl ?_
  ((try refine W.a ?_);simp only [go_sem,seval])
  (refine W.fs (hok) (by simp only [r54,go_sem,seval];rfl) ?_;simp only [resV];try exact V.wk.rfl _)
  all_goals (all_goals exact wk_here)
theorem open2_M (w0:World) {us:List Typ} (hu:OpnU us) {z0:Typ} (hz:Small z0) (σ:H) (b o:Nat) (cs:List V) (tg:Option TypeId) (hb:σ[b]? = some (.cells cs tg)) (y:V) (hy:cs[o]? = some y) (hw:V.wk y (.c (tysC us))):DC Tryz.prog w0 136 [z0.v,.ptr b o] σ (Same (openM us 0 z0).v σ):=by
 have hN:Nr 2199023255552 z0:=⟨hz.valid,near_more (by decide) z0 hz.near⟩
 have hl:=hu.len
 have hnz:=hz.nodes
 have hp:∀ n,n ≤ 6 → 20 ^ n * nodesM z0 ≤ 20 ^ 6 * 80:=fun n hn=>Nat.mul_le_mul (Nat.pow_le_pow_right (by decide) hn) hnz
 have e6:20 ^ 6 * 80 = 5120000000:=by decide
 rw [← openI_M us.length us rfl hu z0 hN (by have:=hp us.length hl;omega)]
 refine clause_Open2G w0 z0 us (by omega) (fun pre z x hlt hz'=>?_) σ b o cs tg hb y hy hw
 have hx:=List.getElem_mem x.2
 have hx6:=x.2
 obtain ⟨a1,a2,a3⟩:=hu.all us[x] hx
 obtain ⟨s1,s2⟩:=hu.shift (u:=us[x]) hx (x:=x.1) (by omega)
 have h1:=hp (pre.length + 1) (by omega)
 rw [Nat.pow_succ] at h1
 have h2:20 ^ pre.length * nodesM z0 * 20 = 20 ^ pre.length * 20 * nodesM z0:=by rw [Nat.mul_assoc,Nat.mul_comm (nodesM z0),← Nat.mul_assoc]
 obtain ⟨r1,r2⟩:=opn_fold hu pre z0 hN (by omega)
 have hz':z = pre.foldl (fun z x=>substM 0 (shiftM 0 (x.1:Nat) us[x]) z) z0:=hz'
 rw [← hz'] at r1 r2
 have h3:nodesM us[x] * nodesM z ≤ 20 * (20 ^ pre.length * nodesM z0):=Nat.mul_le_mul a3 r2
 exact ⟨⟨near_more (by decide) _ r1.2,by omega,by omega⟩,near_more (by decide) _ a2,near_more (by decide) _ s1.2,by omega⟩
theorem clause_Open (w0:World) (c:Cla) (us:List Typ) (hv:c.vars = (us.length:Int)) (hu:OpnU us) (hh:Small c.head) (hb:Small c.body) (σ:H):DC Tryz.prog w0 54 [c.v,.c (.sl (us.map Typ.cs))] σ (Same (.tup [(openM us 0 c.head).v,(openM us 0 c.body).v]) σ):=by
 refine k54.go rfl (fun hok hsz=>?_)
 have hC:=fun σ=>ContainsFunc_term w0 us 135 [] (fun u=>!validM u) σ (fun u hu=>open_odd w0 u σ)
 have o1:=fun σ=>open_odd w0 c.head σ
 have o2:=fun σ=>open_odd w0 c.body σ
 rw [all_odd,show us.all validM = true from List.all_eq_true.2 (fun u h=>(hu.all u h).1)] at hC
 rw [hh.valid] at o1
 rw [hb.valid] at o2
 have p1:=fun (σ':H) (e1:σ'[σ.length + 1]? = some (.cells [.c (.sl (us.map Typ.cs))]))=>open2_M w0 hu hh σ' (σ.length + 1) 0 _ _ e1 _ rfl (V.wk.rfl _)
 have p2:=fun (σ':H) (e1:σ'[σ.length + 1]? = some (.cells [.c (.sl (us.map Typ.cs))]))=>open2_M w0 hu hb σ' (σ.length + 1) 0 _ _ e1 _ rfl (V.wk.rfl _)
 obtain ⟨vars,head,body⟩:=c
 simp only at hv o1 o2 p1 p2 ⊢
 generalize openM us 0 head = oh at *
 generalize openM us 0 body = ob at *
 have kv:(vars == (us.length:Int)) = true:=by simp [hv]
 clear hv hu hh hb
 ((try refine W.a ?_);simp only [go_sem,seval,c54,bne,kv])
 (refine W.c1 (hC _) ?_;simp only [go_sem,seval])
 ((try refine W.a ?_);simp only [go_sem,seval])
 (refine W.c1 (o1 _) ?_;simp only [go_sem,seval])
 ((try refine W.a ?_);simp only [go_sem,seval])
 (refine W.c1 (o2 _) ?_;simp only [go_sem,seval])
 ((try refine W.a ?_);simp only [go_sem,seval])
 refine W.no rfl ?_
 ((try refine W.a ?_);simp only [go_sem,seval])
 apply W.dregE (List.cons_ne_nil _ _)
 case hc=>
  (apply CanonE.advPO;simp only [go_sem,seval])
  (apply CanonE.call (p1 _ (by first | (simp;done) | (simp;rfl)));(case hg=>rfl);(case hf=>rfl);(case ha=>first | rfl | simp))
  (apply CanonE.advPO;simp only [go_sem,seval])
  (apply CanonE.call (p2 _ (by first | (simp;done) | (simp;rfl)));(case hg=>rfl);(case hf=>rfl);(case ha=>first | rfl | simp))
  (apply CanonE.advPO;simp only [go_sem,seval])
  exact CanonE.nil
 ((try refine W.a ?_);simp only [go_sem,seval])
 (refine W.fs (hok) (by simp only [r54,go_sem,seval];rfl) ?_;simp only [resV];try exact V.wk.rfl _)
 all_goals (all_goals exact wk_here)
end
end Go.Proofs.YtpcmcfajfnpjeaaGreatDoor
namespace Go.Proofs.YtpcmcfajfnpjeaaGreatDoor
open Go.RowKit Go.Lamb

end Go.Proofs.YtpcmcfajfnpjeaaGreatDoor
namespace Go.Proofs.YtpcmcfajfnpjeaaGreatDoor
open Go.RowKit Go.Lamb
end Go.Proofs.YtpcmcfajfnpjeaaGreatDoor
namespace Go.Proofs.YtpcmcfajfnpjeaaGreatDoor
open Go.RowKit Go.Lamb
attribute [local go_sem] advO_skip advO_reg advO_seq advO_block advO_exit advO_endb advO_opsNil advO_ops advG_yes advG_no advG_none advS_some advS_none advO_cond advO_loop advO_dreg advO_ret advO_bad advO_inv advO_nil advO_zero wantedV Lamb.step ev_t ev_k put_some put_none argEnv popTo cellsAt V.cellsV V.rows V.sub V.toC toCs fillV bytesC byteRows appV rowsV boundV boundL binV binInt binStr eqC eqL V.isNil leaves V.leaf Ins.quiet Ins.pure List.getD_cons_zero List.getD_cons_succ List.getD_nil List.all_cons List.all_nil List.length_cons List.length_nil List.take_succ_cons List.take_zero List.drop_succ_cons List.drop_zero List.cons_append List.nil_append List.append_nil List.append_assoc List.map_cons List.map_nil List.getElem?_cons_zero List.getElem?_cons_succ List.length_append List.length_set hget0 hget hset0 hset hsets hgs0 hgs hss0 hss List.set_cons_zero List.set_cons_succ List.forall_mem_cons List.not_mem_nil false_implies implies_true Option.map_some Bool.and_true Bool.true_and Bool.not_not Bool.not_true Bool.not_false Bool.and_self Bool.or_true Bool.true_or Bool.or_false Bool.false_or Bool.and_false Bool.false_and Bool.false_eq_true beq_self_eq_true and_self and_true true_and if_true if_false Nat.zero_add Nat.add_zero Nat.le_refl Int.toNat_natCast decide_true decide_false beq_t beq_f List.length_map List.getElem?_map I S B opsC toksC OpT.v OpT.cs OpT.zero Tok.v Tok.cs Pre.v Pre.cs_eq k_mk name_mk n_mk l_mk pos_mk Pre.app applyL natCast0 natCast1 natCast2 AOp.o AOp.m AOp.f AOp.l AOp.d AOp.n AOp.x AOp.s AOp.k AOp.y AOp.z EOp.q low_c low_void low_any low_csl low_nilf low_ptr low_osl low_agg low_tup low_fn resEval advPO_nil advPO_loud advPO_quiet pL_yes pL_no pLS_some pLS_none pQ_yes pQ_no pQS_some pQS_loud eq_self Nat.sub_zero
def wrC (l:List OpT) (A:V) (v:Nat) (s:List UInt8):Blk:=.cells [.c (opsC l),A,.osl v (byteRows s)] (some 196)
def wrY (s:List UInt8):Blk:=.spare 5 1 s.length
attribute [local go_sem] wrC wrY rs_len rs_g0 rs_g rs_s0 rs_s rs_sv
end Go.Proofs.YtpcmcfajfnpjeaaGreatDoor
namespace Go.Proofs.YtpcmcfajfnpjeaaGreatDoor
open Go.RowKit Go.Lamb
end Go.Proofs.YtpcmcfajfnpjeaaGreatDoor
namespace Go.Proofs.YtpcmcfajfnpjeaaGreatDoor
open Go.RowKit Go.Lamb
end Go.Proofs.YtpcmcfajfnpjeaaGreatDoor
namespace Go.Proofs.YtpcmcfajfnpjeaaGreatDoor
open Go.RowKit Go.Lamb
attribute [local go_sem] advO_skip advO_reg advO_seq advO_block advO_exit advO_endb advO_opsNil advO_ops advG_yes advG_no advG_none advS_some advS_none advO_cond advO_loop advO_dreg advO_ret advO_bad advO_inv advO_nil advO_zero wantedV Lamb.step ev_t ev_k put_some put_none argEnv popTo cellsAt V.cellsV V.rows V.sub V.toC toCs fillV bytesC byteRows appV rowsV boundV boundL binV binInt binStr eqC eqL V.isNil leaves V.leaf Ins.quiet Ins.pure List.getD_cons_zero List.getD_cons_succ List.getD_nil List.all_cons List.all_nil List.length_cons List.length_nil List.take_succ_cons List.take_zero List.drop_succ_cons List.drop_zero List.cons_append List.nil_append List.append_nil List.append_assoc List.map_cons List.map_nil List.getElem?_cons_zero List.getElem?_cons_succ List.length_append List.length_set hget0 hget hset0 hset hsets hgs0 hgs hss0 hss List.set_cons_zero List.set_cons_succ List.forall_mem_cons List.not_mem_nil false_implies implies_true Option.map_some Bool.and_true Bool.true_and Bool.not_not Bool.not_true Bool.not_false Bool.and_self Bool.or_true Bool.true_or Bool.or_false Bool.false_or Bool.and_false Bool.false_and Bool.false_eq_true beq_self_eq_true and_self and_true true_and if_true if_false Nat.zero_add Nat.add_zero Nat.le_refl Int.toNat_natCast decide_true decide_false beq_t beq_f List.length_map List.getElem?_map I S B opsC toksC OpT.v OpT.cs OpT.zero Tok.v Tok.cs Pre.v Pre.cs_eq k_mk name_mk n_mk l_mk pos_mk Pre.app applyL natCast0 natCast1 natCast2 AOp.o AOp.m AOp.f AOp.l AOp.d AOp.n AOp.x AOp.s AOp.k AOp.y AOp.z EOp.q low_c low_void low_any low_csl low_nilf low_ptr low_osl low_agg low_tup low_fn resEval advPO_nil advPO_loud advPO_quiet pL_yes pL_no pLS_some pLS_none pQ_yes pQ_no pQS_some pQS_loud eq_self Nat.sub_zero
section
attribute [local go_sem] Typ.v Typ.cs_eq tk_mk tname_mk tn_mk tl_mk tysC KdT.v KdT.cs NmT.v NmT.cs kdsC nmsC Sg.v Sent.v

end
section
attribute [local go_sem] Typ.v Typ.cs_eq tk_mk tname_mk tn_mk tl_mk tysC KdT.v KdT.cs NmT.v NmT.cs kdsC nmsC Sg.v Sent.v strsC

end
end Go.Proofs.YtpcmcfajfnpjeaaGreatDoor
namespace Go.Proofs.YtpcmcfajfnpjeaaGreatDoor
open Go.RowKit Go.Lamb
attribute [local go_sem] Typ.v Typ.cs_eq tk_mk tname_mk tn_mk tl_mk tysC KdT.v KdT.cs NmT.v NmT.cs kdsC nmsC Sg.v Sent.v strsC

def outB (b:Nat) (s:Sg):Blk:=.cells [.osl (b + 1) (s.kinds.map KdT.cs),.osl (b + 2) (s.types.map NmT.cs),.osl (b + 3) (s.ops.map OpT.cs)]
attribute [local go_sem] outB rf_len rf_g0 rf_g rf_t0 rf_t
end Go.Proofs.YtpcmcfajfnpjeaaGreatDoor
namespace Go.Lamb
open Go Go.RowKit
end Go.Lamb
namespace Go.Proofs.YtpcmcfajfnpjeaaGreatDoor
open Go.RowKit Go.Lamb
attribute [local go_sem] Typ.v Typ.cs_eq tk_mk tname_mk tn_mk tl_mk tysC KdT.v KdT.cs NmT.v NmT.cs kdsC nmsC Sg.v Sent.v strsC

end Go.Proofs.YtpcmcfajfnpjeaaGreatDoor
namespace Go.Proofs.YtpcmcfajfnpjeaaGreatDoor
open Go.RowKit Go.Lamb
def c295:AC:=.seq (.reg [.o 2 (.mov (.k (.csl [])))]) (.seq (.reg [.o 3 (.mov (.k (.c (.int .i64 0))))]) (.seq (.seq (.reg [.m 9 0,.o 10 (.lenr (.t 9)),.o 11 (.mov (.k (.c (.int .i64 0))))]) (.block 0 (.loop (.seq (.reg [.o 12 (.bin .lss (.t 11) (.t 10))]) (.seq (.cond (.t 12) (.skip) (.exit 0)) (.seq (.block 1 (.seq (.reg [.o 13 (.iadd 1 (.t 9) (.t 11)),.l 14 13,.m 5 14]) (.seq (.reg [.m 15 3,.m 16 5,.o 17 (.lenr (.t 16)),.o 18 (.bin .add (.t 15) (.t 17)),.m 3 18]) (.seq (.reg [.m 19 3,.o 20 (.bin .lss (.t 19) (.k (.c (.int .i64 0))))]) (.cond (.t 20) (.reg [.o 21 (.bad),⟨none,.bad,none⟩]) (.skip)))))) (.reg [.o 22 (.bin .add (.t 11) (.k (.c (.int .i64 1)))),.m 11 22]))))))) (.seq (.reg [.m 23 3,.k 24 342 [(.k (.csl [])),(.t 23)],.m 6 24]) (.seq (.seq (.reg [.m 25 0,.o 26 (.lenr (.t 25)),.o 27 (.mov (.k (.c (.int .i64 0))))]) (.block 2 (.loop (.seq (.reg [.o 28 (.bin .lss (.t 27) (.t 26))]) (.seq (.cond (.t 28) (.skip) (.exit 2)) (.seq (.block 3 (.seq (.reg [.o 29 (.iadd 1 (.t 25) (.t 27)),.l 30 29,.m 8 30]) (.reg [.m 31 6,.m 32 8,.o 33 (.app 68 5 72 (.t 31) (.t 32)),.m 6 33]))) (.reg [.o 34 (.bin .add (.t 27) (.k (.c (.int .i64 1)))),.m 27 34]))))))) (.seq (.reg [.m 35 6,.m 2 35]) (.ret))))))
def r295:List ResV:=[.tmp 2]
theorem k295:CodeIs Tryz.prog 295 1 Tryz.f295 c295 r295:=.auto Tryz.func295
end Go.Proofs.YtpcmcfajfnpjeaaGreatDoor
namespace Go.Proofs.YtpcmcfajfnpjeaaGreatDoor
open Go.RowKit Go.Lamb
attribute [local go_sem] advO_skip advO_reg advO_seq advO_block advO_exit advO_endb advO_opsNil advO_ops advG_yes advG_no advG_none advS_some advS_none advO_cond advO_loop advO_dreg advO_ret advO_bad advO_inv advO_nil advO_zero wantedV Lamb.step ev_t ev_k put_some put_none argEnv popTo cellsAt V.cellsV V.rows V.sub V.toC toCs fillV bytesC byteRows appV rowsV boundV boundL binV binInt binStr eqC eqL V.isNil leaves V.leaf Ins.quiet Ins.pure List.getD_cons_zero List.getD_cons_succ List.getD_nil List.all_cons List.all_nil List.length_cons List.length_nil List.take_succ_cons List.take_zero List.drop_succ_cons List.drop_zero List.cons_append List.nil_append List.append_nil List.append_assoc List.map_cons List.map_nil List.getElem?_cons_zero List.getElem?_cons_succ List.length_append List.length_set hget0 hget hset0 hset hsets hgs0 hgs hss0 hss List.set_cons_zero List.set_cons_succ List.forall_mem_cons List.not_mem_nil false_implies implies_true Option.map_some Bool.and_true Bool.true_and Bool.not_not Bool.not_true Bool.not_false Bool.and_self Bool.or_true Bool.true_or Bool.or_false Bool.false_or Bool.and_false Bool.false_and Bool.false_eq_true beq_self_eq_true and_self and_true true_and if_true if_false Nat.zero_add Nat.add_zero Nat.le_refl Int.toNat_natCast decide_true decide_false beq_t beq_f List.length_map List.getElem?_map I S B opsC toksC OpT.v OpT.cs OpT.zero Tok.v Tok.cs Pre.v Pre.cs_eq k_mk name_mk n_mk l_mk pos_mk Pre.app applyL natCast0 natCast1 natCast2 AOp.o AOp.m AOp.f AOp.l AOp.d AOp.n AOp.x AOp.s AOp.k AOp.y AOp.z EOp.q low_c low_void low_any low_csl low_nilf low_ptr low_osl low_agg low_tup low_fn resEval advPO_nil advPO_loud advPO_quiet pL_yes pL_no pLS_some pLS_none pQ_yes pQ_no pQS_some pQS_loud eq_self Nat.sub_zero
attribute [local go_sem] Typ.v Typ.cs_eq tk_mk tname_mk tn_mk tl_mk tysC KdT.v KdT.cs NmT.v NmT.cs kdsC nmsC Sg.v Sent.v strsC

theorem nmInfo:(Tryz.prog.info? 68).map (fun i=>(i.zero,i.size,i.bytes)) = some (some (.agg #[.string ⟨#[]⟩,.int .i64 0,.string ⟨#[]⟩,.int .i64 0,.slice none 0 0]),5,72):=by kernel_rfl
theorem made_rowN (w:World) (n:Nat) (hn:n ≤ 1000000) (zc:Array Value) (hz:zc.size = 5) :
  (w.alloc (.cells (Builtin.zeroCells zc n ++ Builtin.zeroCells zc (grownCap w n 0 68 - n)) 68)).drew.ownsRow w.heap.size 68 5 (.slice (some ⟨w.heap.size,0,none⟩) 0 (grownCap w n 0 68)) 0 []:=by
 have hge:=grownCap_ge w n 0 68
 refine ⟨by simp,.inr ⟨w.heap.size,_,_,rfl,Nat.le_refl _,heap_alloc_new w _,Nat.zero_le _,grownCap_le_maxLen w n 0 68 (by unfold maxLen;omega),?_,by simp⟩⟩
 simp only [Array.size_append,size_zeroCells,hz]
 omega
set_option maxHeartbeats 4000000 in
set_option maxRecDepth 100000 in
theorem grow_nm (A:Option Addr) (n:Nat) (w:World) (hn:n ≤ 1000000):Calls Tryz.prog 342 #[.slice A 0 0,.int .i64 n] w (fun e w'=>∃ v,e = .returned v ∧ Below w.heap.size w w' ∧ Roomy w w' 68 5 v):=by
 by_cases h0:n = 0
 ·subst h0
  cases A
  ·go_enter Tryz.func342,Tryz.ntmps342
   go_wp2_with fail
   go_ret
   exact ⟨_,rfl,Below.refl _ _,.inl ⟨_,rfl⟩⟩
  ·go_enter Tryz.func342,Tryz.ntmps342
   go_wp2_with fail
   go_ret
   exact ⟨_,rfl,Below.refl _ _,.inl ⟨_,rfl⟩⟩
 ·obtain ⟨i0,hi0,hz0,hz1,hz2⟩:=info_parts nmInfo
  have h1:¬ ((n:Int) < 0):=by omega
  have h2:(n:Int) > 0:=by omega
  have hw:IntKind.i64.wrap (n:Int) = n:=by rw [wrap_in] <;> omega
  cases A
  case none=>
   have hr:=Lib.run_append_grow_zeros (P:=Tryz.prog) w 23 3 23 68 i0 _ .i64 .i64 Tryz.underlying23 Tryz.underlying3 hi0 hz0 none 0 0 [] (run_firstCells (by simp) (by simp)) n (by omega) (by rw [hz1];decide) (by omega) (by omega) (by rw [hz2];omega) (growslice_fits (by omega) (by rw [hz2];omega))
   go_enter Tryz.func342,Tryz.ntmps342
   go_wp2_with (first
    | (at_builtin;refine Lib.wpList_append_run w rfl (.tmp 20) (.tmp 21) 23 3 rfl _ _ rfl rfl _ _ hr ?_))
   go_ret
   exact ⟨_,rfl,made_below w _,.inr (made_rowN w n hn _ rfl)⟩
  case some a=>
   have hr:=Lib.run_append_grow_zeros (P:=Tryz.prog) w 23 3 23 68 i0 _ .i64 .i64 Tryz.underlying23 Tryz.underlying3 hi0 hz0 (some a) 0 0 [] (run_firstCells (by simp) (by simp)) n (by omega) (by rw [hz1];decide) (by omega) (by omega) (by rw [hz2];omega) (growslice_fits (by omega) (by rw [hz2];omega))
   go_enter Tryz.func342,Tryz.ntmps342
   go_wp2_with (first
    | (at_builtin;refine Lib.wpList_append_run w rfl (.tmp 20) (.tmp 21) 23 3 rfl _ _ rfl rfl _ _ hr ?_))
   go_ret
   exact ⟨_,rfl,made_below w _,.inr (made_rowN w n hn _ rfl)⟩
theorem slices_GrowN (w0:World) (n:Nat) (hn:n ≤ 1000000) (σ:H):DC Tryz.prog w0 342 [.csl [],I n] σ (Same (.osl σ.length []) (σ ++ [.spare 68 5 0])):=by
 refine DC.of_room (enters_fn Tryz.func342 (by kernel_rfl) rfl) fun κ w vs hrep hfit=>?_
 obtain ⟨v,ys,rfl,hv,hfit⟩:=hfit.cons_inv
 obtain ⟨u,zs,rfl,hu,hfit⟩:=hfit.cons_inv
 have:=hfit.nil_inv
 subst this
 cases hv with
 | csl h1=>
   rename_i A
   cases hu with
   | c hu=>
     cases hu with
     | int=>exact grow_nm A n w hn
end Go.Proofs.YtpcmcfajfnpjeaaGreatDoor
namespace Go.Proofs.YtpcmcfajfnpjeaaGreatDoor
open Go.RowKit Go.Lamb
end Go.Proofs.YtpcmcfajfnpjeaaGreatDoor
namespace Go.Proofs.YtpcmcfajfnpjeaaGreatDoor
open Go.RowKit Go.Lamb
attribute [local go_sem] advO_skip advO_reg advO_seq advO_block advO_exit advO_endb advO_opsNil advO_ops advG_yes advG_no advG_none advS_some advS_none advO_cond advO_loop advO_dreg advO_ret advO_bad advO_inv advO_nil advO_zero wantedV Lamb.step ev_t ev_k put_some put_none argEnv popTo cellsAt V.cellsV V.rows V.sub V.toC toCs fillV bytesC byteRows appV rowsV boundV boundL binV binInt binStr eqC eqL V.isNil leaves V.leaf Ins.quiet Ins.pure List.getD_cons_zero List.getD_cons_succ List.getD_nil List.all_cons List.all_nil List.length_cons List.length_nil List.take_succ_cons List.take_zero List.drop_succ_cons List.drop_zero List.cons_append List.nil_append List.append_nil List.append_assoc List.map_cons List.map_nil List.getElem?_cons_zero List.getElem?_cons_succ List.length_append List.length_set hget0 hget hset0 hset hsets hgs0 hgs hss0 hss List.set_cons_zero List.set_cons_succ List.forall_mem_cons List.not_mem_nil false_implies implies_true Option.map_some Bool.and_true Bool.true_and Bool.not_not Bool.not_true Bool.not_false Bool.and_self Bool.or_true Bool.true_or Bool.or_false Bool.false_or Bool.and_false Bool.false_and Bool.false_eq_true beq_self_eq_true and_self and_true true_and if_true if_false Nat.zero_add Nat.add_zero Nat.le_refl Int.toNat_natCast decide_true decide_false beq_t beq_f List.length_map List.getElem?_map I S B opsC toksC OpT.v OpT.cs OpT.zero Tok.v Tok.cs Pre.v Pre.cs_eq k_mk name_mk n_mk l_mk pos_mk Pre.app applyL natCast0 natCast1 natCast2 AOp.o AOp.m AOp.f AOp.l AOp.d AOp.n AOp.x AOp.s AOp.k AOp.y AOp.z EOp.q low_c low_void low_any low_csl low_nilf low_ptr low_osl low_agg low_tup low_fn resEval advPO_nil advPO_loud advPO_quiet pL_yes pL_no pLS_some pLS_none pQ_yes pQ_no pQS_some pQS_loud eq_self Nat.sub_zero

end Go.Proofs.YtpcmcfajfnpjeaaGreatDoor
namespace Go.Proofs.YtpcmcfajfnpjeaaGreatDoor
open Go.RowKit Go.Lamb

end Go.Proofs.YtpcmcfajfnpjeaaGreatDoor
namespace Go.Proofs.YtpcmcfajfnpjeaaGreatDoor
open Go.RowKit Go.Lamb

end Go.Proofs.YtpcmcfajfnpjeaaGreatDoor
namespace Go.Proofs.YtpcmcfajfnpjeaaGreatDoor
open Go.RowKit Go.Lamb
attribute [local go_sem] advO_skip advO_reg advO_seq advO_block advO_exit advO_endb advO_opsNil advO_ops advG_yes advG_no advG_none advS_some advS_none advO_cond advO_loop advO_dreg advO_ret advO_bad advO_inv advO_nil advO_zero wantedV Lamb.step ev_t ev_k put_some put_none argEnv popTo cellsAt V.cellsV V.rows V.sub V.toC toCs fillV bytesC byteRows appV rowsV boundV boundL binV binInt binStr eqC eqL V.isNil leaves V.leaf Ins.quiet Ins.pure List.getD_cons_zero List.getD_cons_succ List.getD_nil List.all_cons List.all_nil List.length_cons List.length_nil List.take_succ_cons List.take_zero List.drop_succ_cons List.drop_zero List.cons_append List.nil_append List.append_nil List.append_assoc List.map_cons List.map_nil List.getElem?_cons_zero List.getElem?_cons_succ List.length_append List.length_set hget0 hget hset0 hset hsets hgs0 hgs hss0 hss List.set_cons_zero List.set_cons_succ List.forall_mem_cons List.not_mem_nil false_implies implies_true Option.map_some Bool.and_true Bool.true_and Bool.not_not Bool.not_true Bool.not_false Bool.and_self Bool.or_true Bool.true_or Bool.or_false Bool.false_or Bool.and_false Bool.false_and Bool.false_eq_true beq_self_eq_true and_self and_true true_and if_true if_false Nat.zero_add Nat.add_zero Nat.le_refl Int.toNat_natCast decide_true decide_false beq_t beq_f List.length_map List.getElem?_map I S B opsC toksC OpT.v OpT.cs OpT.zero Tok.v Tok.cs Pre.v Pre.cs_eq k_mk name_mk n_mk l_mk pos_mk Pre.app applyL natCast0 natCast1 natCast2 AOp.o AOp.m AOp.f AOp.l AOp.d AOp.n AOp.x AOp.s AOp.k AOp.y AOp.z EOp.q low_c low_void low_any low_csl low_nilf low_ptr low_osl low_agg low_tup low_fn resEval advPO_nil advPO_loud advPO_quiet pL_yes pL_no pLS_some pLS_none pQ_yes pQ_no pQS_some pQS_loud eq_self Nat.sub_zero

end Go.Proofs.YtpcmcfajfnpjeaaGreatDoor
namespace Go.Proofs.YtpcmcfajfnpjeaaGreatDoor
open Go.RowKit Go.Lamb

end Go.Proofs.YtpcmcfajfnpjeaaGreatDoor
namespace Go.Proofs.YtpcmcfajfnpjeaaGreatDoor
open Go.RowKit Go.Lamb

end Go.Proofs.YtpcmcfajfnpjeaaGreatDoor
namespace Go.Proofs.YtpcmcfajfnpjeaaGreatDoor
open Go.RowKit Go.Lamb

end Go.Proofs.YtpcmcfajfnpjeaaGreatDoor
namespace Go.Proofs.YtpcmcfajfnpjeaaGreatDoor
open Go.RowKit Go.Lamb

end Go.Proofs.YtpcmcfajfnpjeaaGreatDoor
namespace Go.Proofs.YtpcmcfajfnpjeaaGreatDoor
open Go.RowKit Go.Lamb

end Go.Proofs.YtpcmcfajfnpjeaaGreatDoor
namespace Go.Proofs.YtpcmcfajfnpjeaaGreatDoor
open Go.RowKit Go.Lamb

end Go.Proofs.YtpcmcfajfnpjeaaGreatDoor
namespace Go.Lamb
end Go.Lamb
namespace Go.Proofs.YtpcmcfajfnpjeaaGreatDoor
open Go.RowKit Go.Lamb
end Go.Proofs.YtpcmcfajfnpjeaaGreatDoor
namespace Go.Proofs.YtpcmcfajfnpjeaaGreatDoor
open Go.RowKit Go.Lamb
def c233:AC:=.seq (.reg [.o 3 (.box (.t 1)),.o 4 (.box (.k (.agg [.c (.str []),.c (.int .i64 0),.c (.int .i64 0)]))),.o 5 (.box (.k (.agg [.c (.int .i64 0),.c (.str []),.c (.int .i64 0),.csl [],.c (.int .i64 0)]))),.o 6 (.box (.k (.agg [.c (.int .i64 0),.c (.str []),.c (.int .i64 0),.csl [],.c (.int .i64 0)]))),.o 7 (.mov (.k (.c (.bool false))))]) (.seq (.seq (.reg [.d 8 5 3,.k 9 240 [(.t 8)],.o 10 (.un .not (.t 9)),.m 11 10,.z 12 (.fadd 3 (.t 3)) 11,.z 13 (.load1 (.t 12)) 11,.z 14 (.iadd 5 (.t 13) (.k (.c (.int .i64 0)))) 11,.z 15 (.loadn 5 (.t 14)) 11,.z 16 (.call (.k (.fn 240 [])) [(.t 15)]) 11,.z 17 (.un .not (.t 16)) 11,.o 18 (.pick (.t 11) (.k (.c (.bool true))) (.t 17)),.m 19 18,.z 20 (.fadd 3 (.t 3)) 19,.z 21 (.load1 (.t 20)) 19,.z 22 (.iadd 5 (.t 21) (.k (.c (.int .i64 0)))) 19,.z 23 (.fadd 3 (.t 22)) 19,.z 24 (.load1 (.t 23)) 19,.z 25 (.iadd 5 (.t 24) (.k (.c (.int .i64 0)))) 19,.z 26 (.fadd 0 (.t 25)) 19,.z 27 (.load1 (.t 26)) 19,.z 28 (.bin .neq (.t 27) (.k (.c (.int .i64 0)))) 19,.o 29 (.pick (.t 19) (.k (.c (.bool true))) (.t 28))]) (.cond (.t 29) (.ret) (.skip))) (.seq (.dreg [.m 31 0,.n 32 31,.f 33 0 32,.l 34 33,.f 35 3 3,.l 36 35,.o 37 (.iadd 5 (.t 36) (.k (.c (.int .i64 0)))),.f 38 3 37,.l 39 38,.o 40 (.iadd 5 (.t 39) (.k (.c (.int .i64 0)))),.f 41 1 40,.l 42 41,.k 43 66 [(.t 34),(.t 42)],.m 30 43,.x 44 30 0,.x 45 30 1,.s 3 4 44,.m 7 45] [.q (.m 31 0),.q (.n 32 31),.q (.f 33 0 32),.q (.l 34 33),.q (.f 35 3 3),.q (.l 36 35),.q (.o 37 (.iadd 5 (.t 36) (.k (.c (.int .i64 0))))),.q (.f 38 3 37),.q (.l 39 38),.q (.o 40 (.iadd 5 (.t 39) (.k (.c (.int .i64 0))))),.q (.f 41 1 40),.q (.l 42 41),⟨.k 43 66 [(.t 34),(.t 42)],true,0⟩,⟨.m 30 43,false,1⟩,⟨.x 44 30 0,false,1⟩,⟨.s 3 4 44,true,1⟩,⟨.x 45 30 1,false,1⟩,⟨.m 7 45,false,2⟩]) (.seq (.dreg [.d 46 3 4,.f 47 3 3,.l 48 47,.o 49 (.iadd 5 (.t 48) (.k (.c (.int .i64 0)))),.f 50 3 49,.l 51 50,.o 52 (.iadd 5 (.t 51) (.k (.c (.int .i64 1)))),.d 53 5 52,.f 54 3 3,.l 55 54,.o 56 (.iadd 5 (.t 55) (.k (.c (.int .i64 1)))),.d 57 5 56,.m 58 7,.s 3 4 46,.s 5 5 53,.s 5 6 57,.m 7 58] [.q (.d 46 3 4),⟨.s 3 4 46,true,0⟩,.q (.f 47 3 3),.q (.l 48 47),.q (.o 49 (.iadd 5 (.t 48) (.k (.c (.int .i64 0))))),.q (.f 50 3 49),.q (.l 51 50),.q (.o 52 (.iadd 5 (.t 51) (.k (.c (.int .i64 1))))),.q (.d 53 5 52),⟨.s 5 5 53,true,1⟩,.q (.f 54 3 3),.q (.l 55 54),.q (.o 56 (.iadd 5 (.t 55) (.k (.c (.int .i64 1))))),.q (.d 57 5 56),⟨.s 5 6 57,true,2⟩,.q (.m 58 7),⟨.m 7 58,false,3⟩]) (.ret))))
end Go.Proofs.YtpcmcfajfnpjeaaGreatDoor
namespace Go.Lamb
end Go.Lamb
namespace Go.Proofs.YtpcmcfajfnpjeaaGreatDoor
open Go.RowKit Go.Lamb
attribute [local go_sem] advO_skip advO_reg advO_seq advO_block advO_exit advO_endb advO_opsNil advO_ops advG_yes advG_no advG_none advS_some advS_none advO_cond advO_loop advO_dreg advO_ret advO_bad advO_inv advO_nil advO_zero wantedV Lamb.step ev_t ev_k put_some put_none argEnv popTo cellsAt V.cellsV V.rows V.sub V.toC toCs fillV bytesC byteRows appV rowsV boundV boundL binV binInt binStr eqC eqL V.isNil leaves V.leaf Ins.quiet Ins.pure List.getD_cons_zero List.getD_cons_succ List.getD_nil List.all_cons List.all_nil List.length_cons List.length_nil List.take_succ_cons List.take_zero List.drop_succ_cons List.drop_zero List.cons_append List.nil_append List.append_nil List.append_assoc List.map_cons List.map_nil List.getElem?_cons_zero List.getElem?_cons_succ List.length_append List.length_set hget0 hget hset0 hset hsets hgs0 hgs hss0 hss List.set_cons_zero List.set_cons_succ List.forall_mem_cons List.not_mem_nil false_implies implies_true Option.map_some Bool.and_true Bool.true_and Bool.not_not Bool.not_true Bool.not_false Bool.and_self Bool.or_true Bool.true_or Bool.or_false Bool.false_or Bool.and_false Bool.false_and Bool.false_eq_true beq_self_eq_true and_self and_true true_and if_true if_false Nat.zero_add Nat.add_zero Nat.le_refl Int.toNat_natCast decide_true decide_false beq_t beq_f List.length_map List.getElem?_map I S B opsC toksC OpT.v OpT.cs OpT.zero Tok.v Tok.cs Pre.v Pre.cs_eq k_mk name_mk n_mk l_mk pos_mk Pre.app applyL natCast0 natCast1 natCast2 AOp.o AOp.m AOp.f AOp.l AOp.d AOp.n AOp.x AOp.s AOp.k AOp.y AOp.z EOp.q low_c low_void low_any low_csl low_nilf low_ptr low_osl low_agg low_tup low_fn resEval advPO_nil advPO_loud advPO_quiet pL_yes pL_no pLS_some pLS_none pQ_yes pQ_no pQS_some pQS_loud eq_self Nat.sub_zero
attribute [local go_sem] wrC wrY rs_len rs_g0 rs_g rs_s0 rs_s rs_sv Pre.v Pre.cs_eq
end Go.Proofs.YtpcmcfajfnpjeaaGreatDoor
namespace Go.Proofs.YtpcmcfajfnpjeaaGreatDoor
open Go.RowKit Go.Lamb
attribute [local go_sem] advO_skip advO_reg advO_seq advO_block advO_exit advO_endb advO_opsNil advO_ops advG_yes advG_no advG_none advS_some advS_none advO_cond advO_loop advO_dreg advO_ret advO_bad advO_inv advO_nil advO_zero wantedV Lamb.step ev_t ev_k put_some put_none argEnv popTo cellsAt V.cellsV V.rows V.sub V.toC toCs fillV bytesC byteRows appV rowsV boundV boundL binV binInt binStr eqC eqL V.isNil leaves V.leaf Ins.quiet Ins.pure List.getD_cons_zero List.getD_cons_succ List.getD_nil List.all_cons List.all_nil List.length_cons List.length_nil List.take_succ_cons List.take_zero List.drop_succ_cons List.drop_zero List.cons_append List.nil_append List.append_nil List.append_assoc List.map_cons List.map_nil List.getElem?_cons_zero List.getElem?_cons_succ List.length_append List.length_set hget0 hget hset0 hset hsets hgs0 hgs hss0 hss List.set_cons_zero List.set_cons_succ List.forall_mem_cons List.not_mem_nil false_implies implies_true Option.map_some Bool.and_true Bool.true_and Bool.not_not Bool.not_true Bool.not_false Bool.and_self Bool.or_true Bool.true_or Bool.or_false Bool.false_or Bool.and_false Bool.false_and Bool.false_eq_true beq_self_eq_true and_self and_true true_and if_true if_false Nat.zero_add Nat.add_zero Nat.le_refl Int.toNat_natCast decide_true decide_false beq_t beq_f List.length_map List.getElem?_map I S B opsC toksC OpT.v OpT.cs OpT.zero Tok.v Tok.cs Pre.v Pre.cs_eq k_mk name_mk n_mk l_mk pos_mk Pre.app applyL natCast0 natCast1 natCast2 AOp.o AOp.m AOp.f AOp.l AOp.d AOp.n AOp.x AOp.s AOp.k AOp.y AOp.z EOp.q low_c low_void low_any low_csl low_nilf low_ptr low_osl low_agg low_tup low_fn resEval advPO_nil advPO_loud advPO_quiet pL_yes pL_no pLS_some pLS_none pQ_yes pQ_no pQS_some pQS_loud eq_self Nat.sub_zero
attribute [local go_sem] wrC wrY rs_len rs_g0 rs_g rs_s0 rs_s rs_sv Pre.v
end Go.Proofs.YtpcmcfajfnpjeaaGreatDoor
namespace Go.Proofs.YtpcmcfajfnpjeaaGreatDoor
open Go.RowKit Go.Lamb
end Go.Proofs.YtpcmcfajfnpjeaaGreatDoor
namespace Go.Proofs.YtpcmcfajfnpjeaaGreatDoor
open Go.RowKit Go.Lamb
attribute [local go_sem] advO_skip advO_reg advO_seq advO_block advO_exit advO_endb advO_opsNil advO_ops advG_yes advG_no advG_none advS_some advS_none advO_cond advO_loop advO_dreg advO_ret advO_bad advO_inv advO_nil advO_zero wantedV Lamb.step ev_t ev_k put_some put_none argEnv popTo cellsAt V.cellsV V.rows V.sub V.toC toCs fillV bytesC byteRows appV rowsV boundV boundL binV binInt binStr eqC eqL V.isNil leaves V.leaf Ins.quiet Ins.pure List.getD_cons_zero List.getD_cons_succ List.getD_nil List.all_cons List.all_nil List.length_cons List.length_nil List.take_succ_cons List.take_zero List.drop_succ_cons List.drop_zero List.cons_append List.nil_append List.append_nil List.append_assoc List.map_cons List.map_nil List.getElem?_cons_zero List.getElem?_cons_succ List.length_append List.length_set hget0 hget hset0 hset hsets hgs0 hgs hss0 hss List.set_cons_zero List.set_cons_succ List.forall_mem_cons List.not_mem_nil false_implies implies_true Option.map_some Bool.and_true Bool.true_and Bool.not_not Bool.not_true Bool.not_false Bool.and_self Bool.or_true Bool.true_or Bool.or_false Bool.false_or Bool.and_false Bool.false_and Bool.false_eq_true beq_self_eq_true and_self and_true true_and if_true if_false Nat.zero_add Nat.add_zero Nat.le_refl Int.toNat_natCast decide_true decide_false beq_t beq_f List.length_map List.getElem?_map I S B opsC toksC OpT.v OpT.cs OpT.zero Tok.v Tok.cs Pre.v Pre.cs_eq k_mk name_mk n_mk l_mk pos_mk Pre.app applyL natCast0 natCast1 natCast2 AOp.o AOp.m AOp.f AOp.l AOp.d AOp.n AOp.x AOp.s AOp.k AOp.y AOp.z EOp.q low_c low_void low_any low_csl low_nilf low_ptr low_osl low_agg low_tup low_fn resEval advPO_nil advPO_loud advPO_quiet pL_yes pL_no pLS_some pLS_none pQ_yes pQ_no pQS_some pQS_loud eq_self Nat.sub_zero
attribute [local go_sem] wrC wrY rs_len rs_g0 rs_g rs_s0 rs_s rs_sv
end Go.Proofs.YtpcmcfajfnpjeaaGreatDoor
namespace Go.Proofs.YtpcmcfajfnpjeaaGreatDoor
open Go.RowKit Go.Lamb
end Go.Proofs.YtpcmcfajfnpjeaaGreatDoor
namespace Go.Proofs.YtpcmcfajfnpjeaaGreatDoor
open Go.RowKit Go.Lamb
attribute [local go_sem] advO_skip advO_reg advO_seq advO_block advO_exit advO_endb advO_opsNil advO_ops advG_yes advG_no advG_none advS_some advS_none advO_cond advO_loop advO_dreg advO_ret advO_bad advO_inv advO_nil advO_zero wantedV Lamb.step ev_t ev_k put_some put_none argEnv popTo cellsAt V.cellsV V.rows V.sub V.toC toCs fillV bytesC byteRows appV rowsV boundV boundL binV binInt binStr eqC eqL V.isNil leaves V.leaf Ins.quiet Ins.pure List.getD_cons_zero List.getD_cons_succ List.getD_nil List.all_cons List.all_nil List.length_cons List.length_nil List.take_succ_cons List.take_zero List.drop_succ_cons List.drop_zero List.cons_append List.nil_append List.append_nil List.append_assoc List.map_cons List.map_nil List.getElem?_cons_zero List.getElem?_cons_succ List.length_append List.length_set hget0 hget hset0 hset hsets hgs0 hgs hss0 hss List.set_cons_zero List.set_cons_succ List.forall_mem_cons List.not_mem_nil false_implies implies_true Option.map_some Bool.and_true Bool.true_and Bool.not_not Bool.not_true Bool.not_false Bool.and_self Bool.or_true Bool.true_or Bool.or_false Bool.false_or Bool.and_false Bool.false_and Bool.false_eq_true beq_self_eq_true and_self and_true true_and if_true if_false Nat.zero_add Nat.add_zero Nat.le_refl Int.toNat_natCast decide_true decide_false beq_t beq_f List.length_map List.getElem?_map I S B opsC toksC OpT.v OpT.cs OpT.zero Tok.v Tok.cs Pre.v Pre.cs_eq k_mk name_mk n_mk l_mk pos_mk Pre.app applyL natCast0 natCast1 natCast2 AOp.o AOp.m AOp.f AOp.l AOp.d AOp.n AOp.x AOp.s AOp.k AOp.y AOp.z EOp.q low_c low_void low_any low_csl low_nilf low_ptr low_osl low_agg low_tup low_fn resEval advPO_nil advPO_loud advPO_quiet pL_yes pL_no pLS_some pLS_none pQ_yes pQ_no pQS_some pQS_loud eq_self Nat.sub_zero
section
attribute [local go_sem] Pre.v Pre.cs_eq
end
section
attribute [local go_sem] wrC wrY rs_len rs_g0 rs_g rs_s0 rs_s rs_sv
end
section
attribute [local go_sem] wrC wrY rs_len rs_g0 rs_g rs_s0 rs_s rs_sv
end
section
attribute [local go_sem] wrC wrY rs_len rs_g0 rs_g rs_s0 rs_s rs_sv
end
end Go.Proofs.YtpcmcfajfnpjeaaGreatDoor
namespace Go.Proofs.YtpcmcfajfnpjeaaGreatDoor
open Go.RowKit Go.Lamb
end Go.Proofs.YtpcmcfajfnpjeaaGreatDoor
namespace Go.Proofs.YtpcmcfajfnpjeaaGreatDoor
open Go.RowKit Go.Lamb
end Go.Proofs.YtpcmcfajfnpjeaaGreatDoor
namespace Go.Lamb
end Go.Lamb
namespace Go.Proofs.YtpcmcfajfnpjeaaGreatDoor
open Go.RowKit Go.Lamb
end Go.Proofs.YtpcmcfajfnpjeaaGreatDoor
namespace Go.Proofs.YtpcmcfajfnpjeaaGreatDoor
open Go.RowKit Go.Lamb
end Go.Proofs.YtpcmcfajfnpjeaaGreatDoor
namespace Go.Proofs.YtpcmcfajfnpjeaaGreatDoor
open Go.RowKit Go.Lamb

end Go.Proofs.YtpcmcfajfnpjeaaGreatDoor
namespace Go.Lamb
end Go.Lamb
namespace Go.Proofs.YtpcmcfajfnpjeaaGreatDoor
open Go.RowKit Go.Lamb
end Go.Proofs.YtpcmcfajfnpjeaaGreatDoor
namespace Go.Proofs.YtpcmcfajfnpjeaaGreatDoor
open Go.RowKit Go.Lamb
def extLex:List V → H → Option (V × H)
 | [.c (.str s)],σ=>cond (Nat.ble s.length 100000) (let r:=lexL s;some (.tup [.c (toksC r.toks),.c (.int .i64 r.err),.c (.int .i64 r.pos)],σ)) none
 | _,_=>none
def extGrow (e size:Nat):List V → H → Option (V × H)
 | [.csl [],.c (.int .i64 n)],σ=>cond (decide (0 ≤ n) && decide (n ≤ 1000000)) (some (.osl σ.length [],σ ++ [.spare e size 0])) none
 | _,_=>none
def extClone (e size:Nat):List V → H → Option (V × H)
 | [a],σ=>match a.rows with
   | some r=>cond (r.all (fun q=>Nat.beq q.length size) && Nat.ble r.length 1000000) (some (.osl σ.length r,σ ++ [.spare e size r.length])) none
   | none=>none
 | _,_=>none
def extCloneT (e:Nat):List V → H → Option (V × H)
 | [a],σ=>match a.rows with
   | some []=>some (.osl σ.length [],σ ++ [.spare e 4 0])
   | _=>none
 | _,_=>none
theorem extGrow_op (w0:World) (as':List V) (σ:H) (v:V) (σ':H) (h:extGrow 75 3 as' σ = some (v,σ')):DC Tryz.prog w0 335 as' σ (Same v σ'):=by
 unfold extGrow at h
 split at h
 ·rename_i n
  cases hc:(decide (0 ≤ n) && decide (n ≤ 1000000)) with
  | false=>rw [hc] at h;cases h
  | true=>
    rw [hc] at h
    injection h with h
    injection h with h1 h2
    subst h1 h2
    simp only [Bool.and_eq_true,decide_eq_true_eq] at hc
    obtain ⟨m,rfl⟩:∃ m:Nat,n = (m:Int):=⟨n.toNat,by omega⟩
    exact slices_Grow w0 m (by omega) σ
 ·cases h
theorem extGrow_nm (w0:World) (as':List V) (σ:H) (v:V) (σ':H) (h:extGrow 68 5 as' σ = some (v,σ')):DC Tryz.prog w0 342 as' σ (Same v σ'):=by
 unfold extGrow at h
 split at h
 ·rename_i n
  cases hc:(decide (0 ≤ n) && decide (n ≤ 1000000)) with
  | false=>rw [hc] at h;cases h
  | true=>
    rw [hc] at h
    injection h with h
    injection h with h1 h2
    subst h1 h2
    simp only [Bool.and_eq_true,decide_eq_true_eq] at hc
    obtain ⟨m,rfl⟩:∃ m:Nat,n = (m:Int):=⟨n.toNat,by omega⟩
    exact slices_GrowN w0 m (by omega) σ
 ·cases h
theorem extGrow_tm (w0:World) (as':List V) (σ:H) (v:V) (σ':H) (h:extGrow 30 4 as' σ = some (v,σ')):DC Tryz.prog w0 219 as' σ (Same v σ'):=by
 unfold extGrow at h
 split at h
 ·rename_i n
  cases hc:(decide (0 ≤ n) && decide (n ≤ 1000000)) with
  | false=>rw [hc] at h;cases h
  | true=>
    rw [hc] at h
    injection h with h
    injection h with h1 h2
    subst h1 h2
    simp only [Bool.and_eq_true,decide_eq_true_eq] at hc
    obtain ⟨m,rfl⟩:∃ m:Nat,n = (m:Int):=⟨n.toNat,by omega⟩
    exact slices_GrowT w0 m (by omega) σ
 ·cases h
theorem wk_rows {a:V} {r:List (List C)} (h:a.rows = some r):V.wk (.agg [a]) (.agg [.c (.sl r)]):=by
 refine .agg rfl fun j hj hj'=>?_
 have:j = 0:=by simp at hj;omega
 subst this
 simp only [List.getElem_cons_zero]
 unfold V.rows at h
 split at h
 ·injection h with h;subst h;exact .rfl _
 ·injection h with h;subst h;exact .osl _ _
 ·injection h with h;subst h;exact .csl _
 ·cases h
theorem extClone_op (w0:World) (as':List V) (σ:H) (v:V) (σ':H) (h:extClone 75 3 as' σ = some (v,σ')):DC Tryz.prog w0 210 as' σ (Same v σ'):=by
 unfold extClone at h
 split at h
 ·split at h
  ·rename_i r hr
   cases hc:(r.all (fun q=>Nat.beq q.length 3) && Nat.ble r.length 1000000) with
   | false=>rw [hc] at h;cases h
   | true=>
     rw [hc] at h
     injection h with h
     injection h with h1 h2
     subst h1 h2
     simp only [Bool.and_eq_true,List.all_eq_true] at hc
     exact (clone_opR w0 r (fun q hq=>Nat.eq_of_beq_eq_true (hc.1 q hq)) (Nat.le_of_ble_eq_true hc.2) σ).weakA (wk_rows hr)
  ·cases h
 ·cases h
theorem extClone_kd (w0:World) (as':List V) (σ:H) (v:V) (σ':H) (h:extClone 164 2 as' σ = some (v,σ')):DC Tryz.prog w0 209 as' σ (Same v σ'):=by
 unfold extClone at h
 split at h
 ·split at h
  ·rename_i r hr
   cases hc:(r.all (fun q=>Nat.beq q.length 2) && Nat.ble r.length 1000000) with
   | false=>rw [hc] at h;cases h
   | true=>
     rw [hc] at h
     injection h with h
     injection h with h1 h2
     subst h1 h2
     simp only [Bool.and_eq_true,List.all_eq_true] at hc
     exact (clone_kdR w0 r (fun q hq=>Nat.eq_of_beq_eq_true (hc.1 q hq)) (Nat.le_of_ble_eq_true hc.2) σ).weakA (wk_rows hr)
  ·cases h
 ·cases h
theorem extClone_nm (w0:World) (as':List V) (σ:H) (v:V) (σ':H) (h:extClone 68 5 as' σ = some (v,σ')):DC Tryz.prog w0 196 as' σ (Same v σ'):=by
 unfold extClone at h
 split at h
 ·split at h
  ·rename_i r hr
   cases hc:(r.all (fun q=>Nat.beq q.length 5) && Nat.ble r.length 1000000) with
   | false=>rw [hc] at h;cases h
   | true=>
     rw [hc] at h
     injection h with h
     injection h with h1 h2
     subst h1 h2
     simp only [Bool.and_eq_true,List.all_eq_true] at hc
     exact (clone_nmR w0 r (fun q hq=>Nat.eq_of_beq_eq_true (hc.1 q hq)) (Nat.le_of_ble_eq_true hc.2) σ).weakA (wk_rows hr)
  ·cases h
 ·cases h
theorem extClone_tm (w0:World) (as':List V) (σ:H) (v:V) (σ':H) (h:extCloneT 30 as' σ = some (v,σ')):DC Tryz.prog w0 174 as' σ (Same v σ'):=by
 unfold extCloneT at h
 split at h
 ·split at h
  ·rename_i hr
   injection h with h
   injection h with h1 h2
   subst h1 h2
   exact (clone_tmN w0 [] rfl σ).weakA (wk_rows hr)
  ·cases h
 ·cases h
theorem extLex_ok {w0:World} (hG:Glob w0) (as':List V) (σ:H) (v:V) (σ':H) (h:extLex as' σ = some (v,σ')):DC Tryz.prog w0 176 as' σ (Same v σ'):=by
 unfold extLex at h
 split at h
 ·rename_i s
  cases hc:Nat.ble s.length 100000 with
  | false=>rw [hc] at h;cases h
  | true=>
    rw [hc] at h
    injection h with h
    injection h with h1 h2
    subst h1 h2
    exact lex_Lex hG s (by have:=Nat.le_of_ble_eq_true hc;omega) σ
 ·cases h
theorem wk_toC {x:V} {y:C} (h:x.toC = some y):V.wk x (.c y):=by
 unfold V.toC at h
 split at h
 ·injection h with h;subst h;exact .rfl _
 ·injection h with h;subst h;exact .osl _ _
 ·injection h with h;subst h;exact .csl _
 ·cases h
theorem wk_toCs {l:List V} {r:List C} (h:toCs l = some r):V.wk (.agg l) (.agg (r.map .c)):=by
 obtain ⟨h1,_,h3⟩:=toCs_some h
 exact .agg (by simp [h1]) fun j hj hj'=>by
  rw [List.getElem_map]
  exact wk_toC (h3 j hj (by omega))
theorem wk_row1 {a:V} {r:List (List C)} (h:a.rows = some r):V.wk a (.c (.sl r)):=by
 unfold V.rows at h
 split at h
 ·injection h with h;subst h;exact .rfl _
 ·injection h with h;subst h;exact .osl _ _
 ·injection h with h;subst h;exact .csl _
 ·cases h
theorem wk_typ {p:V} {cs:List C} {q:Typ} (h:cells1 p = some cs) (hq:cs = q.cs):V.wk p q.v:=by
 have e:q.v = .agg (cs.map .c):=by rw [hq,Typ.cs_eq];rfl
 rw [e]
 unfold cells1 at h
 have hl:=(toCs_some h).1
 rw [hq,Typ.cs_eq] at hl
 unfold V.cellsV at h hl
 split at h
 ·exact wk_toCs h
 ·exfalso
  simp at hl
theorem wk_two {a b c d:V} (h1:V.wk a c) (h2:V.wk b d):V.wk (.agg [a,b]) (.agg [c,d]):=
 .agg rfl fun j hj hj'=>by
  rcases (by simp at hj;omega:j = 0 ∨ j = 1) with rfl | rfl
  ·exact h1
  ·exact h2
def extArrow:List V → H → Option (V × H)
 | [to,fs],σ=>match (cells1 to).bind (unT 100),fs.rows.bind (unTs (unT 100)) with
   | some t,some l=>cond (Nat.ble l.length 1000000) (some ((arrows l t).v,σ)) none
   | _,_=>none
 | _,_=>none
theorem extArrow_ok (w0:World) (as':List V) (σ:H) (v:V) (σ':H) (h:extArrow as' σ = some (v,σ')):DC Tryz.prog w0 185 as' σ (Same v σ'):=by
 unfold extArrow at h
 split at h
 ·rename_i to fs
  split at h
  ·rename_i t l h1 h2
   obtain ⟨cs,hcs,ht⟩:=Option.bind_eq_some_iff.1 h1
   obtain ⟨r,hr,hl⟩:=Option.bind_eq_some_iff.1 h2
   cases hc:Nat.ble l.length 1000000 with
   | false=>rw [hc] at h;cases h
   | true=>
     rw [hc] at h
     injection h with h
     injection h with e1 e2
     subst e1 e2
     have hr2:=wk_row1 hr
     rw [unTs_eq (fun r x=>unT_eq) hl] at hr2
     exact (ty_Arrow w0 t l (Nat.le_of_ble_eq_true hc) σ).weakA (wk_two (wk_typ hcs (unT_eq ht)) hr2)
  ·cases h
 ·cases h
end Go.Proofs.YtpcmcfajfnpjeaaGreatDoor
namespace Go.Proofs.YtpcmcfajfnpjeaaGreatDoor
open Go.RowKit Go.Lamb
def c317:AC:=.seq (.reg [.o 2 (.mov (.k (.csl [])))]) (.seq (.seq (.reg [.m 3 0,.o 4 (.eqz false (.t 3))]) (.cond (.t 4) (.seq (.reg [.o 2 (.mov (.k (.csl [])))]) (.ret)) (.skip))) (.seq (.reg [.o 5 (.bsl 4 []),.m 6 0,.o 7 (.app 48 4 56 (.t 5) (.t 6)),.m 2 7]) (.ret)))
def r317:List ResV:=[.tmp 2]
theorem k317:CodeIs Tryz.prog 317 1 Tryz.f317 c317 r317:=.auto Tryz.func317
end Go.Proofs.YtpcmcfajfnpjeaaGreatDoor
namespace Go.Proofs.YtpcmcfajfnpjeaaGreatDoor
open Go.RowKit Go.Lamb
def c184:AC:=.seq (.reg [.o 2 (.box (.k (.agg [.c (.int .i64 0),.c (.str []),.c (.int .i64 0),.csl []])))]) (.seq (.reg [.m 4 0,.n 5 4,.f 6 3 5,.l 7 6,.o 8 (.lenr (.t 7)),.o 9 (.build [.c (.int .i64 0),.c (.str []),.c (.int .i64 0),.csl []] [(0,1,(.k (.c (.int .i64 1)))),(2,1,(.t 8))]),.o 3 (.box (.k (.agg [.c (.int .i64 0),.c (.str []),.c (.int .i64 0),.csl []]))),.s 4 3 9]) (.seq (.dreg [.m 10 0,.n 11 10,.f 12 3 11,.l 13 12,.d 14 4 3,.o 15 (.lenr (.t 13)),.o 16 (.bsl 4 [(.k (.agg [.c (.int .i64 0),.c (.str []),.c (.int .i64 0),.csl []]))]),.o 17 (.app 48 4 56 (.t 13) (.t 16)),.o 18 (.iadd 4 (.t 17) (.t 15)),.s 4 18 14,.n 19 10,.f 20 3 19,.s 1 20 17] []) (.seq (.reg [.d 21 4 3,.s 4 2 21]) (.ret))))
def r184:List ResV:=[.celln 4 2]
theorem k184:CodeIs Tryz.prog 184 1 Tryz.f184 c184 r184:=.auto Tryz.func184
end Go.Proofs.YtpcmcfajfnpjeaaGreatDoor
