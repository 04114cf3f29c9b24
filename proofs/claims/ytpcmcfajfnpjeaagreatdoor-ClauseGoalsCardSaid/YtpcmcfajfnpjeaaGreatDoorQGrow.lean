/- . -/
import Derived.Test.YtpcmcfajfnpjeaaGreatDoorQLxF
import Derived.Test.YtpcmcfajfnpjeaaGreatDoorQJ15
import Derived.Test.YtpcmcfajfnpjeaaGreatDoorQEnc
import Derived.Lib.AppendZerosOnto
set_option linter.unusedSimpArgs false
set_option linter.unusedVariables false
set_option maxHeartbeats 8000000
set_option maxRecDepth 20000
namespace Go.Proofs.YtpcmcfajfnpjeaaGreatDoor
open Go.RowKit Go.Lamb

theorem opInfo:(Tryz.prog.info? 75).map (fun i=>(i.zero,i.size,i.bytes)) = some (some (.agg #[.string ⟨#[]⟩,.int .i64 0,.int .i64 0]),3,32):=by kernel_rfl
def Roomy (w0 w:World) (e size:Nat) (v:Value):Prop:=(∃ A,v = .slice A 0 0) ∨ w.ownsRow w0.heap.size e size v 0 []
theorem made_below (w:World) (o:Obj):Below w.heap.size w (w.drew.alloc o):=Below.alloc (Below.drew (Below.refl _ _)) (Nat.le_refl _) o
theorem made_row (w:World) (n:Nat) (hn:n ≤ 1000000) (zc:Array Value) (hz:zc.size = 3) :
  (w.alloc (.cells (Builtin.zeroCells zc n ++ Builtin.zeroCells zc (grownCap w n 0 75 - n)) 75)).drew.ownsRow w.heap.size 75 3 (.slice (some ⟨w.heap.size,0,none⟩) 0 (grownCap w n 0 75)) 0 []:=by
 have hge:=grownCap_ge w n 0 75
 refine ⟨by simp,.inr ⟨w.heap.size,_,_,rfl,Nat.le_refl _,heap_alloc_new w _,Nat.zero_le _,grownCap_le_maxLen w n 0 75 (by unfold maxLen;omega),?_,by simp⟩⟩
 simp only [Array.size_append,size_zeroCells,hz]
 omega
set_option maxHeartbeats 4000000 in
set_option maxRecDepth 100000 in
theorem grow_op (A:Option Addr) (n:Nat) (w:World) (hn:n ≤ 1000000):Calls Tryz.prog 335 #[.slice A 0 0,.int .i64 n] w (fun e w'=>∃ v,e = .returned v ∧ Below w.heap.size w w' ∧ Roomy w w' 75 3 v):=by
 by_cases h0:n = 0
 ·subst h0
  cases A
  ·go_enter Tryz.func335,Tryz.ntmps335
   go_wp2_with fail
   go_ret
   exact ⟨_,rfl,Below.refl _ _,.inl ⟨_,rfl⟩⟩
  ·go_enter Tryz.func335,Tryz.ntmps335
   go_wp2_with fail
   go_ret
   exact ⟨_,rfl,Below.refl _ _,.inl ⟨_,rfl⟩⟩
 ·obtain ⟨i0,hi0,hz0,hz1,hz2⟩:=info_parts opInfo
  have h1:¬ ((n:Int) < 0):=by omega
  have h2:(n:Int) > 0:=by omega
  have hw:IntKind.i64.wrap (n:Int) = n:=by rw [wrap_in] <;> omega
  cases A
  case none=>
   have hr:=Lib.run_append_grow_zeros (P:=Tryz.prog) w 24 3 24 75 i0 _ .i64 .i64 Tryz.underlying24 Tryz.underlying3 hi0 hz0 none 0 0 [] (run_firstCells (by simp) (by simp)) n (by omega) (by rw [hz1];decide) (by omega) (by omega) (by rw [hz2];omega) (growslice_fits (by omega) (by rw [hz2];omega))
   go_enter Tryz.func335,Tryz.ntmps335
   go_wp2_with (first
    | (at_builtin;refine Lib.wpList_append_run w rfl (.tmp 20) (.tmp 21) 24 3 rfl _ _ rfl rfl _ _ hr ?_))
   go_ret
   exact ⟨_,rfl,made_below w _,.inr (made_row w n hn _ rfl)⟩
  case some a=>
   have hr:=Lib.run_append_grow_zeros (P:=Tryz.prog) w 24 3 24 75 i0 _ .i64 .i64 Tryz.underlying24 Tryz.underlying3 hi0 hz0 (some a) 0 0 [] (run_firstCells (by simp) (by simp)) n (by omega) (by rw [hz1];decide) (by omega) (by omega) (by rw [hz2];omega) (growslice_fits (by omega) (by rw [hz2];omega))
   go_enter Tryz.func335,Tryz.ntmps335
   go_wp2_with (first
    | (at_builtin;refine Lib.wpList_append_run w rfl (.tmp 20) (.tmp 21) 24 3 rfl _ _ rfl rfl _ _ hr ?_))
   go_ret
   exact ⟨_,rfl,made_below w _,.inr (made_row w n hn _ rfl)⟩
theorem slices_Grow (w0:World) (n:Nat) (hn:n ≤ 1000000) (σ:H):DC Tryz.prog w0 335 [.csl [],I n] σ (Same (.osl σ.length []) (σ ++ [.spare 75 3 0])):=by
 refine DC.of_room (enters_fn Tryz.func335 (by kernel_rfl) rfl) fun κ w vs hrep hfit=>?_
 obtain ⟨v,ys,rfl,hv,hfit⟩:=hfit.cons_inv
 obtain ⟨u,zs,rfl,hu,hfit⟩:=hfit.cons_inv
 have:=hfit.nil_inv
 subst this
 cases hv with
 | csl h1=>
   rename_i A
   cases hu with
   | c hu=>
     cases hu with
     | int=>exact grow_op A n w hn
end Go.Proofs.YtpcmcfajfnpjeaaGreatDoor
