/- . -/
import Derived.Test.YtdlkenpilhakfaaGreatDoorQLxF
import Derived.Test.YtdlkenpilhakfaaGreatDoorQJ16
import Derived.Test.YtdlkenpilhakfaaGreatDoorQJ14
import Derived.Lib.AppendZerosOnto
set_option linter.unusedSimpArgs false
set_option linter.unusedVariables false
set_option maxHeartbeats 8000000
set_option maxRecDepth 20000
open Go.Builtin renaming zeroCells->qt
open Go.Lib renaming run_append_grow_zeros->vV,wpList_append_run->vW
open Go.RowKit.Below renaming refl->ep
open Nat renaming le_refl->aA
open Go.Proofs.Tryz
namespace Go.Proofs.YtdlkenpilhakfaaGreatDoor
open Go.RowKit Go.Lamb
theorem Oq:(prog.info? 60).map (fun i=>(i.zero,i.size,i.bytes))=some (some (.agg #[.string ⟨#[]⟩,.int .i64 0,.int .i64 0]),3,32):=by kernel_rfl
def Roomy(w0 w:World)(e size:Nat)(v:Value):Prop:=(∃A,v= .slice A 0 0)\/w.ownsRow w0.heap.size e size v 0 []
theorem qI(w:World)(o:Obj):Below w.heap.size w (w.drew.alloc o):=Below.alloc (Below.drew (ep _ _)) (aA _) o
theorem Fw(w:World)(n:Nat)(hn:n<=1000000)(zc:Array Value)(hz:zc.size=3):
  (w.alloc (.cells (qt zc n++qt zc (grownCap w n 0 60-n)) 60)).drew.ownsRow w.heap.size 60 3 (.slice (some ⟨w.heap.size,0,none⟩) 0 (grownCap w n 0 60)) 0 []:=by
 have hge:=grownCap_ge w n 0 60;refine⟨by simp,.inr ⟨w.heap.size,_,_,rfl,aA _,heap_alloc_new w _,Nat.zero_le _,grownCap_le_maxLen w n 0 60 (by unfold maxLen;omega),?_,by simp⟩⟩;simp only[Array.size_append,size_zeroCells,hz];omega
set_option maxHeartbeats 4000000 in
set_option maxRecDepth 100000 in
theorem Ot(A:Option Addr)(n:Nat)(w:World)(hn:n<=1000000):Calls prog 203 #[.slice A 0 0,.int .i64 n] w (fun e w'=>∃v,e= .returned v/\Below w.heap.size w w'/\Roomy w w' 60 3 v):=by
 by_cases h0:n=0
 ·subst h0;cases A
  ·go_enter func203,ntmps203
   go_wp2_with fail
   go_ret
   exact⟨_,rfl,ep _ _,.inl ⟨_,rfl⟩⟩
  ·go_enter func203,ntmps203
   go_wp2_with fail
   go_ret
   exact⟨_,rfl,ep _ _,.inl ⟨_,rfl⟩⟩
 ·obtain⟨i0,hi0,hz0,hz1,hz2⟩:=info_parts Oq;have h1:¬((n:Int)<0):=by omega
  have h2:(n:Int)>0:=by omega
  have hw:IntKind.i64.wrap (n:Int)=n:=by rw[bD]<;>omega
  cases A
  case none=>
   have hr:=vV (P:=prog) w 24 3 24 60 i0 _ .i64 .i64 underlying24 underlying3 hi0 hz0 none 0 0 [] (nT (by simp) (by simp)) n (by omega) (by rw[hz1];decide) (by omega) (by omega) (by rw[hz2];omega) (growslice_fits (by omega) (by rw[hz2];omega))
   go_enter func203,ntmps203
   go_wp2_with (first
    |(at_builtin;refine vW w rfl (.tmp 20) (.tmp 21) 24 3 rfl _ _ rfl rfl _ _ hr ?_))
   go_ret
   exact⟨_,rfl,qI w _,.inr (Fw w n hn _ rfl)⟩
  case some a=>
   have hr:=vV (P:=prog) w 24 3 24 60 i0 _ .i64 .i64 underlying24 underlying3 hi0 hz0 (some a) 0 0 [] (nT (by simp) (by simp)) n (by omega) (by rw[hz1];decide) (by omega) (by omega) (by rw[hz2];omega) (growslice_fits (by omega) (by rw[hz2];omega))
   go_enter func203,ntmps203
   go_wp2_with (first
    |(at_builtin;refine vW w rfl (.tmp 20) (.tmp 21) 24 3 rfl _ _ rfl rfl _ _ hr ?_))
   go_ret
   exact⟨_,rfl,qI w _,.inr (Fw w n hn _ rfl)⟩
theorem Ou(w0:World)(n:Nat)(hn:n<=1000000)(σ:H):DC prog w0 203 [.ab [],I n] σ (Same (.aF σ.length []) (σ++[.spare 60 3 0])):=by
 refine DC.z8 (lO func203 (by kernel_rfl) rfl) fun κ w vs hrep hfit=>?_;obtain⟨v,ys,rfl,hv,hfit⟩:=hfit.cons_inv;obtain⟨u,zs,rfl,hu,hfit⟩:=hfit.cons_inv;have:=hfit.kS;subst this;cases hv with
 |ab h1=>
  rename_i A;cases hu with
  |c hu=>
   cases hu with
   |int=>exact Ot A n w hn
end Go.Proofs.YtdlkenpilhakfaaGreatDoor
