/- . -/
import Derived.Test.YtpcmcfajfnpjeaaGreatDoorQLexSkip
import Derived.Lib.AtoiAll
set_option linter.unusedSimpArgs false
set_option linter.unusedVariables false
set_option maxHeartbeats 8000000
set_option maxRecDepth 20000
namespace Go.Lamb
open Go Go.RowKit

def decFrom (acc:Nat) (l:List UInt8):Nat:=l.foldl (fun n c=>n * 10 + (c.toNat - 48)) acc
def decVal (l:List UInt8):Nat:=decFrom 0 l
theorem decFrom_nil (acc:Nat):decFrom acc [] = acc:=by unfold decFrom;rw [List.foldl_nil]
theorem decFrom_cons (acc:Nat) (c:UInt8) (l:List UInt8):decFrom acc (c :: l) = decFrom (acc * 10 + (c.toNat - 48)) l:=by unfold decFrom;rw [List.foldl_cons]
theorem decFrom_ge:∀ (l:List UInt8) (acc:Nat),acc ≤ decFrom acc l
 | [],acc=>by rw [decFrom_nil];exact Nat.le_refl acc
 | c :: l,acc=>by
   rw [decFrom_cons]
   have h:=decFrom_ge l (acc * 10 + (c.toNat - 48))
   generalize decFrom (acc * 10 + (c.toNat - 48)) l = d at h ⊢;omega
theorem digitB_iff {c:UInt8}:digitB c = true ↔ 48 ≤ c.toNat ∧ c.toNat ≤ 57:=by simp [digitB]
theorem parse_cons (acc:Nat) (c:UInt8) (l:List UInt8) (hc:48 ≤ c.toNat ∧ c.toNat ≤ 57):Lib.parseUint10 acc (c :: l) =
  if 1844674407370955162 ≤ acc then .range else if 18446744073709551616 ≤ acc * 10 + (c.toNat - 48) then .range else Lib.parseUint10 (acc * 10 + (c.toNat - 48)) l:=by
 rw [Lib.parseUint10,if_pos hc]
theorem parse_ok:∀ (l:List UInt8) (acc:Nat),l.all digitB = true → decFrom acc l < 18446744073709551616 → Lib.parseUint10 acc l = .ok (decFrom acc l)
 | [],acc,_,_=>by rw [Lib.parseUint10,decFrom_nil]
 | c :: l,acc,hd,ha=>by
   rw [List.all_cons,Bool.and_eq_true] at hd
   have hc:=digitB_iff.1 hd.1
   have hge:=decFrom_ge l (acc * 10 + (c.toNat - 48))
   rw [decFrom_cons] at ha ⊢;rw [parse_cons _ _ _ hc,if_neg (by omega),if_neg (by omega)]
   exact parse_ok l _ hd.2 ha
theorem parse_range:∀ (l:List UInt8) (acc:Nat),l.all digitB = true → acc < 18446744073709551616 → ¬ decFrom acc l < 18446744073709551616 → Lib.parseUint10 acc l = .range
 | [],acc,_,h0,ha=>absurd h0 ha
 | c :: l,acc,hd,h0,ha=>by
   rw [List.all_cons,Bool.and_eq_true] at hd
   have hc:=digitB_iff.1 hd.1
   rw [decFrom_cons] at ha;rw [parse_cons _ _ _ hc]
   by_cases h1:1844674407370955162 ≤ acc
   ·rw [if_pos h1]
   ·rw [if_neg h1]
    by_cases h2:18446744073709551616 ≤ acc * 10 + (c.toNat - 48)
    ·rw [if_pos h2]
    ·rw [if_neg h2]
     exact parse_range l _ hd.2 (by omega) ha
theorem atoi_of_ok {c:UInt8} {r:List UInt8} {u:Nat} (hc:digitB c = true) (h:Lib.parseUint10 0 (c :: r) = .ok u) :
  Lib.atoiAll (c :: r) = if 9223372036854775808 ≤ u then .range else .ok (u:Int):=by
 have hc:=digitB_iff.1 hc
 have h2:¬ c.toNat = 45:=by omega
 have h3:¬ c.toNat = 43:=by omega
 unfold Lib.atoiAll Lib.parseMag
 simp [h2,h3,h]
theorem atoi_of_range {c:UInt8} {r:List UInt8} (hc:digitB c = true) (h:Lib.parseUint10 0 (c :: r) = .range):Lib.atoiAll (c :: r) = .range:=by
 have hc:=digitB_iff.1 hc
 have h2:¬ c.toNat = 45:=by omega
 have h3:¬ c.toNat = 43:=by omega
 unfold Lib.atoiAll Lib.parseMag
 simp [h2,h3,h]
theorem atoiAll_ok {l:List UInt8} (hne:l ≠ []) (hd:l.all digitB = true) (hv:decVal l < 9223372036854775808):Lib.atoiAll l = .ok ((decVal l:Nat):Int):=by
 cases l with
 | nil=>exact absurd rfl hne
 | cons c r=>
   have hc:digitB c = true:=by
    rw [List.all_cons,Bool.and_eq_true] at hd;exact hd.1
   unfold decVal at hv ⊢;rw [atoi_of_ok hc (parse_ok (c :: r) 0 hd (by omega)),if_neg (by omega)]
theorem atoiAll_range {l:List UInt8} (hne:l ≠ []) (hd:l.all digitB = true) (hv:¬ decVal l < 9223372036854775808):Lib.atoiAll l = .range:=by
 cases l with
 | nil=>exact absurd rfl hne
 | cons c r=>
   have hc:digitB c = true:=by
    rw [List.all_cons,Bool.and_eq_true] at hd;exact hd.1
   unfold decVal at hv
   by_cases h:decFrom 0 (c :: r) < 18446744073709551616
   ·rw [atoi_of_ok hc (parse_ok (c :: r) 0 hd h),if_pos (by omega)]
   ·exact atoi_of_range hc (parse_range (c :: r) 0 hd (by omega) h)

structure OneR where
 kind:Int
 text:List UInt8
 n:Int
 len:Nat
 err:Int
def wordR (kind:Int) (n:Nat) (l:List UInt8):OneR:=if 32 < n then ⟨0,[],0,0,12⟩ else ⟨kind,l.take n,0,n,0⟩
def numR (l:List UInt8):OneR:=
 if decVal (l.take (runLen digitB l)) < 9223372036854775808 then ⟨3,[],((decVal (l.take (runLen digitB l)):Nat):Int),runLen digitB l,0⟩ else ⟨0,[],0,0,11⟩
def oneL:List UInt8 → OneR
 | []=>⟨0,[],0,0,0⟩
 | c :: l=>
   if markN c ≠ 0 then ⟨markN c,[],0,1,0⟩
   else if digitB c then numR (c :: l)
   else if smallB c then wordR 1 (runLen insideB (c :: l)) (c :: l)
   else if greatB c then wordR 2 (runLen insideB (c :: l)) (c :: l)
   else if signB c then wordR 4 (runLen signB (c :: l)) (c :: l)
   else if singles.contains c then wordR 4 1 (c :: l)
   else ⟨0,[],0,0,10⟩
theorem run_take (p:UInt8 → Bool):∀ l:List UInt8,(l.take (runLen p l)).all p = true
 | []=>by simp
 | c :: l=>by
   simp only [runLen]
   by_cases h:p c = true
   ·simp only [h,if_true,List.take_succ_cons,List.all_cons,Bool.true_and]
    exact run_take p l
   ·simp [h]
theorem run_pos {p:UInt8 → Bool} {c:UInt8} {l:List UInt8} (h:p c = true):0 < runLen p (c :: l):=by simp [runLen,h]
end Go.Lamb
