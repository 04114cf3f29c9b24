/- . -/
import Derived.Test.YtpcmcfajfnpjeaaGreatDoorQLexD
import Derived.Test.YtpcmcfajfnpjeaaGreatDoorQLexNum
import Derived.Lib.SmallJoins
import Derived.Handy
set_option linter.unusedSimpArgs false
set_option linter.unusedVariables false
set_option maxHeartbeats 8000000
set_option maxRecDepth 20000
namespace Go.Proofs.YtpcmcfajfnpjeaaGreatDoor
open Go.RowKit Go.Lamb

theorem atoi_ok (l:List UInt8) (w:World) (hl:l.length ≤ 4294967296) (hne:l ≠ []) (hd:l.all digitB = true) (hv:decVal l < 9223372036854775808) :
  Calls Tryz.prog 308 #[.string (bs l)] w fun e w'=>e = .returned (.tuple #[.int .i64 ((decVal l:Nat):Int),.nilIface]) ∧ Below w.heap.size w w':=
 (Tryz.strconv_Atoi_ok (bs l) (by rw [bs_size];omega) _ (by rw [bs_list,atoiAll_ok hne hd hv]) w).mono fun _ _ ⟨he,hw⟩=>⟨he,by
   rcases hw with rfl | ⟨t,rfl⟩
   ·exact Below.refl _ _
   ·exact Go.Joins.below_bytesWorld _ _ _ _ (Nat.le_refl _)⟩
theorem atoi_bad (l:List UInt8) (w:World) (hl:l.length ≤ 4294967296) (hne:l ≠ []) (hd:l.all digitB = true) (hv:¬ decVal l < 9223372036854775808) (hG:Glob w) :
  Calls Tryz.prog 308 #[.string (bs l)] w fun e w'=>∃ x p,e = .returned (.tuple #[.int .i64 x,.iface 391 (.pointer (some p))]) ∧ Below w.heap.size w w':=by
 obtain ⟨tp,p,h⟩:=hG.errRange
 exact (Tryz.strconv_Atoi_range_var (bs l) (by rw [bs_size];omega) (by rw [bs_list,atoiAll_range hne hd hv]) tp p w h).mono fun _ _ ⟨N,he,_,_,hw⟩=>⟨_,_,he,hw⟩

def oneV (r:OneR):Value:=.tuple #[.agg #[.int .i64 r.kind,.string (bs r.text),.int .i64 r.n,.int .i64 0],.int .i64 r.len,.int .i64 r.err]
theorem lex_one_nil (s:ByteArray) (w:World) (h:s.data.toList = []) :
  Calls Tryz.prog 251 #[.string s] w (RetB (oneV (oneL s.data.toList)) w):=by
 have h0:s = ⟨#[]⟩:=by
  obtain ⟨⟨l⟩⟩:=s;simp at h;rw [h]
 subst h0
 go_enter Tryz.func251,Tryz.ntmps251
 go_wp2_with fail
 go_returns
 exact ⟨rfl,(Below.refl _ _).alloc (Nat.le_refl _) _⟩

theorem run_insideL (l:List UInt8) (w:World) (hl:l.length ≤ 4294967296):Calls Tryz.prog 165 #[.string (bs l),.func (.func 166) #[] #[]] w (Ret (.int .i64 (runLen insideB l)) w):=run_inside (bs l) w (by rw [bs_size];unfold maxLen;omega)
theorem run_signL (l:List UInt8) (w:World) (hl:l.length ≤ 4294967296):Calls Tryz.prog 165 #[.string (bs l),.func (.func 167) #[] #[]] w (Ret (.int .i64 (runLen signB l)) w):=run_sign (bs l) w (by rw [bs_size];unfold maxLen;omega)
theorem run_digitL (l:List UInt8) (w:World) (hl:l.length ≤ 4294967296):Calls Tryz.prog 165 #[.string (bs l),.func (.func 246) #[] #[]] w (Ret (.int .i64 (runLen digitB l)) w):=run_digit (bs l) w (by rw [bs_size];unfold maxLen;omega)
theorem single_c (c:UInt8) (w:World):Calls Tryz.prog 247 #[.string ⟨#[44,59,33]⟩,.int .u8 c.toNat] w (Ret (.int .i64 (Lib.indexByte singles c)) w):=
 (Tryz.strings_IndexByte ⟨#[44,59,33]⟩ c.toNat w).mono fun _ _ ⟨he,hw⟩=>⟨by rw [he];simp [singles],hw.symm⟩

set_option maxHeartbeats 1000000 in
theorem lex_one_mark (c:UInt8) (r:List UInt8) (w:World) (hm:markN c ≠ 0) :
  Calls Tryz.prog 251 #[.string (bs (c :: r))] w (RetB (oneV (oneL (c :: r))) w):=by
 have h1:(markN c == 0) = false:=by simpa using hm
 have h2:(markN c != 0) = true:=by simpa using hm
 have HO:=Lib.hid (show oneL (c :: r) = ⟨markN c,[],0,1,0⟩ by simp [oneL,hm])
 clear hm
 go_enter Tryz.func251,Tryz.ntmps251
 go_wp2_with (first
  | (go_at_call 307;refine (lex_mark _ _).mono ?_;rintro e w' ⟨rfl,rfl⟩))
 go_returns
 rw [HO.out]
 exact ⟨rfl,(Below.refl _ _).alloc (Nat.le_refl _) _⟩

set_option maxHeartbeats 1000000 in
theorem lex_one_digit (c:UInt8) (r:List UInt8) (w:World) (hl:r.length < 4294967296) (hm:markN c = 0) (hd:digitB c = true) (hG:Glob w) :
  Calls Tryz.prog 251 #[.string (bs (c :: r))] w (RetB (oneV (oneL (c :: r))) w):=by
 have h1:(markN c == 0) = true:=by simpa using hm
 have h2:(markN c != 0) = false:=by simpa using hm
 have HO:=Lib.hid (show oneL (c :: r) = numR (c :: r) by simp [oneL,hm,hd])
 have HG:=Lib.hid hG
 have hle:runLen digitB (c :: r) ≤ r.length + 1:=runLen_le digitB (c :: r)
 have hpos:=run_pos (l:=r) hd
 have HT:=Lib.hid (run_take digitB (c :: r))
 clear hm hG
 by_cases hv:decVal ((c :: r).take (runLen digitB (c :: r))) < 9223372036854775808
 ·have HV:=Lib.hid hv
  clear hv
  go_enter Tryz.func251,Tryz.ntmps251
  go_wp2_with (first
   | (go_at_call 307;refine (lex_mark _ _).mono ?_;rintro e w' ⟨rfl,rfl⟩)
   | (go_at_call 246;refine (lex_digit _ _).mono ?_;rintro e w' ⟨rfl,rfl⟩)
   | (go_at_call 165;refine (run_digitL _ _ (by simp;omega)).mono ?_;rintro e w' ⟨rfl,rfl⟩)
   | (go_at_call 308;refine (atoi_ok _ _ (by simp;omega) (by simp;omega) HT.out HV.out).mono ?_;rintro e w1 ⟨rfl,hb1⟩;obtain ⟨hc1,hf1⟩:=bcell hb1;have hB1:Below w.heap.size w w1:=after (by go_grown) hb1;clear hb1))
  try simp only [Exit.inBlock,Exit.then]
  refine bodyPost_ret (v:=.tuple #[.agg #[.int .i64 3,.string ⟨#[]⟩,.int .i64 ((decVal ((c :: r).take (runLen digitB (c :: r))):Nat):Int),.int .i64 0],.int .i64 (runLen digitB (c :: r)),.int .i64 0])
   (by simp [results,Tryz.results251,go_sem,hc1]) rfl ⟨?_,by go_grown⟩
  rw [HO.out,numR,if_pos HV.out]
  rfl
 ·have HV:=Lib.hid hv
  clear hv
  go_enter Tryz.func251,Tryz.ntmps251
  go_wp2_with (first
   | (go_at_call 307;refine (lex_mark _ _).mono ?_;rintro e w' ⟨rfl,rfl⟩)
   | (go_at_call 246;refine (lex_digit _ _).mono ?_;rintro e w' ⟨rfl,rfl⟩)
   | (go_at_call 165;refine (run_digitL _ _ (by simp;omega)).mono ?_;rintro e w' ⟨rfl,rfl⟩)
   | (go_at_call 308;refine (atoi_bad _ _ (by simp;omega) (by simp;omega) HT.out HV.out (HG.out.ext (Below.alloc (Below.refl _ _) (Nat.le_refl _) _))).mono ?_;rintro e w1 ⟨x,p,rfl,hb1⟩;obtain ⟨hc1,hf1⟩:=bcell hb1;have hB1:Below w.heap.size w w1:=after (by go_grown) hb1;clear hb1))
  try simp only [Exit.inBlock,Exit.then]
  refine bodyPost_ret (v:=.tuple #[.agg #[.int .i64 0,.string ⟨#[]⟩,.int .i64 0,.int .i64 0],.int .i64 0,.int .i64 11])
   (by simp [results,Tryz.results251,go_sem,hc1]) rfl ⟨?_,by go_grown⟩
  rw [HO.out,numR,if_neg HV.out]
  rfl

set_option maxHeartbeats 1000000 in
theorem lex_one_small (c:UInt8) (r:List UInt8) (w:World) (hl:r.length < 4294967296) (hm:markN c = 0) (hd:digitB c = false) (hs:smallB c = true) :
  Calls Tryz.prog 251 #[.string (bs (c :: r))] w (RetB (oneV (oneL (c :: r))) w):=by
 have h1:(markN c == 0) = true:=by simpa using hm
 have h2:(markN c != 0) = false:=by simpa using hm
 have HO:=Lib.hid (show oneL (c :: r) = wordR 1 (runLen insideB (c :: r)) (c :: r) by simp [oneL,hm,hd,hs])
 have hle:runLen insideB (c :: r) ≤ r.length + 1:=runLen_le insideB (c :: r)
 clear hm
 by_cases hv:32 < runLen insideB (c :: r)
 ·go_enter Tryz.func251,Tryz.ntmps251
  go_wp2_with (first
   | (go_at_call 307;refine (lex_mark _ _).mono ?_;rintro e w' ⟨rfl,rfl⟩)
   | (go_at_call 246;refine (lex_digit _ _).mono ?_;rintro e w' ⟨rfl,rfl⟩)
   | (go_at_call 164;refine (lex_small _ _).mono ?_;rintro e w' ⟨rfl,rfl⟩)
   | (go_at_call 165;refine (run_insideL _ _ (by simp;omega)).mono ?_;rintro e w' ⟨rfl,rfl⟩))
  go_returns
  refine ⟨?_,by go_grown⟩
  rw [HO.out,wordR,if_pos hv]
  rfl
 ·go_enter Tryz.func251,Tryz.ntmps251
  go_wp2_with (first
   | (go_at_call 307;refine (lex_mark _ _).mono ?_;rintro e w' ⟨rfl,rfl⟩)
   | (go_at_call 246;refine (lex_digit _ _).mono ?_;rintro e w' ⟨rfl,rfl⟩)
   | (go_at_call 164;refine (lex_small _ _).mono ?_;rintro e w' ⟨rfl,rfl⟩)
   | (go_at_call 165;refine (run_insideL _ _ (by simp;omega)).mono ?_;rintro e w' ⟨rfl,rfl⟩))
  go_returns
  refine ⟨?_,by go_grown⟩
  rw [HO.out,wordR,if_neg hv]
  rfl

set_option maxHeartbeats 1000000 in
theorem lex_one_great (c:UInt8) (r:List UInt8) (w:World) (hl:r.length < 4294967296) (hm:markN c = 0) (hd:digitB c = false) (hs:smallB c = false) (hg:greatB c = true) :
  Calls Tryz.prog 251 #[.string (bs (c :: r))] w (RetB (oneV (oneL (c :: r))) w):=by
 have h1:(markN c == 0) = true:=by simpa using hm
 have h2:(markN c != 0) = false:=by simpa using hm
 have HO:=Lib.hid (show oneL (c :: r) = wordR 2 (runLen insideB (c :: r)) (c :: r) by simp [oneL,hm,hd,hs,hg])
 have hle:runLen insideB (c :: r) ≤ r.length + 1:=runLen_le insideB (c :: r)
 clear hm
 by_cases hv:32 < runLen insideB (c :: r)
 ·go_enter Tryz.func251,Tryz.ntmps251
  go_wp2_with (first
   | (go_at_call 307;refine (lex_mark _ _).mono ?_;rintro e w' ⟨rfl,rfl⟩)
   | (go_at_call 246;refine (lex_digit _ _).mono ?_;rintro e w' ⟨rfl,rfl⟩)
   | (go_at_call 164;refine (lex_small _ _).mono ?_;rintro e w' ⟨rfl,rfl⟩)
   | (go_at_call 245;refine (lex_great _ _).mono ?_;rintro e w' ⟨rfl,rfl⟩)
   | (go_at_call 165;refine (run_insideL _ _ (by simp;omega)).mono ?_;rintro e w' ⟨rfl,rfl⟩))
  go_returns
  refine ⟨?_,by go_grown⟩
  rw [HO.out,wordR,if_pos hv]
  rfl
 ·go_enter Tryz.func251,Tryz.ntmps251
  go_wp2_with (first
   | (go_at_call 307;refine (lex_mark _ _).mono ?_;rintro e w' ⟨rfl,rfl⟩)
   | (go_at_call 246;refine (lex_digit _ _).mono ?_;rintro e w' ⟨rfl,rfl⟩)
   | (go_at_call 164;refine (lex_small _ _).mono ?_;rintro e w' ⟨rfl,rfl⟩)
   | (go_at_call 245;refine (lex_great _ _).mono ?_;rintro e w' ⟨rfl,rfl⟩)
   | (go_at_call 165;refine (run_insideL _ _ (by simp;omega)).mono ?_;rintro e w' ⟨rfl,rfl⟩))
  go_returns
  refine ⟨?_,by go_grown⟩
  rw [HO.out,wordR,if_neg hv]
  rfl

set_option maxHeartbeats 1000000 in
theorem lex_one_sign (c:UInt8) (r:List UInt8) (w:World) (hl:r.length < 4294967296) (hm:markN c = 0) (hd:digitB c = false) (hs:smallB c = false) (hg:greatB c = false) (hi:signB c = true) :
  Calls Tryz.prog 251 #[.string (bs (c :: r))] w (RetB (oneV (oneL (c :: r))) w):=by
 have h1:(markN c == 0) = true:=by simpa using hm
 have h2:(markN c != 0) = false:=by simpa using hm
 have HO:=Lib.hid (show oneL (c :: r) = wordR 4 (runLen signB (c :: r)) (c :: r) by simp [oneL,hm,hd,hs,hg,hi])
 have hle:runLen signB (c :: r) ≤ r.length + 1:=runLen_le signB (c :: r)
 clear hm
 by_cases hv:32 < runLen signB (c :: r)
 ·go_enter Tryz.func251,Tryz.ntmps251
  go_wp2_with (first
   | (go_at_call 307;refine (lex_mark _ _).mono ?_;rintro e w' ⟨rfl,rfl⟩)
   | (go_at_call 246;refine (lex_digit _ _).mono ?_;rintro e w' ⟨rfl,rfl⟩)
   | (go_at_call 164;refine (lex_small _ _).mono ?_;rintro e w' ⟨rfl,rfl⟩)
   | (go_at_call 245;refine (lex_great _ _).mono ?_;rintro e w' ⟨rfl,rfl⟩)
   | (go_at_call 167;refine (lex_sign _ _).mono ?_;rintro e w' ⟨rfl,rfl⟩)
   | (go_at_call 165;refine (run_signL _ _ (by simp;omega)).mono ?_;rintro e w' ⟨rfl,rfl⟩))
  go_returns
  refine ⟨?_,by go_grown⟩
  rw [HO.out,wordR,if_pos hv]
  rfl
 ·go_enter Tryz.func251,Tryz.ntmps251
  go_wp2_with (first
   | (go_at_call 307;refine (lex_mark _ _).mono ?_;rintro e w' ⟨rfl,rfl⟩)
   | (go_at_call 246;refine (lex_digit _ _).mono ?_;rintro e w' ⟨rfl,rfl⟩)
   | (go_at_call 164;refine (lex_small _ _).mono ?_;rintro e w' ⟨rfl,rfl⟩)
   | (go_at_call 245;refine (lex_great _ _).mono ?_;rintro e w' ⟨rfl,rfl⟩)
   | (go_at_call 167;refine (lex_sign _ _).mono ?_;rintro e w' ⟨rfl,rfl⟩)
   | (go_at_call 165;refine (run_signL _ _ (by simp;omega)).mono ?_;rintro e w' ⟨rfl,rfl⟩))
  go_returns
  refine ⟨?_,by go_grown⟩
  rw [HO.out,wordR,if_neg hv]
  rfl

set_option maxHeartbeats 1000000 in
theorem lex_one_single (c:UInt8) (r:List UInt8) (w:World) (hm:markN c = 0) (hd:digitB c = false) (hs:smallB c = false) (hg:greatB c = false) (hi:signB c = false) :
  Calls Tryz.prog 251 #[.string (bs (c :: r))] w (RetB (oneV (oneL (c :: r))) w):=by
 have h1:(markN c == 0) = true:=by simpa using hm
 have h2:(markN c != 0) = false:=by simpa using hm
 have hx:=Lib.contains_iff_indexByte singles c
 cases hn:singles.contains c
 ·have HO:=Lib.hid (show oneL (c :: r) = ⟨0,[],0,0,10⟩ by unfold oneL;simp only [hm,hd,hs,hg,hi,hn];simp)
  have hlt:Lib.indexByte singles c < 0:=by rw [hn] at hx;simpa using hx.symm
  clear hm hx hn
  go_enter Tryz.func251,Tryz.ntmps251
  go_wp2_with (first
   | (go_at_call 307;refine (lex_mark _ _).mono ?_;rintro e w' ⟨rfl,rfl⟩)
   | (go_at_call 246;refine (lex_digit _ _).mono ?_;rintro e w' ⟨rfl,rfl⟩)
   | (go_at_call 164;refine (lex_small _ _).mono ?_;rintro e w' ⟨rfl,rfl⟩)
   | (go_at_call 245;refine (lex_great _ _).mono ?_;rintro e w' ⟨rfl,rfl⟩)
   | (go_at_call 167;refine (lex_sign _ _).mono ?_;rintro e w' ⟨rfl,rfl⟩)
   | (go_at_call 247;refine (single_c _ _).mono ?_;rintro e w' ⟨rfl,rfl⟩))
  go_returns
  rw [HO.out];exact ⟨rfl,by go_grown⟩
 ·have HO:=Lib.hid (show oneL (c :: r) = wordR 4 1 (c :: r) by unfold oneL;simp only [hm,hd,hs,hg,hi,hn];simp)
  have hlt:0 ≤ Lib.indexByte singles c:=by rw [hn] at hx;simpa using hx.symm
  clear hm hx hn
  go_enter Tryz.func251,Tryz.ntmps251
  go_wp2_with (first
   | (go_at_call 307;refine (lex_mark _ _).mono ?_;rintro e w' ⟨rfl,rfl⟩)
   | (go_at_call 246;refine (lex_digit _ _).mono ?_;rintro e w' ⟨rfl,rfl⟩)
   | (go_at_call 164;refine (lex_small _ _).mono ?_;rintro e w' ⟨rfl,rfl⟩)
   | (go_at_call 245;refine (lex_great _ _).mono ?_;rintro e w' ⟨rfl,rfl⟩)
   | (go_at_call 167;refine (lex_sign _ _).mono ?_;rintro e w' ⟨rfl,rfl⟩)
   | (go_at_call 247;refine (single_c _ _).mono ?_;rintro e w' ⟨rfl,rfl⟩))
  go_returns
  rw [HO.out];exact ⟨rfl,by go_grown⟩

theorem lex_one (l:List UInt8) (w:World) (hl:l.length ≤ 4294967296) (hG:Glob w):Calls Tryz.prog 251 #[.string (bs l)] w (RetB (oneV (oneL l)) w):=by
 cases l with
 | nil=>exact lex_one_nil ⟨#[]⟩ w rfl
 | cons c r=>
   have hl':r.length < 4294967296:=hl
   by_cases hm:markN c = 0
   ·cases hd:digitB c
    ·cases hs:smallB c
     ·cases hg:greatB c
      ·cases hi:signB c
       ·exact lex_one_single c r w hm hd hs hg hi
       ·exact lex_one_sign c r w hl' hm hd hs hg hi
      ·exact lex_one_great c r w hl' hm hd hs hg
     ·exact lex_one_small c r w hl' hm hd hs
    ·exact lex_one_digit c r w hl' hm hd hG
   ·exact lex_one_mark c r w hm
end Go.Proofs.YtpcmcfajfnpjeaaGreatDoor
