/- . -/
import Derived.Test.YtdlkenpilhakfaaGreatDoorQLexD
import Derived.Test.YtdlkenpilhakfaaGreatDoorQLexNum
import Derived.Lib.SmallJoins
import Derived.Handy
set_option linter.unusedSimpArgs false
set_option linter.unusedVariables false
set_option maxHeartbeats 8000000
set_option maxRecDepth 20000
open Go.Lib renaming hid->b9,indexByte->kH
open Go.RowKit.Below renaming refl->ep
open Nat renaming le_refl->aA
open Go.Proofs.Tryz
namespace Go.Proofs.YtdlkenpilhakfaaGreatDoor
open Go.RowKit Go.Lamb
theorem Yx(l:List UInt8)(w:World)(hl:l.length<=4294967296)(hne:l≠[])(hd:l.all cT=true)(hv:kB l<9223372036854775808):
  Calls prog 167 #[.string (bs l)] w fun e w'=>e= .returned (.tuple #[.int .i64 ((kB l:Nat):Int),.nilIface])/\Below w.heap.size w w':=
 (Tryz.strconv_Atoi_ok (bs l) (by rw[iS];omega) _ (by rw[zj,Yy hne hd hv]) w).mono fun _ _ ⟨he,hw⟩=>⟨he,by
   rcases hw with rfl|⟨t,rfl⟩
   ·exact ep _ _
   ·exact Go.Joins.below_bytesWorld _ _ _ _ (aA _)⟩
theorem Yz(l:List UInt8)(w:World)(hl:l.length<=4294967296)(hne:l≠[])(hd:l.all cT=true)(hv:¬kB l<9223372036854775808)(hG:dj w):
  Calls prog 167 #[.string (bs l)] w fun e w'=>∃x p,e= .returned (.tuple #[.int .i64 x,.iface 292 (.pointer (some p))])/\Below w.heap.size w w':=by
 obtain⟨tp,p,h⟩:=hG.Yp;exact(Tryz.strconv_Atoi_range_var (bs l) (by rw[iS];omega) (by rw[zj,YA hne hd hv]) tp p w h).mono fun _ _ ⟨N,he,_,_,hw⟩=>⟨_,_,he,hw⟩
def nH(r:zk):Value:=.tuple #[.agg #[.int .i64 r.kind,.string (bs r.text),.int .i64 r.n,.int .i64 0],.int .i64 r.len,.int .i64 r.err]
theorem YB(s:ByteArray)(w:World)(h:s.data.toList=[]):
  Calls prog 110 #[.string s] w (lz (nH (ba s.data.toList)) w):=by
 have h0:s=⟨#[]⟩:=by
  obtain⟨⟨l⟩⟩:=s;simp at h;rw[h]
 subst h0
 go_enter func110,ntmps110
 go_wp2_with fail
 go_returns
 exact⟨rfl,(ep _ _).alloc (aA _) _⟩
theorem zl(l:List UInt8)(w:World)(hl:l.length<=4294967296):Calls prog 115 #[.string (bs l),.func (.func 116) #[] #[]] w (eP (.int .i64 (cm fb l)) w):=M3 (bs l) w (by rw[iS];unfold maxLen;omega)
theorem Nb(l:List UInt8)(w:World)(hl:l.length<=4294967296):Calls prog 115 #[.string (bs l),.func (.func 147) #[] #[]] w (eP (.int .i64 (cm gK l)) w):=M4 (bs l) w (by rw[iS];unfold maxLen;omega)
theorem Nc(l:List UInt8)(w:World)(hl:l.length<=4294967296):Calls prog 115 #[.string (bs l),.func (.func 166) #[] #[]] w (eP (.int .i64 (cm cT l)) w):=Ym (bs l) w (by rw[iS];unfold maxLen;omega)
theorem Nd(c:UInt8)(w:World):Calls prog 169 #[.string ⟨#[44,59,33]⟩,.int .u8 c.toNat] w (eP (.int .i64 (kH kA c)) w):=
 (Tryz.strings_IndexByte ⟨#[44,59,33]⟩ c.toNat w).mono fun _ _ ⟨he,hw⟩=>⟨by rw[he];simp[kA],hw.symm⟩
set_option maxHeartbeats 1000000 in
theorem YC(c:UInt8)(r:List UInt8)(w:World)(hm:ek c≠0):
  Calls prog 110 #[.string (bs (c::r))] w (lz (nH (ba (c::r))) w):=by
 have h1:(ek c==0)=false:=by simpa using hm
 have h2:(ek c !=0)=true:=by simpa using hm
 have HO:=b9 (show ba (c::r)=⟨ek c,[],0,1,0⟩ by simp[ba,hm]);clear hm
 go_enter func110,ntmps110
 go_wp2_with (first
  |(go_at_call 165;refine(ly _ _).mono ?_;rintro e w' ⟨rfl,rfl⟩))
 go_returns
 rw[HO.out];exact⟨rfl,(ep _ _).alloc (aA _) _⟩
set_option maxHeartbeats 1000000 in
theorem YD(c:UInt8)(r:List UInt8)(w:World)(hl:r.length<4294967296)(hm:ek c=0)(hd:cT c=true)(hG:dj w):
  Calls prog 110 #[.string (bs (c::r))] w (lz (nH (ba (c::r))) w):=by
 have h1:(ek c==0)=true:=by simpa using hm
 have h2:(ek c !=0)=false:=by simpa using hm
 have HO:=b9 (show ba (c::r)=qj (c::r) by simp[ba,hm,hd]);have HG:=b9 hG;have hle:cm cT (c::r)<=r.length+1:=qk cT (c::r);have hpos:=vH (l:=r) hd;have HT:=b9 (Nf cT (c::r));clear hm hG;by_cases hv:kB ((c::r).take (cm cT (c::r)))<9223372036854775808
 ·have HV:=b9 hv;clear hv
  go_enter func110,ntmps110
  go_wp2_with (first
   |(go_at_call 165;refine(ly _ _).mono ?_;rintro e w' ⟨rfl,rfl⟩)
   |(go_at_call 166;refine(kz _ _).mono ?_;rintro e w' ⟨rfl,rfl⟩)
   |(go_at_call 115;refine(Nc _ _ (by simp;omega)).mono ?_;rintro e w' ⟨rfl,rfl⟩)
   |(go_at_call 167;refine(Yx _ _ (by simp;omega) (by simp;omega) HT.out HV.out).mono ?_;rintro e w1 ⟨rfl,hb1⟩;obtain⟨hc1,hf1⟩:=Ng hb1;have hB1:Below w.heap.size w w1:=after (by go_grown) hb1;clear hb1))
  try simp only[Exit.inBlock,Exit.then]
  refine bodyPost_ret (v:=.tuple #[.agg #[.int .i64 3,.string ⟨#[]⟩,.int .i64 ((kB ((c::r).take (cm cT (c::r))):Nat):Int),.int .i64 0],.int .i64 (cm cT (c::r)),.int .i64 0])
   (by simp[results,Tryz.results110,go_sem,hc1]) rfl ⟨?_,by go_grown⟩
  rw[HO.out,qj,if_pos HV.out];rfl
 ·have HV:=b9 hv;clear hv
  go_enter func110,ntmps110
  go_wp2_with (first
   |(go_at_call 165;refine(ly _ _).mono ?_;rintro e w' ⟨rfl,rfl⟩)
   |(go_at_call 166;refine(kz _ _).mono ?_;rintro e w' ⟨rfl,rfl⟩)
   |(go_at_call 115;refine(Nc _ _ (by simp;omega)).mono ?_;rintro e w' ⟨rfl,rfl⟩)
   |(go_at_call 167;refine(Yz _ _ (by simp;omega) (by simp;omega) HT.out HV.out (HG.out.ext (Below.alloc (ep _ _) (aA _) _))).mono ?_;rintro e w1 ⟨x,p,rfl,hb1⟩;obtain⟨hc1,hf1⟩:=Ng hb1;have hB1:Below w.heap.size w w1:=after (by go_grown) hb1;clear hb1))
  try simp only[Exit.inBlock,Exit.then]
  refine bodyPost_ret (v:=.tuple #[.agg #[.int .i64 0,.string ⟨#[]⟩,.int .i64 0,.int .i64 0],.int .i64 0,.int .i64 11])
   (by simp[results,Tryz.results110,go_sem,hc1]) rfl ⟨?_,by go_grown⟩
  rw[HO.out,qj,if_neg HV.out];rfl
set_option maxHeartbeats 1000000 in
theorem YE(c:UInt8)(r:List UInt8)(w:World)(hl:r.length<4294967296)(hm:ek c=0)(hd:cT c=false)(hs:jd c=true):
  Calls prog 110 #[.string (bs (c::r))] w (lz (nH (ba (c::r))) w):=by
 have h1:(ek c==0)=true:=by simpa using hm
 have h2:(ek c !=0)=false:=by simpa using hm
 have HO:=b9 (show ba (c::r)=gL 1 (cm fb (c::r)) (c::r) by simp[ba,hm,hd,hs]);have hle:cm fb (c::r)<=r.length+1:=qk fb (c::r);clear hm;by_cases hv:32<cm fb (c::r)
 ·go_enter func110,ntmps110
  go_wp2_with (first
   |(go_at_call 165;refine(ly _ _).mono ?_;rintro e w' ⟨rfl,rfl⟩)
   |(go_at_call 166;refine(kz _ _).mono ?_;rintro e w' ⟨rfl,rfl⟩)
   |(go_at_call 114;refine(lu _ _).mono ?_;rintro e w' ⟨rfl,rfl⟩)
   |(go_at_call 115;refine(zl _ _ (by simp;omega)).mono ?_;rintro e w' ⟨rfl,rfl⟩))
  go_returns
  refine⟨?_,by go_grown⟩;rw[HO.out,gL,if_pos hv];rfl
 ·go_enter func110,ntmps110
  go_wp2_with (first
   |(go_at_call 165;refine(ly _ _).mono ?_;rintro e w' ⟨rfl,rfl⟩)
   |(go_at_call 166;refine(kz _ _).mono ?_;rintro e w' ⟨rfl,rfl⟩)
   |(go_at_call 114;refine(lu _ _).mono ?_;rintro e w' ⟨rfl,rfl⟩)
   |(go_at_call 115;refine(zl _ _ (by simp;omega)).mono ?_;rintro e w' ⟨rfl,rfl⟩))
  go_returns
  refine⟨?_,by go_grown⟩;rw[HO.out,gL,if_neg hv];rfl
set_option maxHeartbeats 1000000 in
theorem YF(c:UInt8)(r:List UInt8)(w:World)(hl:r.length<4294967296)(hm:ek c=0)(hd:cT c=false)(hs:jd c=false)(hg:my c=true):
  Calls prog 110 #[.string (bs (c::r))] w (lz (nH (ba (c::r))) w):=by
 have h1:(ek c==0)=true:=by simpa using hm
 have h2:(ek c !=0)=false:=by simpa using hm
 have HO:=b9 (show ba (c::r)=gL 2 (cm fb (c::r)) (c::r) by simp[ba,hm,hd,hs,hg]);have hle:cm fb (c::r)<=r.length+1:=qk fb (c::r);clear hm;by_cases hv:32<cm fb (c::r)
 ·go_enter func110,ntmps110
  go_wp2_with (first
   |(go_at_call 165;refine(ly _ _).mono ?_;rintro e w' ⟨rfl,rfl⟩)
   |(go_at_call 166;refine(kz _ _).mono ?_;rintro e w' ⟨rfl,rfl⟩)
   |(go_at_call 114;refine(lu _ _).mono ?_;rintro e w' ⟨rfl,rfl⟩)
   |(go_at_call 168;refine(qi _ _).mono ?_;rintro e w' ⟨rfl,rfl⟩)
   |(go_at_call 115;refine(zl _ _ (by simp;omega)).mono ?_;rintro e w' ⟨rfl,rfl⟩))
  go_returns
  refine⟨?_,by go_grown⟩;rw[HO.out,gL,if_pos hv];rfl
 ·go_enter func110,ntmps110
  go_wp2_with (first
   |(go_at_call 165;refine(ly _ _).mono ?_;rintro e w' ⟨rfl,rfl⟩)
   |(go_at_call 166;refine(kz _ _).mono ?_;rintro e w' ⟨rfl,rfl⟩)
   |(go_at_call 114;refine(lu _ _).mono ?_;rintro e w' ⟨rfl,rfl⟩)
   |(go_at_call 168;refine(qi _ _).mono ?_;rintro e w' ⟨rfl,rfl⟩)
   |(go_at_call 115;refine(zl _ _ (by simp;omega)).mono ?_;rintro e w' ⟨rfl,rfl⟩))
  go_returns
  refine⟨?_,by go_grown⟩;rw[HO.out,gL,if_neg hv];rfl
set_option maxHeartbeats 1000000 in
theorem YH(c:UInt8)(r:List UInt8)(w:World)(hl:r.length<4294967296)(hm:ek c=0)(hd:cT c=false)(hs:jd c=false)(hg:my c=false)(hi:gK c=true):
  Calls prog 110 #[.string (bs (c::r))] w (lz (nH (ba (c::r))) w):=by
 have h1:(ek c==0)=true:=by simpa using hm
 have h2:(ek c !=0)=false:=by simpa using hm
 have HO:=b9 (show ba (c::r)=gL 4 (cm gK (c::r)) (c::r) by simp[ba,hm,hd,hs,hg,hi]);have hle:cm gK (c::r)<=r.length+1:=qk gK (c::r);clear hm;by_cases hv:32<cm gK (c::r)
 ·go_enter func110,ntmps110
  go_wp2_with (first
   |(go_at_call 165;refine(ly _ _).mono ?_;rintro e w' ⟨rfl,rfl⟩)
   |(go_at_call 166;refine(kz _ _).mono ?_;rintro e w' ⟨rfl,rfl⟩)
   |(go_at_call 114;refine(lu _ _).mono ?_;rintro e w' ⟨rfl,rfl⟩)
   |(go_at_call 168;refine(qi _ _).mono ?_;rintro e w' ⟨rfl,rfl⟩)
   |(go_at_call 147;refine(vG _ _).mono ?_;rintro e w' ⟨rfl,rfl⟩)
   |(go_at_call 115;refine(Nb _ _ (by simp;omega)).mono ?_;rintro e w' ⟨rfl,rfl⟩))
  go_returns
  refine⟨?_,by go_grown⟩;rw[HO.out,gL,if_pos hv];rfl
 ·go_enter func110,ntmps110
  go_wp2_with (first
   |(go_at_call 165;refine(ly _ _).mono ?_;rintro e w' ⟨rfl,rfl⟩)
   |(go_at_call 166;refine(kz _ _).mono ?_;rintro e w' ⟨rfl,rfl⟩)
   |(go_at_call 114;refine(lu _ _).mono ?_;rintro e w' ⟨rfl,rfl⟩)
   |(go_at_call 168;refine(qi _ _).mono ?_;rintro e w' ⟨rfl,rfl⟩)
   |(go_at_call 147;refine(vG _ _).mono ?_;rintro e w' ⟨rfl,rfl⟩)
   |(go_at_call 115;refine(Nb _ _ (by simp;omega)).mono ?_;rintro e w' ⟨rfl,rfl⟩))
  go_returns
  refine⟨?_,by go_grown⟩;rw[HO.out,gL,if_neg hv];rfl
set_option maxHeartbeats 1000000 in
theorem YI(c:UInt8)(r:List UInt8)(w:World)(hm:ek c=0)(hd:cT c=false)(hs:jd c=false)(hg:my c=false)(hi:gK c=false):
  Calls prog 110 #[.string (bs (c::r))] w (lz (nH (ba (c::r))) w):=by
 have h1:(ek c==0)=true:=by simpa using hm
 have h2:(ek c !=0)=false:=by simpa using hm
 have hx:=Lib.contains_iff_indexByte kA c;cases hn:kA.contains c
 ·have HO:=b9 (show ba (c::r)=⟨0,[],0,0,10⟩ by unfold ba;simp only[hm,hd,hs,hg,hi,hn];simp);have hlt:kH kA c<0:=by rw[hn]at hx;simpa using hx.symm
  clear hm hx hn
  go_enter func110,ntmps110
  go_wp2_with (first
   |(go_at_call 165;refine(ly _ _).mono ?_;rintro e w' ⟨rfl,rfl⟩)
   |(go_at_call 166;refine(kz _ _).mono ?_;rintro e w' ⟨rfl,rfl⟩)
   |(go_at_call 114;refine(lu _ _).mono ?_;rintro e w' ⟨rfl,rfl⟩)
   |(go_at_call 168;refine(qi _ _).mono ?_;rintro e w' ⟨rfl,rfl⟩)
   |(go_at_call 147;refine(vG _ _).mono ?_;rintro e w' ⟨rfl,rfl⟩)
   |(go_at_call 169;refine(Nd _ _).mono ?_;rintro e w' ⟨rfl,rfl⟩))
  go_returns
  rw[HO.out];exact⟨rfl,by go_grown⟩
 ·have HO:=b9 (show ba (c::r)=gL 4 1 (c::r) by unfold ba;simp only[hm,hd,hs,hg,hi,hn];simp);have hlt:0<=kH kA c:=by rw[hn]at hx;simpa using hx.symm
  clear hm hx hn
  go_enter func110,ntmps110
  go_wp2_with (first
   |(go_at_call 165;refine(ly _ _).mono ?_;rintro e w' ⟨rfl,rfl⟩)
   |(go_at_call 166;refine(kz _ _).mono ?_;rintro e w' ⟨rfl,rfl⟩)
   |(go_at_call 114;refine(lu _ _).mono ?_;rintro e w' ⟨rfl,rfl⟩)
   |(go_at_call 168;refine(qi _ _).mono ?_;rintro e w' ⟨rfl,rfl⟩)
   |(go_at_call 147;refine(vG _ _).mono ?_;rintro e w' ⟨rfl,rfl⟩)
   |(go_at_call 169;refine(Nd _ _).mono ?_;rintro e w' ⟨rfl,rfl⟩))
  go_returns
  rw[HO.out];exact⟨rfl,by go_grown⟩
theorem Et(l:List UInt8)(w:World)(hl:l.length<=4294967296)(hG:dj w):Calls prog 110 #[.string (bs l)] w (lz (nH (ba l)) w):=by
 cases l with
 |nil=>exact YB ⟨#[]⟩ w rfl
 |cons c r=>
  have hl':r.length<4294967296:=hl;by_cases hm:ek c=0
  ·cases hd:cT c
   ·cases hs:jd c
    ·cases hg:my c
     ·cases hi:gK c
      ·exact YI c r w hm hd hs hg hi
      ·exact YH c r w hl' hm hd hs hg hi
     ·exact YF c r w hl' hm hd hs hg
    ·exact YE c r w hl' hm hd hs
   ·exact YD c r w hl' hm hd hG
  ·exact YC c r w hm
end Go.Proofs.YtdlkenpilhakfaaGreatDoor
