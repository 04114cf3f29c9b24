/- . -/
import Derived.Test.YtdlkenpilhakfaaGreatDoorQLexD
import Derived.Test.YtdlkenpilhakfaaGreatDoorQLexNum
import Derived.Lib.SmallJoins
import Derived.Handy
set_option linter.unusedSimpArgs false
set_option linter.unusedVariables false
set_option maxHeartbeats 8000000
set_option maxRecDepth 20000
open Go.Lib renaming hid->b9,indexByte->kR
open Go.RowKit.Below renaming refl->ep
open Nat renaming le_refl->aA
open Go.Proofs.Tryz
namespace Go.Proofs.YtdlkenpilhakfaaGreatDoor
open Go.RowKit Go.Lamb
theorem YN(l:List UInt8)(w:World)(hl:l.length<=4294967296)(hne:l≠[])(hd:l.all cT=true)(hv:kK l<9223372036854775808):
  Calls prog 167 #[.string (bs l)] w fun e w'=>e= .returned (.tuple #[.int .i64 ((kK l:Nat):Int),.nilIface])/\Below w.heap.size w w':=
 (Tryz.strconv_Atoi_ok (bs l) (by rw[iX];omega) _ (by rw[zy,YO hne hd hv]) w).mono fun _ _ ⟨he,hw⟩=>⟨he,by
   rcases hw with rfl|⟨t,rfl⟩
   ·exact ep _ _
   ·exact Go.Joins.below_bytesWorld _ _ _ _ (aA _)⟩
theorem YP(l:List UInt8)(w:World)(hl:l.length<=4294967296)(hne:l≠[])(hd:l.all cT=true)(hv:¬kK l<9223372036854775808)(hG:dm w):
  Calls prog 167 #[.string (bs l)] w fun e w'=>∃x p,e= .returned (.tuple #[.int .i64 x,.iface 292 (.pointer (some p))])/\Below w.heap.size w w':=by
 obtain⟨tp,p,h⟩:=hG.YE;exact(Tryz.strconv_Atoi_range_var (bs l) (by rw[iX];omega) (by rw[zy,YQ hne hd hv]) tp p w h).mono fun _ _ ⟨N,he,_,_,hw⟩=>⟨_,_,he,hw⟩
def nL(r:zz):Value:=.tuple #[.agg #[.int .i64 r.kind,.string (bs r.text),.int .i64 r.n,.int .i64 0],.int .i64 r.len,.int .i64 r.err]
theorem YR(s:ByteArray)(w:World)(h:s.data.toList=[]):
  Calls prog 110 #[.string s] w (lE (nL (a8 s.data.toList)) w):=by
 have h0:s=⟨#[]⟩:=by
  obtain⟨⟨l⟩⟩:=s;simp at h;rw[h]
 subst h0
 go_enter func110,ntmps110
 go_wp2_with fail
 go_returns
 exact⟨rfl,(ep _ _).alloc (aA _) _⟩
theorem zA(l:List UInt8)(w:World)(hl:l.length<=4294967296):Calls prog 115 #[.string (bs l),.func (.func 116) #[] #[]] w (eL (.int .i64 (cn e7 l)) w):=Nl (bs l) w (by rw[iX];unfold maxLen;omega)
theorem Nv(l:List UInt8)(w:World)(hl:l.length<=4294967296):Calls prog 115 #[.string (bs l),.func (.func 147) #[] #[]] w (eL (.int .i64 (cn gL l)) w):=Nn (bs l) w (by rw[iX];unfold maxLen;omega)
theorem Nw(l:List UInt8)(w:World)(hl:l.length<=4294967296):Calls prog 115 #[.string (bs l),.func (.func 166) #[] #[]] w (eL (.int .i64 (cn cT l)) w):=YB (bs l) w (by rw[iX];unfold maxLen;omega)
theorem Nx(c:UInt8)(w:World):Calls prog 169 #[.string ⟨#[44,59,33]⟩,.int .u8 c.toNat] w (eL (.int .i64 (kR kJ c)) w):=
 (Tryz.strings_IndexByte ⟨#[44,59,33]⟩ c.toNat w).mono fun _ _ ⟨he,hw⟩=>⟨by rw[he];simp[kJ],hw.symm⟩
set_option maxHeartbeats 1000000 in
theorem YS(c:UInt8)(r:List UInt8)(w:World)(hm:ek c≠0):
  Calls prog 110 #[.string (bs (c::r))] w (lE (nL (a8 (c::r))) w):=by
 have h1:(ek c==0)=false:=by simpa using hm
 have h2:(ek c !=0)=true:=by simpa using hm
 have HO:=b9 (show a8 (c::r)=⟨ek c,[],0,1,0⟩ by simp[a8,hm]);clear hm
 go_enter func110,ntmps110
 go_wp2_with (first
  |(go_at_call 165;refine(lD _ _).mono ?_;rintro e w' ⟨rfl,rfl⟩))
 go_returns
 rw[HO.out];exact⟨rfl,(ep _ _).alloc (aA _) _⟩
set_option maxHeartbeats 1000000 in
theorem YT(c:UInt8)(r:List UInt8)(w:World)(hl:r.length<4294967296)(hm:ek c=0)(hd:cT c=true)(hG:dm w):
  Calls prog 110 #[.string (bs (c::r))] w (lE (nL (a8 (c::r))) w):=by
 have h1:(ek c==0)=true:=by simpa using hm
 have h2:(ek c !=0)=false:=by simpa using hm
 have HO:=b9 (show a8 (c::r)=qo (c::r) by simp[a8,hm,hd]);have HG:=b9 hG;have hle:cn cT (c::r)<=r.length+1:=qp cT (c::r);have hpos:=vL (l:=r) hd;have HT:=b9 (Ny cT (c::r));clear hm hG;by_cases hv:kK ((c::r).take (cn cT (c::r)))<9223372036854775808
 ·have HV:=b9 hv;clear hv
  go_enter func110,ntmps110
  go_wp2_with (first
   |(go_at_call 165;refine(lD _ _).mono ?_;rintro e w' ⟨rfl,rfl⟩)
   |(go_at_call 166;refine(kI _ _).mono ?_;rintro e w' ⟨rfl,rfl⟩)
   |(go_at_call 115;refine(Nw _ _ (by simp;omega)).mono ?_;rintro e w' ⟨rfl,rfl⟩)
   |(go_at_call 167;refine(YN _ _ (by simp;omega) (by simp;omega) HT.out HV.out).mono ?_;rintro e w1 ⟨rfl,hb1⟩;obtain⟨hc1,hf1⟩:=Nz hb1;have hB1:Below w.heap.size w w1:=after (by go_grown) hb1;clear hb1))
  try simp only[Exit.inBlock,Exit.then]
  refine bodyPost_ret (v:=.tuple #[.agg #[.int .i64 3,.string ⟨#[]⟩,.int .i64 ((kK ((c::r).take (cn cT (c::r))):Nat):Int),.int .i64 0],.int .i64 (cn cT (c::r)),.int .i64 0])
   (by simp[results,Tryz.results110,go_sem,hc1]) rfl ⟨?_,by go_grown⟩
  rw[HO.out,qo,if_pos HV.out];rfl
 ·have HV:=b9 hv;clear hv
  go_enter func110,ntmps110
  go_wp2_with (first
   |(go_at_call 165;refine(lD _ _).mono ?_;rintro e w' ⟨rfl,rfl⟩)
   |(go_at_call 166;refine(kI _ _).mono ?_;rintro e w' ⟨rfl,rfl⟩)
   |(go_at_call 115;refine(Nw _ _ (by simp;omega)).mono ?_;rintro e w' ⟨rfl,rfl⟩)
   |(go_at_call 167;refine(YP _ _ (by simp;omega) (by simp;omega) HT.out HV.out (HG.out.ext (Below.alloc (ep _ _) (aA _) _))).mono ?_;rintro e w1 ⟨x,p,rfl,hb1⟩;obtain⟨hc1,hf1⟩:=Nz hb1;have hB1:Below w.heap.size w w1:=after (by go_grown) hb1;clear hb1))
  try simp only[Exit.inBlock,Exit.then]
  refine bodyPost_ret (v:=.tuple #[.agg #[.int .i64 0,.string ⟨#[]⟩,.int .i64 0,.int .i64 0],.int .i64 0,.int .i64 11])
   (by simp[results,Tryz.results110,go_sem,hc1]) rfl ⟨?_,by go_grown⟩
  rw[HO.out,qo,if_neg HV.out];rfl
set_option maxHeartbeats 1000000 in
theorem YU(c:UInt8)(r:List UInt8)(w:World)(hl:r.length<4294967296)(hm:ek c=0)(hd:cT c=false)(hs:jg c=true):
  Calls prog 110 #[.string (bs (c::r))] w (lE (nL (a8 (c::r))) w):=by
 have h1:(ek c==0)=true:=by simpa using hm
 have h2:(ek c !=0)=false:=by simpa using hm
 have HO:=b9 (show a8 (c::r)=gM 1 (cn e7 (c::r)) (c::r) by simp[a8,hm,hd,hs]);have hle:cn e7 (c::r)<=r.length+1:=qp e7 (c::r);clear hm;by_cases hv:32<cn e7 (c::r)
 ·go_enter func110,ntmps110
  go_wp2_with (first
   |(go_at_call 165;refine(lD _ _).mono ?_;rintro e w' ⟨rfl,rfl⟩)
   |(go_at_call 166;refine(kI _ _).mono ?_;rintro e w' ⟨rfl,rfl⟩)
   |(go_at_call 114;refine(lB _ _).mono ?_;rintro e w' ⟨rfl,rfl⟩)
   |(go_at_call 115;refine(zA _ _ (by simp;omega)).mono ?_;rintro e w' ⟨rfl,rfl⟩))
  go_returns
  refine⟨?_,by go_grown⟩;rw[HO.out,gM,if_pos hv];rfl
 ·go_enter func110,ntmps110
  go_wp2_with (first
   |(go_at_call 165;refine(lD _ _).mono ?_;rintro e w' ⟨rfl,rfl⟩)
   |(go_at_call 166;refine(kI _ _).mono ?_;rintro e w' ⟨rfl,rfl⟩)
   |(go_at_call 114;refine(lB _ _).mono ?_;rintro e w' ⟨rfl,rfl⟩)
   |(go_at_call 115;refine(zA _ _ (by simp;omega)).mono ?_;rintro e w' ⟨rfl,rfl⟩))
  go_returns
  refine⟨?_,by go_grown⟩;rw[HO.out,gM,if_neg hv];rfl
set_option maxHeartbeats 1000000 in
theorem YV(c:UInt8)(r:List UInt8)(w:World)(hl:r.length<4294967296)(hm:ek c=0)(hd:cT c=false)(hs:jg c=false)(hg:mK c=true):
  Calls prog 110 #[.string (bs (c::r))] w (lE (nL (a8 (c::r))) w):=by
 have h1:(ek c==0)=true:=by simpa using hm
 have h2:(ek c !=0)=false:=by simpa using hm
 have HO:=b9 (show a8 (c::r)=gM 2 (cn e7 (c::r)) (c::r) by simp[a8,hm,hd,hs,hg]);have hle:cn e7 (c::r)<=r.length+1:=qp e7 (c::r);clear hm;by_cases hv:32<cn e7 (c::r)
 ·go_enter func110,ntmps110
  go_wp2_with (first
   |(go_at_call 165;refine(lD _ _).mono ?_;rintro e w' ⟨rfl,rfl⟩)
   |(go_at_call 166;refine(kI _ _).mono ?_;rintro e w' ⟨rfl,rfl⟩)
   |(go_at_call 114;refine(lB _ _).mono ?_;rintro e w' ⟨rfl,rfl⟩)
   |(go_at_call 168;refine(qn _ _).mono ?_;rintro e w' ⟨rfl,rfl⟩)
   |(go_at_call 115;refine(zA _ _ (by simp;omega)).mono ?_;rintro e w' ⟨rfl,rfl⟩))
  go_returns
  refine⟨?_,by go_grown⟩;rw[HO.out,gM,if_pos hv];rfl
 ·go_enter func110,ntmps110
  go_wp2_with (first
   |(go_at_call 165;refine(lD _ _).mono ?_;rintro e w' ⟨rfl,rfl⟩)
   |(go_at_call 166;refine(kI _ _).mono ?_;rintro e w' ⟨rfl,rfl⟩)
   |(go_at_call 114;refine(lB _ _).mono ?_;rintro e w' ⟨rfl,rfl⟩)
   |(go_at_call 168;refine(qn _ _).mono ?_;rintro e w' ⟨rfl,rfl⟩)
   |(go_at_call 115;refine(zA _ _ (by simp;omega)).mono ?_;rintro e w' ⟨rfl,rfl⟩))
  go_returns
  refine⟨?_,by go_grown⟩;rw[HO.out,gM,if_neg hv];rfl
set_option maxHeartbeats 1000000 in
theorem YW(c:UInt8)(r:List UInt8)(w:World)(hl:r.length<4294967296)(hm:ek c=0)(hd:cT c=false)(hs:jg c=false)(hg:mK c=false)(hi:gL c=true):
  Calls prog 110 #[.string (bs (c::r))] w (lE (nL (a8 (c::r))) w):=by
 have h1:(ek c==0)=true:=by simpa using hm
 have h2:(ek c !=0)=false:=by simpa using hm
 have HO:=b9 (show a8 (c::r)=gM 4 (cn gL (c::r)) (c::r) by simp[a8,hm,hd,hs,hg,hi]);have hle:cn gL (c::r)<=r.length+1:=qp gL (c::r);clear hm;by_cases hv:32<cn gL (c::r)
 ·go_enter func110,ntmps110
  go_wp2_with (first
   |(go_at_call 165;refine(lD _ _).mono ?_;rintro e w' ⟨rfl,rfl⟩)
   |(go_at_call 166;refine(kI _ _).mono ?_;rintro e w' ⟨rfl,rfl⟩)
   |(go_at_call 114;refine(lB _ _).mono ?_;rintro e w' ⟨rfl,rfl⟩)
   |(go_at_call 168;refine(qn _ _).mono ?_;rintro e w' ⟨rfl,rfl⟩)
   |(go_at_call 147;refine(vK _ _).mono ?_;rintro e w' ⟨rfl,rfl⟩)
   |(go_at_call 115;refine(Nv _ _ (by simp;omega)).mono ?_;rintro e w' ⟨rfl,rfl⟩))
  go_returns
  refine⟨?_,by go_grown⟩;rw[HO.out,gM,if_pos hv];rfl
 ·go_enter func110,ntmps110
  go_wp2_with (first
   |(go_at_call 165;refine(lD _ _).mono ?_;rintro e w' ⟨rfl,rfl⟩)
   |(go_at_call 166;refine(kI _ _).mono ?_;rintro e w' ⟨rfl,rfl⟩)
   |(go_at_call 114;refine(lB _ _).mono ?_;rintro e w' ⟨rfl,rfl⟩)
   |(go_at_call 168;refine(qn _ _).mono ?_;rintro e w' ⟨rfl,rfl⟩)
   |(go_at_call 147;refine(vK _ _).mono ?_;rintro e w' ⟨rfl,rfl⟩)
   |(go_at_call 115;refine(Nv _ _ (by simp;omega)).mono ?_;rintro e w' ⟨rfl,rfl⟩))
  go_returns
  refine⟨?_,by go_grown⟩;rw[HO.out,gM,if_neg hv];rfl
set_option maxHeartbeats 1000000 in
theorem YX(c:UInt8)(r:List UInt8)(w:World)(hm:ek c=0)(hd:cT c=false)(hs:jg c=false)(hg:mK c=false)(hi:gL c=false):
  Calls prog 110 #[.string (bs (c::r))] w (lE (nL (a8 (c::r))) w):=by
 have h1:(ek c==0)=true:=by simpa using hm
 have h2:(ek c !=0)=false:=by simpa using hm
 have hx:=Lib.contains_iff_indexByte kJ c;cases hn:kJ.contains c
 ·have HO:=b9 (show a8 (c::r)=⟨0,[],0,0,10⟩ by unfold a8;simp only[hm,hd,hs,hg,hi,hn];simp);have hlt:kR kJ c<0:=by rw[hn]at hx;simpa using hx.symm
  clear hm hx hn
  go_enter func110,ntmps110
  go_wp2_with (first
   |(go_at_call 165;refine(lD _ _).mono ?_;rintro e w' ⟨rfl,rfl⟩)
   |(go_at_call 166;refine(kI _ _).mono ?_;rintro e w' ⟨rfl,rfl⟩)
   |(go_at_call 114;refine(lB _ _).mono ?_;rintro e w' ⟨rfl,rfl⟩)
   |(go_at_call 168;refine(qn _ _).mono ?_;rintro e w' ⟨rfl,rfl⟩)
   |(go_at_call 147;refine(vK _ _).mono ?_;rintro e w' ⟨rfl,rfl⟩)
   |(go_at_call 169;refine(Nx _ _).mono ?_;rintro e w' ⟨rfl,rfl⟩))
  go_returns
  rw[HO.out];exact⟨rfl,by go_grown⟩
 ·have HO:=b9 (show a8 (c::r)=gM 4 1 (c::r) by unfold a8;simp only[hm,hd,hs,hg,hi,hn];simp);have hlt:0<=kR kJ c:=by rw[hn]at hx;simpa using hx.symm
  clear hm hx hn
  go_enter func110,ntmps110
  go_wp2_with (first
   |(go_at_call 165;refine(lD _ _).mono ?_;rintro e w' ⟨rfl,rfl⟩)
   |(go_at_call 166;refine(kI _ _).mono ?_;rintro e w' ⟨rfl,rfl⟩)
   |(go_at_call 114;refine(lB _ _).mono ?_;rintro e w' ⟨rfl,rfl⟩)
   |(go_at_call 168;refine(qn _ _).mono ?_;rintro e w' ⟨rfl,rfl⟩)
   |(go_at_call 147;refine(vK _ _).mono ?_;rintro e w' ⟨rfl,rfl⟩)
   |(go_at_call 169;refine(Nx _ _).mono ?_;rintro e w' ⟨rfl,rfl⟩))
  go_returns
  rw[HO.out];exact⟨rfl,by go_grown⟩
theorem EO(l:List UInt8)(w:World)(hl:l.length<=4294967296)(hG:dm w):Calls prog 110 #[.string (bs l)] w (lE (nL (a8 l)) w):=by
 cases l with
 |nil=>exact YR ⟨#[]⟩ w rfl
 |cons c r=>
  have hl':r.length<4294967296:=hl;by_cases hm:ek c=0
  ·cases hd:cT c
   ·cases hs:jg c
    ·cases hg:mK c
     ·cases hi:gL c
      ·exact YX c r w hm hd hs hg hi
      ·exact YW c r w hl' hm hd hs hg hi
     ·exact YV c r w hl' hm hd hs hg
    ·exact YU c r w hl' hm hd hs
   ·exact YT c r w hl' hm hd hG
  ·exact YS c r w hm
end Go.Proofs.YtdlkenpilhakfaaGreatDoor
