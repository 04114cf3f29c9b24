/-
  Walks: all tokens of a text.
-/
import Derived.Test.YtdlkenpilhakfaaGreatDoorQLexE
import Derived.Test.YtdlkenpilhakfaaGreatDoorQLexL
import Derived.OwnWalk
set_option linter.unusedSimpArgs false
set_option linter.unusedVariables false
set_option maxHeartbeats 8000000
set_option maxRecDepth 20000
open Go.Lib renaming hid->b9
open Go.World renaming ownsRow_nil->On
open List renaming length_append->bt,length_drop->kO,take_of_length_le->fj
open Go.Proofs.Tryz
namespace Go.Proofs.YtdlkenpilhakfaaGreatDoor
open Go.RowKit Go.Lamb
theorem NQ(l:List UInt8)(w:World)(hl:l.length<=4294967280)(hG:dm w):Calls prog 109 #[.string (bs l)] w (lE (.int .i64 (qq l)) w):=
 (YJ (bs l) w (by rw[iX];omega) hG).mono fun e w' ⟨he,hw⟩=>⟨by
   rw[he,iX,zy];have:=kL false l;congr 2;unfold qq;omega,hw⟩
theorem Zi:(prog.info? 123).map (fun i=>(i.zero,i.size,i.bytes))=some (some (.agg #[.int .i64 0, .string ⟨#[]⟩, .int .i64 0, .int .i64 0]),4,40):=by kernel_rfl
def Zj(base:Nat)(w:World)(r:eo)(v:Value):Prop:=∃t,v= .tuple #[t, .int .i64 r.err, .int .i64 r.pos]/\w.ownsRow base 123 4 t r.oN.length (mM r.oN)
def Zk(w:World)(R:World->Value->Prop):Ending->World->Prop:=fun e w'=>∃v,e= .returned v/\R w' v/\Below w.heap.size w w'
def Zl(s:List UInt8)(w:World)(v5 v6:Value)(wr:World):Prop:=
 ∃(k:Nat) (d:List Tok),k<=s.length/\d.length<=k/\v6= .int .i64 k/\wr.ownsRow w.heap.size 123 4 v5 d.length (mM d)/\
  jd s=(ji s.length (s.drop k)).after d/\Below w.heap.size w wr
attribute [local go_sem] nL
set_option maxHeartbeats 4000000 in
set_option maxRecDepth 100000 in
theorem Zh(s:List UInt8)(w:World)(hs:s.length<=4294967280)(hG:dm w):Calls prog 58 #[.string (bs s)] w (Zk w (fun w' v=>Zj w.heap.size w' (jd s) v)):=by
 have HG:=b9 hG;clear hG;by_cases hbig:65536<s.length
 ·have HL:=b9 (show jd s=⟨[],13,0⟩ by unfold jd;rw[if_pos hbig])
  go_enter func58,ntmps58
  go_wp2_with fail
  go_ret3
  refine⟨_,rfl,?_,Below.refl _ _⟩;rw[HL.out];exact⟨_,rfl,On _ _ _ _⟩
 ·have HL:=b9 (show jd s=ji s.length (cp false s) by unfold jd;rw[if_neg hbig]);obtain⟨i0,hi0,hz0,hz1,hz2⟩:=info_parts Zi
  go_enter func58,ntmps58
  go_wp2_with (first
   |(go_at_call 109;refine(NQ _ _ hs HG.out).mono ?_;rintro e w1 ⟨rfl,hb1⟩;have HB1:=b9 hb1;clear hb1))
  go_loopw [5,6] (fun v5 v6 wr=>Zl s w v5 v6 wr) (fun _ v6 _=>s.length-(intOf v6).toNat)
  case atStart=>exact⟨qq s,[],NB s,by simp,rfl,On _ _ _ _,by rw[HL.out,NC,Y1],HB1.out⟩
  case round=>
   obtain⟨k,d,hk,hd,rfl,hown,dN,hb⟩:=hrel;have HO:=b9 hown;have HR:=b9 dN;have HB:=b9 hb;have HGr:=b9 (HG.out.ext hb);have htk:(s.drop k).take (s.length-k)=s.drop k:=by rw[fj (by simp)]
   clear hown dN hb;by_cases he:(a8 (s.drop k)).err=0
   ·have h1:((a8 (s.drop k)).err==0)=true:=by simpa using he
    have h2:((a8 (s.drop k)).err !=0)=false:=by simpa using he
    have HE:=b9 he;clear he;by_cases hk0:(a8 (s.drop k)).kind=0
    ·have h3:((a8 (s.drop k)).kind==0)=true:=by simpa using hk0
     have HK:=b9 hk0;clear hk0;have hsz:w.heap.size<=wr.heap.size:=HB.out.size
     go_wp2_with (first|(go_at_call 110;refine(EO _ _ (by simp;omega) HGr.out).mono ?_;rintro e w2 ⟨rfl,hb2⟩;have HB2:=b9 hb2;have hsz2:=hb2.size;clear hb2)|(at_builtin;refine wpList_append_own _ rfl (.tmp 35) (.tmp 37) 113 rfl w.heap.size 123 i0 _ 4 40 underlying113 hi0 hz0 hz1 hz2 rfl (by decide) _ _ _ rfl (((ES HO.out HB2.out).alloc _).alloc _) ⟨w2.heap.size+1,0,none⟩ 1 1 (Tok.cells ⟨(a8 (s.drop k)).kind,(a8 (s.drop k)).text,(a8 (s.drop k)).n,k⟩) rfl rfl (NR _ _ _ _ (by simp)) (by simp[Tok.cells,Value.oneCell']) (by unfold maxLen;omega) (by omega) (by simp;omega) ?_;intro v' w3 hown3 hg3 _;have HO3:=b9 hown3;have HG3:=b9 hg3;have hc3:=NS hg3 (b:=w2.heap.size) (by simp;omega) (NT HO.out hsz2);have HB3:=b9 ((((HB.out.trans (HB2.out.mono hsz)).alloc (by omega) _).alloc (by simp;omega) _).grown hg3 (by simp;omega) (fun k hk=>(HO.out.lt k hk).1));have hsz3:=hg3.size;clear hown3 hg3))
     go_ret3
     refine⟨_,rfl,?_,HB3.out⟩;rw[HR.out,Y3 HE.out HK.out,ND hk];refine⟨v',rfl,?_⟩;unfold eo.after;rw[if_pos rfl,NF,bt];exact HO3.out
    ·have h3:((a8 (s.drop k)).kind==0)=false:=by simpa using hk0
     have hsz:w.heap.size<=wr.heap.size:=HB.out.size;have hpos:=one_pos HE.out hk0;have hlen:=@ze (s.drop k);rw[kO]at hlen;have hsk:=NB (s.drop (k+(a8 (s.drop k)).len));rw[kO]at hsk;have htk2:(s.drop (k+(a8 (s.drop k)).len)).take (s.length-(k+(a8 (s.drop k)).len))=s.drop (k+(a8 (s.drop k)).len):=by rw[fj (by simp)]
     have HK:=b9 hk0;clear hk0
     go_wp2_with (first|(go_at_call 110;refine(EO _ _ (by simp;omega) HGr.out).mono ?_;rintro e w2 ⟨rfl,hb2⟩;have HB2:=b9 hb2;have hsz2:=hb2.size;clear hb2)|(go_at_call 109;refine(NQ _ _ (by simp;omega) (HG.out.ext HB3.out)).mono ?_;rintro e w4 ⟨rfl,hb4⟩;have HB4:=b9 hb4;clear hb4)|(at_builtin;refine wpList_append_own _ rfl (.tmp 35) (.tmp 37) 113 rfl w.heap.size 123 i0 _ 4 40 underlying113 hi0 hz0 hz1 hz2 rfl (by decide) _ _ _ rfl (((ES HO.out HB2.out).alloc _).alloc _) ⟨w2.heap.size+1,0,none⟩ 1 1 (Tok.cells ⟨(a8 (s.drop k)).kind,(a8 (s.drop k)).text,(a8 (s.drop k)).n,k⟩) rfl rfl (NR _ _ _ _ (by simp)) (by simp[Tok.cells,Value.oneCell']) (by unfold maxLen;omega) (by omega) (by simp;omega) ?_;intro v' w3 hown3 hg3 _;have HO3:=b9 hown3;have HG3:=b9 hg3;have hc3:=NS hg3 (b:=w2.heap.size) (by simp;omega) (NT HO.out hsz2);have HB3:=b9 ((((HB.out.trans (HB2.out.mono hsz)).alloc (by omega) _).alloc (by simp;omega) _).grown hg3 (by simp;omega) (fun k hk=>(HO.out.lt k hk).1));have hsz3:=hg3.size;clear hown3 hg3))
     go_roundw
     case rel=>
      refine⟨k+(a8 (s.drop k)).len+qq (s.drop (k+(a8 (s.drop k)).len)),d++[⟨(a8 (s.drop k)).kind,(a8 (s.drop k)).text,(a8 (s.drop k)).n,k⟩],by omega,by simp;omega,by go_num,?_,?_,?_⟩
      ·rw[NF,bt];exact ES HO3.out HB4.out
      ·rw[HR.out,Y4 HE.out HK.out,eo.YZ,ND hk]
      ·exact HB3.out.trans (HB4.out.mono HB3.out.size)
     case measure=>simp[intOf];omega
   ·have h1:((a8 (s.drop k)).err==0)=false:=by simpa using he
    have h2:((a8 (s.drop k)).err !=0)=true:=by simpa using he
    have HE:=b9 he;clear he
    go_wp2_with (first
    |(go_at_call 110;refine(EO _ _ (by simp;omega) HGr.out).mono ?_;rintro e w2 ⟨rfl,hb2⟩;have HB2:=b9 hb2;clear hb2))
    go_ret3
    refine⟨_,rfl,?_,(HB.out.trans (HB2.out.mono HB.out.size)).alloc (Nat.le_trans HB.out.size HB2.out.size) _⟩;rw[HR.out,Y2 hk HE.out];unfold eo.after;rw[if_neg HE.out];exact⟨_,rfl,On _ _ _ _⟩
end Go.Proofs.YtdlkenpilhakfaaGreatDoor
