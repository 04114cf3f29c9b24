/- . -/
import Derived.Test.YtdlkenpilhakfaaGreatDoorQJ41
import Derived.Test.YtdlkenpilhakfaaGreatDoorQJ40
import Derived.Test.YtdlkenpilhakfaaGreatDoorQJ39
import Derived.Test.YtdlkenpilhakfaaGreatDoorQJ44
import Derived.Test.YtdlkenpilhakfaaGreatDoorQJ37
import Derived.Test.YtdlkenpilhakfaaGreatDoorQJ38
import Derived.Test.YtdlkenpilhakfaaGreatDoorQJ42
import Derived.Test.YtdlkenpilhakfaaGreatDoorQJ17
import Derived.Test.YtdlkenpilhakfaaGreatDoorChecked
import Derived.Test.YtdlkenpilhakfaaGreatDoorQLexRow
set_option linter.unusedSimpArgs false
set_option linter.unusedVariables false
set_option maxHeartbeats 8000000
set_option maxRecDepth 20000
open Go.IntKind renaming i64->aN
open List renaming cons_ne_nil->aT,getElem?_eq_getElem->aO,mem_cons_self->bu,take->de
open Nat renaming zero_le->bC
open Go.Proofs.Tryz
namespace Go.Proofs.YtdlkenpilhakfaaGreatDoor
open Go.RowKit Go.Lamb
noncomputable def MS:CT:=(.n 144 ⟨JJ,JK,2,8⟩ (.n 73 ⟨Cc,Cd,2,8⟩ (.n 33 ⟨uL,uM,1,8⟩ (.n 25 ⟨pY,nA,2,8⟩ (.n 17 ⟨Le,Lf,2,8⟩ (.n 9 ⟨c9,r9,3,8⟩ (.n 6 ⟨c6,r6,0,8⟩ .e .e) (.n 16 ⟨JS,JT,2,8⟩ .e .e)) (.n 20 ⟨c20,I8,2,8⟩ (.n 19 ⟨My,Mz,1,8⟩ .e .e) (.n 23 ⟨ml,kj,1,8⟩ .e .e))) (.n 29 ⟨uJ,uK,2,8⟩ (.n 27 ⟨rQ,rR,2,8⟩ (.n 26 ⟨uH,uI,3,8⟩ .e .e) (.n 28 ⟨c28,LM,3,8⟩ .e .e)) (.n 31 ⟨c31,C1,2,8⟩ (.n 30 ⟨CZ,C0,1,8⟩ .e .e) (.n 32 ⟨C2,yE,1,8⟩ .e .e)))) (.n 63 ⟨nl,BY,1,8⟩ (.n 56 ⟨I6,I7,1,8⟩ (.n 53 ⟨c53,JL,2,8⟩ (.n 52 ⟨JQ,JR,1,8⟩ .e .e) (.n 54 ⟨JO,JP,3,8⟩ .e .e)) (.n 59 ⟨c59,IN,3,8⟩ (.n 57 ⟨MN,MO,1,8⟩ .e .e) (.n 60 ⟨IT,IU,1,8⟩ .e .e))) (.n 70 ⟨c70,oD,2,8⟩ (.n 66 ⟨yF,yG,2,8⟩ (.n 64 ⟨rp,rq,2,8⟩ .e .e) (.n 69 ⟨rv,rA,2,8⟩ .e .e)) (.n 72 ⟨c72,Cb,1,8⟩ (.n 71 ⟨uN,uO,3,8⟩ .e .e) .e)))) (.n 112 ⟨IB,IC,1,8⟩ (.n 100 ⟨JB,JC,2,8⟩ (.n 78 ⟨uQ,rU,3,8⟩ (.n 76 ⟨c76,rT,1,8⟩ (.n 75 ⟨c75,uP,2,8⟩ .e .e) (.n 77 ⟨eR,uc,1,8⟩ .e .e)) (.n 80 ⟨c80,BZ,1,8⟩ (.n 79 ⟨C6,C7,2,8⟩ .e .e) (.n 99 ⟨JH,JI,2,8⟩ .e .e))) (.n 107 ⟨c107,I5,1,8⟩ (.n 104 ⟨J1,J2,1,8⟩ (.n 101 ⟨JM,JN,3,8⟩ .e .e) (.n 106 ⟨J9,Ka,0,8⟩ .e .e)) (.n 111 ⟨IL,IM,3,8⟩ (.n 108 ⟨JX,JY,0,8⟩ .e .e) .e))) (.n 126 ⟨B1,B2,1,8⟩ (.n 122 ⟨uR,uS,2,8⟩ (.n 118 ⟨Ck,Cl,2,8⟩ (.n 117 ⟨c117,pM,2,8⟩ .e .e) (.n 120 ⟨Cm,Cn,1,8⟩ .e .e)) (.n 124 ⟨c124,oy,2,8⟩ (.n 123 ⟨rV,rW,3,8⟩ .e .e) (.n 125 ⟨yc,yd,2,8⟩ .e .e))) (.n 131 ⟨c131,pT,1,8⟩ (.n 129 ⟨yk,uu,3,8⟩ (.n 127 ⟨c127,Ce,2,8⟩ .e .e) (.n 130 ⟨c130,oA,2,8⟩ .e .e)) (.n 133 ⟨yp,uv,2,8⟩ (.n 132 ⟨yl,yo,2,8⟩ .e .e) .e))))) (.n 206 ⟨c206,IY,2,8⟩ (.n 173 ⟨c173,Is,2,8⟩ (.n 158 ⟨I3,I4,1,8⟩ (.n 151 ⟨J5,J6,3,8⟩ (.n 146 ⟨c146,JA,2,8⟩ (.n 145 ⟨c145,Jz,2,8⟩ .e .e) (.n 150 ⟨J7,J8,1,8⟩ .e .e)) (.n 153 ⟨IQ,IS,0,8⟩ (.n 152 ⟨c152,I9,2,8⟩ .e .e) (.n 155 ⟨I1,I2,1,8⟩ .e .e))) (.n 170 ⟨IJ,IK,2,8⟩ (.n 160 ⟨c160,L8,1,8⟩ (.n 159 ⟨c159,JU,1,8⟩ .e .e) (.n 161 ⟨JV,JW,2,8⟩ .e .e)) (.n 172 ⟨Iv,Iw,2,8⟩ (.n 171 ⟨c171,Iu,2,8⟩ .e .e) .e))) (.n 188 ⟨rG,rH,2,8⟩ (.n 182 ⟨c182,oB,2,8⟩ (.n 176 ⟨ID,IE,4,8⟩ (.n 174 ⟨IF,IG,4,8⟩ .e .e) (.n 180 ⟨yq,KH,1,8⟩ .e .e)) (.n 186 ⟨Dm,Dn,2,8⟩ (.n 184 ⟨CD,pU,2,8⟩ .e .e) (.n 187 ⟨Cs,Ct,3,8⟩ .e .e))) (.n 201 ⟨c201,Im,2,8⟩ (.n 190 ⟨CF,CG,1,8⟩ (.n 189 ⟨rI,rJ,3,8⟩ .e .e) (.n 191 ⟨yt,yu,2,8⟩ .e .e)) (.n 205 ⟨IZ,I0,1,8⟩ (.n 204 ⟨H6,H7,2,8⟩ .e .e) .e)))) (.n 237 ⟨CJ,CK,3,8⟩ (.n 225 ⟨Iq,Ir,3,8⟩ (.n 221 ⟨Iz,IA,1,8⟩ (.n 209 ⟨Ig,Ih,2,8⟩ (.n 207 ⟨IV,IW,3,8⟩ .e .e) (.n 210 ⟨c210,IX,3,8⟩ .e .e)) (.n 223 ⟨Ix,Iy,1,8⟩ (.n 222 ⟨c222,II,2,8⟩ .e .e) (.n 224 ⟨Io,Ip,2,8⟩ .e .e))) (.n 233 ⟨c233,uk,4,8⟩ (.n 230 ⟨yv,yw,1,8⟩ (.n 227 ⟨c227,gZ,3,8⟩ .e .e) (.n 232 ⟨c232,Dl,2,8⟩ .e .e)) (.n 236 ⟨c236,yx,2,8⟩ (.n 235 ⟨uj,nw,3,8⟩ .e .e) .e))) (.n 268 ⟨H2,H3,1,8⟩ (.n 247 ⟨Ie,If,2,8⟩ (.n 245 ⟨Ik,Il,2,8⟩ (.n 238 ⟨pV,pW,2,8⟩ .e .e) (.n 246 ⟨Ii,Ij,2,8⟩ .e .e)) (.n 259 ⟨yy,yz,3,8⟩ (.n 248 ⟨Ja,Jb,2,8⟩ .e .e) (.n 261 ⟨sd,se,2,8⟩ .e .e))) (.n 272 ⟨Jc,Jd,2,8⟩ (.n 270 ⟨H4,H5,1,8⟩ (.n 269 ⟨Ib,Ic,2,8⟩ .e .e) (.n 271 ⟨H9,Ia,3,8⟩ .e .e)) (.n 288 ⟨CN,CO,4,8⟩ (.n 279 ⟨rK,rL,4,8⟩ .e .e) .e))))))
theorem Ec:CT.Ok prog MS:=⟨⟨_,Tz⟩,⟨⟨_,Jq⟩,⟨⟨_,C3⟩,⟨⟨_,uG⟩,⟨⟨_,U4⟩,⟨⟨_,k9⟩,⟨⟨_,k6⟩,trivial,trivial⟩,⟨⟨_,TE⟩,trivial,trivial⟩⟩,⟨⟨_,S7⟩,⟨⟨_,XC⟩,trivial,trivial⟩,⟨⟨_,Lg⟩,trivial,trivial⟩⟩⟩,⟨⟨_,CY⟩,⟨⟨_,CX⟩,⟨⟨_,yD⟩,trivial,trivial⟩,⟨⟨_,LN⟩,trivial,trivial⟩⟩,⟨⟨_,Li⟩,⟨⟨_,Lh⟩,trivial,trivial⟩,⟨⟨_,Lj⟩,trivial,trivial⟩⟩⟩⟩,⟨⟨_,HJ⟩,⟨⟨_,S6⟩,⟨⟨_,TA⟩,⟨⟨_,TD⟩,trivial,trivial⟩,⟨⟨_,TC⟩,trivial,trivial⟩⟩,⟨⟨_,SU⟩,⟨⟨_,XK⟩,trivial,trivial⟩,⟨⟨_,SW⟩,trivial,trivial⟩⟩⟩,⟨⟨_,rS⟩,⟨⟨_,Lk⟩,⟨⟨_,xY⟩,trivial,trivial⟩,⟨⟨_,Kk⟩,trivial,trivial⟩⟩,⟨⟨_,Jo⟩,⟨⟨_,yH⟩,trivial,trivial⟩,trivial⟩⟩⟩⟩,⟨⟨_,SN⟩,⟨⟨_,Tu⟩,⟨⟨_,C5⟩,⟨⟨_,Ll⟩,⟨⟨_,C4⟩,trivial,trivial⟩,⟨⟨_,Kn⟩,trivial,trivial⟩⟩,⟨⟨_,HM⟩,⟨⟨_,Lm⟩,trivial,trivial⟩,⟨⟨_,Ty⟩,trivial,trivial⟩⟩⟩,⟨⟨_,S5⟩,⟨⟨_,TL⟩,⟨⟨_,TB⟩,trivial,trivial⟩,⟨⟨_,TP⟩,trivial,trivial⟩⟩,⟨⟨_,SS⟩,⟨⟨_,TH⟩,trivial,trivial⟩,trivial⟩⟩⟩,⟨⟨_,H8⟩,⟨⟨_,C8⟩,⟨⟨_,Kl⟩,⟨⟨_,xZ⟩,trivial,trivial⟩,⟨⟨_,Km⟩,trivial,trivial⟩⟩,⟨⟨_,B0⟩,⟨⟨_,yI⟩,trivial,trivial⟩,⟨⟨_,Jp⟩,trivial,trivial⟩⟩⟩,⟨⟨_,KG⟩,⟨⟨_,Cy⟩,⟨⟨_,Jr⟩,trivial,trivial⟩,⟨⟨_,KF⟩,trivial,trivial⟩⟩,⟨⟨_,CA⟩,⟨⟨_,Cz⟩,trivial,trivial⟩,trivial⟩⟩⟩⟩⟩,⟨⟨_,SZ⟩,⟨⟨_,SI⟩,⟨⟨_,S4⟩,⟨⟨_,TN⟩,⟨⟨_,Tt⟩,⟨⟨_,Ts⟩,trivial,trivial⟩,⟨⟨_,TO⟩,trivial,trivial⟩⟩,⟨⟨_,SV⟩,⟨⟨_,S8⟩,trivial,trivial⟩,⟨⟨_,S3⟩,trivial,trivial⟩⟩⟩,⟨⟨_,SR⟩,⟨⟨_,Wm⟩,⟨⟨_,TF⟩,trivial,trivial⟩,⟨⟨_,TG⟩,trivial,trivial⟩⟩,⟨⟨_,SK⟩,⟨⟨_,SJ⟩,trivial,trivial⟩,trivial⟩⟩⟩,⟨⟨_,uw⟩,⟨⟨_,CC⟩,⟨⟨_,SO⟩,⟨⟨_,SP⟩,trivial,trivial⟩,⟨⟨_,CB⟩,trivial,trivial⟩⟩,⟨⟨_,LL⟩,⟨⟨_,KI⟩,trivial,trivial⟩,⟨⟨_,Kw⟩,trivial,trivial⟩⟩⟩,⟨⟨_,SF⟩,⟨⟨_,KJ⟩,⟨⟨_,yr⟩,trivial,trivial⟩,⟨⟨_,CH⟩,trivial,trivial⟩⟩,⟨⟨_,S2⟩,⟨⟨_,Sx⟩,trivial,trivial⟩,trivial⟩⟩⟩⟩,⟨⟨_,KL⟩,⟨⟨_,SH⟩,⟨⟨_,SM⟩,⟨⟨_,SC⟩,⟨⟨_,SX⟩,trivial,trivial⟩,⟨⟨_,SY⟩,trivial,trivial⟩⟩,⟨⟨_,SL⟩,⟨⟨_,SQ⟩,trivial,trivial⟩,⟨⟨_,SG⟩,trivial,trivial⟩⟩⟩,⟨⟨_,Kx⟩,⟨⟨_,KK⟩,⟨⟨_,ld⟩,trivial,trivial⟩,⟨⟨_,LK⟩,trivial,trivial⟩⟩,⟨⟨_,CI⟩,⟨⟨_,Kv⟩,trivial,trivial⟩,trivial⟩⟩⟩,⟨⟨_,Sv⟩,⟨⟨_,SB⟩,⟨⟨_,SE⟩,⟨⟨_,CL⟩,trivial,trivial⟩,⟨⟨_,SD⟩,trivial,trivial⟩⟩,⟨⟨_,CM⟩,⟨⟨_,S9⟩,trivial,trivial⟩,⟨⟨_,LJ⟩,trivial,trivial⟩⟩⟩,⟨⟨_,Ta⟩,⟨⟨_,Sw⟩,⟨⟨_,SA⟩,trivial,trivial⟩,⟨⟨_,Sy⟩,trivial,trivial⟩⟩,⟨⟨_,KM⟩,⟨⟨_,ux⟩,trivial,trivial⟩,trivial⟩⟩⟩⟩⟩⟩
end Go.Proofs.YtdlkenpilhakfaaGreatDoor
namespace Go.Lamb
open Go Go.RowKit
def gp:V:=.c (.sl [[.str [111],.int .i64 (0)],[.str [105,110,116],.int .i64 (0)]])
def gq:V:=.c (.sl [[.str [58,45],.int .i64 (2),.str [],.int .i64 (0),.sl [[.int .i64 (0),.str [111],.int .i64 (0),.sl []],[.int .i64 (2),.str [],.int .i64 (0),.sl [[.int .i64 (0),.str [111],.int .i64 (0),.sl []],[.int .i64 (0),.str [111],.int .i64 (0),.sl []]]]]],[.str [44],.int .i64 (2),.str [],.int .i64 (0),.sl [[.int .i64 (0),.str [111],.int .i64 (0),.sl []],[.int .i64 (2),.str [],.int .i64 (0),.sl [[.int .i64 (0),.str [111],.int .i64 (0),.sl []],[.int .i64 (0),.str [111],.int .i64 (0),.sl []]]]]],[.str [59],.int .i64 (2),.str [],.int .i64 (0),.sl [[.int .i64 (0),.str [111],.int .i64 (0),.sl []],[.int .i64 (2),.str [],.int .i64 (0),.sl [[.int .i64 (0),.str [111],.int .i64 (0),.sl []],[.int .i64 (0),.str [111],.int .i64 (0),.sl []]]]]],[.str [61,62],.int .i64 (2),.str [],.int .i64 (0),.sl [[.int .i64 (0),.str [111],.int .i64 (0),.sl []],[.int .i64 (2),.str [],.int .i64 (0),.sl [[.int .i64 (0),.str [111],.int .i64 (0),.sl []],[.int .i64 (0),.str [111],.int .i64 (0),.sl []]]]]],[.str [61],.int .i64 (2),.str [],.int .i64 (0),.sl [[.int .i64 (1),.str [],.int .i64 (0),.sl []],[.int .i64 (2),.str [],.int .i64 (0),.sl [[.int .i64 (1),.str [],.int .i64 (0),.sl []],[.int .i64 (0),.str [111],.int .i64 (0),.sl []]]]]],[.str [105,115],.int .i64 (2),.str [],.int .i64 (0),.sl [[.int .i64 (0),.str [105,110,116],.int .i64 (0),.sl []],[.int .i64 (2),.str [],.int .i64 (0),.sl [[.int .i64 (0),.str [105,110,116],.int .i64 (0),.sl []],[.int .i64 (0),.str [111],.int .i64 (0),.sl []]]]]],[.str [60],.int .i64 (2),.str [],.int .i64 (0),.sl [[.int .i64 (0),.str [105,110,116],.int .i64 (0),.sl []],[.int .i64 (2),.str [],.int .i64 (0),.sl [[.int .i64 (0),.str [105,110,116],.int .i64 (0),.sl []],[.int .i64 (0),.str [111],.int .i64 (0),.sl []]]]]],[.str [61,60],.int .i64 (2),.str [],.int .i64 (0),.sl [[.int .i64 (0),.str [105,110,116],.int .i64 (0),.sl []],[.int .i64 (2),.str [],.int .i64 (0),.sl [[.int .i64 (0),.str [105,110,116],.int .i64 (0),.sl []],[.int .i64 (0),.str [111],.int .i64 (0),.sl []]]]]],[.str [62],.int .i64 (2),.str [],.int .i64 (0),.sl [[.int .i64 (0),.str [105,110,116],.int .i64 (0),.sl []],[.int .i64 (2),.str [],.int .i64 (0),.sl [[.int .i64 (0),.str [105,110,116],.int .i64 (0),.sl []],[.int .i64 (0),.str [111],.int .i64 (0),.sl []]]]]],[.str [62,61],.int .i64 (2),.str [],.int .i64 (0),.sl [[.int .i64 (0),.str [105,110,116],.int .i64 (0),.sl []],[.int .i64 (2),.str [],.int .i64 (0),.sl [[.int .i64 (0),.str [105,110,116],.int .i64 (0),.sl []],[.int .i64 (0),.str [111],.int .i64 (0),.sl []]]]]],[.str [43],.int .i64 (2),.str [],.int .i64 (0),.sl [[.int .i64 (0),.str [105,110,116],.int .i64 (0),.sl []],[.int .i64 (2),.str [],.int .i64 (0),.sl [[.int .i64 (0),.str [105,110,116],.int .i64 (0),.sl []],[.int .i64 (0),.str [105,110,116],.int .i64 (0),.sl []]]]]],[.str [45],.int .i64 (2),.str [],.int .i64 (0),.sl [[.int .i64 (0),.str [105,110,116],.int .i64 (0),.sl []],[.int .i64 (2),.str [],.int .i64 (0),.sl [[.int .i64 (0),.str [105,110,116],.int .i64 (0),.sl []],[.int .i64 (0),.str [105,110,116],.int .i64 (0),.sl []]]]]],[.str [42],.int .i64 (2),.str [],.int .i64 (0),.sl [[.int .i64 (0),.str [105,110,116],.int .i64 (0),.sl []],[.int .i64 (2),.str [],.int .i64 (0),.sl [[.int .i64 (0),.str [105,110,116],.int .i64 (0),.sl []],[.int .i64 (0),.str [105,110,116],.int .i64 (0),.sl []]]]]],[.str [100,105,118],.int .i64 (2),.str [],.int .i64 (0),.sl [[.int .i64 (0),.str [105,110,116],.int .i64 (0),.sl []],[.int .i64 (2),.str [],.int .i64 (0),.sl [[.int .i64 (0),.str [105,110,116],.int .i64 (0),.sl []],[.int .i64 (0),.str [105,110,116],.int .i64 (0),.sl []]]]]],[.str [109,111,100],.int .i64 (2),.str [],.int .i64 (0),.sl [[.int .i64 (0),.str [105,110,116],.int .i64 (0),.sl []],[.int .i64 (2),.str [],.int .i64 (0),.sl [[.int .i64 (0),.str [105,110,116],.int .i64 (0),.sl []],[.int .i64 (0),.str [105,110,116],.int .i64 (0),.sl []]]]]],[.str [126],.int .i64 (2),.str [],.int .i64 (0),.sl [[.int .i64 (0),.str [105,110,116],.int .i64 (0),.sl []],[.int .i64 (0),.str [105,110,116],.int .i64 (0),.sl []]]],[.str [116,114,117,101],.int .i64 (0),.str [111],.int .i64 (0),.sl []],[.str [102,97,105,108],.int .i64 (0),.str [111],.int .i64 (0),.sl []],[.str [33],.int .i64 (0),.str [111],.int .i64 (0),.sl []],[.str [112,105],.int .i64 (2),.str [],.int .i64 (0),.sl [[.int .i64 (2),.str [],.int .i64 (0),.sl [[.int .i64 (1),.str [],.int .i64 (0),.sl []],[.int .i64 (0),.str [111],.int .i64 (0),.sl []]]],[.int .i64 (0),.str [111],.int .i64 (0),.sl []]]],[.str [115,105,103,109,97],.int .i64 (2),.str [],.int .i64 (0),.sl [[.int .i64 (2),.str [],.int .i64 (0),.sl [[.int .i64 (1),.str [],.int .i64 (0),.sl []],[.int .i64 (0),.str [111],.int .i64 (0),.sl []]]],[.int .i64 (0),.str [111],.int .i64 (0),.sl []]]],[.str [102],.int .i64 (2),.str [],.int .i64 (0),.sl [[.int .i64 (0),.str [105,110,116],.int .i64 (0),.sl []],[.int .i64 (0),.str [111],.int .i64 (0),.sl []]]]])
def dR:V:=.c (.sl [[.str [58,45],.int .i64 (10),.int .i64 (0)],[.str [59],.int .i64 (20),.int .i64 (2)],[.str [44],.int .i64 (30),.int .i64 (2)],[.str [61,62],.int .i64 (40),.int .i64 (2)],[.str [61],.int .i64 (60),.int .i64 (0)],[.str [105,115],.int .i64 (60),.int .i64 (0)],[.str [60],.int .i64 (60),.int .i64 (0)],[.str [61,60],.int .i64 (60),.int .i64 (0)],[.str [62],.int .i64 (60),.int .i64 (0)],[.str [62,61],.int .i64 (60),.int .i64 (0)],[.str [43],.int .i64 (80),.int .i64 (1)],[.str [45],.int .i64 (80),.int .i64 (1)],[.str [42],.int .i64 (90),.int .i64 (1)],[.str [100,105,118],.int .i64 (90),.int .i64 (1)],[.str [109,111,100],.int .i64 (90),.int .i64 (1)]])
def Ed:List UInt8:=[116,121,112,101,32,102,32,105,110,116,32,45,62,32,111,46]
def Ee:List UInt8:=[112,105,32,120,92,32,102,32,120]
def Ef:List UInt8:=[102,32,102]
def Eg:List UInt8:=[88,32,61,32,89,32,44,32,102,32,88]
def sn:V:=.agg [.c (.int .i64 (3)),.c (.str []),.c (.int .i64 (0)),.ab [[.int .i64 (0),.str [112,105],.int .i64 (0),.sl [],.int .i64 (0)],[.int .i64 (4),.str [120],.int .i64 (0),.sl [[.int .i64 (3),.str [],.int .i64 (0),.sl [[.int .i64 (0),.str [102],.int .i64 (0),.sl [],.int .i64 (6)],[.int .i64 (0),.str [120],.int .i64 (0),.sl [],.int .i64 (8)]],.int .i64 (6)]],.int .i64 (3)]],.c (.int .i64 (0))]
def so:V:=.agg [.c (.int .i64 (3)),.c (.str []),.c (.int .i64 (0)),.ab [[.int .i64 (0),.str [102],.int .i64 (0),.sl [],.int .i64 (0)],[.int .i64 (0),.str [102],.int .i64 (0),.sl [],.int .i64 (2)]],.c (.int .i64 (0))]
def sq:V:=.agg [.c (.int .i64 (3)),.c (.str []),.c (.int .i64 (0)),.ab [[.int .i64 (3),.str [],.int .i64 (0),.sl [[.int .i64 (0),.str [44],.int .i64 (0),.sl [],.int .i64 (6)],[.int .i64 (3),.str [],.int .i64 (0),.sl [[.int .i64 (3),.str [],.int .i64 (0),.sl [[.int .i64 (0),.str [61],.int .i64 (0),.sl [],.int .i64 (2)],[.int .i64 (1),.str [88],.int .i64 (0),.sl [],.int .i64 (0)]],.int .i64 (2)],[.int .i64 (1),.str [89],.int .i64 (0),.sl [],.int .i64 (4)]],.int .i64 (2)]],.int .i64 (6)],[.int .i64 (3),.str [],.int .i64 (0),.sl [[.int .i64 (0),.str [102],.int .i64 (0),.sl [],.int .i64 (8)],[.int .i64 (1),.str [88],.int .i64 (0),.sl [],.int .i64 (10)]],.int .i64 (8)]],.c (.int .i64 (6))]
def Eh:V:=.ay [.agg [.c (.int .i64 (6)),.c (.str []),.c (.int .i64 (0)),.c (.sl [[.int .i64 (0),.str [112,105],.int .i64 (0),.sl []],[.int .i64 (0),.str [102],.int .i64 (0),.sl []]])],.c (.sl []),.c (.int .i64 (0)),.c (.int .i64 (0))]
def Ei:V:=.ay [.agg [.c (.int .i64 (0)),.c (.str []),.c (.int .i64 (0)),.ab []],.ab [],.c (.int .i64 (121)),.c (.int .i64 (0))]
def Ej:V:=.ay [.agg [.c (.int .i64 (6)),.c (.str []),.c (.int .i64 (0)),.c (.sl [[.int .i64 (0),.str [44],.int .i64 (0),.sl []],[.int .i64 (6),.str [],.int .i64 (0),.sl [[.int .i64 (0),.str [61],.int .i64 (0),.sl []],[.int .i64 (4),.str [],.int .i64 (0),.sl []],[.int .i64 (4),.str [],.int .i64 (1),.sl []]]],[.int .i64 (6),.str [],.int .i64 (0),.sl [[.int .i64 (0),.str [102],.int .i64 (0),.sl []],[.int .i64 (4),.str [],.int .i64 (0),.sl []]]]])],.c (.sl [[.str [88],.int .i64 (0),.str [105,110,116],.int .i64 (0),.sl []],[.str [89],.int .i64 (0),.str [105,110,116],.int .i64 (0),.sl []]]),.c (.int .i64 (0)),.c (.int .i64 (0))]
def vy:H:=[.cells [gp,gq,dR] none]
def vz:H:=[.cells [gp,gq,dR] none,.cells [.c (.int .i64 (3)),.c (.str []),.c (.int .i64 (0)),.ab [[.int .i64 (0),.str [112,105],.int .i64 (0),.sl [],.int .i64 (0)],[.int .i64 (4),.str [120],.int .i64 (0),.sl [[.int .i64 (3),.str [],.int .i64 (0),.sl [[.int .i64 (0),.str [102],.int .i64 (0),.sl [],.int .i64 (6)],[.int .i64 (0),.str [120],.int .i64 (0),.sl [],.int .i64 (8)]],.int .i64 (6)]],.int .i64 (3)]],.c (.int .i64 (0))] none,.cells [.c (.int .i64 (6)),.c (.str []),.c (.int .i64 (0)),.c (.sl [[.int .i64 (0),.str [112,105],.int .i64 (0),.sl []],[.int .i64 (0),.str [102],.int .i64 (0),.sl []]])] none]
def vA:H:=[.cells [gp,gq,dR] none,.cells [.c (.int .i64 (3)),.c (.str []),.c (.int .i64 (0)),.ab [[.int .i64 (0),.str [112,105],.int .i64 (0),.sl [],.int .i64 (0)],[.int .i64 (4),.str [120],.int .i64 (0),.sl [[.int .i64 (3),.str [],.int .i64 (0),.sl [[.int .i64 (0),.str [102],.int .i64 (0),.sl [],.int .i64 (6)],[.int .i64 (0),.str [120],.int .i64 (0),.sl [],.int .i64 (8)]],.int .i64 (6)]],.int .i64 (3)]],.c (.int .i64 (0))] none,.cells [.c (.int .i64 (6)),.c (.str []),.c (.int .i64 (0)),.c (.sl [[.int .i64 (0),.str [112,105],.int .i64 (0),.sl []],[.int .i64 (0),.str [102],.int .i64 (0),.sl []]])] none,.cells [.c (.int .i64 (3)),.c (.str []),.c (.int .i64 (0)),.ab [[.int .i64 (0),.str [102],.int .i64 (0),.sl [],.int .i64 (0)],[.int .i64 (0),.str [102],.int .i64 (0),.sl [],.int .i64 (2)]],.c (.int .i64 (0))] none,.cells [.c (.int .i64 (0)),.c (.str []),.c (.int .i64 (0)),.ab []] none]
def vB:H:=[.cells [gp,gq,dR] none,.cells [.c (.int .i64 (3)),.c (.str []),.c (.int .i64 (0)),.ab [[.int .i64 (0),.str [112,105],.int .i64 (0),.sl [],.int .i64 (0)],[.int .i64 (4),.str [120],.int .i64 (0),.sl [[.int .i64 (3),.str [],.int .i64 (0),.sl [[.int .i64 (0),.str [102],.int .i64 (0),.sl [],.int .i64 (6)],[.int .i64 (0),.str [120],.int .i64 (0),.sl [],.int .i64 (8)]],.int .i64 (6)]],.int .i64 (3)]],.c (.int .i64 (0))] none]
def vC:H:=[.cells [gp,gq,dR] none,.cells [.c (.int .i64 (3)),.c (.str []),.c (.int .i64 (0)),.ab [[.int .i64 (0),.str [112,105],.int .i64 (0),.sl [],.int .i64 (0)],[.int .i64 (4),.str [120],.int .i64 (0),.sl [[.int .i64 (3),.str [],.int .i64 (0),.sl [[.int .i64 (0),.str [102],.int .i64 (0),.sl [],.int .i64 (6)],[.int .i64 (0),.str [120],.int .i64 (0),.sl [],.int .i64 (8)]],.int .i64 (6)]],.int .i64 (3)]],.c (.int .i64 (0))] none,.cells [.c (.int .i64 (6)),.c (.str []),.c (.int .i64 (0)),.c (.sl [[.int .i64 (0),.str [112,105],.int .i64 (0),.sl []],[.int .i64 (0),.str [102],.int .i64 (0),.sl []]])] none,.cells [.c (.int .i64 (3)),.c (.str []),.c (.int .i64 (0)),.ab [[.int .i64 (0),.str [102],.int .i64 (0),.sl [],.int .i64 (0)],[.int .i64 (0),.str [102],.int .i64 (0),.sl [],.int .i64 (2)]],.c (.int .i64 (0))] none]
def vD:H:=[.cells [gp,gq,dR] none,.cells [.c (.int .i64 (3)),.c (.str []),.c (.int .i64 (0)),.ab [[.int .i64 (0),.str [112,105],.int .i64 (0),.sl [],.int .i64 (0)],[.int .i64 (4),.str [120],.int .i64 (0),.sl [[.int .i64 (3),.str [],.int .i64 (0),.sl [[.int .i64 (0),.str [102],.int .i64 (0),.sl [],.int .i64 (6)],[.int .i64 (0),.str [120],.int .i64 (0),.sl [],.int .i64 (8)]],.int .i64 (6)]],.int .i64 (3)]],.c (.int .i64 (0))] none,.cells [.c (.int .i64 (6)),.c (.str []),.c (.int .i64 (0)),.c (.sl [[.int .i64 (0),.str [112,105],.int .i64 (0),.sl []],[.int .i64 (0),.str [102],.int .i64 (0),.sl []]])] none,.cells [.c (.int .i64 (3)),.c (.str []),.c (.int .i64 (0)),.ab [[.int .i64 (0),.str [102],.int .i64 (0),.sl [],.int .i64 (0)],[.int .i64 (0),.str [102],.int .i64 (0),.sl [],.int .i64 (2)]],.c (.int .i64 (0))] none,.cells [.c (.int .i64 (0)),.c (.str []),.c (.int .i64 (0)),.ab []] none,.cells [.c (.int .i64 (3)),.c (.str []),.c (.int .i64 (0)),.ab [[.int .i64 (3),.str [],.int .i64 (0),.sl [[.int .i64 (0),.str [44],.int .i64 (0),.sl [],.int .i64 (6)],[.int .i64 (3),.str [],.int .i64 (0),.sl [[.int .i64 (3),.str [],.int .i64 (0),.sl [[.int .i64 (0),.str [61],.int .i64 (0),.sl [],.int .i64 (2)],[.int .i64 (1),.str [88],.int .i64 (0),.sl [],.int .i64 (0)]],.int .i64 (2)],[.int .i64 (1),.str [89],.int .i64 (0),.sl [],.int .i64 (4)]],.int .i64 (2)]],.int .i64 (6)],[.int .i64 (3),.str [],.int .i64 (0),.sl [[.int .i64 (0),.str [102],.int .i64 (0),.sl [],.int .i64 (8)],[.int .i64 (1),.str [88],.int .i64 (0),.sl [],.int .i64 (10)]],.int .i64 (8)]],.c (.int .i64 (6))] none]
def MT:List (List aa×List aa):=[([.mk 1 [] 0 [],.mk 1 [] 1 [],.mk 1 [] 2 []],[.mk 2 [] 0 [.mk 0 [105,110,116] 0 [],.mk 0 [111] 0 []]]),
 ([.mk 1 [] 0 [],.mk 1 [] 1 [],.mk 1 [] 2 []],[.mk 2 [] 0 [.mk 1 [] 1 [],.mk 1 [] 2 []]]),
 ([.mk 1 [] 0 [],.mk 0 [105,110,116] 0 [],.mk 0 [111] 0 [],.mk 1 [] 3 []],[.mk 2 [] 0 [.mk 2 [] 0 [.mk 1 [] 0 [],.mk 0 [111] 0 []],.mk 0 [111] 0 []]]),
 ([.mk 1 [] 0 [],.mk 0 [105,110,116] 0 [],.mk 0 [111] 0 [],.mk 1 [] 3 []],[.mk 2 [] 0 [.mk 2 [] 0 [.mk 1 [] 1 [],.mk 1 [] 2 []],.mk 1 [] 3 []]]),
 ([.mk 0 [105,110,116] 0 [],.mk 0 [105,110,116] 0 [],.mk 0 [111] 0 [],.mk 0 [111] 0 []],[.mk 1 [] 3 []]),
 ([.mk 0 [105,110,116] 0 [],.mk 0 [105,110,116] 0 [],.mk 0 [111] 0 [],.mk 0 [111] 0 []],[.mk 0 [111] 0 []])]
def MU:List (List aa×List aa):=[([.mk 1 [] 0 []],[.mk 2 [] 0 [.mk 0 [105,110,116] 0 [],.mk 0 [111] 0 []]]),
 ([.mk 1 [] 0 []],[.mk 2 [] 0 [.mk 2 [] 0 [.mk 0 [105,110,116] 0 [],.mk 0 [111] 0 []],.mk 1 [] 0 []]])]
def MV:List (List aa×List aa):=[([.mk 1 [] 0 [],.mk 1 [] 1 [],.mk 1 [] 2 []],[.mk 2 [] 0 [.mk 1 [] 0 [],.mk 2 [] 0 [.mk 1 [] 0 [],.mk 0 [111] 0 []]]]),
 ([.mk 1 [] 0 [],.mk 1 [] 1 [],.mk 1 [] 2 []],[.mk 2 [] 0 [.mk 1 [] 1 [],.mk 1 [] 2 []]]),
 ([.mk 1 [] 0 [],.mk 1 [] 0 [],.mk 2 [] 0 [.mk 1 [] 0 [],.mk 0 [111] 0 []],.mk 1 [] 3 [],.mk 1 [] 4 []],[.mk 1 [] 2 []]),
 ([.mk 1 [] 0 [],.mk 1 [] 0 [],.mk 2 [] 0 [.mk 1 [] 0 [],.mk 0 [111] 0 []],.mk 1 [] 3 [],.mk 1 [] 4 []],[.mk 2 [] 0 [.mk 1 [] 3 [],.mk 1 [] 4 []]]),
 ([.mk 1 [] 0 [],.mk 1 [] 0 [],.mk 2 [] 0 [.mk 1 [] 0 [],.mk 0 [111] 0 []],.mk 1 [] 0 [],.mk 0 [111] 0 [],.mk 1 [] 5 []],[.mk 2 [] 0 [.mk 0 [111] 0 [],.mk 2 [] 0 [.mk 0 [111] 0 [],.mk 0 [111] 0 []]]]),
 ([.mk 1 [] 0 [],.mk 1 [] 0 [],.mk 2 [] 0 [.mk 1 [] 0 [],.mk 0 [111] 0 []],.mk 1 [] 0 [],.mk 0 [111] 0 [],.mk 1 [] 5 []],[.mk 2 [] 0 [.mk 1 [] 4 [],.mk 1 [] 5 []]]),
 ([.mk 1 [] 0 [],.mk 1 [] 0 [],.mk 2 [] 0 [.mk 1 [] 0 [],.mk 0 [111] 0 []],.mk 1 [] 0 [],.mk 0 [111] 0 [],.mk 2 [] 0 [.mk 0 [111] 0 [],.mk 0 [111] 0 []],.mk 1 [] 6 []],[.mk 2 [] 0 [.mk 0 [105,110,116] 0 [],.mk 0 [111] 0 []]]),
 ([.mk 1 [] 0 [],.mk 1 [] 0 [],.mk 2 [] 0 [.mk 1 [] 0 [],.mk 0 [111] 0 []],.mk 1 [] 0 [],.mk 0 [111] 0 [],.mk 2 [] 0 [.mk 0 [111] 0 [],.mk 0 [111] 0 []],.mk 1 [] 6 []],[.mk 2 [] 0 [.mk 1 [] 1 [],.mk 1 [] 6 []]]),
 ([.mk 0 [105,110,116] 0 [],.mk 1 [] 0 [],.mk 2 [] 0 [.mk 1 [] 0 [],.mk 0 [111] 0 []],.mk 1 [] 0 [],.mk 0 [111] 0 [],.mk 2 [] 0 [.mk 0 [111] 0 [],.mk 0 [111] 0 []],.mk 0 [111] 0 [],.mk 1 [] 7 []],[.mk 1 [] 5 []]),
 ([.mk 0 [105,110,116] 0 [],.mk 1 [] 0 [],.mk 2 [] 0 [.mk 1 [] 0 [],.mk 0 [111] 0 []],.mk 1 [] 0 [],.mk 0 [111] 0 [],.mk 2 [] 0 [.mk 0 [111] 0 [],.mk 0 [111] 0 []],.mk 0 [111] 0 [],.mk 1 [] 7 []],[.mk 2 [] 0 [.mk 1 [] 6 [],.mk 1 [] 7 []]]),
 ([.mk 0 [105,110,116] 0 [],.mk 1 [] 0 [],.mk 2 [] 0 [.mk 1 [] 0 [],.mk 0 [111] 0 []],.mk 1 [] 0 [],.mk 0 [111] 0 [],.mk 2 [] 0 [.mk 0 [111] 0 [],.mk 0 [111] 0 []],.mk 0 [111] 0 [],.mk 0 [111] 0 []],[.mk 1 [] 7 []]),
 ([.mk 0 [105,110,116] 0 [],.mk 1 [] 0 [],.mk 2 [] 0 [.mk 1 [] 0 [],.mk 0 [111] 0 []],.mk 1 [] 0 [],.mk 0 [111] 0 [],.mk 2 [] 0 [.mk 0 [111] 0 [],.mk 0 [111] 0 []],.mk 0 [111] 0 [],.mk 0 [111] 0 []],[.mk 0 [111] 0 []]),
 ([.mk 0 [105,110,116] 0 [],.mk 1 [] 0 [],.mk 2 [] 0 [.mk 1 [] 0 [],.mk 0 [111] 0 []],.mk 1 [] 0 [],.mk 0 [111] 0 [],.mk 2 [] 0 [.mk 0 [111] 0 [],.mk 0 [111] 0 []],.mk 0 [111] 0 [],.mk 0 [111] 0 []],[.mk 1 [] 1 []]),
 ([.mk 0 [105,110,116] 0 [],.mk 1 [] 0 [],.mk 2 [] 0 [.mk 1 [] 0 [],.mk 0 [111] 0 []],.mk 1 [] 0 [],.mk 0 [111] 0 [],.mk 2 [] 0 [.mk 0 [111] 0 [],.mk 0 [111] 0 []],.mk 0 [111] 0 [],.mk 0 [111] 0 []],[.mk 1 [] 3 []])]
end Go.Lamb
namespace Go.Proofs.YtdlkenpilhakfaaGreatDoor
open Go.RowKit Go.Lamb
noncomputable def jN:XP:=⟨prog,zf,MS,BX [71,123,70,25,66,27,122,26,227],BX [123,227,182]⟩
theorem vE{w0:World}(hG:dj w0):jN.Ok w0:=⟨Ea hG,Ec⟩
noncomputable def zh(rt:List (List aa×List aa)):XP:={jN with ext:=eD 132 (Eb rt) zf}
theorem XN{rt:List (List aa×List aa)}(h:qh jN rt=true):∀p∈rt,∀w,dj w->DC prog w 132 [.c (.sl (p.1.map aa.cs)),.c (.sl (p.2.map aa.cs))] [] (Same (.c (.bool true)) []):=by
 induction rt with
 |nil=>intro p hp;cases hp
 |cons q l ih=>
  unfold qh at h;simp only[Bool.and_eq_true]at h;intro p hp w hG;rcases List.mem_cons.1 hp with rfl|hp
  ·have hr:jG jN 100000 132 [.c (.sl (p.1.map aa.cs)),.c (.sl (p.2.map aa.cs))] []=some (.c (.bool true),[]):=by
    have h1:=h.1;unfold Lamb.isTrue at h1;split at h1
    ·assumption
    ·cases h1
   exact mg (vE hG) hr
  ·exact ih h.2 p hp w hG
theorem Ek{rt:List (List aa×List aa)}(h:qh jN rt=true){w0:World}(hG:dj w0):(zh rt).Ok w0:=⟨eY (XM (fun _ _ h hb=>h.ext hb) (XN h) hG) (Ea hG),Ec⟩
theorem XO:nF (.agg [gp,gq,dR]) [] (jG jN 100000 19 [S Ed] [])=true:=by kernel_rfl
theorem XQ:nF (.ay [sn,I 0,I 0]) vy (jG jN 100000 20 [dR,S Ee] vy)=true:=by kernel_rfl
theorem XR:nF (.ay [so,I 0,I 0]) vz (jG jN 100000 20 [dR,S Ef] vz)=true:=by kernel_rfl
theorem XT:nF (.ay [sq,I 0,I 0]) vA (jG jN 100000 20 [dR,S Eg] vA)=true:=by kernel_rfl
theorem XU:qh jN MT=true:=by kernel_rfl
theorem XV:qh jN MU=true:=by kernel_rfl
theorem XW:qh jN MV=true:=by kernel_rfl
theorem XX:nF Eh vB (jG (zh MT) 100000 17 [.agg [gp,gq,dR],sn] vB)=true:=by kernel_rfl
theorem XY:nF Ei vC (jG (zh MU) 100000 17 [.agg [gp,gq,dR],so] vC)=true:=by kernel_rfl
theorem XZ:nF Ej vD (jG (zh MV) 100000 17 [.agg [gp,gq,dR],sq] vD)=true:=by kernel_rfl
theorem X0{w0:World}(hG:dj w0):DC prog w0 19 [S Ed] [] (Same (.agg [gp,gq,dR]) []):=mg (vE hG) (qf XO)
theorem X1{w0:World}(hG:dj w0):DC prog w0 20 [dR,S Ee] vy (Same (.ay [sn,I 0,I 0]) vy):=mg (vE hG) (qf XQ)
theorem X2{w0:World}(hG:dj w0):DC prog w0 17 [.agg [gp,gq,dR],sn] vB (Same Eh vB):=mg (Ek XU hG) (qf XX)
theorem X3{w0:World}(hG:dj w0):DC prog w0 20 [dR,S Ef] vz (Same (.ay [so,I 0,I 0]) vz):=mg (vE hG) (qf XR)
theorem X4{w0:World}(hG:dj w0):DC prog w0 17 [.agg [gp,gq,dR],so] vC (Same Ei vC):=mg (Ek XV hG) (qf XY)
theorem X5{w0:World}(hG:dj w0):DC prog w0 20 [dR,S Eg] vA (Same (.ay [sq,I 0,I 0]) vA):=mg (vE hG) (qf XT)
theorem X6{w0:World}(hG:dj w0):DC prog w0 17 [.agg [gp,gq,dR],sq] vD (Same Ej vD):=mg (Ek XW hG) (qf XZ)
def MW:List V->H->Option (V×H):=ox (nG [dR,S Ee] vy (.ay [sn,I 0,I 0])) (ox (nG [dR,S Ef] vz (.ay [so,I 0,I 0])) (nG [dR,S Eg] vA (.ay [sq,I 0,I 0])))
theorem X7{w0:World}(hG:dj w0)(as':List V)(σ:H)(v:V)(σ':H)(h:MW as' σ=some (v,σ')):DC prog w0 20 as' σ (Same v σ'):=
 rn (qg (X1 hG)) (rn (qg (X3 hG)) (qg (X5 hG))) as' σ v σ' h
def MX:List V->H->Option (V×H):=ox (nG [.agg [gp,gq,dR],sn] vB Eh) (ox (nG [.agg [gp,gq,dR],so] vC Ei) (nG [.agg [gp,gq,dR],sq] vD Ej))
theorem X8{w0:World}(hG:dj w0)(as':List V)(σ:H)(v:V)(σ':H)(h:MX as' σ=some (v,σ')):DC prog w0 17 as' σ (Same v σ'):=
 rn (qg (X2 hG)) (rn (qg (X4 hG)) (qg (X6 hG))) as' σ v σ' h
noncomputable def El:XP:={jN with ext:=eD 19 (nG [S Ed] [] (.agg [gp,gq,dR])) (eD 20 MW (eD 17 MX zf))}
theorem X9{w0:World}(hG:dj w0):El.Ok w0:=⟨eY (qg (X0 hG)) (eY (X7 hG) (eY (X8 hG) (Ea hG))),Ec⟩
theorem Ya:isTrue (jG El 100000 6 [] [])=true:=by kernel_rfl
theorem MY{w0:World}(hG:dj w0)(σ:H):DC prog w0 6 [] σ (Same (B true) σ):=
 Se (X:=El) (G:=dj) (fun _ _ h hb=>h.ext hb) (fun _ h=>X9 h) Ya hG σ
def MZ:AC:=rsq [.o 2 (.box 0),.o 3 (.box 1),.o 4 (.af zF)] (.seq (rif [.f 7 0 2,.l 8 7,.f 9 0 3,.l 10 9,.o 11 (.bin .neq 8 10),.m 12 11,.z 13 (.aV 1 2) 12,.z 14 (.aU 13) 12,.z 15 (.aV 1 3) 12,.z 16 (.aU 15) 12,.z 17 (.bin .neq 14 16) 12,.o 18 (.pick 12 zT 17),.m 19 18,.z 20 (.aV 2 2) 19,.z 21 (.aU 20) 19,.z 22 (.aV 2 3) 19,.z 23 (.aU 22) 19,.z 24 (.bin .neq 21 23) 19,.o 25 (.pick 19 zT 24),.m 26 25,.z 27 (.aV 3 2) 26,.z 28 (.aU 27) 26,.z 29 (.aR 28) 26,.z 30 (.aV 3 3) 26,.z 31 (.aU 30) 26,.z 32 (.aR 31) 26,.z 33 (.bin .neq 29 32) 26,.o 34 (.pick 26 zT 33)] 34 (rsq [.o 4 (.af zF)] .ret) .skip) (.seq (rsq [.o 5 (.af (zK 0))] (forL 0 1 [.m 35 5,.f 36 3 2,.l 37 36,.o 38 (.aR 37),.o 39 (.bin .lss 35 38)] 39 (.seq (drg [.f 42 3 2,.l 43 42,.m 44 5,.o 45 (.aI 4 43 44),.d 46 4 45,.f 47 3 3,.l 48 47,.m 49 5,.o 50 (.aI 4 48 49),.d 51 4 50,.k 52 11 [46,51],.m 6 52] [0,1,2,3,4,5,6,7,8,9,110,211]) (rif [.m 53 6,.o 54 (.un .not 53)] 54 (rsq [.o 4 (.af zF)] .ret) .skip)) [.m 40 5,.o 41 (.bin .add 40 (zK 1)),.m 5 41])) (rsq [.o 4 (.af zT)] .ret)))
def M0:List aw:=[.tmp 4]
theorem Yb:aB prog 11 2 Tryz.f11 MZ M0:=.auto func11
attribute [local go_sem] aa.v aa.aM a7 bh aW aQ aX uy.cs
theorem Yc(w0:World)(p:aa):∀(σ:H),DC prog w0 11 [p.v,p.v] σ (Same (B true) σ):=by
 refine aa.ind (P:=fun p=>∀(σ:H),DC prog w0 11 [p.v,p.v] σ (Same (B true) σ)) (fun p ih σ=>?_) p;refine Yb.go rfl (fun hok hsz=>?_);have hlen:=tZ hsz (bu ..);((try refine W.a ?_);simp only[go_sem,MZ,bne_self_eq_false']);refine W.no rfl (W.a ?_);simp only[go_sem];refine W.bB (fun i=>i<=p.l.length) (fun i=>⟨((((base.put (some 2) (.ptr σ.length 0)).put (some 3) (.ptr (σ.length+1) 0)).put (some 4) (B false)).put (some 5) (I (i:Nat))),σ++[.cells p.v.ai,.cells p.v.ai]⟩) (fun i=>p.l.length-i) 0 (bC _) ?_ (fun i hi=>?_)
 ·(refine ao.env ?_;exact aF)
 by_cases hlt:i<p.l.length
 ·have h1:((i:Int)<(p.l.length:Int)):=by omega
  have hx:p.l[i]?=some p.l[i]:=aO hlt;have hw:aN.wrap ((i:Int)+1)=((i+1:Nat):Int):=eB hlt hlen;have hS:=fun σ=>ih p.l[i] (List.getElem_mem hlt) σ;generalize p.l[i]=u at*
  ((try refine W.a ?_);simp only[go_sem,h1]);refine W.yes rfl (W.a ?_);simp only[go_sem];apply W.aS (aT _ _)
  case hc=>
   (apply ae.aq;simp only[go_sem,h1,bQ,hx]);(apply ae.call (hS _);(case hg=>rfl);(case hf=>rfl);(case ha=>first|rfl|simp));(apply ae.aq;simp only[go_sem]);exact ae.nil
  ((try refine W.a ?_);simp only[go_sem]);refine W.no rfl (W.a ?_);simp only[go_sem,hw];refine .inv ⟨i+1,hlt,by omega,?_⟩;(refine ao.env ?_;exact aF)
 have h1:¬((i:Int)<(p.l.length:Int)):=by omega
 ((try refine W.a ?_);simp only[go_sem,h1]);refine W.no rfl (W.a ?_);simp only[go_sem];(refine W.fs (hok) (by simp only[M0,go_sem];rfl) ?_;simp only[al];try exact V.wk.rfl _)
end Go.Proofs.YtdlkenpilhakfaaGreatDoor
namespace Go.Proofs.YtdlkenpilhakfaaGreatDoor
open Go.RowKit Go.Lamb
attribute [local go_sem] aa.v aa.aM a7 bh aW aQ aX eC.v eC.cs az.v az.cs kZ gg Sg.v ah.v
theorem Yd:∀(t:ah) (L:List (aY×aY)) (d:Nat),a8 (bZ L d t)<=a8 t:=by
 refine fun t=>ah.ind (P:=fun t=>∀(L:List (aY×aY)) (d:Nat),a8 (bZ L d t)<=a8 t) (fun t ih L d=>?_) t;obtain⟨k,nm,n,l,pos⟩:=t;have key:∀(l':List ah),(∀q∈l',q∈l)->∀L d,cj (l'.map (bZ L d))<=cj l':=by
  intro l';induction l' with
  |nil=>intro _ L d;exact Nat.le_refl _
  |cons x l' ihl=>
   intro h L d;have h1:=ih x (h x (bu ..)) L d;have h2:=ihl (fun q hq=>h q (List.mem_cons_of_mem _ hq)) L d;rw[List.map_cons,cj,cj];omega
 rw[bZ,qe,qe];by_cases h4:k=4
 ·have:=key l (fun _ h=>h) (L++[(nm,cv d)]) (d+1);rw[if_pos h4,a8,a8];omega
 ·rw[if_neg h4];split
  ·rw[a8,a8,cj];omega
  ·have:=key l (fun _ h=>h) L d;rw[a8,a8];omega
theorem Ye{w0:World}(hG:dj w0)(g:Sg)(p:ah)(want:aa)(hq:mw g p=true\/dA want 15<0\/fm p=true)(σ:H):DC prog w0 4 [g.v,p.v,want.v] σ (Same (B true) σ):=by
 refine k4.go rfl (fun hok hsz=>?_);have hwk:=fun σ=>MY hG σ;have o1:=fun σ=>MC w0 g p σ;have o2:=fun σ=>B9 w0 want 15 (by decide) (by decide) σ;have o3:=fun σ=>ME w0 p σ;have hq':mw g p=true\/decide (dA want 15<0)=true\/fm p=true:=by simpa using hq
 clear hq;generalize mw g p=b1 at*
 generalize decide (dA want 15<0)=b2 at*
 generalize fm p=b3 at*
 ((try refine W.a ?_);simp only[go_sem,c4]);(refine W.c1 (hwk _) ?_;simp only[go_sem]);((try refine W.a ?_);simp only[go_sem]);refine W.no rfl (W.a ?_);simp only[go_sem];(refine W.c1 (o1 _) ?_;simp only[go_sem]);((try refine W.a ?_);simp only[go_sem]);(refine W.c1 (o2 _) ?_;simp only[go_sem]);((try refine W.a ?_);simp only[go_sem]);(refine W.c1 (o3 _) ?_;simp only[go_sem]);clear o1 o2 o3 hwk;cases b1
 ·cases b2
  ·cases b3
   ·simp at hq'
   ·((try refine W.a ?_);simp only[go_sem]);refine W.yes rfl (W.a ?_);simp only[go_sem];(refine W.fs (hok) (by simp only[r4,go_sem];rfl) ?_;simp only[al];try exact V.wk.rfl _)
  ·((try refine W.a ?_);simp only[go_sem]);refine W.yes rfl (W.a ?_);simp only[go_sem];(refine W.fs (hok) (by simp only[r4,go_sem];rfl) ?_;simp only[al];try exact V.wk.rfl _)
 ·((try refine W.a ?_);simp only[go_sem]);refine W.yes rfl (W.a ?_);simp only[go_sem];(refine W.fs (hok) (by simp only[r4,go_sem];rfl) ?_;simp only[al];try exact V.wk.rfl _)
theorem Yf{w0:World}(hwk:∀σ,DC prog w0 6 [] σ (Same (B true) σ))(g:Sg)(p q:ah)(want t:aa)(vs:List az)(e pos:Int)
  (o1:∀σ,DC prog w0 7 [g.v,p.v] σ (Same (B false) σ)) (o2:∀σ,DC prog w0 8 [want.v,I 15] σ (Same (B false) σ)) (o3:∀σ,DC prog w0 13 [p.v] σ (Same (B false) σ))
  (hn:g.types.length<=60)
  (hA:∀σ,DC prog w0 9 [g.v,p.v,want.v] σ (Same (.ay [t.v,.c (.sl (vs.map az.cs)),I e,I pos]) σ))
  (hR:∀σ,DC prog w0 14 [p.v,.ab [],I 0] σ (Same q.v σ))
  (hB:∀σ,DC prog w0 9 [g.v,q.v,want.v] σ (Same (.ay [t.v,.c (.sl (vs.map az.cs)),I e,I pos]) σ)) (σ:H):DC prog w0 4 [g.v,p.v,want.v] σ (Same (B true) σ):=by
 refine k4.go rfl (fun hok hsz=>?_);have hS:=fun σ=>Yc w0 t σ;have hN:=fun σ=>XE w0 vs σ;simp only[aa.v,Sg.v,ah.v]at hA hB hR hS;((try refine W.a ?_);simp only[go_sem,c4]);(refine W.c1 (hwk _) ?_;simp only[go_sem]);((try refine W.a ?_);simp only[go_sem]);refine W.no rfl (W.a ?_);simp only[go_sem];(refine W.c1 (o1 _) ?_;simp only[go_sem]);((try refine W.a ?_);simp only[go_sem]);(refine W.c1 (o2 _) ?_;simp only[go_sem]);((try refine W.a ?_);simp only[go_sem]);(refine W.c1 (o3 _) ?_;simp only[go_sem])
 ((try refine W.a ?_);simp only[go_sem]);refine W.no rfl (W.a ?_);simp only[go_sem];refine W.bB (fun i=>i<=g.types.length) (fun i=>⟨(((((base.put (some 3) (.ptr σ.length 0)).put (some 4) (.ptr (σ.length+1) 0)).put (some 5) (.ptr (σ.length+2) 0)).put (some 7) (B true)).put (some 11) (I (i:Nat))),σ++[.cells g.v.ai,.cells p.v.ai,.cells want.v.ai]⟩) (fun i=>g.types.length-i) 0 (bC _) ?_ (fun i hi=>?_)
 ·(refine ao.env ?_;exact aF)
 by_cases hlt:i<g.types.length
 ·have h3:((i:Int)<(g.types.length:Int)):=by omega
  have hx:g.types[i]?=some g.types[i]:=aO hlt;have hw:aN.wrap ((i:Int)+1)=((i+1:Nat):Int):=eB hlt (by omega);clear hA hB hR hS hN o1 o2 o3 hwk;generalize g.types[i]=u at*
  by_cases hl:1<u.name.length
  ·have h1:((u.name.length:Int)>1):=by omega
   have h2:(2:Int)<=(u.name.length:Int):=by omega
   have hb:(de 2 u.name==[122,122])=true\/(de 2 u.name==[122,122])=false:=by cases(de 2 u.name==[122,122])<;>simp
   rcases hb with hb|hb
   ·((try refine W.a ?_);simp only[go_sem,h3]);refine W.yes rfl (W.a ?_);simp only[go_sem,h3,bQ,hx,h1,h2,hb];refine W.yes rfl (W.a ?_);simp only[go_sem];(refine W.fs (hok) (by simp only[r4,go_sem];rfl) ?_;simp only[al];try exact V.wk.rfl _)
   ·((try refine W.a ?_);simp only[go_sem,h3]);refine W.yes rfl (W.a ?_);simp only[go_sem,h3,bQ,hx,h1,h2,hb];refine W.no rfl (W.a ?_);simp only[go_sem,hw];refine .inv ⟨i+1,hlt,by omega,?_⟩;(refine ao.env ?_;exact aF)
  ·have h1:¬((u.name.length:Int)>1):=by omega
   ((try refine W.a ?_);simp only[go_sem,h3]);refine W.yes rfl (W.a ?_);simp only[go_sem,h3,bQ,hx,h1];refine W.no rfl (W.a ?_);simp only[go_sem,hw];refine .inv ⟨i+1,hlt,by omega,?_⟩;(refine ao.env ?_;exact aF)
 have h3:¬((i:Int)<(g.types.length:Int)):=by omega
 clear hi hlt;((try refine W.a ?_);simp only[go_sem,h3]);refine W.no rfl (W.a ?_);simp only[go_sem];(refine W.c1 (hA _) ?_;simp only[go_sem]);((try refine W.a ?_);simp only[go_sem]);apply W.aS (aT _ _)
 case hc=>
  (apply ae.aq;simp only[go_sem]);(apply ae.mW (fun τ=>hR τ);(case hg=>rfl);(case hf=>rfl);(case ha=>first|rfl|simp));(apply ae.aq;simp only[go_sem]);(apply ae.mW (fun τ=>hB τ);(case hg=>rfl);(case hf=>rfl);(case ha=>first|rfl|simp));(apply ae.aq;simp only[go_sem]);exact ae.nil
 ((try refine W.a ?_);simp only[go_sem]);(refine W.c1 (hS _) ?_;simp only[go_sem]);((try refine W.a ?_);simp only[go_sem]);(refine W.c1 (hN _) ?_;simp only[go_sem]);((try refine W.a ?_);simp only[go_sem,beq_self_eq_true]);(refine W.fs (hok) (by simp only[r4,go_sem];rfl) ?_;simp only[al];try exact V.wk.rfl _)
theorem Of{w0:World}(hG:dj w0)(g:Sg)(p:ah)(want:aa)(σ:H):DC prog w0 4 [g.v,p.v,want.v] σ (Same (B true) σ):=by
 by_cases hq:mw g p=true\/dA want 15<0\/fm p=true
 ·exact Ye hG g p want hq σ
 have h1:mw g p=false:=by cases h:mw g p<;>simp_all
 have h2:¬dA want 15<0:=fun h=>hq (.inr (.inl h));have h3:fm p=false:=by cases h:fm p<;>simp_all
 obtain⟨k1,k2,k3,k4⟩:=XF h1;have k5:aD want<=15:=by have:=D8 want 15 (by omega);omega
 have hren:=Xz g p want (by omega) h3;have hq2:a8 (bZ [] 0 p)<=60:=Nat.le_trans (Yd p [] 0) k4;have hA:=fun σ=>Mu w0 (g:=g) (Wd:=15) k3 (by decide) (by decide) (p:=p) (want:=want) (by omega) (by omega) (by omega) σ;have hB:=fun σ=>Mu w0 (g:=g) (Wd:=15) k3 (by decide) (by decide) (p:=bZ [] 0 p) (want:=want) (by omega) (by omega) (by omega) σ;rw[hren]at hB;have hR:∀σ,DC prog w0 14 [p.v,.ab [],I 0] σ (Same (bZ [] 0 p).v σ):=fun σ=>by
  refine DC.fP (XJ w0 p [] 0 (by simp;omega) (by omega) σ) ?_;exact qN (.rfl _) (qN (.ab _) (.rfl _))
 generalize si g p want=r at hA hB;obtain⟨t,vs,e,pos⟩:=r;refine Yf (fun σ=>MY hG σ) g p (bZ [] 0 p) want t vs e pos (fun σ=>?_) (fun σ=>?_) (fun σ=>?_) k1 hA hR hB σ
 ·have:=MC w0 g p σ;rwa [h1]at this
 ·have:=B9 w0 want 15 (by decide) (by decide) σ;rwa [decide_eq_false h2]at this
 ·have:=ME w0 p σ;rwa [h3]at this
end Go.Proofs.YtdlkenpilhakfaaGreatDoor
namespace Go.Lamb
open Go Go.RowKit
theorem Yg{P:Program}(h:P.funcs.any Func.goes=false)(f:FuncId):P.goes f=false:=by
 unfold Program.goes;rw[h,Bool.and_false,Bool.or_false,List.any_eq_false];intro g _ hg;cases hf:P.funcs[g]? with
 |none=>rw[hf]at hg;cases hg
 |some fn=>
  rw[hf]at hg;have hg:fn.goes=true:=by simpa using hg
  obtain⟨hlt,e⟩:=Array.getElem?_eq_some_iff.1 hf;rw[Array.any_eq_false]at h;have:=h g hlt;rw[e,hg]at this;exact absurd rfl this
theorem Og{P:Program}(h:P.funcs.any Func.goes=false){c:OpenClaim}(hs:c.start= .entering):false=c.goesBy P:=by
 unfold OpenClaim.goesBy Program.goesAt Program.goesFrom;rw[hs];cases P.funcNamed c.func with
 |none=>rfl
 |some f=>simp[Yg h f]
end Go.Lamb
namespace Go.Proofs.YtdlkenpilhakfaaGreatDoor
open Go.RowKit Go.Lamb
theorem Oh:Tryz.pinned.checked.prog.funcs.any Func.goes=false:=by kernel_rfl
end Go.Proofs.YtdlkenpilhakfaaGreatDoor
