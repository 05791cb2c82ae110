/- Part 15. -/
import Derived.Test.YtefmhiojnbekpaaGreatDoorPart07
import Derived.Test.YtefmhiojnbekpaaGreatDoorProg
import Derived.Test.YtefmhiojnbekpaaGreatDoorPart09
import Derived.KernelRfl
import Derived.WalkKit
import Derived.Lib.Walk
import Derived.BigCall
import Derived.BigGuard
import Derived.Test.YtefmhiojnbekpaaGreatDoorPart14
set_option linter.unusedVariables false
set_option linter.unusedSimpArgs false
namespace Go.Px
open Go.Proofs
set_option maxRecDepth 100000
theorem mix:Tryz.prog.follows .mixedOrders=true:=by kernel_rfl
theorem aW:Vd Tryz.prog 57 Fz:=vt mix Sf Iu [] g0 rfl (fun _ _=>rfl) fun O x=>by kernel_rfl
theorem VB:Vd Tryz.prog 29 CF:=vt mix VA LV [(57,Fz)] (gs aW g0) rfl (fun _ _=>rfl) fun O x=>by kernel_rfl
theorem V4:Vd Tryz.prog 59 DA:=vt mix V9 L7 [] g0 rfl (fun _ _=>rfl) fun O x=>by kernel_rfl
theorem f6:Vd Tryz.prog 58 Js:=vt mix XM Nb [(59,DA)] (gs V4 g0) rfl (fun _ _=>rfl) fun O x=>by kernel_rfl
theorem eG:Vd Tryz.prog 30 H8:=vt mix Vs LH [(58,Js),(59,DA)] (gs f6 (gs V4 g0)) rfl (fun _ _=>rfl) fun O x=>by kernel_rfl
theorem Ol:Vd Tryz.prog 10 Bk:=vt mix Oq Fd [(29,CF),(30,H8)] (gs VB (gs eG g0)) rfl (fun _ _=>rfl) fun O x=>by kernel_rfl
theorem Ly:Vd Tryz.prog 63 BK:=vt mix RS HZ [] g0 rfl (fun _ _=>rfl) fun O x=>by kernel_rfl
theorem UH:Vd Tryz.prog 62 Cg:=vt mix Uf J7 [(63,BK)] (gs Ly g0) rfl (fun _ _=>rfl) fun O x=>by kernel_rfl
theorem jX:Vd Tryz.prog 64 Lt:=vt mix ZO PF [(62,Cg),(63,BK)] (gs UH (gs Ly g0)) rfl (fun _ _=>rfl) fun O x=>by kernel_rfl
theorem Yl:Vd Tryz.prog 90 Ey:=fun N h =>
 gE Tryz.func90 (T3:=3) (T9:=9) rfl rfl Tryz.underlying3 Tryz.underlying9 (by kernel_rfl) (by kernel_rfl) (fun i hi w ht=>by rw [← em i];exact Tryz.internal_strconv_Itoa i (by omega) hi w ht) h
theorem aC:Vd Tryz.prog 65 GD:=vt mix S7 Ih [(90,Ey)] (gs Yl g0) rfl (fun _ _=>rfl) fun O x=>by kernel_rfl
theorem fj:Vd Tryz.prog 33 IB:=vt mix VQ LY [(62,Cg),(63,BK),(64,Lt),(65,GD)] (gs UH (gs Ly (gs jX (gs aC g0)))) rfl (fun _ _=>rfl) fun O x=>by kernel_rfl
theorem Tm:Vd Tryz.prog 91 CV:=fun N h =>
 iL Tryz.func91 (T2:=2) (T3:=3) (T9:=9) rfl rfl Tryz.underlying2 Tryz.underlying3 Tryz.underlying9 (by kernel_rfl) (by kernel_rfl) (fun i hi w ht=>by rw [← em i];exact Tryz.internal_strconv_FormatInt_10 i (by omega) hi w ht) h
theorem Ut:Vd Tryz.prog 66 Cx:=vt mix MY EV [(91,CV)] (gs Tm g0) rfl (fun _ _=>rfl) fun O x=>by kernel_rfl
theorem ao:Vd Tryz.prog 34 F8:=vt mix TB I2 [(66,Cx)] (gs Ut g0) rfl (fun _ _=>rfl) fun O x=>by kernel_rfl
theorem Sy:Vd Tryz.prog 12 CS:=vt mix TI I5 [(29,CF),(33,IB),(34,F8)] (gs VB (gs fj (gs ao g0))) rfl (fun _ _=>rfl) fun O x=>by kernel_rfl
theorem gY:Vd Tryz.prog 92 Ji:=vt mix Xp NN [] g0 rfl (fun _ _=>rfl) fun O x=>by kernel_rfl
theorem Rp:Vd Tryz.prog 115 B5:=vt mix RI Rb [] g0 rfl (fun _ _=>rfl) fun O x=>by kernel_rfl
theorem Yv:Vd Tryz.prog 93 FN:=vt mix Rq Hg [(115,B5)] (gs Rp g0) rfl (fun _ _=>rfl) fun O x=>by kernel_rfl
theorem aP:Vd Tryz.prog 94 Fq:=vt mix Sq JB [(115,B5)] (gs Rp g0) rfl (fun _ _=>rfl) fun O x=>by kernel_rfl
theorem CJ:Vd Tryz.prog 70 AP:=vt mix Ud J8 [(92,Ji),(93,FN),(94,Fq)] (gs gY (gs Yv (gs aP g0))) rfl (fun _ _=>rfl) fun O x=>by kernel_rfl
theorem TQ:Vd Tryz.prog 116 Ca:=fun N h =>
 NZ mix (T:=37) (e:=151) (b:=24) Tryz.func116 Tryz.underlying37 (by kernel_rfl) (by decide) (fun O l=>by kernel_rfl) (fun O l=>by kernel_rfl) h
theorem Uj:Vd Tryz.prog 95 Ck:=vt mix UY Jx [(116,Ca)] (gs TQ g0) rfl (fun _ _=>rfl) fun O x=>by kernel_rfl
theorem gj:Vd Tryz.prog 72 NP:=vt mix XB Nd [(70,AP),(95,Ck)] (gs CJ (gs Uj g0)) rfl (fun _ _=>rfl) fun O x=>by kernel_rfl
theorem Dm:Vd Tryz.prog 164 Ag:=vt mix Om PD [] g0 rfl (fun _ _=>rfl) fun O x=>by kernel_rfl
theorem W5:Vd Tryz.prog 165 Dj:=vt mix O1 Fk [(164,Ag)] (gs Dm g0) rfl (fun _ _=>rfl) fun O x=>by kernel_rfl
theorem WC:Vd Tryz.prog 206 DH:=vt mix Ni Ew [] g0 rfl (fun _ _=>rfl) fun O x=>by kernel_rfl
theorem GB:Vd Tryz.prog 185 Aj:=vt mix Kn DU [(206,DH)] (gs WC g0) rfl (fun _ _=>rfl) fun O x=>by kernel_rfl
theorem Uy:Vd Tryz.prog 166 Cs:=vt mix MU EY [(164,Ag),(185,Aj)] (gs Dm (gs GB g0)) rfl (fun _ _=>rfl) fun O x=>by kernel_rfl
theorem U6:Vd Tryz.prog 186 Cq:=vt mix MT Ee [(164,Ag)] (gs Dm g0) rfl (fun _ _=>rfl) fun O x=>by kernel_rfl
theorem Wz:Vd Tryz.prog 167 Dr:=vt mix Oy Fo [(186,Cq)] (gs U6 g0) rfl (fun _ _=>rfl) fun O x=>by kernel_rfl
theorem LD:Vd Tryz.prog 140 A9:=vt mix RY Hm [(70,AP),(164,Ag),(165,Dj),(166,Cs),(167,Dr)] (gs CJ (gs Dm (gs W5 (gs Uy (gs Wz g0))))) rfl (fun _ _=>rfl) fun O x=>by kernel_rfl
theorem J9:Vd Tryz.prog 148 BC:=vt mix Ue Jv [] g0 rfl (fun _ _=>rfl) fun O x=>by kernel_rfl
theorem UJ:Vd Tryz.prog 141 Cf:=vt mix Ul J3 [(148,BC)] (gs J9 g0) rfl (fun _ _=>rfl) fun O x=>by kernel_rfl
theorem cl:Vd Tryz.prog 142 Gy:=vt mix UK KC [] g0 rfl (fun _ _=>rfl) fun O x=>by kernel_rfl
theorem US:Vd Tryz.prog 117 Cj:=vt mix Ug J5 [(70,AP),(140,A9),(141,Cf),(142,Gy)] (gs CJ (gs LD (gs UJ (gs cl g0)))) rfl (fun _ _=>rfl) fun O x=>by kernel_rfl
theorem aG:Vd Tryz.prog 143 F2:=vt mix TE Ig [] g0 rfl (fun _ _=>rfl) fun O x=>by kernel_rfl
theorem Yw:Vd Tryz.prog 144 FT:=vt mix Q7 LF [] g0 rfl (fun _ _=>rfl) fun O x=>by kernel_rfl
open Go.RowKit Go.Lib in
set_option maxHeartbeats 1000000 in
theorem PJ (s:ByteArray) (c:Int) (w:World):Calls Tryz.prog 187 #[.string s,.int .u8 c] w fun e w'=>e=.returned (.int .i64 (Lib.indexByte s.data.toList c.toNat.toUInt8))∧w'=w:=by
 go_enter Tryz.func187,Tryz.ntmps187
 go_wp2
 rw [run_callFunc_extern Tryz.func207 (by kernel_rfl) (by kernel_rfl) (by kernel_rfl) (e:=Extern.BytealgIndexByte.indexByte) (by kernel_rfl),Lib.run_indexByteString];simp only [Result.andThen];rw [Oper.upon_value]
 go_wp2
 go_ret
 exact ⟨rfl,rfl⟩
theorem Qx:Vd Tryz.prog 187 B0:=fun N h =>
 gI Tryz.func187 (T9:=9) (T5:=5) (T3:=3) rfl rfl Tryz.underlying9 Tryz.underlying5 Tryz.underlying3 (by kernel_rfl) PJ h
theorem U5:Vd Tryz.prog 168 Cv:=vt mix Ma Ef [(187,B0)] (gs Qx g0) rfl (fun _ _=>rfl) fun O x=>by kernel_rfl
theorem cj:Vd Tryz.prog 169 Eu:=vt mix UT Ui [] g0 rfl (fun _ _=>rfl) fun O x=>by kernel_rfl
theorem ed:Vd Tryz.prog 145 H6:=vt mix WS LO [(168,Cv),(169,Eu)] (gs U5 (gs cj g0)) rfl (fun _ _=>rfl) fun O x=>by kernel_rfl
theorem VM:Vd Tryz.prog 170 DG:=vt mix Nn IR [] g0 rfl (fun _ _=>rfl) fun O x=>by kernel_rfl
theorem X7:Vd Tryz.prog 146 EI:=vt mix P1 Gi [(170,DG)] (gs VM g0) rfl (fun _ _=>rfl) fun O x=>by kernel_rfl
theorem UP:Vd Tryz.prog 118 Ch:=vt mix UW HI [(143,F2),(144,FT),(145,H6),(146,EI)] (gs aG (gs Yw (gs ed (gs X7 g0)))) rfl (fun _ _=>rfl) fun O x=>by kernel_rfl
theorem DN:Vd Tryz.prog 171 AR:=fun N h =>
 NZ mix (T:=139) (e:=203) (b:=1) Tryz.func171 Tryz.underlying139 (by kernel_rfl) (by decide) (fun O l=>by kernel_rfl) (fun O l=>by kernel_rfl) h
theorem FC:Vd Tryz.prog 172 Aa:=fun N h =>
 NZ mix (T:=79) (e:=3) (b:=8) Tryz.func172 Tryz.underlying79 (by kernel_rfl) (by decide) (fun O l=>by kernel_rfl) (fun O l=>by kernel_rfl) h
theorem Ec:Vd Tryz.prog 173 AY:=fun N h =>
 NZ mix (T:=140) (e:=4) (b:=1) Tryz.func173 Tryz.underlying140 (by kernel_rfl) (by decide) (fun O l=>by kernel_rfl) (fun O l=>by kernel_rfl) h
theorem B7:Vd Tryz.prog 147 AO:=vt mix Q9 Hj [(171,AR),(172,Aa),(173,AY)] (gs DN (gs FC (gs Ec g0))) rfl (fun _ _=>rfl) fun O x=>by kernel_rfl
theorem cu:Vd Tryz.prog 119 Gz:=vt mix Uh Jw [(95,Ck),(147,AO)] (gs Uj (gs B7 g0)) rfl (fun _ _=>rfl) fun O x=>by kernel_rfl
theorem ON:Vd Tryz.prog 152 Bd:=vt mix Uk Jz [] g0 rfl (fun _ _=>rfl) fun O x=>by kernel_rfl
theorem OE:Vd Tryz.prog 177 BW:=vt mix N4 E4 [] g0 rfl (fun _ _=>rfl) fun O x=>by kernel_rfl
theorem Z8:Vd Tryz.prog 153 FE:=vt mix RO Hw [(117,Cj),(148,BC),(152,Bd),(177,BW)] (gs US (gs J9 (gs ON (gs OE g0)))) rfl (fun _ _=>rfl) fun O x=>by kernel_rfl
theorem Zl:Vd Tryz.prog 174 FP:=vt mix RW Hn [(70,AP),(164,Ag)] (gs CJ (gs Dm g0)) rfl (fun _ _=>rfl) fun O x=>by kernel_rfl
theorem aJ:Vd Tryz.prog 175 GM:=vt mix TA JD [(148,BC),(152,Bd)] (gs J9 (gs ON g0)) rfl (fun _ _=>rfl) fun O x=>by kernel_rfl
theorem W6:Vd Tryz.prog 209 Dl:=vt mix O9 JH [] g0 rfl (fun _ _=>rfl) fun O x=>by kernel_rfl
theorem Y0:Vd Tryz.prog 188 FI:=vt mix Q6 Hq [(209,Dl)] (gs W6 g0) rfl (fun _ _=>rfl) fun O x=>by kernel_rfl
theorem GC:Vd Tryz.prog 240 Ao:=vt mix WT Ld [(171,AR),(172,Aa),(173,AY)] (gs DN (gs FC (gs Ec g0))) rfl (fun _ _=>rfl) fun O x=>by kernel_rfl
theorem YW:Vd Tryz.prog 262 CM:=vt mix Qc KS [] g0 rfl (fun _ _=>rfl) fun O x=>by kernel_rfl
theorem S6:Vd Tryz.prog 241 Bh:=vt mix Sh D5 [(262,CM)] (gs YW g0) rfl (fun _ _=>rfl) fun O x=>by kernel_rfl
theorem GG:Vd Tryz.prog 242 Am:=vt mix So I3 [] g0 rfl (fun _ _=>rfl) fun O x=>by kernel_rfl
theorem cW:Vd Tryz.prog 210 G4:=vt mix UV KE [(240,Ao),(241,Bh),(242,Am)] (gs GC (gs S6 (gs GG g0))) rfl (fun _ _=>rfl) fun O x=>by kernel_rfl
theorem SF:Vd Tryz.prog 243 CA:=vt mix Xk NW [(171,AR),(172,Aa),(173,AY)] (gs DN (gs FC (gs Ec g0))) rfl (fun _ _=>rfl) fun O x=>by kernel_rfl
theorem OP:Vd Tryz.prog 263 Bc:=vt mix Ua KK [] g0 rfl (fun _ _=>rfl) fun O x=>by kernel_rfl
theorem eY:Vd Tryz.prog 264 IY:=vt mix V6 L8 [(70,AP),(263,Bc)] (gs CJ (gs OP g0)) rfl (fun _ _=>rfl) fun O x=>by kernel_rfl
theorem gO:Vd Tryz.prog 244 Jk:=vt mix Xg NX [(70,AP),(185,Aj),(263,Bc),(264,IY)] (gs CJ (gs GB (gs OP (gs eY g0)))) rfl (fun _ _=>rfl) fun O x=>by kernel_rfl
theorem eO:Vd Tryz.prog 211 H1:=vt mix Vn L5 [(243,CA),(244,Jk)] (gs SF (gs gO g0)) rfl (fun _ _=>rfl) fun O x=>by kernel_rfl
theorem U0:Vd Tryz.prog 110 Cu:=vt mix MX Eg [] g0 rfl (fun _ _=>rfl) fun O x=>by kernel_rfl
theorem P9:Vd Tryz.prog 86 Bu:=vt mix QO Gn [(110,Cu)] (gs U0 g0) rfl (fun _ _=>rfl) fun O x=>by kernel_rfl
theorem U2:Vd Tryz.prog 87 Cr:=vt mix MV EW [] g0 rfl (fun _ _=>rfl) fun O x=>by kernel_rfl
theorem O3:Vd Tryz.prog 52 Bm:=vt mix PB Fe [(86,Bu),(87,Cr)] (gs P9 (gs U2 g0)) rfl (fun _ _=>rfl) fun O x=>by kernel_rfl
theorem YG:Vd Tryz.prog 53 EB:=vt mix P7 QI [] g0 rfl (fun _ _=>rfl) fun O x=>by kernel_rfl
theorem MF:Vd Tryz.prog 224 BA:=vt mix Rh DM [(241,Bh)] (gs S6 g0) rfl (fun _ _=>rfl) fun O x=>by kernel_rfl
theorem G3:Vd Tryz.prog 252 Au:=vt mix UF KJ [] g0 rfl (fun _ _=>rfl) fun O x=>by kernel_rfl
theorem Gv:Vd Tryz.prog 253 Aq:=vt mix Qq Gm [(252,Au)] (gs G3 g0) rfl (fun _ _=>rfl) fun O x=>by kernel_rfl
theorem Zs:Vd Tryz.prog 268 FG:=vt mix Ri Hh [] g0 rfl (fun _ _=>rfl) fun O x=>by kernel_rfl
theorem cY:Vd Tryz.prog 265 G5:=vt mix UN KM [(252,Au),(253,Aq),(268,FG)] (gs G3 (gs Gv (gs Zs g0))) rfl (fun _ _=>rfl) fun O x=>by kernel_rfl
theorem Ok:Vd Tryz.prog 273 BR:=vt mix Oo Ox [] g0 rfl (fun _ _=>rfl) fun O x=>by kernel_rfl
theorem aO:Vd Tryz.prog 269 GH:=vt mix TG Im [(273,BR)] (gs Ok g0) rfl (fun _ _=>rfl) fun O x=>by kernel_rfl
theorem U9:Vd Tryz.prog 274 DE:=vt mix Nk E6 [] g0 rfl (fun _ _=>rfl) fun O x=>by kernel_rfl
theorem ST:Vd Tryz.prog 270 CR:=vt mix Kt DR [(274,DE)] (gs U9 g0) rfl (fun _ _=>rfl) fun O x=>by kernel_rfl
theorem V1:Vd Tryz.prog 275 DJ:=vt mix N1 FF [] g0 rfl (fun _ _=>rfl) fun O x=>by kernel_rfl
theorem X0:Vd Tryz.prog 271 EK:=vt mix QT Gt [(273,BR),(275,DJ)] (gs Ok (gs V1 g0)) rfl (fun _ _=>rfl) fun O x=>by kernel_rfl
theorem SB:Vd Tryz.prog 276 CE:=vt mix JU C4 [] g0 rfl (fun _ _=>rfl) fun O x=>by kernel_rfl
theorem TN:Vd Tryz.prog 272 CW:=vt mix MA Dz [(276,CE)] (gs SB g0) rfl (fun _ _=>rfl) fun O x=>by kernel_rfl
theorem Ty:Vd Tryz.prog 266 CY:=vt mix L1 Dx [(269,GH),(270,CR),(271,EK),(272,CW)] (gs aO (gs ST (gs X0 (gs TN g0)))) rfl (fun _ _=>rfl) fun O x=>by kernel_rfl
theorem ce:Vd Tryz.prog 267 G1:=vt mix Um KG [(252,Au),(253,Aq)] (gs G3 (gs Gv g0)) rfl (fun _ _=>rfl) fun O x=>by kernel_rfl
theorem Wq:Vd Tryz.prog 245 De:=vt mix Ow Fl [(86,Bu),(224,BA),(265,G5),(266,CY),(267,G1)] (gs P9 (gs MF (gs cY (gs Ty (gs ce g0))))) rfl (fun _ _=>rfl) fun O x=>by kernel_rfl
theorem eo:Vd Tryz.prog 246 Hx:=vt mix V8 Ll [(240,Ao),(242,Am)] (gs GC (gs GG g0)) rfl (fun _ _=>rfl) fun O x=>by kernel_rfl
theorem ep:Vd Tryz.prog 247 H4:=vt mix Vy LI [(70,AP),(185,Aj),(243,CA),(263,Bc)] (gs CJ (gs GB (gs SF (gs OP g0)))) rfl (fun _ _=>rfl) fun O x=>by kernel_rfl
theorem ZL:Vd Tryz.prog 248 FB:=vt mix RX Hs [(240,Ao)] (gs GC g0) rfl (fun _ _=>rfl) fun O x=>by kernel_rfl
theorem aZ:Vd Tryz.prog 212 F7:=vt mix Sv I8 [(52,Bm),(53,EB),(147,AO),(245,De),(246,Hx),(247,H4),(248,FB)] (gs O3 (gs YG (gs B7 (gs Wq (gs eo (gs ep (gs ZL g0))))))) rfl (fun _ _=>rfl) fun O x=>by kernel_rfl
theorem Vk:Vd Tryz.prog 249 DI:=vt mix Vt Lm [(224,BA),(242,Am)] (gs MF (gs GG g0)) rfl (fun _ _=>rfl) fun O x=>by kernel_rfl
theorem YM:Vd Tryz.prog 213 EM:=vt mix QA Gc [(240,Ao),(242,Am),(249,DI)] (gs GC (gs GG (gs Vk g0))) rfl (fun _ _=>rfl) fun O x=>by kernel_rfl
theorem aH:Vd Tryz.prog 214 Fx:=vt mix Sm Iq [(240,Ao),(249,DI)] (gs GC (gs Vk g0)) rfl (fun _ _=>rfl) fun O x=>by kernel_rfl
theorem UG:Vd Tryz.prog 225 CH:=vt mix Uq Er [] g0 rfl (fun _ _=>rfl) fun O x=>by kernel_rfl
theorem ZW:Vd Tryz.prog 215 Ez:=vt mix Rl He [(225,CH),(240,Ao),(242,Am)] (gs UG (gs GC (gs GG g0))) rfl (fun _ _=>rfl) fun O x=>by kernel_rfl
theorem R1:Vd Tryz.prog 251 CG:=vt mix Xe NV [(171,AR),(172,Aa),(173,AY)] (gs DN (gs FC (gs Ec g0))) rfl (fun _ _=>rfl) fun O x=>by kernel_rfl
theorem Z6:Vd Tryz.prog 216 E1:=vt mix Q8 Hp [(251,CG)] (gs R1 g0) rfl (fun _ _=>rfl) fun O x=>by kernel_rfl
theorem am:Vd Tryz.prog 217 GL:=vt mix Sg JE [(251,CG),(252,Au),(253,Aq)] (gs R1 (gs G3 (gs Gv g0))) rfl (fun _ _=>rfl) fun O x=>by kernel_rfl
theorem VD:Vd Tryz.prog 218 DD:=vt mix N5 FD [(251,CG),(252,Au),(253,Aq)] (gs R1 (gs G3 (gs Gv g0))) rfl (fun _ _=>rfl) fun O x=>by kernel_rfl
theorem Zv:Vd Tryz.prog 219 FQ:=vt mix Rt Hi [(70,AP),(243,CA)] (gs CJ (gs SF g0)) rfl (fun _ _=>rfl) fun O x=>by kernel_rfl
theorem W7:Vd Tryz.prog 220 Di:=vt mix O8 Fi [(147,AO)] (gs B7 g0) rfl (fun _ _=>rfl) fun O x=>by kernel_rfl
theorem O2:Vd Tryz.prog 191 Bl:=vt mix Oz Fg [(147,AO)] (gs B7 g0) rfl (fun _ _=>rfl) fun O x=>by kernel_rfl
theorem W1:Vd Tryz.prog 221 Db:=vt mix O0 Fn [(147,AO),(191,Bl)] (gs B7 (gs O2 g0)) rfl (fun _ _=>rfl) fun O x=>by kernel_rfl
theorem YY:Vd Tryz.prog 222 ED:=vt mix QY EF [(147,AO)] (gs B7 g0) rfl (fun _ _=>rfl) fun O x=>by kernel_rfl
theorem Zb:Vd Tryz.prog 254 FJ:=vt mix Ro Re [] g0 rfl (fun _ _=>rfl) fun O x=>by kernel_rfl
theorem YI:Vd Tryz.prog 223 EL:=vt mix Qb Gh [(147,AO),(254,FJ)] (gs B7 (gs Zb g0)) rfl (fun _ _=>rfl) fun O x=>by kernel_rfl
theorem W8:Vd Tryz.prog 189 Dd:=vt mix Ov Ds [(210,G4),(211,H1),(212,F7),(213,EM),(214,Fx),(215,Ez),(216,E1),(217,GL),(218,DD),(219,FQ),(220,Di),(221,Db),(222,ED),(223,EL)] (gs cW (gs eO (gs aZ (gs YM (gs aH (gs ZW (gs Z6 (gs am (gs VD (gs Zv (gs W7 (gs W1 (gs YY (gs YI g0)))))))))))))) rfl (fun _ _=>rfl) fun O x=>by kernel_rfl
theorem X6:Vd Tryz.prog 190 Cz:=vt mix QL Gj [(140,A9),(224,BA),(225,CH)] (gs LD (gs MF (gs UG g0))) rfl (fun _ _=>rfl) fun O x=>by kernel_rfl
theorem aI:Vd Tryz.prog 176 F9:=vt mix TC JF [(118,Ch),(140,A9),(147,AO),(188,FI),(189,Dd),(190,Cz)] (gs UP (gs LD (gs B7 (gs Y0 (gs W8 (gs X6 g0)))))) rfl (fun _ _=>rfl) fun O x=>by kernel_rfl
theorem dk:Vd Tryz.prog 96 MK:=vt mix WP L9 [(117,Cj),(118,Ch),(119,Gz),(141,Cf),(148,BC),(152,Bd),(153,FE),(174,FP),(175,GM),(176,F9),(177,BW),(191,Bl)] (gs US (gs UP (gs cu (gs UJ (gs J9 (gs ON (gs Z8 (gs Zl (gs aJ (gs aI (gs OE (gs O2 g0)))))))))))) rfl (fun _ _=>rfl) fun O x=>by kernel_rfl
def Y7:Cfg:={ gam:=[⟨96,[],true,true,[],[]⟩],imm:=false,old:=false }
theorem gR (O:Alg) (x:Ags O):XF (O:=O) Tryz.prog Y7 (CI.ow ⟨73,[],false,false,[],[]⟩) false [] 73 [] (xr x Ta 0)=LR O x:=by kernel_rfl
theorem jY {E:Env} {M:Nat} (N:Nat) (h:∀ ls,E 73 [] ls=Lz N ls):VV Tryz.prog E M ⟨73,[],false,false,[],[]⟩ :=
 GV mix (E:=F4 N) (N:=N) (cfg:=Y7) (ci:=⟨73,[],false,false,[],[]⟩) (ks:=Ta) (BO (dk N (fun _=>rfl)) Mu) (c:=Lz N) (F:=fun ls=>LR (std (F4 N) N) (xOf ls)) (fun ls=>rfl) (fun ls=>gR (std (F4 N) N) (xOf ls)) h
theorem ZR:Vd Tryz.prog 74 Hd:=vt mix Rv Ht [(52,Bm)] (gs O3 g0) rfl (fun _ _=>rfl) fun O x=>by kernel_rfl
def Ym:Cfg:={ gam:=[⟨72,[],true,true,[],[]⟩,⟨73,[],false,false,[],[]⟩,⟨74,[],true,true,[],[]⟩],imm:=false,old:=true,ie:=[26,151,58,50,68,3,87,142,203,4,5,185,199,93,54,244] }
theorem gU (O:Alg) (x:Ags O):XF (O:=O) Tryz.prog Ym (CI.ow ⟨39,[],true,false,[],[26,151,58,50,68,3,87,142,203,4,5,185,199,93,54,244]⟩) false [] 39 [] (xr x Tf 0)=L3 O x:=by kernel_rfl
theorem Yo {E:Env} {M:Nat} (N:Nat) (h:∀ ls,E 39 [] ls=Gg N ls):VV Tryz.prog E M ⟨39,[],true,false,[],[26,151,58,50,68,3,87,142,203,4,5,185,199,93,54,244]⟩ :=
 GV mix (E:=C7 N) (N:=N) (cfg:=Ym) (ci:=⟨39,[],true,false,[],[26,151,58,50,68,3,87,142,203,4,5,185,199,93,54,244]⟩) (ks:=Tf) (BO (gj N (fun _=>rfl)) (BO (jY N (fun _=>rfl)) (BO (ZR N (fun _=>rfl)) Mu))) (c:=Gg N) (F:=fun ls=>L3 (std (C7 N) N) (xOf ls)) (fun ls=>rfl) (fun ls=>gU (std (C7 N) N) (xOf ls)) h
def Ve:Cfg:={ gam:=[⟨39,[],true,false,[],[26,151,58,50,68,3,87,142,203,4,5,185,199,93,54,244]⟩],imm:=false,old:=false }
theorem cV (O:Alg) (x:Ags O):XF (O:=O) Tryz.prog Ve (CI.ow ⟨71,[],false,false,[],[]⟩) false [] 71 [] (xr x Qm 0)=H0 O x:=by kernel_rfl
theorem eR {E:Env} {M:Nat} (N:Nat) (h:∀ ls,E 71 [] ls=Hy N ls):VV Tryz.prog E M ⟨71,[],false,false,[],[]⟩ :=
 GV mix (E:=D8 N) (N:=N) (cfg:=Ve) (ci:=⟨71,[],false,false,[],[]⟩) (ks:=Qm) (BO (Yo N (fun _=>rfl)) Mu) (c:=Hy N) (F:=fun ls=>H0 (std (D8 N) N) (xOf ls)) (fun ls=>rfl) (fun ls=>cV (std (D8 N) N) (xOf ls)) h
def XJ:Cfg:={ gam:=[⟨70,[],true,true,[],[]⟩,⟨71,[],false,false,[],[]⟩],imm:=false,old:=false }
theorem fh (O:Alg) (x:Ags O):XF (O:=O) Tryz.prog XJ (CI.ow ⟨37,[],true,true,[],[]⟩) true [] 37 [] (xr x SN 0)=Jt O x:=by kernel_rfl
theorem gL:Vd Tryz.prog 37 Ju:=fun N h =>
 GV mix (E:=DZ N) (N:=N) (cfg:=XJ) (ci:=⟨37,[],true,true,[],[]⟩) (ks:=SN) (BO (CJ N (fun _=>rfl)) (BO (eR N (fun _=>rfl)) Mu)) (c:=Ju N) (F:=fun ls=>Jt (std (DZ N) N) (xOf ls)) (fun ls=>rfl) (fun ls=>fh (std (DZ N) N) (xOf ls)) h
theorem bA:Vd Tryz.prog 38 I0:=vt mix Sb Iv [] g0 rfl (fun _ _=>rfl) fun O x=>by kernel_rfl
theorem Yg:Vd Tryz.prog 44 Gl:=vt mix Qi Ge [] g0 rfl (fun _ _=>rfl) fun O x=>by kernel_rfl
def O5:Cfg:={ gam:=[⟨37,[],true,true,[],[]⟩,⟨38,[],true,true,[],[]⟩,⟨39,[],true,false,[],[26,151,58,50,68,3,87,142,203,4,5,185,199,93,54,244]⟩,⟨44,[],true,true,[],[]⟩],imm:=false,old:=false,ie:=[60001] }
theorem VO (O:Alg) (x:Ags O):XF (O:=O) Tryz.prog O5 (CI.ow ⟨19,[],true,true,[],[]⟩) true [] 19 [] (xr x JK 0)=Dh O x:=by kernel_rfl
theorem W0:Vd Tryz.prog 19 B4:=fun N h =>
 GV mix (E:=BF N) (N:=N) (cfg:=O5) (ci:=⟨19,[],true,true,[],[]⟩) (ks:=JK) (BO (gL N (fun _=>rfl)) (BO (bA N (fun _=>rfl)) (BO (Yo N (fun _=>rfl)) (BO (Yg N (fun _=>rfl)) Mu)))) (c:=B4 N) (F:=fun ls=>Dh (std (BF N) N) (xOf ls)) (fun ls=>rfl) (fun ls=>VO (std (BF N) N) (xOf ls)) h
theorem gS:Vd Tryz.prog 27 Jf:=vt mix Xr Xj [] g0 rfl (fun _ _=>rfl) fun O x=>by kernel_rfl
theorem fx:Vd Tryz.prog 55 SA:=vt mix XX XC [] g0 rfl (fun _ _=>rfl) fun O x=>by kernel_rfl
theorem j9:Vd Tryz.prog 28 Nh:=vt mix cR bP [(55,SA)] (gs fx g0) rfl (fun _ _=>rfl) fun O x=>by kernel_rfl
theorem f9:Vd Tryz.prog 8 JV:=vt mix XD NL [(10,Bk),(12,CS),(19,B4),(27,Jf),(28,Nh)] (gs Ol (gs Sy (gs W0 (gs gS (gs j9 g0))))) rfl (fun _ _=>rfl) fun O x=>by kernel_rfl
def cF:Cfg:={ gam:=[],imm:=false,old:=false }
theorem il (O:Alg) (x:Ags O):XF (O:=O) Tryz.prog cF (CI.ow ⟨9,[],false,false,[],[]⟩) false [] 9 [] (xr x WM 0)=Nq O x:=by kernel_rfl
theorem kD {E:Env} {M:Nat} (N:Nat) (h:∀ ls,E 9 [] ls=Ny N ls):VV Tryz.prog E M ⟨9,[],false,false,[],[]⟩ :=
 GV mix (E:=Jd N) (N:=N) (cfg:=cF) (ci:=⟨9,[],false,false,[],[]⟩) (ks:=WM) Mu (c:=Ny N) (F:=fun ls=>Nq (std (Jd N) N) (xOf ls)) (fun ls=>rfl) (fun ls=>il (std (Jd N) N) (xOf ls)) h
theorem XW:Vd Tryz.prog 31 D2:=vt mix XE NQ [] g0 rfl (fun _ _=>rfl) fun O x=>by kernel_rfl
theorem iU:Vd Tryz.prog 89 L4:=vt mix ZD Pm [] g0 rfl (fun _ _=>rfl) fun O x=>by kernel_rfl
theorem bg:Vd Tryz.prog 60 GR:=vt mix cD Rm [(89,L4)] (gs iU g0) rfl (fun _ _=>rfl) fun O x=>by kernel_rfl
theorem gK:Vd Tryz.prog 61 JW:=vt mix XN NY [(60,GR)] (gs bg g0) rfl (fun _ _=>rfl) fun O x=>by kernel_rfl
theorem jT:Vd Tryz.prog 32 LB:=vt mix Y2 PH [(60,GR),(61,JW)] (gs bg (gs gK g0)) rfl (fun _ _=>rfl) fun O x=>by kernel_rfl
theorem cp:Vd Tryz.prog 11 KA:=vt mix Ub KH [(31,D2),(32,LB)] (gs XW (gs jT g0)) rfl (fun _ _=>rfl) fun O x=>by kernel_rfl
theorem fT:Vd Tryz.prog 69 H3:=vt mix WR K5 [] g0 rfl (fun _ _=>rfl) fun O x=>by kernel_rfl
theorem UR:Vd Tryz.prog 36 Cc:=vt mix UE KF [(69,H3)] (gs fT g0) rfl (fun _ _=>rfl) fun O x=>by kernel_rfl
theorem XR:Vd Tryz.prog 67 C5:=vt mix XI HK [] g0 rfl (fun _ _=>rfl) fun O x=>by kernel_rfl
theorem lR:Vd Tryz.prog 68 Qk:=vt mix ew UA [(67,C5)] (gs XR g0) rfl (fun _ _=>rfl) fun O x=>by kernel_rfl
theorem iz:Vd Tryz.prog 35 Lc:=vt mix ZA Pb [(36,Cc),(67,C5),(68,Qk)] (gs UR (gs XR (gs lR g0))) rfl (fun _ _=>rfl) fun O x=>by kernel_rfl
theorem jC:Vd Tryz.prog 13 PW:=vt mix Zk Ph [(31,D2),(35,Lc),(36,Cc)] (gs XW (gs iz (gs UR g0))) rfl (fun _ _=>rfl) fun O x=>by kernel_rfl
theorem X9:Vd Tryz.prog 14 Gr:=vt mix Qf Gq [] g0 rfl (fun _ _=>rfl) fun O x=>by kernel_rfl
theorem dh:Vd Tryz.prog 15 MD:=vt mix WQ LS [] g0 rfl (fun _ _=>rfl) fun O x=>by kernel_rfl
theorem Z2:Vd Tryz.prog 16 Ho:=vt mix RU Hf [] g0 rfl (fun _ _=>rfl) fun O x=>by kernel_rfl
theorem go:Vd Tryz.prog 17 NU:=vt mix Xb NT [] g0 rfl (fun _ _=>rfl) fun O x=>by kernel_rfl
def Nv:Cfg:={ gam:=[⟨8,[],true,true,[],[]⟩,⟨9,[],false,false,[],[]⟩,⟨10,[],true,true,[],[]⟩,⟨11,[],true,true,[],[]⟩,⟨12,[],true,true,[],[]⟩,⟨13,[],true,true,[],[]⟩,⟨14,[],true,true,[],[]⟩,⟨15,[],true,true,[],[]⟩,⟨16,[],true,true,[],[]⟩,⟨17,[],true,true,[],[]⟩],imm:=false,old:=false }
theorem U3 (O:Alg) (x:Ags O):XF (O:=O) Tryz.prog Nv (CI.ow ⟨3,[],true,true,[],[]⟩) true [] 3 [] (xr x IX 0)=C8 O x:=by kernel_rfl
theorem V2:Vd Tryz.prog 3 C6:=fun N h =>
 GV mix (E:=Ad N) (N:=N) (cfg:=Nv) (ci:=⟨3,[],true,true,[],[]⟩) (ks:=IX) (BO (f9 N (fun _=>rfl)) (BO (kD N (fun _=>rfl)) (BO (Ol N (fun _=>rfl)) (BO (cp N (fun _=>rfl)) (BO (Sy N (fun _=>rfl)) (BO (jC N (fun _=>rfl)) (BO (X9 N (fun _=>rfl)) (BO (dh N (fun _=>rfl)) (BO (Z2 N (fun _=>rfl)) (BO (go N (fun _=>rfl)) Mu)))))))))) (c:=C6 N) (F:=fun ls=>C8 (std (Ad N) N) (xOf ls)) (fun ls=>rfl) (fun ls=>U3 (std (Ad N) N) (xOf ls)) h
end Go.Px
