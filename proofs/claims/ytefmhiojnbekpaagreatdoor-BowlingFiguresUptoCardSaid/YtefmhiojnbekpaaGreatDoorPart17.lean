/- Part 17. -/
import Derived.Test.YtefmhiojnbekpaaGreatDoorPart07
import Derived.Test.YtefmhiojnbekpaaGreatDoorProg
import Derived.Test.YtefmhiojnbekpaaGreatDoorPart09
import Derived.KernelRfl
import Derived.WalkKit
import Derived.Lib.Walk
import Derived.BigCall
import Derived.BigGuard
import Derived.Test.YtefmhiojnbekpaaGreatDoorPart16
set_option linter.unusedVariables false
set_option linter.unusedSimpArgs false
namespace Go.Px
open Go.Proofs
set_option maxRecDepth 100000
theorem mix:Tryz.prog.follows .mixedOrders=true:=by kernel_rfl
theorem pL:Vd Tryz.prog 57 Q7:=vt mix ZL Yx [] g0 rfl (fun _ _=>rfl) fun O x=>by kernel_rfl
theorem fT:Vd Tryz.prog 29 Ku:=vt mix eo gK [(57,Q7)] (gs pL g0) rfl (fun _ _=>rfl) fun O x=>by kernel_rfl
theorem ee:Vd Tryz.prog 59 KY:=vt mix fJ db [] g0 rfl (fun _ _=>rfl) fun O x=>by kernel_rfl
theorem v8:Vd Tryz.prog 58 Xy:=vt mix ij jK [(59,KY)] (gs ee g0) rfl (fun _ _=>rfl) fun O x=>by kernel_rfl
theorem vZ:Vd Tryz.prog 30 Ud:=vt mix ez fR [(58,Xy),(59,KY)] (gs v8 (gs ee g0)) rfl (fun _ _=>rfl) fun O x=>by kernel_rfl
theorem iM:Vd Tryz.prog 10 Ef:=vt mix TT Tb [(29,Ku),(30,Ud)] (gs fT (gs vZ g0)) rfl (fun _ _=>rfl) fun O x=>by kernel_rfl
theorem P7:Vd Tryz.prog 63 DW:=vt mix XI XA [] g0 rfl (fun _ _=>rfl) fun O x=>by kernel_rfl
theorem ck:Vd Tryz.prog 62 JH:=vt mix cU bq [(63,DW)] (gs P7 g0) rfl (fun _ _=>rfl) fun O x=>by kernel_rfl
theorem zZ:Vd Tryz.prog 64 bO:=vt mix mn np [(62,JH),(63,DW)] (gs ck (gs P7 g0)) rfl (fun _ _=>rfl) fun O x=>by kernel_rfl
theorem nZ:Vd Tryz.prog 90 Oh:=fun N h =>
 yz Tryz.func90 (T3:=3) (T9:=9) rfl rfl Tryz.underlying3 Tryz.underlying9 (by kernel_rfl) (fun i hi w=>Tryz.internal_strconv_Itoa_small i hi w) h
theorem pU:Vd Tryz.prog 65 Q6:=vt mix Y3 ZM [(90,Oh)] (gs nZ g0) rfl (fun _ _=>rfl) fun O x=>by kernel_rfl
theorem tA:Vd Tryz.prog 33 VR:=vt mix fI dy [(62,JH),(63,DW),(64,bO),(65,Q6)] (gs ck (gs P7 (gs zZ (gs pU g0)))) rfl (fun _ _=>rfl) fun O x=>by kernel_rfl
theorem al:Vd Tryz.prog 91 Ii:=fun N h =>
 AAT Tryz.func91 (T2:=2) (T3:=3) (T9:=9) rfl rfl Tryz.underlying2 Tryz.underlying3 Tryz.underlying9 (by kernel_rfl) (fun i hi w=>Tryz.internal_strconv_FormatInt_10_small i hi w) h
theorem dE:Vd Tryz.prog 66 Jg:=vt mix QS QX [(91,Ii)] (gs al g0) rfl (fun _ _=>rfl) fun O x=>by kernel_rfl
theorem pO:Vd Tryz.prog 34 Qq:=vt mix ZH YN [(66,Jg)] (gs dE g0) rfl (fun _ _=>rfl) fun O x=>by kernel_rfl
theorem oc:Vd Tryz.prog 12 Hv:=vt mix YQ Yh [(29,Ku),(33,VR),(34,Qq)] (gs fT (gs tA (gs pO g0))) rfl (fun _ _=>rfl) fun O x=>by kernel_rfl
theorem w8:Vd Tryz.prog 92 L8:=vt mix i7 Rb [] g0 rfl (fun _ _=>rfl) fun O x=>by kernel_rfl
theorem W0:Vd Tryz.prog 115 Cx:=vt mix WK Wg [] g0 rfl (fun _ _=>rfl) fun O x=>by kernel_rfl
theorem nY:Vd Tryz.prog 93 GG:=vt mix W3 Ju [(115,Cx)] (gs W0 g0) rfl (fun _ _=>rfl) fun O x=>by kernel_rfl
theorem pR:Vd Tryz.prog 94 He:=vt mix Y5 LP [(115,Cx)] (gs W0 g0) rfl (fun _ _=>rfl) fun O x=>by kernel_rfl
theorem C8:Vd Tryz.prog 70 AZ:=vt mix cG M1 [(92,L8),(93,GG),(94,He)] (gs w8 (gs nY (gs pR g0))) rfl (fun _ _=>rfl) fun O x=>by kernel_rfl
theorem Zp:Vd Tryz.prog 116 DN:=fun N h =>
 Rn mix (T:=37) (e:=151) (b:=24) Tryz.func116 Tryz.underlying37 (by kernel_rfl) (by decide) (fun O l=>by kernel_rfl) (fun O l=>by kernel_rfl) h
theorem cz:Vd Tryz.prog 95 Dc:=vt mix bm Mv [(116,DN)] (gs Zp g0) rfl (fun _ _=>rfl) fun O x=>by kernel_rfl
theorem wy:Vd Tryz.prog 72 Ri:=vt mix ig Rr [(70,AZ),(95,Dc)] (gs C8 (gs cz g0)) rfl (fun _ _=>rfl) fun O x=>by kernel_rfl
theorem Ej:Vd Tryz.prog 164 Av:=vt mix TB TQ [] g0 rfl (fun _ _=>rfl) fun O x=>by kernel_rfl
theorem iB:Vd Tryz.prog 165 Ee:=vt mix TH HD [(164,Av)] (gs Ej g0) rfl (fun _ _=>rfl) fun O x=>by kernel_rfl
theorem fU:Vd Tryz.prog 206 D4:=vt mix SL GZ [] g0 rfl (fun _ _=>rfl) fun O x=>by kernel_rfl
theorem Hk:Vd Tryz.prog 185 Ay:=vt mix N4 EP [(206,D4)] (gs fU g0) rfl (fun _ _=>rfl) fun O x=>by kernel_rfl
theorem dV:Vd Tryz.prog 166 Dk:=vt mix QM Fn [(164,Av),(185,Ay)] (gs Ej (gs Hk g0)) rfl (fun _ _=>rfl) fun O x=>by kernel_rfl
theorem dT:Vd Tryz.prog 186 Dq:=vt mix QY Fk [(164,Av)] (gs Ej g0) rfl (fun _ _=>rfl) fun O x=>by kernel_rfl
theorem iC:Vd Tryz.prog 167 Eh:=vt mix TE HA [(186,Dq)] (gs dT g0) rfl (fun _ _=>rfl) fun O x=>by kernel_rfl
theorem PI:Vd Tryz.prog 140 BU:=vt mix XB Jr [(70,AZ),(164,Av),(165,Ee),(166,Dk),(167,Eh)] (gs C8 (gs Ej (gs iB (gs dV (gs iC g0))))) rfl (fun _ _=>rfl) fun O x=>by kernel_rfl
theorem NQ:Vd Tryz.prog 148 BX:=vt mix bz M9 [] g0 rfl (fun _ _=>rfl) fun O x=>by kernel_rfl
theorem cV:Vd Tryz.prog 141 Db:=vt mix cw NS [(148,BX)] (gs NQ g0) rfl (fun _ _=>rfl) fun O x=>by kernel_rfl
theorem ry:Vd Tryz.prog 142 JF:=vt mix cJ My [] g0 rfl (fun _ _=>rfl) fun O x=>by kernel_rfl
theorem cf:Vd Tryz.prog 117 Dd:=vt mix cm NJ [(70,AZ),(140,BU),(141,Db),(142,JF)] (gs C8 (gs PI (gs cV (gs ry g0)))) rfl (fun _ _=>rfl) fun O x=>by kernel_rfl
theorem oe:Vd Tryz.prog 143 Ha:=vt mix Yq LQ [] g0 rfl (fun _ _=>rfl) fun O x=>by kernel_rfl
theorem oI:Vd Tryz.prog 144 Gk:=vt mix Wf Of [] g0 rfl (fun _ _=>rfl) fun O x=>by kernel_rfl
open Go.RowKit Go.Lib in
set_option maxHeartbeats 1000000 in
theorem UJ (s:ByteArray) (c:Int) (w:World):Calls Tryz.prog 187 #[.string s,.int .u8 c] w fun e w'=>e=.returned (.int .i64 (Lib.indexByte s.data.toList c.toNat.toUInt8))∧w'=w:=by
 go_enter Tryz.func187,Tryz.ntmps187
 go_wp2
 rw [run_callFunc_extern Tryz.func207 (by kernel_rfl) (by kernel_rfl) (by kernel_rfl) (e:=Extern.BytealgIndexByte.indexByte) (by kernel_rfl),Lib.run_indexByteString];simp only [Result.andThen];rw [Oper.upon_value]
 go_wp2
 go_ret
 exact ⟨rfl,rfl⟩
theorem Vx:Vd Tryz.prog 187 Cm:=fun N h =>
 w5 Tryz.func187 (T9:=9) (T5:=5) (T3:=3) rfl rfl Tryz.underlying9 Tryz.underlying5 Tryz.underlying3 (by kernel_rfl) UJ h
theorem dQ:Vd Tryz.prog 168 Dm:=vt mix QQ Fm [(187,Cm)] (gs Vx g0) rfl (fun _ _=>rfl) fun O x=>by kernel_rfl
theorem ru:Vd Tryz.prog 169 F9:=vt mix cp bZ [] g0 rfl (fun _ _=>rfl) fun O x=>by kernel_rfl
theorem vQ:Vd Tryz.prog 145 Kg:=vt mix ef QA [(168,Dm),(169,F9)] (gs dQ (gs ru g0)) rfl (fun _ _=>rfl) fun O x=>by kernel_rfl
theorem fG:Vd Tryz.prog 170 EA:=vt mix SS KR [] g0 rfl (fun _ _=>rfl) fun O x=>by kernel_rfl
theorem kA:Vd Tryz.prog 146 Ff:=vt mix Ur IV [(170,EA)] (gs fG g0) rfl (fun _ _=>rfl) fun O x=>by kernel_rfl
theorem cy:Vd Tryz.prog 118 DZ:=vt mix cT JM [(143,Ha),(144,Gk),(145,Kg),(146,Ff)] (gs oe (gs oI (gs vQ (gs kA g0)))) rfl (fun _ _=>rfl) fun O x=>by kernel_rfl
theorem EM:Vd Tryz.prog 171 Ac:=fun N h =>
 Rn mix (T:=139) (e:=203) (b:=1) Tryz.func171 Tryz.underlying139 (by kernel_rfl) (by decide) (fun O l=>by kernel_rfl) (fun O l=>by kernel_rfl) h
theorem Gf:Vd Tryz.prog 172 Aq:=fun N h =>
 Rn mix (T:=79) (e:=3) (b:=8) Tryz.func172 Tryz.underlying79 (by kernel_rfl) (by decide) (fun O l=>by kernel_rfl) (fun O l=>by kernel_rfl) h
theorem Fj:Vd Tryz.prog 173 Aj:=fun N h =>
 Rn mix (T:=140) (e:=4) (b:=1) Tryz.func173 Tryz.underlying140 (by kernel_rfl) (by decide) (fun O l=>by kernel_rfl) (fun O l=>by kernel_rfl) h
theorem Ct:Vd Tryz.prog 147 AW:=vt mix W5 Jq [(171,Ac),(172,Aq),(173,Aj)] (gs EM (gs Gf (gs Fj g0))) rfl (fun _ _=>rfl) fun O x=>by kernel_rfl
theorem rE:Vd Tryz.prog 119 JN:=vt mix bW NI [(95,Dc),(147,AW)] (gs cz (gs Ct g0)) rfl (fun _ _=>rfl) fun O x=>by kernel_rfl
theorem Ss:Vd Tryz.prog 152 B9:=vt mix cA Mn [] g0 rfl (fun _ _=>rfl) fun O x=>by kernel_rfl
theorem R0:Vd Tryz.prog 177 B4:=vt mix R1 GH [] g0 rfl (fun _ _=>rfl) fun O x=>by kernel_rfl
theorem oJ:Vd Tryz.prog 153 GR:=vt mix WV KA [(117,Dd),(148,BX),(152,B9),(177,B4)] (gs cf (gs NQ (gs Ss (gs R0 g0)))) rfl (fun _ _=>rfl) fun O x=>by kernel_rfl
theorem mO:Vd Tryz.prog 174 Gd:=vt mix Wl J2 [(70,AZ),(164,Av)] (gs C8 (gs Ej g0)) rfl (fun _ _=>rfl) fun O x=>by kernel_rfl
theorem oO:Vd Tryz.prog 175 HT:=vt mix YW LM [(148,BX),(152,B9)] (gs NQ (gs Ss g0)) rfl (fun _ _=>rfl) fun O x=>by kernel_rfl
theorem iE:Vd Tryz.prog 209 Ek:=vt mix TP L2 [] g0 rfl (fun _ _=>rfl) fun O x=>by kernel_rfl
theorem l8:Vd Tryz.prog 188 GU:=vt mix Wq J8 [(209,Ek)] (gs iE g0) rfl (fun _ _=>rfl) fun O x=>by kernel_rfl
theorem Hx:Vd Tryz.prog 240 A5:=vt mix fV Pb [(171,Ac),(172,Aq),(173,Aj)] (gs EM (gs Gf (gs Fj g0))) rfl (fun _ _=>rfl) fun O x=>by kernel_rfl
theorem kt:Vd Tryz.prog 262 DC:=vt mix UV Nf [] g0 rfl (fun _ _=>rfl) fun O x=>by kernel_rfl
theorem Ze:Vd Tryz.prog 241 CH:=vt mix Yr FJ [(262,DC)] (gs kt g0) rfl (fun _ _=>rfl) fun O x=>by kernel_rfl
theorem HH:Vd Tryz.prog 242 A3:=vt mix Zh Lk [] g0 rfl (fun _ _=>rfl) fun O x=>by kernel_rfl
theorem rP:Vd Tryz.prog 210 JC:=vt mix cE NM [(240,A5),(241,CH),(242,A3)] (gs Hx (gs Ze (gs HH g0))) rfl (fun _ _=>rfl) fun O x=>by kernel_rfl
theorem YD:Vd Tryz.prog 243 C6:=vt mix jq Rl [(171,Ac),(172,Aq),(173,Aj)] (gs EM (gs Gf (gs Fj g0))) rfl (fun _ _=>rfl) fun O x=>by kernel_rfl
theorem Sj:Vd Tryz.prog 263 CB:=vt mix ct NB [] g0 rfl (fun _ _=>rfl) fun O x=>by kernel_rfl
theorem tC:Vd Tryz.prog 264 LB:=vt mix dg O3 [(70,AZ),(263,CB)] (gs C8 (gs Sj g0)) rfl (fun _ _=>rfl) fun O x=>by kernel_rfl
theorem wz:Vd Tryz.prog 244 MJ:=vt mix iS Rv [(70,AZ),(185,Ay),(263,CB),(264,LB)] (gs C8 (gs Hk (gs Sj (gs tC g0)))) rfl (fun _ _=>rfl) fun O x=>by kernel_rfl
theorem vD:Vd Tryz.prog 211 Kx:=vt mix fP O6 [(243,C6),(244,MJ)] (gs YD (gs wz g0)) rfl (fun _ _=>rfl) fun O x=>by kernel_rfl
theorem dL:Vd Tryz.prog 110 Dp:=vt mix Qa Fl [] g0 rfl (fun _ _=>rfl) fun O x=>by kernel_rfl
theorem Vk:Vd Tryz.prog 86 Ca:=vt mix Uu IM [(110,Dp)] (gs dL g0) rfl (fun _ _=>rfl) fun O x=>by kernel_rfl
theorem dR:Vd Tryz.prog 87 Dl:=vt mix QO Fi [] g0 rfl (fun _ _=>rfl) fun O x=>by kernel_rfl
theorem Td:Vd Tryz.prog 52 CM:=vt mix TX G3 [(86,Ca),(87,Dl)] (gs Vk (gs dR g0)) rfl (fun _ _=>rfl) fun O x=>by kernel_rfl
theorem kC:Vd Tryz.prog 53 FR:=vt mix U4 U6 [] g0 rfl (fun _ _=>rfl) fun O x=>by kernel_rfl
theorem Od:Vd Tryz.prog 224 BV:=vt mix WM EO [(241,CH)] (gs Ze g0) rfl (fun _ _=>rfl) fun O x=>by kernel_rfl
theorem JQ:Vd Tryz.prog 252 BA:=vt mix cW M5 [] g0 rfl (fun _ _=>rfl) fun O x=>by kernel_rfl
theorem IY:Vd Tryz.prog 253 A9:=vt mix Uo It [(252,BA)] (gs JQ g0) rfl (fun _ _=>rfl) fun O x=>by kernel_rfl
theorem mG:Vd Tryz.prog 268 GV:=vt mix XO J4 [] g0 rfl (fun _ _=>rfl) fun O x=>by kernel_rfl
theorem rC:Vd Tryz.prog 265 JI:=vt mix bi Mk [(252,BA),(253,A9),(268,GV)] (gs JQ (gs IY (gs mG g0))) rfl (fun _ _=>rfl) fun O x=>by kernel_rfl
theorem TW:Vd Tryz.prog 273 Bs:=vt mix Ta TZ [] g0 rfl (fun _ _=>rfl) fun O x=>by kernel_rfl
theorem pt:Vd Tryz.prog 269 Hi:=vt mix Y8 Lr [(273,Bs)] (gs TW g0) rfl (fun _ _=>rfl) fun O x=>by kernel_rfl
theorem gE:Vd Tryz.prog 274 EG:=vt mix R2 GW [] g0 rfl (fun _ _=>rfl) fun O x=>by kernel_rfl
theorem YP:Vd Tryz.prog 270 DD:=vt mix OE EJ [(274,EG)] (gs gE g0) rfl (fun _ _=>rfl) fun O x=>by kernel_rfl
theorem fL:Vd Tryz.prog 275 EF:=vt mix SZ GY [] g0 rfl (fun _ _=>rfl) fun O x=>by kernel_rfl
theorem ka:Vd Tryz.prog 271 Fb:=vt mix VJ Ir [(273,Bs),(275,EF)] (gs TW (gs fL g0)) rfl (fun _ _=>rfl) fun O x=>by kernel_rfl
theorem XY:Vd Tryz.prog 276 C3:=vt mix Mj Dx [] g0 rfl (fun _ _=>rfl) fun O x=>by kernel_rfl
theorem bK:Vd Tryz.prog 272 DJ:=vt mix Oa E2 [(276,C3)] (gs XY g0) rfl (fun _ _=>rfl) fun O x=>by kernel_rfl
theorem Zu:Vd Tryz.prog 266 DU:=vt mix P0 E3 [(269,Hi),(270,DD),(271,Fb),(272,DJ)] (gs pt (gs YP (gs ka (gs bK g0)))) rfl (fun _ _=>rfl) fun O x=>by kernel_rfl
theorem rY:Vd Tryz.prog 267 JO:=vt mix bg NG [(252,BA),(253,A9)] (gs JQ (gs IY g0)) rfl (fun _ _=>rfl) fun O x=>by kernel_rfl
theorem iI:Vd Tryz.prog 245 Er:=vt mix TF G5 [(86,Ca),(224,BV),(265,JI),(266,DU),(267,JO)] (gs Vk (gs Od (gs rC (gs Zu (gs rY g0))))) rfl (fun _ _=>rfl) fun O x=>by kernel_rfl
theorem uf:Vd Tryz.prog 246 KP:=vt mix gG Pg [(240,A5),(242,A3)] (gs Hx (gs HH g0)) rfl (fun _ _=>rfl) fun O x=>by kernel_rfl
theorem tg:Vd Tryz.prog 247 Kc:=vt mix dx QC [(70,AZ),(185,Ay),(243,C6),(263,CB)] (gs C8 (gs Hk (gs YD (gs Sj g0)))) rfl (fun _ _=>rfl) fun O x=>by kernel_rfl
theorem nC:Vd Tryz.prog 248 Ga:=vt mix Wz J7 [(240,A5)] (gs Hx g0) rfl (fun _ _=>rfl) fun O x=>by kernel_rfl
theorem ob:Vd Tryz.prog 212 HN:=vt mix ZS LD [(52,CM),(53,FR),(147,AW),(245,Er),(246,KP),(247,Kc),(248,Ga)] (gs Td (gs kC (gs Ct (gs iI (gs uf (gs tg (gs nC g0))))))) rfl (fun _ _=>rfl) fun O x=>by kernel_rfl
theorem de:Vd Tryz.prog 249 EE:=vt mix fF Py [(224,BV),(242,A3)] (gs Od (gs HH g0)) rfl (fun _ _=>rfl) fun O x=>by kernel_rfl
theorem kU:Vd Tryz.prog 213 Fd:=vt mix Uc Ip [(240,A5),(242,A3),(249,EE)] (gs Hx (gs HH (gs de g0))) rfl (fun _ _=>rfl) fun O x=>by kernel_rfl
theorem oT:Vd Tryz.prog 214 H2:=vt mix Yj Ll [(240,A5),(249,EE)] (gs Hx (gs de g0)) rfl (fun _ _=>rfl) fun O x=>by kernel_rfl
theorem cQ:Vd Tryz.prog 225 DA:=vt mix cg F8 [] g0 rfl (fun _ _=>rfl) fun O x=>by kernel_rfl
theorem mt:Vd Tryz.prog 215 GD:=vt mix WT J6 [(225,DA),(240,A5),(242,A3)] (gs cQ (gs Hx (gs HH g0))) rfl (fun _ _=>rfl) fun O x=>by kernel_rfl
theorem YG:Vd Tryz.prog 251 C4:=vt mix jv Rp [(171,Ac),(172,Aq),(173,Aj)] (gs EM (gs Gf (gs Fj g0))) rfl (fun _ _=>rfl) fun O x=>by kernel_rfl
theorem nT:Vd Tryz.prog 216 GX:=vt mix WO Jt [(251,C4)] (gs YG g0) rfl (fun _ _=>rfl) fun O x=>by kernel_rfl
theorem pd:Vd Tryz.prog 217 Hq:=vt mix Yb Lo [(251,C4),(252,BA),(253,A9)] (gs YG (gs JQ (gs IY g0))) rfl (fun _ _=>rfl) fun O x=>by kernel_rfl
theorem fx:Vd Tryz.prog 218 D6:=vt mix SU Gb [(251,C4),(252,BA),(253,A9)] (gs YG (gs JQ (gs IY g0))) rfl (fun _ _=>rfl) fun O x=>by kernel_rfl
theorem my:Vd Tryz.prog 219 GQ:=vt mix XN KE [(70,AZ),(243,C6)] (gs C8 (gs YD g0)) rfl (fun _ _=>rfl) fun O x=>by kernel_rfl
theorem iJ:Vd Tryz.prog 220 Em:=vt mix TJ G8 [(147,AW)] (gs Ct g0) rfl (fun _ _=>rfl) fun O x=>by kernel_rfl
theorem TY:Vd Tryz.prog 191 CL:=vt mix TI HB [(147,AW)] (gs Ct g0) rfl (fun _ _=>rfl) fun O x=>by kernel_rfl
theorem hZ:Vd Tryz.prog 221 Ed:=vt mix TD HF [(147,AW),(191,CL)] (gs Ct (gs TY g0)) rfl (fun _ _=>rfl) fun O x=>by kernel_rfl
theorem lN:Vd Tryz.prog 222 FV:=vt mix U2 FO [(147,AW)] (gs Ct g0) rfl (fun _ _=>rfl) fun O x=>by kernel_rfl
theorem mT:Vd Tryz.prog 254 GK:=vt mix W9 W4 [] g0 rfl (fun _ _=>rfl) fun O x=>by kernel_rfl
theorem kW:Vd Tryz.prog 223 FY:=vt mix U9 Ic [(147,AW),(254,GK)] (gs Ct (gs mT g0)) rfl (fun _ _=>rfl) fun O x=>by kernel_rfl
theorem gz:Vd Tryz.prog 189 Eo:=vt mix Tc Ec [(210,JC),(211,Kx),(212,HN),(213,Fd),(214,H2),(215,GD),(216,GX),(217,Hq),(218,D6),(219,GQ),(220,Em),(221,Ed),(222,FV),(223,FY)] (gs rP (gs vD (gs ob (gs kU (gs oT (gs mt (gs nT (gs pd (gs fx (gs my (gs iJ (gs hZ (gs lN (gs kW g0)))))))))))))) rfl (fun _ _=>rfl) fun O x=>by kernel_rfl
theorem kX:Vd Tryz.prog 190 Dr:=vt mix VF IJ [(140,BU),(224,BV),(225,DA)] (gs PI (gs Od (gs cQ g0))) rfl (fun _ _=>rfl) fun O x=>by kernel_rfl
theorem oU:Vd Tryz.prog 176 H6:=vt mix Yu LX [(118,DZ),(140,BU),(147,AW),(188,GU),(189,Eo),(190,Dr)] (gs cy (gs PI (gs Ct (gs l8 (gs gz (gs kX g0)))))) rfl (fun _ _=>rfl) fun O x=>by kernel_rfl
theorem vr:Vd Tryz.prog 96 OW:=vt mix dl Pp [(117,Dd),(118,DZ),(119,JN),(141,Db),(148,BX),(152,B9),(153,GR),(174,Gd),(175,HT),(176,H6),(177,B4),(191,CL)] (gs cf (gs cy (gs rE (gs cV (gs NQ (gs Ss (gs oJ (gs mO (gs oO (gs oU (gs R0 (gs TY g0)))))))))))) rfl (fun _ _=>rfl) fun O x=>by kernel_rfl
def nD:Cfg:={ gam:=[⟨96,[],true,true,[],[]⟩],imm:=false,old:=false }
theorem v7 (O:Alg) (x:Ags O):XF (O:=O) Tryz.prog nD (CI.ow ⟨73,[],false,false,[],[]⟩) false [] 73 [] (xr x aO 0)=O0 O x:=by kernel_rfl
theorem zU {E:Env} {M:Nat} (N:Nat) (h:∀ ls,E 73 [] ls=PA N ls):VV Tryz.prog E M ⟨73,[],false,false,[],[]⟩ :=
 A7 mix (E:=H5 N) (N:=N) (cfg:=nD) (ci:=⟨73,[],false,false,[],[]⟩) (ks:=aO) (AJ (vr N (fun _=>rfl)) Bd) (c:=PA N) (F:=fun ls=>O0 (std (H5 N) N) (xOf ls)) (fun ls=>rfl) (fun ls=>v7 (std (H5 N) N) (xOf ls)) h
theorem mN:Vd Tryz.prog 74 Js:=vt mix Wv J0 [(52,CM)] (gs Td g0) rfl (fun _ _=>rfl) fun O x=>by kernel_rfl
def nK:Cfg:={ gam:=[⟨72,[],true,true,[],[]⟩,⟨73,[],false,false,[],[]⟩,⟨74,[],true,true,[],[]⟩],imm:=false,old:=true,ie:=[26,151,58,50,68,3,87,142,203,4,5,185,199,93,54,244] }
theorem wh (O:Alg) (x:Ags O):XF (O:=O) Tryz.prog nK (CI.ow ⟨39,[],true,false,[],[26,151,58,50,68,3,87,142,203,4,5,185,199,93,54,244]⟩) false [] 39 [] (xr x aM 0)=OZ O x:=by kernel_rfl
theorem oB {E:Env} {M:Nat} (N:Nat) (h:∀ ls,E 39 [] ls=Ib N ls):VV Tryz.prog E M ⟨39,[],true,false,[],[26,151,58,50,68,3,87,142,203,4,5,185,199,93,54,244]⟩ :=
 A7 mix (E:=D5 N) (N:=N) (cfg:=nK) (ci:=⟨39,[],true,false,[],[26,151,58,50,68,3,87,142,203,4,5,185,199,93,54,244]⟩) (ks:=aM) (AJ (wy N (fun _=>rfl)) (AJ (zU N (fun _=>rfl)) (AJ (mN N (fun _=>rfl)) Bd))) (c:=Ib N) (F:=fun ls=>OZ (std (D5 N) N) (xOf ls)) (fun ls=>rfl) (fun ls=>wh (std (D5 N) N) (xOf ls)) h
def dv:Cfg:={ gam:=[⟨39,[],true,false,[],[26,151,58,50,68,3,87,142,203,4,5,185,199,93,54,244]⟩],imm:=false,old:=false }
theorem rt (O:Alg) (x:Ags O):XF (O:=O) Tryz.prog dv (CI.ow ⟨71,[],false,false,[],[]⟩) false [] 71 [] (xr x Vw 0)=KK O x:=by kernel_rfl
theorem ss {E:Env} {M:Nat} (N:Nat) (h:∀ ls,E 71 [] ls=K8 N ls):VV Tryz.prog E M ⟨71,[],false,false,[],[]⟩ :=
 A7 mix (E:=FF N) (N:=N) (cfg:=dv) (ci:=⟨71,[],false,false,[],[]⟩) (ks:=Vw) (AJ (oB N (fun _=>rfl)) Bd) (c:=K8 N) (F:=fun ls=>KK (std (FF N) N) (xOf ls)) (fun ls=>rfl) (fun ls=>rt (std (FF N) N) (xOf ls)) h
def ji:Cfg:={ gam:=[⟨70,[],true,true,[],[]⟩,⟨71,[],false,false,[],[]⟩],imm:=false,old:=false }
theorem sw (O:Alg) (x:Ags O):XF (O:=O) Tryz.prog ji (CI.ow ⟨37,[],true,true,[],[]⟩) true [] 37 [] (xr x Xm 0)=MK O x:=by kernel_rfl
theorem xB:Vd Tryz.prog 37 MB:=fun N h =>
 A7 mix (E:=EX N) (N:=N) (cfg:=ji) (ci:=⟨37,[],true,true,[],[]⟩) (ks:=Xm) (AJ (C8 N (fun _=>rfl)) (AJ (ss N (fun _=>rfl)) Bd)) (c:=MB N) (F:=fun ls=>MK (std (EX N) N) (xOf ls)) (fun ls=>rfl) (fun ls=>sw (std (EX N) N) (xOf ls)) h
theorem o6:Vd Tryz.prog 38 LS:=vt mix Yf LH [] g0 rfl (fun _ _=>rfl) fun O x=>by kernel_rfl
theorem kw:Vd Tryz.prog 44 IZ:=vt mix Vr IU [] g0 rfl (fun _ _=>rfl) fun O x=>by kernel_rfl
def TO:Cfg:={ gam:=[⟨37,[],true,true,[],[]⟩,⟨38,[],true,true,[],[]⟩,⟨39,[],true,false,[],[26,151,58,50,68,3,87,142,203,4,5,185,199,93,54,244]⟩,⟨44,[],true,true,[],[]⟩],imm:=false,old:=false,ie:=[60001] }
theorem gO (O:Alg) (x:Ags O):XF (O:=O) Tryz.prog TO (CI.ow ⟨19,[],true,true,[],[]⟩) true [] 19 [] (xr x L4 0)=Ei O x:=by kernel_rfl
theorem TG:Vd Tryz.prog 19 Bu:=fun N h =>
 A7 mix (E:=Bc N) (N:=N) (cfg:=TO) (ci:=⟨19,[],true,true,[],[]⟩) (ks:=L4) (AJ (xB N (fun _=>rfl)) (AJ (o6 N (fun _=>rfl)) (AJ (oB N (fun _=>rfl)) (AJ (kw N (fun _=>rfl)) Bd)))) (c:=Bu N) (F:=fun ls=>Ei (std (Bc N) N) (xOf ls)) (fun ls=>rfl) (fun ls=>gO (std (Bc N) N) (xOf ls)) h
theorem wE:Vd Tryz.prog 27 Mg:=vt mix jU jP [] g0 rfl (fun _ _=>rfl) fun O x=>by kernel_rfl
theorem wu:Vd Tryz.prog 55 X2:=vt mix jS js [] g0 rfl (fun _ _=>rfl) fun O x=>by kernel_rfl
theorem zq:Vd Tryz.prog 28 R5:=vt mix qh qk [(55,X2)] (gs wu g0) rfl (fun _ _=>rfl) fun O x=>by kernel_rfl
theorem xM:Vd Tryz.prog 8 MQ:=vt mix jZ RO [(10,Ef),(12,Hv),(19,Bu),(27,Mg),(28,R5)] (gs iM (gs oc (gs TG (gs wE (gs zq g0))))) rfl (fun _ _=>rfl) fun O x=>by kernel_rfl
def qS:Cfg:={ gam:=[],imm:=false,old:=false }
theorem yM (O:Alg) (x:Ags O):XF (O:=O) Tryz.prog qS (CI.ow ⟨18,[],false,false,[],[]⟩) false [] 18 [] (xr x em 0)=SA O x:=by kernel_rfl
theorem AAm {E:Env} {M:Nat} (N:Nat) (h:∀ ls,E 18 [] ls=SN N ls):VV Tryz.prog E M ⟨18,[],false,false,[],[]⟩ :=
 A7 mix (E:=MA N) (N:=N) (cfg:=qS) (ci:=⟨18,[],false,false,[],[]⟩) (ks:=em) Bd (c:=SN N) (F:=fun ls=>SA (std (MA N) N) (xOf ls)) (fun ls=>rfl) (fun ls=>yM (std (MA N) N) (xOf ls)) h
theorem yf:Vd Tryz.prog 97 P8:=vt mix mK UK [] g0 rfl (fun _ _=>rfl) fun O x=>by kernel_rfl
theorem ABD:Vd Tryz.prog 98 U5:=vt mix vg sn [] g0 rfl (fun _ _=>rfl) fun O x=>by kernel_rfl
theorem Dz:Vd Tryz.prog 80 Am:=vt mix jk RW [(97,P8),(98,U5)] (gs yf (gs ABD g0)) rfl (fun _ _=>rfl) fun O x=>by kernel_rfl
theorem ib:Vd Tryz.prog 100 FC:=vt mix je RU [] g0 rfl (fun _ _=>rfl) fun O x=>by kernel_rfl
theorem qx:Vd Tryz.prog 82 OB:=vt mix qR Ws [(80,Am),(100,FC)] (gs Dz (gs ib g0)) rfl (fun _ _=>rfl) fun O x=>by kernel_rfl
theorem CJ:Vd Tryz.prog 154 AQ:=vt mix jj RL [] g0 rfl (fun _ _=>rfl) fun O x=>by kernel_rfl
theorem Xe:Vd Tryz.prog 122 DH:=vt mix jo Ro [(154,AQ)] (gs CJ g0) rfl (fun _ _=>rfl) fun O x=>by kernel_rfl
theorem wO:Vd Tryz.prog 101 Rq:=vt mix jd Rt [(100,FC),(122,DH)] (gs ib (gs Xe g0)) rfl (fun _ _=>rfl) fun O x=>by kernel_rfl
theorem lS:Vd Tryz.prog 179 FX:=vt mix uN vK [] g0 rfl (fun _ _=>rfl) fun O x=>by kernel_rfl
theorem AAk:Vd Tryz.prog 180 SO:=vt mix qV Wb [(179,FX)] (gs lS g0) rfl (fun _ _=>rfl) fun O x=>by kernel_rfl
theorem Rw:Vd Tryz.prog 182 Bo:=vt mix im JR [] g0 rfl (fun _ _=>rfl) fun O x=>by kernel_rfl
theorem rD:Vd Tryz.prog 181 I1:=vt mix bp Mm [(182,Bo)] (gs Rw g0) rfl (fun _ _=>rfl) fun O x=>by kernel_rfl
theorem Xb:Vd Tryz.prog 155 C0:=vt mix ik RV [(80,Am),(179,FX),(180,SO),(181,I1)] (gs Dz (gs lS (gs AAk (gs rD g0)))) rfl (fun _ _=>rfl) fun O x=>by kernel_rfl
theorem MY:Vd Tryz.prog 128 CC:=vt mix jI Rx [] g0 rfl (fun _ _=>rfl) fun O x=>by kernel_rfl
theorem ek:Vd Tryz.prog 156 Fe:=vt mix ej PM [(128,CC)] (gs MY g0) rfl (fun _ _=>rfl) fun O x=>by kernel_rfl
theorem oM:Vd Tryz.prog 123 GS:=vt mix WU J1 [(155,C0),(156,Fe)] (gs Xb (gs ek g0)) rfl (fun _ _=>rfl) fun O x=>by kernel_rfl
theorem X0:Vd Tryz.prog 102 FE:=vt mix iv RF [(80,Am),(123,GS)] (gs Dz (gs oM g0)) rfl (fun _ _=>rfl) fun O x=>by kernel_rfl
theorem vU:Vd Tryz.prog 124 Kw:=vt mix dc P2 [] g0 rfl (fun _ _=>rfl) fun O x=>by kernel_rfl
theorem yu:Vd Tryz.prog 125 PG:=vt mix lY Tu [] g0 rfl (fun _ _=>rfl) fun O x=>by kernel_rfl
theorem ABr:Vd Tryz.prog 126 Vv:=vt mix uv lC [] g0 rfl (fun _ _=>rfl) fun O x=>by kernel_rfl
theorem ABy:Vd Tryz.prog 157 VL:=vt mix uu kf [] g0 rfl (fun _ _=>rfl) fun O x=>by kernel_rfl
theorem vx:Vd Tryz.prog 127 MX:=vt mix jc Ru [(157,VL)] (gs ABy g0) rfl (fun _ _=>rfl) fun O x=>by kernel_rfl
theorem jl:Vd Tryz.prog 103 JY:=vt mix ic RZ [(124,Kw),(125,PG),(126,Vv),(127,MX)] (gs vU (gs yu (gs ABr (gs vx g0)))) rfl (fun _ _=>rfl) fun O x=>by kernel_rfl
theorem Xz:Vd Tryz.prog 131 E6:=vt mix il RQ [] g0 rfl (fun _ _=>rfl) fun O x=>by kernel_rfl
def mD:Cfg:={ gam:=[],imm:=false,old:=false }
theorem wF (O:Alg) (x:Ags O):XF (O:=O) Tryz.prog mD (CI.ow ⟨105,[],false,false,[],[]⟩) false [] 105 [] (xr x aN 0)=Pv O x:=by kernel_rfl
theorem Ty {E:Env} {M:Nat} (N:Nat) (h:∀ ls,E 105 [] ls=DK N ls):VV Tryz.prog E M ⟨105,[],false,false,[],[]⟩ :=
 A7 mix (E:=Ky N) (N:=N) (cfg:=mD) (ci:=⟨105,[],false,false,[],[]⟩) (ks:=aN) Bd (c:=DK N) (F:=fun ls=>Pv (std (Ky N) N) (xOf ls)) (fun ls=>rfl) (fun ls=>wF (std (Ky N) N) (xOf ls)) h
def br:Cfg:={ gam:=[⟨102,[],true,true,[],[]⟩,⟨105,[],false,false,[],[]⟩,⟨156,[],true,true,[],[]⟩],imm:=false,old:=false }
theorem pX (O:Alg) (x:Ags O):XF (O:=O) Tryz.prog br (CI.ow ⟨158,[],true,true,[],[]⟩) true [] 158 [] (xr x Sq 0)=JG O x:=by kernel_rfl
theorem rG:Vd Tryz.prog 158 I3:=fun N h =>
 A7 mix (E:=Cw N) (N:=N) (cfg:=br) (ci:=⟨158,[],true,true,[],[]⟩) (ks:=Sq) (AJ (X0 N (fun _=>rfl)) (AJ (Ty N (fun _=>rfl)) (AJ (ek N (fun _=>rfl)) Bd))) (c:=I3 N) (F:=fun ls=>JG (std (Cw N) N) (xOf ls)) (fun ls=>rfl) (fun ls=>pX (std (Cw N) N) (xOf ls)) h
theorem wC:Vd Tryz.prog 159 RP:=vt mix jN Rh [(80,Am),(179,FX)] (gs Dz (gs lS g0)) rfl (fun _ _=>rfl) fun O x=>by kernel_rfl
theorem cC:Vd Tryz.prog 161 GB:=vt mix cq Ml [(122,DH)] (gs Xe g0) rfl (fun _ _=>rfl) fun O x=>by kernel_rfl
theorem PJ:Vd Tryz.prog 226 Bm:=vt mix fj PS [] g0 rfl (fun _ _=>rfl) fun O x=>by kernel_rfl
theorem zF:Vd Tryz.prog 192 UD:=vt mix l6 T7 [(154,AQ),(182,Bo),(226,Bm)] (gs CJ (gs Rw (gs PJ g0))) rfl (fun _ _=>rfl) fun O x=>by kernel_rfl
theorem Hh:Vd Tryz.prog 237 A4:=vt mix ZC LZ [] g0 rfl (fun _ _=>rfl) fun O x=>by kernel_rfl
theorem Ux:Vd Tryz.prog 255 Ce:=vt mix eB Pj [] g0 rfl (fun _ _=>rfl) fun O x=>by kernel_rfl
theorem yE:Vd Tryz.prog 256 OX:=vt mix mW Th [(80,Am),(255,Ce)] (gs Dz (gs Ux g0)) rfl (fun _ _=>rfl) fun O x=>by kernel_rfl
theorem qq:Vd Tryz.prog 257 IE:=vt mix qW WZ [] g0 rfl (fun _ _=>rfl) fun O x=>by kernel_rfl
theorem AAI:Vd Tryz.prog 227 SQ:=vt mix qn WL [(80,Am),(237,A4),(255,Ce),(256,OX),(257,IE)] (gs Dz (gs Hh (gs Ux (gs yE (gs qq g0))))) rfl (fun _ _=>rfl) fun O x=>by kernel_rfl
theorem yo:Vd Tryz.prog 193 Ts:=vt mix mw UE [(154,AQ),(227,SQ)] (gs CJ (gs AAI g0)) rfl (fun _ _=>rfl) fun O x=>by kernel_rfl
theorem ABG:Vd Tryz.prog 133 VP:=vt mix tU kL [] g0 rfl (fun _ _=>rfl) fun O x=>by kernel_rfl
theorem pu:Vd Tryz.prog 134 Hc:=vt mix Zb Lg [] g0 rfl (fun _ _=>rfl) fun O x=>by kernel_rfl
theorem ia:Vd Tryz.prog 107 Gz:=vt mix jg RT [(133,VP),(134,Hc)] (gs ABG (gs pu g0)) rfl (fun _ _=>rfl) fun O x=>by kernel_rfl
theorem o4:Vd Tryz.prog 108 HL:=vt mix ZZ Lm [] g0 rfl (fun _ _=>rfl) fun O x=>by kernel_rfl
theorem wB:Vd Tryz.prog 109 MG:=vt mix jY RI [] g0 rfl (fun _ _=>rfl) fun O x=>by kernel_rfl
theorem dk:Vd Tryz.prog 84 HP:=vt mix dZ Oc [(107,Gz),(108,HL),(109,MG)] (gs ia (gs o4 (gs wB g0))) rfl (fun _ _=>rfl) fun O x=>by kernel_rfl
theorem Ul:Vd Tryz.prog 204 CX:=vt mix fA HK [(182,Bo)] (gs Rw g0) rfl (fun _ _=>rfl) fun O x=>by kernel_rfl
theorem Oj:Vd Tryz.prog 236 Bl:=vt mix gF Pt [] g0 rfl (fun _ _=>rfl) fun O x=>by kernel_rfl
theorem rF:Vd Tryz.prog 258 JA:=vt mix bc NK [] g0 rfl (fun _ _=>rfl) fun O x=>by kernel_rfl
theorem wU:Vd Tryz.prog 228 Rj:=vt mix iV RH [(236,Bl),(237,A4),(258,JA)] (gs Oj (gs Hh (gs rF g0))) rfl (fun _ _=>rfl) fun O x=>by kernel_rfl
theorem pI:Vd Tryz.prog 259 Hd:=vt mix Y6 LJ [] g0 rfl (fun _ _=>rfl) fun O x=>by kernel_rfl
theorem ABY:Vd Tryz.prog 260 Vb:=vt mix tx aB [] g0 rfl (fun _ _=>rfl) fun O x=>by kernel_rfl
theorem ux:Vd Tryz.prog 261 K7:=vt mix eV Ot [] g0 rfl (fun _ _=>rfl) fun O x=>by kernel_rfl
theorem pW:Vd Tryz.prog 229 Ls:=vt mix YR Lq [(259,Hd),(260,Vb),(261,K7)] (gs pI (gs ABY (gs ux g0))) rfl (fun _ _=>rfl) fun O x=>by kernel_rfl
theorem w6:Vd Tryz.prog 230 Rs:=vt mix iW Rk [(236,Bl),(237,A4)] (gs Oj (gs Hh g0)) rfl (fun _ _=>rfl) fun O x=>by kernel_rfl
theorem f8:Vd Tryz.prog 233 FL:=vt mix dp PX [(154,AQ)] (gs CJ g0) rfl (fun _ _=>rfl) fun O x=>by kernel_rfl
theorem AAD:Vd Tryz.prog 231 Wc:=vt mix qe WS [(154,AQ),(226,Bm),(233,FL)] (gs CJ (gs PJ (gs f8 g0))) rfl (fun _ _=>rfl) fun O x=>by kernel_rfl
theorem yV:Vd Tryz.prog 232 Tl:=vt mix mq T6 [(80,Am),(154,AQ),(255,Ce),(257,IE)] (gs Dz (gs CJ (gs Ux (gs qq g0)))) rfl (fun _ _=>rfl) fun O x=>by kernel_rfl
theorem wq:Vd Tryz.prog 234 Ra:=vt mix jx jW [] g0 rfl (fun _ _=>rfl) fun O x=>by kernel_rfl
def lX:Cfg:={ gam:=[⟨84,[],true,true,[],[]⟩,⟨107,[],true,true,[],[]⟩,⟨204,[],true,true,[],[]⟩,⟨228,[],true,true,[],[]⟩,⟨229,[],true,true,[],[]⟩,⟨230,[],true,true,[],[]⟩,⟨231,[],true,true,[],[]⟩,⟨232,[],true,true,[],[]⟩,⟨233,[],true,true,[],[]⟩,⟨234,[],true,true,[],[]⟩],imm:=false,old:=false }
theorem vz (O:Alg) (x:Ags O):XF (O:=O) Tryz.prog lX (CI.ow ⟨194,[],false,false,[],[]⟩) false [] 194 [] (xr x ar 0)=OT O x:=by kernel_rfl
theorem xy {E:Env} {M:Nat} (N:Nat) (h:∀ ls,E 194 [] ls=P9 N ls):VV Tryz.prog E M ⟨194,[],false,false,[],[]⟩ :=
 A7 mix (E:=Bb N) (N:=N) (cfg:=lX) (ci:=⟨194,[],false,false,[],[]⟩) (ks:=ar) (AJ (dk N (fun _=>rfl)) (AJ (ia N (fun _=>rfl)) (AJ (Ul N (fun _=>rfl)) (AJ (wU N (fun _=>rfl)) (AJ (pW N (fun _=>rfl)) (AJ (w6 N (fun _=>rfl)) (AJ (AAD N (fun _=>rfl)) (AJ (yV N (fun _=>rfl)) (AJ (f8 N (fun _=>rfl)) (AJ (wq N (fun _=>rfl)) Bd)))))))))) (c:=P9 N) (F:=fun ls=>OT (std (Bb N) N) (xOf ls)) (fun ls=>rfl) (fun ls=>vz (std (Bb N) N) (xOf ls)) h
theorem iQ:Vd Tryz.prog 235 FD:=vt mix ja RG [(204,CX),(226,Bm)] (gs Ul (gs PJ g0)) rfl (fun _ _=>rfl) fun O x=>by kernel_rfl
theorem rV:Vd Tryz.prog 195 NP:=vt mix cX M4 [(154,AQ),(235,FD)] (gs CJ (gs iQ g0)) rfl (fun _ _=>rfl) fun O x=>by kernel_rfl
theorem wD:Vd Tryz.prog 196 Rm:=vt mix iZ Re [(154,AQ),(235,FD)] (gs CJ (gs iQ g0)) rfl (fun _ _=>rfl) fun O x=>by kernel_rfl
theorem mH:Vd Tryz.prog 205 Eu:=vt mix lj Lc [] g0 rfl (fun _ _=>rfl) fun O x=>by kernel_rfl
theorem un:Vd Tryz.prog 197 OS:=vt mix fh Ok [(154,AQ),(205,Eu),(226,Bm)] (gs CJ (gs mH (gs PJ g0))) rfl (fun _ _=>rfl) fun O x=>by kernel_rfl
theorem rJ:Vd Tryz.prog 198 NA:=vt mix bu M3 [(154,AQ)] (gs CJ g0) rfl (fun _ _=>rfl) fun O x=>by kernel_rfl
theorem uM:Vd Tryz.prog 199 OV:=vt mix gL Pi [(154,AQ),(236,Bl),(237,A4)] (gs CJ (gs Oj (gs Hh g0))) rfl (fun _ _=>rfl) fun O x=>by kernel_rfl
theorem km:Vd Tryz.prog 200 Ij:=vt mix Uk IW [(154,AQ),(236,Bl),(237,A4)] (gs CJ (gs Oj (gs Hh g0))) rfl (fun _ _=>rfl) fun O x=>by kernel_rfl
theorem sA:Vd Tryz.prog 201 M2:=vt mix cF Mr [(80,Am),(154,AQ)] (gs Dz (gs CJ g0)) rfl (fun _ _=>rfl) fun O x=>by kernel_rfl
def da:Cfg:={ gam:=[],imm:=false,old:=false }
theorem rU (O:Alg) (x:Ags O):XF (O:=O) Tryz.prog da (CI.ow ⟨202,[],false,false,[],[]⟩) false [] 202 [] (xr x Uy 0)=HG O x:=by kernel_rfl
theorem u7 {E:Env} {M:Nat} (N:Nat) (h:∀ ls,E 202 [] ls=K6 N ls):VV Tryz.prog E M ⟨202,[],false,false,[],[]⟩ :=
 A7 mix (E:=Ht N) (N:=N) (cfg:=da) (ci:=⟨202,[],false,false,[],[]⟩) (ks:=Uy) Bd (c:=K6 N) (F:=fun ls=>HG (std (Ht N) N) (xOf ls)) (fun ls=>rfl) (fun ls=>rU (std (Ht N) N) (xOf ls)) h
theorem wN:Vd Tryz.prog 238 Rg:=vt mix jT jA [] g0 rfl (fun _ _=>rfl) fun O x=>by kernel_rfl
def fK:Cfg:={ gam:=[⟨238,[],true,true,[],[]⟩],imm:=false,old:=false }
theorem rO (O:Alg) (x:Ags O):XF (O:=O) Tryz.prog fK (CI.ow ⟨203,[],false,false,[],[]⟩) false [] 203 [] (xr x Vh 0)=Ki O x:=by kernel_rfl
theorem vf {E:Env} {M:Nat} (N:Nat) (h:∀ ls,E 203 [] ls=KF N ls):VV Tryz.prog E M ⟨203,[],false,false,[],[]⟩ :=
 A7 mix (E:=FI N) (N:=N) (cfg:=fK) (ci:=⟨203,[],false,false,[],[]⟩) (ks:=Vh) (AJ (wN N (fun _=>rfl)) Bd) (c:=KF N) (F:=fun ls=>Ki (std (FI N) N) (xOf ls)) (fun ls=>rfl) (fun ls=>rO (std (FI N) N) (xOf ls)) h
def qD:Cfg:={ gam:=[⟨161,[],true,true,[],[]⟩,⟨192,[],true,true,[],[]⟩,⟨193,[],true,true,[],[]⟩,⟨194,[],false,false,[],[]⟩,⟨195,[],true,true,[],[]⟩,⟨196,[],true,true,[],[]⟩,⟨197,[],true,true,[],[]⟩,⟨198,[],true,true,[],[]⟩,⟨199,[],true,true,[],[]⟩,⟨200,[],true,true,[],[]⟩,⟨201,[],true,true,[],[]⟩,⟨202,[],false,false,[],[]⟩,⟨203,[],false,false,[],[]⟩],imm:=false,old:=false }
theorem yh (O:Alg) (x:Ags O):XF (O:=O) Tryz.prog qD (CI.ow ⟨183,[],false,false,[],[]⟩) false [] 183 [] (xr x eK 0)=Nq O x:=by kernel_rfl
theorem AAH {E:Env} {M:Nat} (N:Nat) (h:∀ ls,E 183 [] ls=R6 N ls):VV Tryz.prog E M ⟨183,[],false,false,[],[]⟩ :=
 A7 mix (E:=BK N) (N:=N) (cfg:=qD) (ci:=⟨183,[],false,false,[],[]⟩) (ks:=eK) (AJ (cC N (fun _=>rfl)) (AJ (zF N (fun _=>rfl)) (AJ (yo N (fun _=>rfl)) (AJ (xy N (fun _=>rfl)) (AJ (rV N (fun _=>rfl)) (AJ (wD N (fun _=>rfl)) (AJ (un N (fun _=>rfl)) (AJ (rJ N (fun _=>rfl)) (AJ (uM N (fun _=>rfl)) (AJ (km N (fun _=>rfl)) (AJ (sA N (fun _=>rfl)) (AJ (u7 N (fun _=>rfl)) (AJ (vf N (fun _=>rfl)) Bd))))))))))))) (c:=R6 N) (F:=fun ls=>Nq (std (BK N) N) (xOf ls)) (fun ls=>rfl) (fun ls=>yh (std (BK N) N) (xOf ls)) h
theorem uQ:Vd Tryz.prog 184 Ko:=vt mix eM Oy [(155,C0),(204,CX),(205,Eu)] (gs Xb (gs Ul (gs mH g0))) rfl (fun _ _=>rfl) fun O x=>by kernel_rfl
def oH:Cfg:={ gam:=[⟨103,[],true,true,[],[]⟩,⟨122,[],true,true,[],[]⟩,⟨155,[],true,true,[],[]⟩,⟨182,[],true,true,[],[]⟩,⟨183,[],false,false,[],[]⟩,⟨184,[],true,true,[],[]⟩],imm:=false,old:=false }
theorem wn (O:Alg) (x:Ags O):XF (O:=O) Tryz.prog oH (CI.ow ⟨160,[],false,false,[],[]⟩) false [] 160 [] (xr x aV 0)=PR O x:=by kernel_rfl
theorem nV {E:Env} {M:Nat} (N:Nat) (h:∀ ls,E 160 [] ls=Iu N ls):VV Tryz.prog E M ⟨160,[],false,false,[],[]⟩ :=
 A7 mix (E:=Cb N) (N:=N) (cfg:=oH) (ci:=⟨160,[],false,false,[],[]⟩) (ks:=aV) (AJ (jl N (fun _=>rfl)) (AJ (Xe N (fun _=>rfl)) (AJ (Xb N (fun _=>rfl)) (AJ (Rw N (fun _=>rfl)) (AJ (AAH N (fun _=>rfl)) (AJ (uQ N (fun _=>rfl)) Bd)))))) (c:=Iu N) (F:=fun ls=>PR (std (Cb N) N) (xOf ls)) (fun ls=>rfl) (fun ls=>wn (std (Cb N) N) (xOf ls)) h
def lW:Cfg:={ gam:=[⟨128,[],true,true,[],[]⟩,⟨131,[],true,true,[],[]⟩,⟨158,[],true,true,[],[]⟩,⟨159,[],true,true,[],[]⟩,⟨160,[],false,false,[],[]⟩],imm:=false,old:=false }
theorem wK (O:Alg) (x:Ags O):XF (O:=O) Tryz.prog lW (CI.ow ⟨129,[],false,false,[true,false],[]⟩) false [true,false] 129 [] (xr x Zm 0)=PT O x:=by kernel_rfl
theorem yS {E:Env} {M:Nat} (N:Nat) (h:∀ ls,E 129 [] ls=PB N ls):VV Tryz.prog E M ⟨129,[],false,false,[true,false],[]⟩ :=
 A7 mix (E:=C2 N) (N:=N) (cfg:=lW) (ci:=⟨129,[],false,false,[true,false],[]⟩) (ks:=Zm) (AJ (MY N (fun _=>rfl)) (AJ (Xz N (fun _=>rfl)) (AJ (rG N (fun _=>rfl)) (AJ (wC N (fun _=>rfl)) (AJ (nV N (fun _=>rfl)) Bd))))) (c:=PB N) (F:=fun ls=>PT (std (C2 N) N) (xOf ls)) (fun ls=>rfl) (fun ls=>wK (std (C2 N) N) (xOf ls)) h
def nF:Cfg:={ gam:=[⟨160,[],false,false,[],[]⟩,⟨161,[],true,true,[],[]⟩],imm:=true,old:=true }
theorem wI (O:Alg) (x:Ags O):XF (O:=O) Tryz.prog nF (CI.ow ⟨130,[],false,false,[true,false],[]⟩) false [true,false] 130 [] (xr x Zq 0)=PE O x:=by kernel_rfl
theorem zg {E:Env} {M:Nat} (N:Nat) (h:∀ ls,E 130 [] ls=O9 N ls):VV Tryz.prog E M ⟨130,[],false,false,[true,false],[]⟩ :=
 A7 mix (E:=Fa N) (N:=N) (cfg:=nF) (ci:=⟨130,[],false,false,[true,false],[]⟩) (ks:=Zq) (AJ (nV N (fun _=>rfl)) (AJ (cC N (fun _=>rfl)) Bd)) (c:=O9 N) (F:=fun ls=>PE (std (Fa N) N) (xOf ls)) (fun ls=>rfl) (fun ls=>wI (std (Fa N) N) (xOf ls)) h
def qf:Cfg:={ gam:=[⟨128,[],true,true,[],[]⟩,⟨129,[],false,false,[true,false],[]⟩,⟨130,[],false,false,[true,false],[]⟩],imm:=false,old:=false }
theorem yc (O:Alg) (x:Ags O):XF (O:=O) Tryz.prog qf (CI.ow ⟨104,[],false,false,[true,false],[]⟩) false [true,false] 104 [] (xr x fE 0)=SB O x:=by kernel_rfl
theorem AAy {E:Env} {M:Nat} (N:Nat) (h:∀ ls,E 104 [] ls=SD N ls):VV Tryz.prog E M ⟨104,[],false,false,[true,false],[]⟩ :=
 A7 mix (E:=E9 N) (N:=N) (cfg:=qf) (ci:=⟨104,[],false,false,[true,false],[]⟩) (ks:=fE) (AJ (MY N (fun _=>rfl)) (AJ (yS N (fun _=>rfl)) (AJ (zg N (fun _=>rfl)) Bd))) (c:=SD N) (F:=fun ls=>SB (std (E9 N) N) (xOf ls)) (fun ls=>rfl) (fun ls=>yc (std (E9 N) N) (xOf ls)) h
def cZ:Cfg:={ gam:=[⟨102,[],true,true,[],[]⟩,⟨105,[],false,false,[],[]⟩,⟨128,[],true,true,[],[]⟩,⟨131,[],true,true,[],[]⟩],imm:=false,old:=false }
theorem pB (O:Alg) (x:Ags O):XF (O:=O) Tryz.prog cZ (CI.ow ⟨132,[],true,true,[],[]⟩) true [] 132 [] (xr x Sn 0)=I4 O x:=by kernel_rfl
theorem rc:Vd Tryz.prog 132 I7:=fun N h =>
 A7 mix (E:=CQ N) (N:=N) (cfg:=cZ) (ci:=⟨132,[],true,true,[],[]⟩) (ks:=Sn) (AJ (X0 N (fun _=>rfl)) (AJ (Ty N (fun _=>rfl)) (AJ (MY N (fun _=>rfl)) (AJ (Xz N (fun _=>rfl)) Bd)))) (c:=I7 N) (F:=fun ls=>I4 (std (CQ N) N) (xOf ls)) (fun ls=>rfl) (fun ls=>pB (std (CQ N) N) (xOf ls)) h
def gN:Cfg:={ gam:=[⟨105,[],false,false,[],[]⟩,⟨128,[],true,true,[],[]⟩,⟨131,[],true,true,[],[]⟩,⟨132,[],true,true,[],[]⟩],imm:=false,old:=false }
theorem rN (O:Alg) (x:Ags O):XF (O:=O) Tryz.prog gN (CI.ow ⟨106,[],false,false,[],[]⟩) false [] 106 [] (xr x Vo 0)=KN O x:=by kernel_rfl
theorem uJ {E:Env} {M:Nat} (N:Nat) (h:∀ ls,E 106 [] ls=Kd N ls):VV Tryz.prog E M ⟨106,[],false,false,[],[]⟩ :=
 A7 mix (E:=Ch N) (N:=N) (cfg:=gN) (ci:=⟨106,[],false,false,[],[]⟩) (ks:=Vo) (AJ (Ty N (fun _=>rfl)) (AJ (MY N (fun _=>rfl)) (AJ (Xz N (fun _=>rfl)) (AJ (rc N (fun _=>rfl)) Bd)))) (c:=Kd N) (F:=fun ls=>KN (std (Ch N) N) (xOf ls)) (fun ls=>rfl) (fun ls=>rN (std (Ch N) N) (xOf ls)) h
def mb:Cfg:={ gam:=[⟨101,[],true,true,[],[]⟩,⟨102,[],true,true,[],[]⟩,⟨103,[],true,true,[],[]⟩,⟨104,[],false,false,[true,false],[]⟩,⟨105,[],false,false,[],[]⟩,⟨106,[],false,false,[],[]⟩],imm:=false,old:=false }
theorem xA (O:Alg) (x:Ags O):XF (O:=O) Tryz.prog mb (CI.ow ⟨83,[],false,false,[],[]⟩) false [] 83 [] (xr x aH 0)=Pd O x:=by kernel_rfl
theorem lh {E:Env} {M:Nat} (N:Nat) (h:∀ ls,E 83 [] ls=IR N ls):VV Tryz.prog E M ⟨83,[],false,false,[],[]⟩ :=
 A7 mix (E:=Cf N) (N:=N) (cfg:=mb) (ci:=⟨83,[],false,false,[],[]⟩) (ks:=aH) (AJ (wO N (fun _=>rfl)) (AJ (X0 N (fun _=>rfl)) (AJ (jl N (fun _=>rfl)) (AJ (AAy N (fun _=>rfl)) (AJ (Ty N (fun _=>rfl)) (AJ (uJ N (fun _=>rfl)) Bd)))))) (c:=IR N) (F:=fun ls=>Pd (std (Cf N) N) (xOf ls)) (fun ls=>rfl) (fun ls=>xA (std (Cf N) N) (xOf ls)) h
def mi:Cfg:={ gam:=[⟨83,[],false,false,[],[]⟩],imm:=true,old:=true }
theorem wL (O:Alg) (x:Ags O):XF (O:=O) Tryz.prog mi (CI.ow ⟨99,[],false,false,[],[]⟩) false [] 99 [] (xr x aj 0)=PF O x:=by kernel_rfl
theorem yR {E:Env} {M:Nat} (N:Nat) (h:∀ ls,E 99 [] ls=Og N ls):VV Tryz.prog E M ⟨99,[],false,false,[],[]⟩ :=
 A7 mix (E:=Hb N) (N:=N) (cfg:=mi) (ci:=⟨99,[],false,false,[],[]⟩) (ks:=aj) (AJ (lh N (fun _=>rfl)) Bd) (c:=Og N) (F:=fun ls=>PF (std (Hb N) N) (xOf ls)) (fun ls=>rfl) (fun ls=>wL (std (Hb N) N) (xOf ls)) h
def fC:Cfg:={ gam:=[⟨82,[],true,true,[],[]⟩,⟨99,[],false,false,[],[]⟩],imm:=false,old:=false }
theorem sF (O:Alg) (x:Ags O):XF (O:=O) Tryz.prog fC (CI.ow ⟨81,[],false,false,[],[]⟩) false [] 81 [] (xr x VA 0)=Kl O x:=by kernel_rfl
theorem dr {E:Env} {M:Nat} (N:Nat) (h:∀ ls,E 81 [] ls=FP N ls):VV Tryz.prog E M ⟨81,[],false,false,[],[]⟩ :=
 A7 mix (E:=Dv N) (N:=N) (cfg:=fC) (ci:=⟨81,[],false,false,[],[]⟩) (ks:=VA) (AJ (qx N (fun _=>rfl)) (AJ (yR N (fun _=>rfl)) Bd)) (c:=FP N) (F:=fun ls=>Kl (std (Dv N) N) (xOf ls)) (fun ls=>rfl) (fun ls=>sF (std (Dv N) N) (xOf ls)) h
def jX:Cfg:={ gam:=[⟨80,[],true,true,[],[]⟩,⟨81,[],false,false,[],[]⟩],imm:=false,old:=false }
theorem vl (O:Alg) (x:Ags O):XF (O:=O) Tryz.prog jX (CI.ow ⟨48,[],true,true,[],[]⟩) true [] 48 [] (xr x XT 0)=Mf O x:=by kernel_rfl
theorem xN:Vd Tryz.prog 48 MM:=fun N h =>
 A7 mix (E:=ET N) (N:=N) (cfg:=jX) (ci:=⟨48,[],true,true,[],[]⟩) (ks:=XT) (AJ (Dz N (fun _=>rfl)) (AJ (dr N (fun _=>rfl)) Bd)) (c:=MM N) (F:=fun ls=>Mf (std (ET N) N) (xOf ls)) (fun ls=>rfl) (fun ls=>vl (std (ET N) N) (xOf ls)) h
def mQ:Cfg:={ gam:=[⟨81,[],false,false,[],[]⟩,⟨82,[],true,true,[],[]⟩,⟨83,[],false,false,[],[]⟩,⟨84,[],true,true,[],[]⟩],imm:=false,old:=true,ie:=[26,151,58,50,68,3,87,142,203,4,5,185,199,93,54,244] }
theorem vy (O:Alg) (x:Ags O):XF (O:=O) Tryz.prog mQ (CI.ow ⟨49,[],false,false,[],[]⟩) false [] 49 [] (xr x Zx 0)=P4 O x:=by kernel_rfl
theorem y9 {E:Env} {M:Nat} (N:Nat) (h:∀ ls,E 49 [] ls=Pk N ls):VV Tryz.prog E M ⟨49,[],false,false,[],[]⟩ :=
 A7 mix (E:=DV N) (N:=N) (cfg:=mQ) (ci:=⟨49,[],false,false,[],[]⟩) (ks:=Zx) (AJ (dr N (fun _=>rfl)) (AJ (qx N (fun _=>rfl)) (AJ (lh N (fun _=>rfl)) (AJ (dk N (fun _=>rfl)) Bd)))) (c:=Pk N) (F:=fun ls=>P4 (std (DV N) N) (xOf ls)) (fun ls=>rfl) (fun ls=>vy (std (DV N) N) (xOf ls)) h
theorem vj:Vd Tryz.prog 76 Pw:=vt mix eR PN [] g0 rfl (fun _ _=>rfl) fun O x=>by kernel_rfl
theorem rZ:Vd Tryz.prog 77 Mw:=vt mix cx NF [] g0 rfl (fun _ _=>rfl) fun O x=>by kernel_rfl
def vO:Cfg:={ gam:=[⟨48,[],true,true,[],[]⟩,⟨49,[],false,false,[],[]⟩,⟨76,[],true,true,[],[]⟩,⟨77,[],true,true,[],[]⟩],imm:=false,old:=false }
theorem zn (O:Alg) (x:Ags O):XF (O:=O) Tryz.prog vO (CI.ow ⟨45,[],false,false,[],[]⟩) false [] 45 [] (xr x ki 0)=Ub O x:=by kernel_rfl
theorem AA8 {E:Env} {M:Nat} (N:Nat) (h:∀ ls,E 45 [] ls=Ut N ls):VV Tryz.prog E M ⟨45,[],false,false,[],[]⟩ :=
 A7 mix (E:=Ew N) (N:=N) (cfg:=vO) (ci:=⟨45,[],false,false,[],[]⟩) (ks:=ki) (AJ (xN N (fun _=>rfl)) (AJ (y9 N (fun _=>rfl)) (AJ (vj N (fun _=>rfl)) (AJ (rZ N (fun _=>rfl)) Bd)))) (c:=Ut N) (F:=fun ls=>Ub (std (Ew N) N) (xOf ls)) (fun ls=>rfl) (fun ls=>zn (std (Ew N) N) (xOf ls)) h
theorem rA:Vd Tryz.prog 78 I0:=vt mix cY Mx [] g0 rfl (fun _ _=>rfl) fun O x=>by kernel_rfl
theorem zS:Vd Tryz.prog 46 To:=vt mix lr Tn [(78,I0)] (gs rA g0) rfl (fun _ _=>rfl) fun O x=>by kernel_rfl
def cR:Cfg:={ gam:=[⟨45,[],false,false,[],[]⟩,⟨46,[],true,true,[],[]⟩],imm:=false,old:=false }
theorem oy (O:Alg) (x:Ags O):XF (O:=O) Tryz.prog cR (CI.ow ⟨20,[],true,true,[],[]⟩) true [] 20 [] (xr x S7 0)=Iz O x:=by kernel_rfl
theorem qz:Vd Tryz.prog 20 Iw:=fun N h =>
 A7 mix (E:=DM N) (N:=N) (cfg:=cR) (ci:=⟨20,[],true,true,[],[]⟩) (ks:=S7) (AJ (AA8 N (fun _=>rfl)) (AJ (zS N (fun _=>rfl)) Bd)) (c:=Iw N) (F:=fun ls=>Iz (std (DM N) N) (xOf ls)) (fun ls=>rfl) (fun ls=>oy (std (DM N) N) (xOf ls)) h
theorem WC:Vd Tryz.prog 21 Dh:=vt mix Lu Dg [] g0 rfl (fun _ _=>rfl) fun O x=>by kernel_rfl
def QB:Cfg:={ gam:=[⟨8,[],true,true,[],[]⟩,⟨18,[],false,false,[],[]⟩,⟨19,[],true,true,[],[]⟩,⟨20,[],true,true,[],[]⟩,⟨21,[],true,true,[],[]⟩],imm:=false,old:=false }
theorem YX (O:Alg) (x:Ags O):XF (O:=O) Tryz.prog QB (CI.ow ⟨4,[],true,true,[],[]⟩) true [] 4 [] (xr x Id 0)=DQ O x:=by kernel_rfl
theorem bI:Vd Tryz.prog 4 DL:=fun N h =>
 A7 mix (E:=A8 N) (N:=N) (cfg:=QB) (ci:=⟨4,[],true,true,[],[]⟩) (ks:=Id) (AJ (xM N (fun _=>rfl)) (AJ (AAm N (fun _=>rfl)) (AJ (TG N (fun _=>rfl)) (AJ (qz N (fun _=>rfl)) (AJ (WC N (fun _=>rfl)) Bd))))) (c:=DL N) (F:=fun ls=>DQ (std (A8 N) N) (xOf ls)) (fun ls=>rfl) (fun ls=>YX (std (A8 N) N) (xOf ls)) h
end Go.Px
