/- Part 15. -/
import Derived.Test.YtefmhiojnbekpaaGreatDoorPart07
import Derived.Test.YtefmhiojnbekpaaGreatDoorProg
import Derived.Test.YtefmhiojnbekpaaGreatDoorPart09
import Derived.KernelRfl
import Derived.WalkKit
import Derived.Lib.Walk
import Derived.BigCall
import Derived.BigGuard
import Derived.Test.YtefmhiojnbekpaaGreatDoorPart14
set_option linter.unusedVariables false
set_option linter.unusedSimpArgs false
namespace Go.Px
open Go.Proofs
set_option maxRecDepth 100000
theorem mix:Tryz.prog.follows .mixedOrders=true:=by kernel_rfl
theorem bZ:Vd Tryz.prog 57 Nc:=vt mix Tb TX [] g0 rfl (fun _ _=>rfl) fun O x=>by kernel_rfl
theorem Vm:Vd Tryz.prog 29 It:=vt mix Vu WD [(57,Nc)] (gs bZ g0) rfl (fun _ _=>rfl) fun O x=>by kernel_rfl
theorem Wf:Vd Tryz.prog 59 I5:=vt mix WY WW [] g0 rfl (fun _ _=>rfl) fun O x=>by kernel_rfl
theorem jT:Vd Tryz.prog 58 SQ:=vt mix Xo Xw [(59,I5)] (gs Wf g0) rfl (fun _ _=>rfl) fun O x=>by kernel_rfl
theorem fG:Vd Tryz.prog 30 Qr:=vt mix WI Vv [(58,SQ),(59,I5)] (gs jT (gs Wf g0)) rfl (fun _ _=>rfl) fun O x=>by kernel_rfl
theorem XU:Vd Tryz.prog 10 EI:=vt mix Pj Pb [(29,It),(30,Qr)] (gs Vm (gs fG g0)) rfl (fun _ _=>rfl) fun O x=>by kernel_rfl
theorem MM:Vd Tryz.prog 63 C6:=vt mix R4 R7 [] g0 rfl (fun _ _=>rfl) fun O x=>by kernel_rfl
theorem Un:Vd Tryz.prog 62 Ha:=vt mix Uu U3 [(63,C6)] (gs MM g0) rfl (fun _ _=>rfl) fun O x=>by kernel_rfl
theorem km:Vd Tryz.prog 64 Tt:=vt mix au aF [(62,Ha),(63,C6)] (gs Un (gs MM g0)) rfl (fun _ _=>rfl) fun O x=>by kernel_rfl
theorem Z8:Vd Tryz.prog 90 MC:=fun N h =>
 kK Tryz.func90 (T3:=3) (T9:=9) rfl rfl Tryz.underlying3 Tryz.underlying9 (by kernel_rfl) (fun i hi w=>Tryz.internal_strconv_Itoa_small i hi w) h
theorem bK:Vd Tryz.prog 65 NU:=vt mix TK TP [(90,MC)] (gs Z8 g0) rfl (fun _ _=>rfl) fun O x=>by kernel_rfl
theorem iZ:Vd Tryz.prog 33 RA:=vt mix WH W0 [(62,Ha),(63,C6),(64,Tt),(65,NU)] (gs Un (gs MM (gs km (gs bK g0)))) rfl (fun _ _=>rfl) fun O x=>by kernel_rfl
theorem UH:Vd Tryz.prog 91 HQ:=fun N h =>
 lm Tryz.func91 (T2:=2) (T3:=3) (T9:=9) rfl rfl Tryz.underlying2 Tryz.underlying3 Tryz.underlying9 (by kernel_rfl) (fun i hi w=>Tryz.internal_strconv_FormatInt_10_small i hi w) h
theorem Vb:Vd Tryz.prog 66 H8:=vt mix M4 NA [(91,HQ)] (gs UH g0) rfl (fun _ _=>rfl) fun O x=>by kernel_rfl
theorem cG:Vd Tryz.prog 34 Ne:=vt mix TI TT [(66,H8)] (gs Vb g0) rfl (fun _ _=>rfl) fun O x=>by kernel_rfl
theorem bv:Vd Tryz.prog 12 GZ:=vt mix S5 To [(29,It),(33,RA),(34,Ne)] (gs Vm (gs iZ (gs cG g0))) rfl (fun _ _=>rfl) fun O x=>by kernel_rfl
theorem jJ:Vd Tryz.prog 92 KL:=vt mix X6 OB [] g0 rfl (fun _ _=>rfl) fun O x=>by kernel_rfl
theorem Rl:Vd Tryz.prog 115 Cd:=vt mix R0 Rw [] g0 rfl (fun _ _=>rfl) fun O x=>by kernel_rfl
theorem Zx:Vd Tryz.prog 93 Fd:=vt mix Rt Ik [(115,Cd)] (gs Rl g0) rfl (fun _ _=>rfl) fun O x=>by kernel_rfl
theorem ck:Vd Tryz.prog 94 Gx:=vt mix TQ Jk [(115,Cd)] (gs Rl g0) rfl (fun _ _=>rfl) fun O x=>by kernel_rfl
theorem Cs:Vd Tryz.prog 70 AX:=vt mix Ux K2 [(92,KL),(93,Fd),(94,Gx)] (gs jJ (gs Zx (gs ck g0))) rfl (fun _ _=>rfl) fun O x=>by kernel_rfl
theorem T4:Vd Tryz.prog 116 C8:=fun N h =>
 N6 mix (T:=37) (e:=151) (b:=24) Tryz.func116 Tryz.underlying37 (by kernel_rfl) (by decide) (fun O l=>by kernel_rfl) (fun O l=>by kernel_rfl) h
theorem Uz:Vd Tryz.prog 95 DC:=vt mix U2 K0 [(116,C8)] (gs T4 g0) rfl (fun _ _=>rfl) fun O x=>by kernel_rfl
theorem jK:Vd Tryz.prog 72 OE:=vt mix Xx OA [(70,AX),(95,DC)] (gs Cs (gs Uz g0)) rfl (fun _ _=>rfl) fun O x=>by kernel_rfl
theorem D8:Vd Tryz.prog 164 Al:=vt mix Pe PN [] g0 rfl (fun _ _=>rfl) fun O x=>by kernel_rfl
theorem XR:Vd Tryz.prog 165 EG:=vt mix Pd GL [(164,Al)] (gs D8 g0) rfl (fun _ _=>rfl) fun O x=>by kernel_rfl
theorem Vz:Vd Tryz.prog 206 Dh:=vt mix OP FY [] g0 rfl (fun _ _=>rfl) fun O x=>by kernel_rfl
theorem Gd:Vd Tryz.prog 185 Ar:=vt mix Li Dx [(206,Dh)] (gs Vz g0) rfl (fun _ _=>rfl) fun O x=>by kernel_rfl
theorem VZ:Vd Tryz.prog 166 DL:=vt mix NB E2 [(164,Al),(185,Ar)] (gs D8 (gs Gd g0)) rfl (fun _ _=>rfl) fun O x=>by kernel_rfl
theorem VS:Vd Tryz.prog 186 DP:=vt mix M6 E3 [(164,Al)] (gs D8 g0) rfl (fun _ _=>rfl) fun O x=>by kernel_rfl
theorem XQ:Vd Tryz.prog 167 EA:=vt mix PT GA [(186,DP)] (gs VS g0) rfl (fun _ _=>rfl) fun O x=>by kernel_rfl
theorem MK:Vd Tryz.prog 140 BV:=vt mix SF IV [(70,AX),(164,Al),(165,EG),(166,DL),(167,EA)] (gs Cs (gs D8 (gs XR (gs VZ (gs XQ g0))))) rfl (fun _ _=>rfl) fun O x=>by kernel_rfl
theorem Kj:Vd Tryz.prog 148 BW:=vt mix Uo Km [] g0 rfl (fun _ _=>rfl) fun O x=>by kernel_rfl
theorem VM:Vd Tryz.prog 141 DD:=vt mix Um K7 [(148,BW)] (gs Kj g0) rfl (fun _ _=>rfl) fun O x=>by kernel_rfl
theorem eF:Vd Tryz.prog 142 Hm:=vt mix U7 Kf [] g0 rfl (fun _ _=>rfl) fun O x=>by kernel_rfl
theorem Uv:Vd Tryz.prog 117 DB:=vt mix VO Ko [(70,AX),(140,BV),(141,DD),(142,Hm)] (gs Cs (gs MK (gs VM (gs eF g0)))) rfl (fun _ _=>rfl) fun O x=>by kernel_rfl
theorem bJ:Vd Tryz.prog 143 Gn:=vt mix Sv Js [] g0 rfl (fun _ _=>rfl) fun O x=>by kernel_rfl
theorem aK:Vd Tryz.prog 144 Fa:=vt mix Rj Mm [] g0 rfl (fun _ _=>rfl) fun O x=>by kernel_rfl
open Go.RowKit Go.Lib in
set_option maxHeartbeats 1000000 in
theorem Pw (s:ByteArray) (c:Int) (w:World):Calls Tryz.prog 187 #[.string s,.int .u8 c] w fun e w'=>e=.returned (.int .i64 (Lib.indexByte s.data.toList c.toNat.toUInt8))∧w'=w:=by
 go_enter Tryz.func187,Tryz.ntmps187
 go_wp2
 rw [run_callFunc_extern Tryz.func207 (by kernel_rfl) (by kernel_rfl) (by kernel_rfl) (e:=Extern.BytealgIndexByte.indexByte) (by kernel_rfl),Lib.run_indexByteString]
 simp only [Result.andThen]
 rw [Oper.upon_value]
 go_wp2
 go_ret
 exact ⟨rfl,rfl⟩
theorem RQ:Vd Tryz.prog 187 CY:=fun N h =>
 iz Tryz.func187 (T9:=9) (T5:=5) (T3:=3) rfl rfl Tryz.underlying9 Tryz.underlying5 Tryz.underlying3 (by kernel_rfl) Pw h
theorem VQ:Vd Tryz.prog 168 DN:=vt mix M7 E8 [(187,CY)] (gs RQ g0) rfl (fun _ _=>rfl) fun O x=>by kernel_rfl
theorem dr:Vd Tryz.prog 169 FJ:=vt mix VG U5 [] g0 rfl (fun _ _=>rfl) fun O x=>by kernel_rfl
theorem gp:Vd Tryz.prog 145 Iv:=vt mix V9 Mb [(168,DN),(169,FJ)] (gs VQ (gs dr g0)) rfl (fun _ _=>rfl) fun O x=>by kernel_rfl
theorem Wm:Vd Tryz.prog 170 Dj:=vt mix Od Iy [] g0 rfl (fun _ _=>rfl) fun O x=>by kernel_rfl
theorem YM:Vd Tryz.prog 146 Et:=vt mix Qu HH [(170,Dj)] (gs Wm g0) rfl (fun _ _=>rfl) fun O x=>by kernel_rfl
theorem U6:Vd Tryz.prog 118 DA:=vt mix VC Hp [(143,Gn),(144,Fa),(145,Iv),(146,Et)] (gs bJ (gs aK (gs gp (gs YM g0)))) rfl (fun _ _=>rfl) fun O x=>by kernel_rfl
theorem Dt:Vd Tryz.prog 171 Aa:=fun N h =>
 N6 mix (T:=139) (e:=203) (b:=1) Tryz.func171 Tryz.underlying139 (by kernel_rfl) (by decide) (fun O l=>by kernel_rfl) (fun O l=>by kernel_rfl) h
theorem FX:Vd Tryz.prog 172 Ae:=fun N h =>
 N6 mix (T:=79) (e:=3) (b:=8) Tryz.func172 Tryz.underlying79 (by kernel_rfl) (by decide) (fun O l=>by kernel_rfl) (fun O l=>by kernel_rfl) h
theorem E7:Vd Tryz.prog 173 Ac:=fun N h =>
 N6 mix (T:=140) (e:=4) (b:=1) Tryz.func173 Tryz.underlying140 (by kernel_rfl) (by decide) (fun O l=>by kernel_rfl) (fun O l=>by kernel_rfl) h
theorem Ce:Vd Tryz.prog 147 AQ:=vt mix Rs IL [(171,Aa),(172,Ae),(173,Ac)] (gs Dt (gs FX (gs E7 g0))) rfl (fun _ _=>rfl) fun O x=>by kernel_rfl
theorem dp:Vd Tryz.prog 119 Hj:=vt mix VD Ki [(95,DC),(147,AQ)] (gs Uz (gs Ce g0)) rfl (fun _ _=>rfl) fun O x=>by kernel_rfl
theorem Oy:Vd Tryz.prog 152 B2:=vt mix VL Ky [] g0 rfl (fun _ _=>rfl) fun O x=>by kernel_rfl
theorem OK:Vd Tryz.prog 177 Bs:=vt mix OI Fm [] g0 rfl (fun _ _=>rfl) fun O x=>by kernel_rfl
theorem aA:Vd Tryz.prog 153 FR:=vt mix Rv IW [(117,DB),(148,BW),(152,B2),(177,Bs)] (gs Uv (gs Kj (gs Oy (gs OK g0)))) rfl (fun _ _=>rfl) fun O x=>by kernel_rfl
theorem aD:Vd Tryz.prog 174 Fg:=vt mix SD IQ [(70,AX),(164,Al)] (gs Cs (gs D8 g0)) rfl (fun _ _=>rfl) fun O x=>by kernel_rfl
theorem bB:Vd Tryz.prog 175 GN:=vt mix Tl Jp [(148,BW),(152,B2)] (gs Kj (gs Oy g0)) rfl (fun _ _=>rfl) fun O x=>by kernel_rfl
theorem Xa:Vd Tryz.prog 209 EJ:=vt mix PM J8 [] g0 rfl (fun _ _=>rfl) fun O x=>by kernel_rfl
theorem Zi:Vd Tryz.prog 188 Fo:=vt mix SL Id [(209,EJ)] (gs Xa g0) rfl (fun _ _=>rfl) fun O x=>by kernel_rfl
theorem GP:Vd Tryz.prog 240 A4:=vt mix Wb MW [(171,Aa),(172,Ae),(173,Ac)] (gs Dt (gs FX (gs E7 g0))) rfl (fun _ _=>rfl) fun O x=>by kernel_rfl
theorem Yl:Vd Tryz.prog 262 Cu:=vt mix Qd LT [] g0 rfl (fun _ _=>rfl) fun O x=>by kernel_rfl
theorem Tk:Vd Tryz.prog 241 B8:=vt mix Th Ef [(262,Cu)] (gs Yl g0) rfl (fun _ _=>rfl) fun O x=>by kernel_rfl
theorem GT:Vd Tryz.prog 242 A3:=vt mix TD JZ [] g0 rfl (fun _ _=>rfl) fun O x=>by kernel_rfl
theorem eP:Vd Tryz.prog 210 Hu:=vt mix VP Kx [(240,A4),(241,B8),(242,A3)] (gs GP (gs Tk (gs GT g0))) rfl (fun _ _=>rfl) fun O x=>by kernel_rfl
theorem SV:Vd Tryz.prog 243 Ci:=vt mix YA Ny [(171,Aa),(172,Ae),(173,Ac)] (gs Dt (gs FX (gs E7 g0))) rfl (fun _ _=>rfl) fun O x=>by kernel_rfl
theorem O7:Vd Tryz.prog 263 B1:=vt mix VJ Kq [] g0 rfl (fun _ _=>rfl) fun O x=>by kernel_rfl
theorem fN:Vd Tryz.prog 264 JJ:=vt mix W1 Mp [(70,AX),(263,B1)] (gs Cs (gs O7 g0)) rfl (fun _ _=>rfl) fun O x=>by kernel_rfl
theorem jN:Vd Tryz.prog 244 KV:=vt mix Xp N5 [(70,AX),(185,Ar),(263,B1),(264,JJ)] (gs Cs (gs Gd (gs O7 (gs fN g0)))) rfl (fun _ _=>rfl) fun O x=>by kernel_rfl
theorem fF:Vd Tryz.prog 211 JE:=vt mix W2 MR [(243,Ci),(244,KV)] (gs SV (gs jN g0)) rfl (fun _ _=>rfl) fun O x=>by kernel_rfl
theorem Ve:Vd Tryz.prog 110 DJ:=vt mix M8 E5 [] g0 rfl (fun _ _=>rfl) fun O x=>by kernel_rfl
theorem Q9:Vd Tryz.prog 86 CP:=vt mix QS HI [(110,DJ)] (gs Ve g0) rfl (fun _ _=>rfl) fun O x=>by kernel_rfl
theorem Vg:Vd Tryz.prog 87 DS:=vt mix M5 FA [] g0 rfl (fun _ _=>rfl) fun O x=>by kernel_rfl
theorem GD:Vd Tryz.prog 52 A0:=vt mix PW F8 [(86,CP),(87,DS)] (gs Q9 (gs Vg g0)) rfl (fun _ _=>rfl) fun O x=>by kernel_rfl
theorem Qf:Vd Tryz.prog 53 CR:=vt mix Q0 Qy [] g0 rfl (fun _ _=>rfl) fun O x=>by kernel_rfl
theorem L1:Vd Tryz.prog 224 BS:=vt mix SE Dy [(241,B8)] (gs Tk g0) rfl (fun _ _=>rfl) fun O x=>by kernel_rfl
theorem Hs:Vd Tryz.prog 252 A8:=vt mix VH Kn [] g0 rfl (fun _ _=>rfl) fun O x=>by kernel_rfl
theorem HD:Vd Tryz.prog 253 A5:=vt mix RH HJ [(252,A8)] (gs Hs g0) rfl (fun _ _=>rfl) fun O x=>by kernel_rfl
theorem aZ:Vd Tryz.prog 268 Fh:=vt mix Rm IP [] g0 rfl (fun _ _=>rfl) fun O x=>by kernel_rfl
theorem eI:Vd Tryz.prog 265 Hg:=vt mix U0 K6 [(252,A8),(253,A5),(268,Fh)] (gs Hs (gs HD (gs aZ g0))) rfl (fun _ _=>rfl) fun O x=>by kernel_rfl
theorem PL:Vd Tryz.prog 273 Bk:=vt mix Pg PR [] g0 rfl (fun _ _=>rfl) fun O x=>by kernel_rfl
theorem cK:Vd Tryz.prog 269 GU:=vt mix Sr JR [(273,Bk)] (gs PL g0) rfl (fun _ _=>rfl) fun O x=>by kernel_rfl
theorem WQ:Vd Tryz.prog 274 De:=vt mix OZ Ff [] g0 rfl (fun _ _=>rfl) fun O x=>by kernel_rfl
theorem TA:Vd Tryz.prog 270 Cx:=vt mix Lp D1 [(274,De)] (gs WQ g0) rfl (fun _ _=>rfl) fun O x=>by kernel_rfl
theorem Wc:Vd Tryz.prog 275 Dg:=vt mix Ol FW [] g0 rfl (fun _ _=>rfl) fun O x=>by kernel_rfl
theorem Ym:Vd Tryz.prog 271 Eh:=vt mix Qo HR [(273,Bk),(275,Dg)] (gs PL (gs Wc g0)) rfl (fun _ _=>rfl) fun O x=>by kernel_rfl
theorem SP:Vd Tryz.prog 276 Cj:=vt mix KF DZ [] g0 rfl (fun _ _=>rfl) fun O x=>by kernel_rfl
theorem UK:Vd Tryz.prog 272 C4:=vt mix MD ER [(276,Cj)] (gs SP g0) rfl (fun _ _=>rfl) fun O x=>by kernel_rfl
theorem UU:Vd Tryz.prog 266 C2:=vt mix Mf EV [(269,GU),(270,Cx),(271,Eh),(272,C4)] (gs cK (gs TA (gs Ym (gs UK g0)))) rfl (fun _ _=>rfl) fun O x=>by kernel_rfl
theorem eN:Vd Tryz.prog 267 Hb:=vt mix VF Ke [(252,A8),(253,A5)] (gs Hs (gs HD g0)) rfl (fun _ _=>rfl) fun O x=>by kernel_rfl
theorem Xb:Vd Tryz.prog 245 EM:=vt mix PU GK [(86,CP),(224,BS),(265,Hg),(266,C2),(267,Hb)] (gs Q9 (gs L1 (gs eI (gs UU (gs eN g0))))) rfl (fun _ _=>rfl) fun O x=>by kernel_rfl
theorem ej:Vd Tryz.prog 246 JK:=vt mix WS MT [(240,A4),(242,A3)] (gs GP (gs GT g0)) rfl (fun _ _=>rfl) fun O x=>by kernel_rfl
theorem gw:Vd Tryz.prog 247 JB:=vt mix Wo MP [(70,AX),(185,Ar),(243,Ci),(263,B1)] (gs Cs (gs Gd (gs SV (gs O7 g0)))) rfl (fun _ _=>rfl) fun O x=>by kernel_rfl
theorem aa:Vd Tryz.prog 248 Fk:=vt mix SJ IK [(240,A4)] (gs GP g0) rfl (fun _ _=>rfl) fun O x=>by kernel_rfl
theorem bT:Vd Tryz.prog 212 GX:=vt mix Sy Jf [(52,A0),(53,CR),(147,AQ),(245,EM),(246,JK),(247,JB),(248,Fk)] (gs GD (gs Qf (gs Ce (gs Xb (gs ej (gs gw (gs aa g0))))))) rfl (fun _ _=>rfl) fun O x=>by kernel_rfl
theorem V8:Vd Tryz.prog 249 Dd:=vt mix WT MF [(224,BS),(242,A3)] (gs L1 (gs GT g0)) rfl (fun _ _=>rfl) fun O x=>by kernel_rfl
theorem Yj:Vd Tryz.prog 213 Ek:=vt mix Q1 HK [(240,A4),(242,A3),(249,Dd)] (gs GP (gs GT (gs V8 g0))) rfl (fun _ _=>rfl) fun O x=>by kernel_rfl
theorem br:Vd Tryz.prog 214 GV:=vt mix S8 JS [(240,A4),(249,Dd)] (gs GP (gs V8 g0)) rfl (fun _ _=>rfl) fun O x=>by kernel_rfl
theorem VA:Vd Tryz.prog 225 Ct:=vt mix VI FL [] g0 rfl (fun _ _=>rfl) fun O x=>by kernel_rfl
theorem aN:Vd Tryz.prog 215 Fw:=vt mix Rb Ig [(225,Ct),(240,A4),(242,A3)] (gs VA (gs GP (gs GT g0))) rfl (fun _ _=>rfl) fun O x=>by kernel_rfl
theorem Sc:Vd Tryz.prog 251 Ck:=vt mix X5 OG [(171,Aa),(172,Ae),(173,Ac)] (gs Dt (gs FX (gs E7 g0))) rfl (fun _ _=>rfl) fun O x=>by kernel_rfl
theorem ZW:Vd Tryz.prog 216 Fn:=vt mix Ro IX [(251,Ck)] (gs Sc g0) rfl (fun _ _=>rfl) fun O x=>by kernel_rfl
theorem cj:Vd Tryz.prog 217 Gy:=vt mix Tf Jy [(251,Ck),(252,A8),(253,A5)] (gs Sc (gs Hs (gs HD g0))) rfl (fun _ _=>rfl) fun O x=>by kernel_rfl
theorem WP:Vd Tryz.prog 218 Dp:=vt mix Oj Fu [(251,Ck),(252,A8),(253,A5)] (gs Sc (gs Hs (gs HD g0))) rfl (fun _ _=>rfl) fun O x=>by kernel_rfl
theorem ao:Vd Tryz.prog 219 Fq:=vt mix Rh Ih [(70,AX),(243,Ci)] (gs Cs (gs SV g0)) rfl (fun _ _=>rfl) fun O x=>by kernel_rfl
theorem XX:Vd Tryz.prog 220 EF:=vt mix Pf GH [(147,AQ)] (gs Ce g0) rfl (fun _ _=>rfl) fun O x=>by kernel_rfl
theorem PZ:Vd Tryz.prog 191 CB:=vt mix PP GC [(147,AQ)] (gs Ce g0) rfl (fun _ _=>rfl) fun O x=>by kernel_rfl
theorem XS:Vd Tryz.prog 221 D9:=vt mix PY GJ [(147,AQ),(191,CB)] (gs Ce (gs PZ g0)) rfl (fun _ _=>rfl) fun O x=>by kernel_rfl
theorem Yv:Vd Tryz.prog 222 Ey:=vt mix Qh Eo [(147,AQ)] (gs Ce g0) rfl (fun _ _=>rfl) fun O x=>by kernel_rfl
theorem Zp:Vd Tryz.prog 254 FV:=vt mix Ru Rp [] g0 rfl (fun _ _=>rfl) fun O x=>by kernel_rfl
theorem Y6:Vd Tryz.prog 223 Ez:=vt mix Qx HV [(147,AQ),(254,FV)] (gs Ce (gs Zp g0)) rfl (fun _ _=>rfl) fun O x=>by kernel_rfl
theorem XP:Vd Tryz.prog 189 ED:=vt mix PS EH [(210,Hu),(211,JE),(212,GX),(213,Ek),(214,GV),(215,Fw),(216,Fn),(217,Gy),(218,Dp),(219,Fq),(220,EF),(221,D9),(222,Ey),(223,Ez)] (gs eP (gs fF (gs bT (gs Yj (gs br (gs aN (gs ZW (gs cj (gs WP (gs ao (gs XX (gs XS (gs Yv (gs Y6 g0)))))))))))))) rfl (fun _ _=>rfl) fun O x=>by kernel_rfl
theorem ZC:Vd Tryz.prog 190 DV:=vt mix QP HW [(140,BV),(224,BS),(225,Ct)] (gs MK (gs L1 (gs VA g0))) rfl (fun _ _=>rfl) fun O x=>by kernel_rfl
theorem cF:Vd Tryz.prog 176 GO:=vt mix S9 Jl [(118,DA),(140,BV),(147,AQ),(188,Fo),(189,ED),(190,DV)] (gs U6 (gs MK (gs Ce (gs Zi (gs XP (gs ZC g0)))))) rfl (fun _ _=>rfl) fun O x=>by kernel_rfl
theorem iQ:Vd Tryz.prog 96 MN:=vt mix V5 MZ [(117,DB),(118,DA),(119,Hj),(141,DD),(148,BW),(152,B2),(153,FR),(174,Fg),(175,GN),(176,GO),(177,Bs),(191,CB)] (gs Uv (gs U6 (gs dp (gs VM (gs Kj (gs Oy (gs aA (gs aD (gs bB (gs cF (gs OK (gs PZ g0)))))))))))) rfl (fun _ _=>rfl) fun O x=>by kernel_rfl
def Zg:Cfg:={ gam:=[⟨96,[],true,true,[],[]⟩],imm:=false,old:=false }
theorem jX (O:Alg) (x:Ags O):XF (O:=O) Tryz.prog Zg (CI.ow ⟨73,[],false,false,[],[]⟩) false [] 73 [] (xr x T1 0)=MO O x:=by kernel_rfl
theorem ki {E:Env} {M:Nat} (N:Nat) (h:∀ ls,E 73 [] ls=Mn N ls):VV Tryz.prog E M ⟨73,[],false,false,[],[]⟩ :=
 G7 mix (E:=Gw N) (N:=N) (cfg:=Zg) (ci:=⟨73,[],false,false,[],[]⟩) (ks:=T1) (CS (iQ N (fun _=>rfl)) Nu) (c:=Mn N) (F:=fun ls=>MO (std (Gw N) N) (xOf ls)) (fun ls=>rfl) (fun ls=>jX (std (Gw N) N) (xOf ls)) h
theorem ZR:Vd Tryz.prog 74 Ia:=vt mix SN IZ [(52,A0)] (gs GD g0) rfl (fun _ _=>rfl) fun O x=>by kernel_rfl
def ax:Cfg:={ gam:=[⟨72,[],true,true,[],[]⟩,⟨73,[],false,false,[],[]⟩,⟨74,[],true,true,[],[]⟩],imm:=false,old:=true,ie:=[26,151,58,50,68,3,87,142,203,4,5,185,199,93,54,244] }
theorem jM (O:Alg) (x:Ags O):XF (O:=O) Tryz.prog ax (CI.ow ⟨39,[],true,false,[],[26,151,58,50,68,3,87,142,203,4,5,185,199,93,54,244]⟩) false [] 39 [] (xr x Uh 0)=MG O x:=by kernel_rfl
theorem Zk {E:Env} {M:Nat} (N:Nat) (h:∀ ls,E 39 [] ls=HB N ls):VV Tryz.prog E M ⟨39,[],true,false,[],[26,151,58,50,68,3,87,142,203,4,5,185,199,93,54,244]⟩ :=
 G7 mix (E:=Dn N) (N:=N) (cfg:=ax) (ci:=⟨39,[],true,false,[],[26,151,58,50,68,3,87,142,203,4,5,185,199,93,54,244]⟩) (ks:=Uh) (CS (jK N (fun _=>rfl)) (CS (ki N (fun _=>rfl)) (CS (ZR N (fun _=>rfl)) Nu))) (c:=HB N) (F:=fun ls=>MG (std (Dn N) N) (xOf ls)) (fun ls=>rfl) (fun ls=>jM (std (Dn N) N) (xOf ls)) h
def WK:Cfg:={ gam:=[⟨39,[],true,false,[],[26,151,58,50,68,3,87,142,203,4,5,185,199,93,54,244]⟩],imm:=false,old:=false }
theorem eD (O:Alg) (x:Ags O):XF (O:=O) Tryz.prog WK (CI.ow ⟨71,[],false,false,[],[]⟩) false [] 71 [] (xr x QL 0)=JC O x:=by kernel_rfl
theorem iH {E:Env} {M:Nat} (N:Nat) (h:∀ ls,E 71 [] ls=JF N ls):VV Tryz.prog E M ⟨71,[],false,false,[],[]⟩ :=
 G7 mix (E:=Ec N) (N:=N) (cfg:=WK) (ci:=⟨71,[],false,false,[],[]⟩) (ks:=QL) (CS (Zk N (fun _=>rfl)) Nu) (c:=JF N) (F:=fun ls=>JC (std (Ec N) N) (xOf ls)) (fun ls=>rfl) (fun ls=>eD (std (Ec N) N) (xOf ls)) h
def Xr:Cfg:={ gam:=[⟨70,[],true,true,[],[]⟩,⟨71,[],false,false,[],[]⟩],imm:=false,old:=false }
theorem iR (O:Alg) (x:Ags O):XF (O:=O) Tryz.prog Xr (CI.ow ⟨37,[],true,true,[],[]⟩) true [] 37 [] (xr x ST 0)=Kb O x:=by kernel_rfl
theorem Sk:Vd Tryz.prog 37 Cm:=fun N h =>
 G7 mix (E:=D5 N) (N:=N) (cfg:=Xr) (ci:=⟨37,[],true,true,[],[]⟩) (ks:=ST) (CS (Cs N (fun _=>rfl)) (CS (iH N (fun _=>rfl)) Nu)) (c:=Cm N) (F:=fun ls=>Kb (std (D5 N) N) (xOf ls)) (fun ls=>rfl) (fun ls=>iR (std (D5 N) N) (xOf ls)) h
theorem JT:Vd Tryz.prog 38 BR:=vt mix Tn Jg [] g0 rfl (fun _ _=>rfl) fun O x=>by kernel_rfl
theorem YX:Vd Tryz.prog 44 HC:=vt mix Q7 HN [] g0 rfl (fun _ _=>rfl) fun O x=>by kernel_rfl
def PK:Cfg:={ gam:=[⟨37,[],true,true,[],[]⟩,⟨38,[],true,true,[],[]⟩,⟨39,[],true,false,[],[26,151,58,50,68,3,87,142,203,4,5,185,199,93,54,244]⟩,⟨44,[],true,true,[],[]⟩],imm:=false,old:=false,ie:=[60001] }
theorem WU (O:Alg) (x:Ags O):XF (O:=O) Tryz.prog PK (CI.ow ⟨19,[],true,true,[],[]⟩) true [] 19 [] (xr x J5 0)=EO O x:=by kernel_rfl
theorem PX:Vd Tryz.prog 19 Bj:=fun N h =>
 G7 mix (E:=Ba N) (N:=N) (cfg:=PK) (ci:=⟨19,[],true,true,[],[]⟩) (ks:=J5) (CS (Sk N (fun _=>rfl)) (CS (JT N (fun _=>rfl)) (CS (Zk N (fun _=>rfl)) (CS (YX N (fun _=>rfl)) Nu)))) (c:=Bj N) (F:=fun ls=>EO (std (Ba N) N) (xOf ls)) (fun ls=>rfl) (fun ls=>WU (std (Ba N) N) (xOf ls)) h
theorem jO:Vd Tryz.prog 27 KU:=vt mix YC Xl [] g0 rfl (fun _ _=>rfl) fun O x=>by kernel_rfl
theorem jB:Vd Tryz.prog 55 Sf:=vt mix Xj YG [] g0 rfl (fun _ _=>rfl) fun O x=>by kernel_rfl
theorem lh:Vd Tryz.prog 28 OW:=vt mix de dj [(55,Sf)] (gs jB g0) rfl (fun _ _=>rfl) fun O x=>by kernel_rfl
theorem ij:Vd Tryz.prog 8 KE:=vt mix YB OD [(10,EI),(12,GZ),(19,Bj),(27,KU),(28,OW)] (gs XU (gs bv (gs PX (gs jO (gs lh g0))))) rfl (fun _ _=>rfl) fun O x=>by kernel_rfl
theorem ZG:Vd Tryz.prog 16 Ii:=vt mix SK IM [] g0 rfl (fun _ _=>rfl) fun O x=>by kernel_rfl
def dA:Cfg:={ gam:=[],imm:=false,old:=false }
theorem lP (O:Alg) (x:Ags O):XF (O:=O) Tryz.prog dA (CI.ow ⟨18,[],false,false,[],[]⟩) false [] 18 [] (xr x Wk 0)=Oe O x:=by kernel_rfl
theorem mj {E:Env} {M:Nat} (N:Nat) (h:∀ ls,E 18 [] ls=Ok N ls):VV Tryz.prog E M ⟨18,[],false,false,[],[]⟩ :=
 G7 mix (E:=Kd N) (N:=N) (cfg:=dA) (ci:=⟨18,[],false,false,[],[]⟩) (ks:=Wk) Nu (c:=Ok N) (F:=fun ls=>Oe (std (Kd N) N) (xOf ls)) (fun ls=>rfl) (fun ls=>lP (std (Kd N) N) (xOf ls)) h
theorem eM:Vd Tryz.prog 79 Ht:=vt mix Ur Ks [] g0 rfl (fun _ _=>rfl) fun O x=>by kernel_rfl
theorem dn:Vd Tryz.prog 47 He:=vt mix U8 K5 [(38,BR),(79,Ht)] (gs JT (gs eM g0)) rfl (fun _ _=>rfl) fun O x=>by kernel_rfl
theorem jD:Vd Tryz.prog 51 KI:=vt mix Xv N7 [] g0 rfl (fun _ _=>rfl) fun O x=>by kernel_rfl
theorem ip:Vd Tryz.prog 54 Hw:=vt mix YL N8 [] g0 rfl (fun _ _=>rfl) fun O x=>by kernel_rfl
theorem bq:Vd Tryz.prog 25 Jw:=vt mix Tr Jb [(37,Cm),(38,BR),(47,He),(51,KI),(52,A0),(53,CR),(54,Hw)] (gs Sk (gs JT (gs dn (gs jD (gs GD (gs Qf (gs ip g0))))))) rfl (fun _ _=>rfl) fun O x=>by kernel_rfl
theorem ZU:Vd Tryz.prog 26 IY:=vt mix Ra IU [(37,Cm),(38,BR),(52,A0)] (gs Sk (gs JT (gs GD g0))) rfl (fun _ _=>rfl) fun O x=>by kernel_rfl
def ND:Cfg:={ gam:=[⟨8,[],true,true,[],[]⟩,⟨16,[],true,true,[],[]⟩,⟨18,[],false,false,[],[]⟩,⟨19,[],true,true,[],[]⟩,⟨25,[],true,true,[],[]⟩,⟨26,[],true,true,[],[]⟩],imm:=false,old:=false }
theorem Ts (O:Alg) (x:Ags O):XF (O:=O) Tryz.prog ND (CI.ow ⟨7,[],true,true,[],[]⟩) true [] 7 [] (xr x IA 0)=DQ O x:=by kernel_rfl
theorem Vh:Vd Tryz.prog 7 DU:=fun N h =>
 G7 mix (E:=A1 N) (N:=N) (cfg:=ND) (ci:=⟨7,[],true,true,[],[]⟩) (ks:=IA) (CS (ij N (fun _=>rfl)) (CS (ZG N (fun _=>rfl)) (CS (mj N (fun _=>rfl)) (CS (PX N (fun _=>rfl)) (CS (bq N (fun _=>rfl)) (CS (ZU N (fun _=>rfl)) Nu)))))) (c:=DU N) (F:=fun ls=>DQ (std (A1 N) N) (xOf ls)) (fun ls=>rfl) (fun ls=>Ts (std (A1 N) N) (xOf ls)) h
end Go.Px
