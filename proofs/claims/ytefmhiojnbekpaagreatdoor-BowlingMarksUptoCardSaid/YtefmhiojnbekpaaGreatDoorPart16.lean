/- Part 16. -/
import Derived.Test.YtefmhiojnbekpaaGreatDoorPart08
import Derived.Test.YtefmhiojnbekpaaGreatDoorProg
import Derived.Test.YtefmhiojnbekpaaGreatDoorPart09
import Derived.KernelRfl
import Derived.WalkKit
import Derived.Lib.Walk
import Derived.BigCall
import Derived.BigGuard
import Derived.Test.YtefmhiojnbekpaaGreatDoorPart15
set_option linter.unusedVariables false
set_option linter.unusedSimpArgs false
namespace Go.Px
open Go.Proofs
set_option maxRecDepth 100000
theorem mix:Tryz.prog.follows .mixedOrders=true:=by kernel_rfl
theorem bG:Vd Tryz.prog 57 Mz:=vt mix S7 TC [] g0 rfl (fun _ _=>rfl) fun O x=>by kernel_rfl
theorem Vx:Vd Tryz.prog 29 Iy:=vt mix Wn Wm [(57,Mz)] (gs bG g0) rfl (fun _ _=>rfl) fun O x=>by kernel_rfl
theorem WH:Vd Tryz.prog 59 Ig:=vt mix Wf Vh [] g0 rfl (fun _ _=>rfl) fun O x=>by kernel_rfl
theorem jN:Vd Tryz.prog 58 SI:=vt mix Xy Xb [(59,Ig)] (gs WH g0) rfl (fun _ _=>rfl) fun O x=>by kernel_rfl
theorem gj:Vd Tryz.prog 30 QR:=vt mix VW WB [(58,SI),(59,Ig)] (gs jN (gs WH g0)) rfl (fun _ _=>rfl) fun O x=>by kernel_rfl
theorem XM:Vd Tryz.prog 10 EF:=vt mix Ov O6 [(29,Iy),(30,QR)] (gs Vx (gs gj g0)) rfl (fun _ _=>rfl) fun O x=>by kernel_rfl
theorem L9:Vd Tryz.prog 63 Cr:=vt mix Ra Rl [] g0 rfl (fun _ _=>rfl) fun O x=>by kernel_rfl
theorem Uv:Vd Tryz.prog 62 Hb:=vt mix Ul Ux [(63,Cr)] (gs L9 g0) rfl (fun _ _=>rfl) fun O x=>by kernel_rfl
theorem lc:Vd Tryz.prog 64 TU:=vt mix Zb Zv [(62,Hb),(63,Cr)] (gs Uv (gs L9 g0)) rfl (fun _ _=>rfl) fun O x=>by kernel_rfl
theorem ZG:Vd Tryz.prog 90 MA:=fun N h =>
 kD Tryz.func90 (T3:=3) (T9:=9) rfl rfl Tryz.underlying3 Tryz.underlying9 (by kernel_rfl) (fun i hi w=>Tryz.internal_strconv_Itoa_small i hi w) h
theorem bv:Vd Tryz.prog 65 M0:=vt mix Sz TB [(90,MA)] (gs ZG g0) rfl (fun _ _=>rfl) fun O x=>by kernel_rfl
theorem gJ:Vd Tryz.prog 33 QS:=vt mix VN Vy [(62,Hb),(63,Cr),(64,TU),(65,M0)] (gs Uv (gs L9 (gs lc (gs bv g0)))) rfl (fun _ _=>rfl) fun O x=>by kernel_rfl
theorem Tu:Vd Tryz.prog 91 HA:=fun N h =>
 lg Tryz.func91 (T2:=2) (T3:=3) (T9:=9) rfl rfl Tryz.underlying2 Tryz.underlying3 Tryz.underlying9 (by kernel_rfl) (fun i hi w=>Tryz.internal_strconv_FormatInt_10_small i hi w) h
theorem U3:Vd Tryz.prog 66 Hy:=vt mix Mi Mg [(91,HA)] (gs Tu g0) rfl (fun _ _=>rfl) fun O x=>by kernel_rfl
theorem br:Vd Tryz.prog 34 NW:=vt mix Ss SY [(66,Hy)] (gs U3 g0) rfl (fun _ _=>rfl) fun O x=>by kernel_rfl
theorem cN:Vd Tryz.prog 12 GM:=vt mix SS S0 [(29,Iy),(33,QS),(34,NW)] (gs Vx (gs gJ (gs br g0))) rfl (fun _ _=>rfl) fun O x=>by kernel_rfl
theorem jC:Vd Tryz.prog 92 J5:=vt mix Xu Nj [] g0 rfl (fun _ _=>rfl) fun O x=>by kernel_rfl
theorem Q2:Vd Tryz.prog 115 CR:=vt mix Ro Rd [] g0 rfl (fun _ _=>rfl) fun O x=>by kernel_rfl
theorem ZE:Vd Tryz.prog 93 Fp:=vt mix Rj II [(115,CR)] (gs Q2 g0) rfl (fun _ _=>rfl) fun O x=>by kernel_rfl
theorem cF:Vd Tryz.prog 94 GG:=vt mix Sn I8 [(115,CR)] (gs Q2 g0) rfl (fun _ _=>rfl) fun O x=>by kernel_rfl
theorem Cg:Vd Tryz.prog 70 AR:=vt mix US Kg [(92,J5),(93,Fp),(94,GG)] (gs jC (gs ZE (gs cF g0))) rfl (fun _ _=>rfl) fun O x=>by kernel_rfl
theorem UO:Vd Tryz.prog 116 Cs:=fun N h =>
 Na mix (T:=37) (e:=151) (b:=24) Tryz.func116 Tryz.underlying37 (by kernel_rfl) (by decide) (fun O l=>by kernel_rfl) (fun O l=>by kernel_rfl) h
theorem UT:Vd Tryz.prog 95 C5:=vt mix Uu KR [(116,Cs)] (gs UO g0) rfl (fun _ _=>rfl) fun O x=>by kernel_rfl
theorem jF:Vd Tryz.prog 72 NZ:=vt mix YB Ni [(70,AR),(95,C5)] (gs Cg (gs UT g0)) rfl (fun _ _=>rfl) fun O x=>by kernel_rfl
theorem D6:Vd Tryz.prog 164 Ak:=vt mix Oz Ow [] g0 rfl (fun _ _=>rfl) fun O x=>by kernel_rfl
theorem XJ:Vd Tryz.prog 165 EI:=vt mix O1 F9 [(164,Ak)] (gs D6 g0) rfl (fun _ _=>rfl) fun O x=>by kernel_rfl
theorem Wk:Vd Tryz.prog 206 DW:=vt mix Np FG [] g0 rfl (fun _ _=>rfl) fun O x=>by kernel_rfl
theorem Gd:Vd Tryz.prog 185 Ap:=vt mix LB Dt [(206,DW)] (gs Wk g0) rfl (fun _ _=>rfl) fun O x=>by kernel_rfl
theorem U4:Vd Tryz.prog 166 DC:=vt mix Mm E0 [(164,Ak),(185,Ap)] (gs D6 (gs Gd g0)) rfl (fun _ _=>rfl) fun O x=>by kernel_rfl
theorem U7:Vd Tryz.prog 186 DH:=vt mix Mp Ez [(164,Ak)] (gs D6 g0) rfl (fun _ _=>rfl) fun O x=>by kernel_rfl
theorem XO:Vd Tryz.prog 167 D7:=vt mix O7 F6 [(186,DH)] (gs U7 g0) rfl (fun _ _=>rfl) fun O x=>by kernel_rfl
theorem Lh:Vd Tryz.prog 140 BH:=vt mix RT H4 [(70,AR),(164,Ak),(165,EI),(166,DC),(167,D7)] (gs Cg (gs D6 (gs XJ (gs U4 (gs XO g0))))) rfl (fun _ _=>rfl) fun O x=>by kernel_rfl
theorem KQ:Vd Tryz.prog 148 BJ:=vt mix Uk KV [] g0 rfl (fun _ _=>rfl) fun O x=>by kernel_rfl
theorem UW:Vd Tryz.prog 141 C3:=vt mix U1 KP [(148,BJ)] (gs KQ g0) rfl (fun _ _=>rfl) fun O x=>by kernel_rfl
theorem dv:Vd Tryz.prog 142 HV:=vt mix Uj Kd [] g0 rfl (fun _ _=>rfl) fun O x=>by kernel_rfl
theorem Uy:Vd Tryz.prog 117 C2:=vt mix Ua Kk [(70,AR),(140,BH),(141,C3),(142,HV)] (gs Cg (gs Lh (gs UW (gs dv g0)))) rfl (fun _ _=>rfl) fun O x=>by kernel_rfl
theorem bW:Vd Tryz.prog 143 GU:=vt mix Sl JO [] g0 rfl (fun _ _=>rfl) fun O x=>by kernel_rfl
theorem aQ:Vd Tryz.prog 144 FJ:=vt mix Q9 Lz [] g0 rfl (fun _ _=>rfl) fun O x=>by kernel_rfl
open Go.RowKit Go.Lib in
set_option maxHeartbeats 1000000 in
theorem Pf (s:ByteArray) (c:Int) (w:World):Calls Tryz.prog 187 #[.string s,.int .u8 c] w fun e w'=>e=.returned (.int .i64 (Lib.indexByte s.data.toList c.toNat.toUInt8))∧w'=w:=by
 go_enter Tryz.func187,Tryz.ntmps187
 go_wp2
 rw [run_callFunc_extern Tryz.func207 (by kernel_rfl) (by kernel_rfl) (by kernel_rfl) (e:=Extern.BytealgIndexByte.indexByte) (by kernel_rfl),Lib.run_indexByteString];simp only [Result.andThen];rw [Oper.upon_value]
 go_wp2
 go_ret
 exact ⟨rfl,rfl⟩
theorem Q0:Vd Tryz.prog 187 CL:=fun N h =>
 jD Tryz.func187 (T9:=9) (T5:=5) (T3:=3) rfl rfl Tryz.underlying9 Tryz.underlying5 Tryz.underlying3 (by kernel_rfl) Pf h
theorem VA:Vd Tryz.prog 168 DD:=vt mix Mk E1 [(187,CL)] (gs Q0 g0) rfl (fun _ _=>rfl) fun O x=>by kernel_rfl
theorem eB:Vd Tryz.prog 169 FE:=vt mix Ud Uo [] g0 rfl (fun _ _=>rfl) fun O x=>by kernel_rfl
theorem iQ:Vd Tryz.prog 145 Ic:=vt mix WK MW [(168,DD),(169,FE)] (gs VA (gs eB g0)) rfl (fun _ _=>rfl) fun O x=>by kernel_rfl
theorem Vf:Vd Tryz.prog 170 Df:=vt mix N9 Im [] g0 rfl (fun _ _=>rfl) fun O x=>by kernel_rfl
theorem Yj:Vd Tryz.prog 146 Ee:=vt mix QK HG [(170,Df)] (gs Vf g0) rfl (fun _ _=>rfl) fun O x=>by kernel_rfl
theorem Uc:Vd Tryz.prog 118 C4:=vt mix Us HK [(143,GU),(144,FJ),(145,Ic),(146,Ee)] (gs bW (gs aQ (gs iQ (gs Yj g0)))) rfl (fun _ _=>rfl) fun O x=>by kernel_rfl
theorem Dq:Vd Tryz.prog 171 AW:=fun N h =>
 Na mix (T:=139) (e:=203) (b:=1) Tryz.func171 Tryz.underlying139 (by kernel_rfl) (by decide) (fun O l=>by kernel_rfl) (fun O l=>by kernel_rfl) h
theorem FY:Vd Tryz.prog 172 Ac:=fun N h =>
 Na mix (T:=79) (e:=3) (b:=8) Tryz.func172 Tryz.underlying79 (by kernel_rfl) (by decide) (fun O l=>by kernel_rfl) (fun O l=>by kernel_rfl) h
theorem Ew:Vd Tryz.prog 173 AZ:=fun N h =>
 Na mix (T:=140) (e:=4) (b:=1) Tryz.func173 Tryz.underlying140 (by kernel_rfl) (by decide) (fun O l=>by kernel_rfl) (fun O l=>by kernel_rfl) h
theorem CS:Vd Tryz.prog 147 AP:=vt mix RO IK [(171,AW),(172,Ac),(173,AZ)] (gs Dq (gs FY (gs Ew g0))) rfl (fun _ _=>rfl) fun O x=>by kernel_rfl
theorem eC:Vd Tryz.prog 119 Hd:=vt mix UV KS [(95,C5),(147,AP)] (gs UT (gs CS g0)) rfl (fun _ _=>rfl) fun O x=>by kernel_rfl
theorem Oj:Vd Tryz.prog 152 Br:=vt mix Uw Kf [] g0 rfl (fun _ _=>rfl) fun O x=>by kernel_rfl
theorem OB:Vd Tryz.prog 177 Bg:=vt mix Ns Fj [] g0 rfl (fun _ _=>rfl) fun O x=>by kernel_rfl
theorem Zu:Vd Tryz.prog 153 FM:=vt mix RF H5 [(117,C2),(148,BJ),(152,Br),(177,Bg)] (gs Uy (gs KQ (gs Oj (gs OB g0)))) rfl (fun _ _=>rfl) fun O x=>by kernel_rfl
theorem aY:Vd Tryz.prog 174 FL:=vt mix Rs ID [(70,AR),(164,Ak)] (gs Cg (gs D6 g0)) rfl (fun _ _=>rfl) fun O x=>by kernel_rfl
theorem cR:Vd Tryz.prog 175 GF:=vt mix SP Jb [(148,BJ),(152,Br)] (gs KQ (gs Oj g0)) rfl (fun _ _=>rfl) fun O x=>by kernel_rfl
theorem XV:Vd Tryz.prog 209 ED:=vt mix PA Jm [] g0 rfl (fun _ _=>rfl) fun O x=>by kernel_rfl
theorem aG:Vd Tryz.prog 188 FN:=vt mix Q8 H3 [(209,ED)] (gs XV g0) rfl (fun _ _=>rfl) fun O x=>by kernel_rfl
theorem GT:Vd Tryz.prog 240 Av:=vt mix Vs Lk [(171,AW),(172,Ac),(173,AZ)] (gs Dq (gs FY (gs Ew g0))) rfl (fun _ _=>rfl) fun O x=>by kernel_rfl
theorem Y9:Vd Tryz.prog 262 Ci:=vt mix Pw K6 [] g0 rfl (fun _ _=>rfl) fun O x=>by kernel_rfl
theorem S6:Vd Tryz.prog 241 Bv:=vt mix TD EZ [(262,Ci)] (gs Y9 g0) rfl (fun _ _=>rfl) fun O x=>by kernel_rfl
theorem GN:Vd Tryz.prog 242 Aw:=vt mix Se JX [] g0 rfl (fun _ _=>rfl) fun O x=>by kernel_rfl
theorem dr:Vd Tryz.prog 210 HX:=vt mix Ue Kc [(240,Av),(241,Bv),(242,Aw)] (gs GT (gs S6 (gs GN g0))) rfl (fun _ _=>rfl) fun O x=>by kernel_rfl
theorem R5:Vd Tryz.prog 243 CY:=vt mix Xf Nc [(171,AW),(172,Ac),(173,AZ)] (gs Dq (gs FY (gs Ew g0))) rfl (fun _ _=>rfl) fun O x=>by kernel_rfl
theorem OS:Vd Tryz.prog 263 Bs:=vt mix UZ KM [] g0 rfl (fun _ _=>rfl) fun O x=>by kernel_rfl
theorem fq:Vd Tryz.prog 264 IQ:=vt mix WL Le [(70,AR),(263,Bs)] (gs Cg (gs OS g0)) rfl (fun _ _=>rfl) fun O x=>by kernel_rfl
theorem iy:Vd Tryz.prog 244 J6:=vt mix Xm Nd [(70,AR),(185,Ap),(263,Bs),(264,IQ)] (gs Cg (gs Gd (gs OS (gs fq g0)))) rfl (fun _ _=>rfl) fun O x=>by kernel_rfl
theorem gf:Vd Tryz.prog 211 It:=vt mix VQ MR [(243,CY),(244,J6)] (gs R5 (gs iy g0)) rfl (fun _ _=>rfl) fun O x=>by kernel_rfl
theorem VJ:Vd Tryz.prog 110 DI:=vt mix Mn Et [] g0 rfl (fun _ _=>rfl) fun O x=>by kernel_rfl
theorem P2:Vd Tryz.prog 86 CF:=vt mix Qr G8 [(110,DI)] (gs VJ g0) rfl (fun _ _=>rfl) fun O x=>by kernel_rfl
theorem VI:Vd Tryz.prog 87 DE:=vt mix Mo Ey [] g0 rfl (fun _ _=>rfl) fun O x=>by kernel_rfl
theorem Ox:Vd Tryz.prog 52 B0:=vt mix PD GD [(86,CF),(87,DE)] (gs P2 (gs VI g0)) rfl (fun _ _=>rfl) fun O x=>by kernel_rfl
theorem Yy:Vd Tryz.prog 53 Ej:=vt mix P7 Ql [] g0 rfl (fun _ _=>rfl) fun O x=>by kernel_rfl
theorem Ly:Vd Tryz.prog 224 BG:=vt mix Q6 Ds [(241,Bv)] (gs S6 g0) rfl (fun _ _=>rfl) fun O x=>by kernel_rfl
theorem Hg:Vd Tryz.prog 252 A2:=vt mix Un KN [] g0 rfl (fun _ _=>rfl) fun O x=>by kernel_rfl
theorem G2:Vd Tryz.prog 253 Ay:=vt mix Qg G4 [(252,A2)] (gs Hg g0) rfl (fun _ _=>rfl) fun O x=>by kernel_rfl
theorem Zs:Vd Tryz.prog 268 FI:=vt mix Rr IJ [] g0 rfl (fun _ _=>rfl) fun O x=>by kernel_rfl
theorem eK:Vd Tryz.prog 265 HP:=vt mix UX Ka [(252,A2),(253,Ay),(268,FI)] (gs Hg (gs G2 (gs Zs g0))) rfl (fun _ _=>rfl) fun O x=>by kernel_rfl
theorem PE:Vd Tryz.prog 273 Ba:=vt mix Oo O2 [] g0 rfl (fun _ _=>rfl) fun O x=>by kernel_rfl
theorem cH:Vd Tryz.prog 269 GJ:=vt mix TI I9 [(273,Ba)] (gs PE g0) rfl (fun _ _=>rfl) fun O x=>by kernel_rfl
theorem WE:Vd Tryz.prog 274 Db:=vt mix Nx Fb [] g0 rfl (fun _ _=>rfl) fun O x=>by kernel_rfl
theorem TE:Vd Tryz.prog 270 Cm:=vt mix LD Dn [(274,Db)] (gs WE g0) rfl (fun _ _=>rfl) fun O x=>by kernel_rfl
theorem Vm:Vd Tryz.prog 275 Dh:=vt mix OA Fk [] g0 rfl (fun _ _=>rfl) fun O x=>by kernel_rfl
theorem YW:Vd Tryz.prog 271 Em:=vt mix Qn HE [(273,Ba),(275,Dh)] (gs PE (gs Vm g0)) rfl (fun _ _=>rfl) fun O x=>by kernel_rfl
theorem Rx:Vd Tryz.prog 276 CW:=vt mix J7 DS [] g0 rfl (fun _ _=>rfl) fun O x=>by kernel_rfl
theorem TX:Vd Tryz.prog 272 Cu:=vt mix Ls EL [(276,CW)] (gs Rx g0) rfl (fun _ _=>rfl) fun O x=>by kernel_rfl
theorem TL:Vd Tryz.prog 266 Cz:=vt mix L3 EO [(269,GJ),(270,Cm),(271,Em),(272,Cu)] (gs cH (gs TE (gs YW (gs TX g0)))) rfl (fun _ _=>rfl) fun O x=>by kernel_rfl
theorem dq:Vd Tryz.prog 267 Ha:=vt mix Ur KJ [(252,A2),(253,Ay)] (gs Hg (gs G2 g0)) rfl (fun _ _=>rfl) fun O x=>by kernel_rfl
theorem XP:Vd Tryz.prog 245 D9:=vt mix O0 F5 [(86,CF),(224,BG),(265,HP),(266,Cz),(267,Ha)] (gs P2 (gs Ly (gs eK (gs TL (gs dq g0))))) rfl (fun _ _=>rfl) fun O x=>by kernel_rfl
theorem fk:Vd Tryz.prog 246 Ii:=vt mix WP L1 [(240,Av),(242,Aw)] (gs GT (gs GN g0)) rfl (fun _ _=>rfl) fun O x=>by kernel_rfl
theorem fA:Vd Tryz.prog 247 Iw:=vt mix Vo Lr [(70,AR),(185,Ap),(243,CY),(263,Bs)] (gs Cg (gs Gd (gs R5 (gs OS g0)))) rfl (fun _ _=>rfl) fun O x=>by kernel_rfl
theorem aZ:Vd Tryz.prog 248 FU:=vt mix Rk H0 [(240,Av)] (gs GT g0) rfl (fun _ _=>rfl) fun O x=>by kernel_rfl
theorem cE:Vd Tryz.prog 212 GZ:=vt mix Sp JV [(52,B0),(53,Ej),(147,AP),(245,D9),(246,Ii),(247,Iw),(248,FU)] (gs Ox (gs Yy (gs CS (gs XP (gs fk (gs fA (gs aZ g0))))))) rfl (fun _ _=>rfl) fun O x=>by kernel_rfl
theorem V0:Vd Tryz.prog 249 DX:=vt mix V8 L2 [(224,BG),(242,Aw)] (gs Ly (gs GN g0)) rfl (fun _ _=>rfl) fun O x=>by kernel_rfl
theorem Yo:Vd Tryz.prog 213 Eh:=vt mix QL HI [(240,Av),(242,Aw),(249,DX)] (gs GT (gs GN (gs V0 g0))) rfl (fun _ _=>rfl) fun O x=>by kernel_rfl
theorem ay:Vd Tryz.prog 214 GQ:=vt mix Sg Je [(240,Av),(249,DX)] (gs GT (gs V0 g0)) rfl (fun _ _=>rfl) fun O x=>by kernel_rfl
theorem U0:Vd Tryz.prog 225 Ch:=vt mix Uf FC [] g0 rfl (fun _ _=>rfl) fun O x=>by kernel_rfl
theorem ZP:Vd Tryz.prog 215 FH:=vt mix Rh IM [(225,Ch),(240,Av),(242,Aw)] (gs U0 (gs GT (gs GN g0))) rfl (fun _ _=>rfl) fun O x=>by kernel_rfl
theorem R6:Vd Tryz.prog 251 Cb:=vt mix Xr Nm [(171,AW),(172,Ac),(173,AZ)] (gs Dq (gs FY (gs Ew g0))) rfl (fun _ _=>rfl) fun O x=>by kernel_rfl
theorem ZO:Vd Tryz.prog 216 FZ:=vt mix Rt H9 [(251,Cb)] (gs R6 g0) rfl (fun _ _=>rfl) fun O x=>by kernel_rfl
theorem bA:Vd Tryz.prog 217 GY:=vt mix Sf JH [(251,Cb),(252,A2),(253,Ay)] (gs R6 (gs Hg (gs G2 g0))) rfl (fun _ _=>rfl) fun O x=>by kernel_rfl
theorem Vu:Vd Tryz.prog 218 Di:=vt mix N6 FO [(251,Cb),(252,A2),(253,Ay)] (gs R6 (gs Hg (gs G2 g0))) rfl (fun _ _=>rfl) fun O x=>by kernel_rfl
theorem aR:Vd Tryz.prog 219 Fh:=vt mix Rv IB [(70,AR),(243,CY)] (gs Cg (gs R5 g0)) rfl (fun _ _=>rfl) fun O x=>by kernel_rfl
theorem XI:Vd Tryz.prog 220 EG:=vt mix O9 F3 [(147,AP)] (gs CS g0) rfl (fun _ _=>rfl) fun O x=>by kernel_rfl
theorem Oq:Vd Tryz.prog 191 B2:=vt mix PF F4 [(147,AP)] (gs CS g0) rfl (fun _ _=>rfl) fun O x=>by kernel_rfl
theorem XT:Vd Tryz.prog 221 EE:=vt mix Ot GB [(147,AP),(191,B2)] (gs CS (gs Oq g0)) rfl (fun _ _=>rfl) fun O x=>by kernel_rfl
theorem Y3:Vd Tryz.prog 222 Eo:=vt mix P3 Ef [(147,AP)] (gs CS g0) rfl (fun _ _=>rfl) fun O x=>by kernel_rfl
theorem aI:Vd Tryz.prog 254 FQ:=vt mix Re RL [] g0 rfl (fun _ _=>rfl) fun O x=>by kernel_rfl
theorem YZ:Vd Tryz.prog 223 Er:=vt mix Qm G6 [(147,AP),(254,FQ)] (gs CS (gs aI g0)) rfl (fun _ _=>rfl) fun O x=>by kernel_rfl
theorem XQ:Vd Tryz.prog 189 EC:=vt mix O3 EB [(210,HX),(211,It),(212,GZ),(213,Eh),(214,GQ),(215,FH),(216,FZ),(217,GY),(218,Di),(219,Fh),(220,EG),(221,EE),(222,Eo),(223,Er)] (gs dr (gs gf (gs cE (gs Yo (gs ay (gs ZP (gs ZO (gs bA (gs Vu (gs aR (gs XI (gs XT (gs Y3 (gs YZ g0)))))))))))))) rfl (fun _ _=>rfl) fun O x=>by kernel_rfl
theorem Yu:Vd Tryz.prog 190 DL:=vt mix Qa G1 [(140,BH),(224,BG),(225,Ch)] (gs Lh (gs Ly (gs U0 g0))) rfl (fun _ _=>rfl) fun O x=>by kernel_rfl
theorem bN:Vd Tryz.prog 176 Gk:=vt mix Su JC [(118,C4),(140,BH),(147,AP),(188,FN),(189,EC),(190,DL)] (gs Uc (gs Lh (gs CS (gs aG (gs XQ (gs Yu g0)))))) rfl (fun _ _=>rfl) fun O x=>by kernel_rfl
theorem gl:Vd Tryz.prog 96 MN:=vt mix WW L5 [(117,C2),(118,C4),(119,Hd),(141,C3),(148,BJ),(152,Br),(153,FM),(174,FL),(175,GF),(176,Gk),(177,Bg),(191,B2)] (gs Uy (gs Uc (gs eC (gs UW (gs KQ (gs Oj (gs Zu (gs aY (gs cR (gs bN (gs OB (gs Oq g0)))))))))))) rfl (fun _ _=>rfl) fun O x=>by kernel_rfl
def ZV:Cfg:={ gam:=[⟨96,[],true,true,[],[]⟩],imm:=false,old:=false }
theorem iu (O:Alg) (x:Ags O):XF (O:=O) Tryz.prog ZV (CI.ow ⟨73,[],false,false,[],[]⟩) false [] 73 [] (xr x Ta 0)=Ll O x:=by kernel_rfl
theorem lX {E:Env} {M:Nat} (N:Nat) (h:∀ ls,E 73 [] ls=Lo N ls):VV Tryz.prog E M ⟨73,[],false,false,[],[]⟩ :=
 Fc mix (E:=GR N) (N:=N) (cfg:=ZV) (ci:=⟨73,[],false,false,[],[]⟩) (ks:=Ta) (CE (gl N (fun _=>rfl)) LA) (c:=Lo N) (F:=fun ls=>Ll (std (GR N) N) (xOf ls)) (fun ls=>rfl) (fun ls=>iu (std (GR N) N) (xOf ls)) h
theorem ZQ:Vd Tryz.prog 74 H7:=vt mix Rq IL [(52,B0)] (gs Ox g0) rfl (fun _ _=>rfl) fun O x=>by kernel_rfl
def ZA:Cfg:={ gam:=[⟨72,[],true,true,[],[]⟩,⟨73,[],false,false,[],[]⟩,⟨74,[],true,true,[],[]⟩],imm:=false,old:=true,ie:=[26,151,58,50,68,3,87,142,203,4,5,185,199,93,54,244] }
theorem jH (O:Alg) (x:Ags O):XF (O:=O) Tryz.prog ZA (CI.ow ⟨39,[],true,false,[],[26,151,58,50,68,3,87,142,203,4,5,185,199,93,54,244]⟩) false [] 39 [] (xr x T4 0)=MK O x:=by kernel_rfl
theorem UJ {E:Env} {M:Nat} (N:Nat) (h:∀ ls,E 39 [] ls=EM N ls):VV Tryz.prog E M ⟨39,[],true,false,[],[26,151,58,50,68,3,87,142,203,4,5,185,199,93,54,244]⟩ :=
 Fc mix (E:=Dj N) (N:=N) (cfg:=ZA) (ci:=⟨39,[],true,false,[],[26,151,58,50,68,3,87,142,203,4,5,185,199,93,54,244]⟩) (ks:=T4) (CE (jF N (fun _=>rfl)) (CE (lX N (fun _=>rfl)) (CE (ZQ N (fun _=>rfl)) LA))) (c:=EM N) (F:=fun ls=>MK (std (Dj N) N) (xOf ls)) (fun ls=>rfl) (fun ls=>jH (std (Dj N) N) (xOf ls)) h
def VT:Cfg:={ gam:=[⟨39,[],true,false,[],[26,151,58,50,68,3,87,142,203,4,5,185,199,93,54,244]⟩],imm:=false,old:=false }
theorem eA (O:Alg) (x:Ags O):XF (O:=O) Tryz.prog VT (CI.ow ⟨71,[],false,false,[],[]⟩) false [] 71 [] (xr x Qu 0)=Iz O x:=by kernel_rfl
theorem fM {E:Env} {M:Nat} (N:Nat) (h:∀ ls,E 71 [] ls=I6 N ls):VV Tryz.prog E M ⟨71,[],false,false,[],[]⟩ :=
 Fc mix (E:=EY N) (N:=N) (cfg:=VT) (ci:=⟨71,[],false,false,[],[]⟩) (ks:=Qu) (CE (UJ N (fun _=>rfl)) LA) (c:=I6 N) (F:=fun ls=>Iz (std (EY N) N) (xOf ls)) (fun ls=>rfl) (fun ls=>eA (std (EY N) N) (xOf ls)) h
def X8:Cfg:={ gam:=[⟨70,[],true,true,[],[]⟩,⟨71,[],false,false,[],[]⟩],imm:=false,old:=false }
theorem iL (O:Alg) (x:Ags O):XF (O:=O) Tryz.prog X8 (CI.ow ⟨37,[],true,true,[],[]⟩) true [] 37 [] (xr x R0 0)=KC O x:=by kernel_rfl
theorem Xt:Vd Tryz.prog 37 Fx:=fun N h =>
 Fc mix (E:=Dw N) (N:=N) (cfg:=X8) (ci:=⟨37,[],true,true,[],[]⟩) (ks:=R0) (CE (Cg N (fun _=>rfl)) (CE (fM N (fun _=>rfl)) LA)) (c:=Fx N) (F:=fun ls=>KC (std (Dw N) N) (xOf ls)) (fun ls=>rfl) (fun ls=>iL (std (Dw N) N) (xOf ls)) h
theorem Sj:Vd Tryz.prog 38 DM:=vt mix S9 JF [] g0 rfl (fun _ _=>rfl) fun O x=>by kernel_rfl
theorem YM:Vd Tryz.prog 44 Gw:=vt mix Py HB [] g0 rfl (fun _ _=>rfl) fun O x=>by kernel_rfl
def PB:Cfg:={ gam:=[⟨37,[],true,true,[],[]⟩,⟨38,[],true,true,[],[]⟩,⟨39,[],true,false,[],[26,151,58,50,68,3,87,142,203,4,5,185,199,93,54,244]⟩,⟨44,[],true,true,[],[]⟩],imm:=false,old:=false,ie:=[60001] }
theorem V2 (O:Alg) (x:Ags O):XF (O:=O) Tryz.prog PB (CI.ow ⟨19,[],true,true,[],[]⟩) true [] 19 [] (xr x Jq 0)=D8 O x:=by kernel_rfl
theorem XX:Vd Tryz.prog 19 CQ:=fun N h =>
 Fc mix (E:=BN N) (N:=N) (cfg:=PB) (ci:=⟨19,[],true,true,[],[]⟩) (ks:=Jq) (CE (Xt N (fun _=>rfl)) (CE (Sj N (fun _=>rfl)) (CE (UJ N (fun _=>rfl)) (CE (YM N (fun _=>rfl)) LA)))) (c:=CQ N) (F:=fun ls=>D8 (std (BN N) N) (xOf ls)) (fun ls=>rfl) (fun ls=>V2 (std (BN N) N) (xOf ls)) h
theorem jQ:Vd Tryz.prog 27 KE:=vt mix Xc X1 [] g0 rfl (fun _ _=>rfl) fun O x=>by kernel_rfl
theorem jI:Vd Tryz.prog 55 R9:=vt mix X2 Xv [] g0 rfl (fun _ _=>rfl) fun O x=>by kernel_rfl
theorem mt:Vd Tryz.prog 28 N5:=vt mix dQ dL [(55,R9)] (gs jI g0) rfl (fun _ _=>rfl) fun O x=>by kernel_rfl
theorem ip:Vd Tryz.prog 8 J2:=vt mix Xk Nh [(10,EF),(12,GM),(19,CQ),(27,KE),(28,N5)] (gs XM (gs cN (gs XX (gs jQ (gs mt g0))))) rfl (fun _ _=>rfl) fun O x=>by kernel_rfl
def dB:Cfg:={ gam:=[],imm:=false,old:=false }
theorem lQ (O:Alg) (x:Ags O):XF (O:=O) Tryz.prog dB (CI.ow ⟨18,[],false,false,[],[]⟩) false [] 18 [] (xr x Vb 0)=OG O x:=by kernel_rfl
theorem mR {E:Env} {M:Nat} (N:Nat) (h:∀ ls,E 18 [] ls=OM N ls):VV Tryz.prog E M ⟨18,[],false,false,[],[]⟩ :=
 Fc mix (E:=J9 N) (N:=N) (cfg:=dB) (ci:=⟨18,[],false,false,[],[]⟩) (ks:=Vb) LA (c:=OM N) (F:=fun ls=>OG (std (J9 N) N) (xOf ls)) (fun ls=>rfl) (fun ls=>lQ (std (J9 N) N) (xOf ls)) h
theorem dz:Vd Tryz.prog 79 HU:=vt mix Uz KH [] g0 rfl (fun _ _=>rfl) fun O x=>by kernel_rfl
theorem eG:Vd Tryz.prog 47 Kh:=vt mix Uh KK [(38,DM),(79,HU)] (gs Sj (gs dz g0)) rfl (fun _ _=>rfl) fun O x=>by kernel_rfl
def Mh:Cfg:={ gam:=[⟨37,[],true,true,[],[]⟩,⟨39,[],true,false,[],[26,151,58,50,68,3,87,142,203,4,5,185,199,93,54,244]⟩,⟨47,[],true,true,[],[]⟩],imm:=false,old:=false }
theorem UK (O:Alg) (x:Ags O):XF (O:=O) Tryz.prog Mh (CI.ow ⟨22,[],true,true,[],[]⟩) true [] 22 [] (xr x Ho 0)=DJ O x:=by kernel_rfl
theorem VG:Vd Tryz.prog 22 DG:=fun N h =>
 Fc mix (E:=BQ N) (N:=N) (cfg:=Mh) (ci:=⟨22,[],true,true,[],[]⟩) (ks:=Ho) (CE (Xt N (fun _=>rfl)) (CE (UJ N (fun _=>rfl)) (CE (eG N (fun _=>rfl)) LA))) (c:=DG N) (F:=fun ls=>DJ (std (BQ N) N) (xOf ls)) (fun ls=>rfl) (fun ls=>UK (std (BQ N) N) (xOf ls)) h
def Nr:Cfg:={ gam:=[⟨8,[],true,true,[],[]⟩,⟨18,[],false,false,[],[]⟩,⟨22,[],true,true,[],[]⟩],imm:=false,old:=false }
theorem U5 (O:Alg) (x:Ags O):XF (O:=O) Tryz.prog Nr (CI.ow ⟨5,[],true,true,[],[]⟩) true [] 5 [] (xr x Ir 0)=De O x:=by kernel_rfl
theorem WI:Vd Tryz.prog 5 Dk:=fun N h =>
 Fc mix (E:=BX N) (N:=N) (cfg:=Nr) (ci:=⟨5,[],true,true,[],[]⟩) (ks:=Ir) (CE (ip N (fun _=>rfl)) (CE (mR N (fun _=>rfl)) (CE (VG N (fun _=>rfl)) LA))) (c:=Dk N) (F:=fun ls=>De (std (BX N) N) (xOf ls)) (fun ls=>rfl) (fun ls=>U5 (std (BX N) N) (xOf ls)) h
end Go.Px
