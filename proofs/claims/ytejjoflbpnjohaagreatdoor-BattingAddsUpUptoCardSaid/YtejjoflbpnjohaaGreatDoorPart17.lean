/- Part 17. -/
import Derived.Test.YtejjoflbpnjohaaGreatDoorPart07
import Derived.Test.YtejjoflbpnjohaaGreatDoorProg
import Derived.Test.YtejjoflbpnjohaaGreatDoorPart10
import Derived.KernelRfl
import Derived.WalkKit
import Derived.Lib.Walk
import Derived.BigCall
import Derived.BigGuard
import Derived.Test.YtejjoflbpnjohaaGreatDoorPart16
set_option linter.unusedVariables false
set_option linter.unusedSimpArgs false
namespace Go.Px
open Go.Proofs
set_option maxRecDepth 100000
abbrev zzp:=Vd Tryz.prog
theorem mix:Tryz.prog.follows .mixedOrders=true:=by kernel_rfl
theorem Kh:zzp 17 BR:=vt mix Tx Ki [] g0 rfl (fun _ _=>rfl) fun O x=>by kernel_rfl
theorem ZJ:zzp 73 Gk:=vt mix Yx Om [] g0 rfl (fun _ _=>rfl) fun O x=>by kernel_rfl
theorem TA:zzp 104 Cq:=vt mix Sj SY [] g0 rfl (fun _ _=>rfl) fun O x=>by kernel_rfl
theorem dF:zzp 89 GX:=vt mix S6 I9 [(104,Cq)] (gs TA g0) rfl (fun _ _=>rfl) fun O x=>by kernel_rfl
theorem eN:zzp 90 HM:=vt mix UV KC [(104,Cq)] (gs TA g0) rfl (fun _ _=>rfl) fun O x=>by kernel_rfl
theorem C4:zzp 61 AY:=vt mix Wf Lc [(73,Gk),(89,GX),(90,HM)] (gs ZJ (gs dF (gs eN g0))) rfl (fun _ _=>rfl) fun O x=>by kernel_rfl
theorem VU:zzp 105 DI:=fun N h =>
 On mix (T:=22) (e:=170) (b:=24) Tryz.func105 Tryz.underlying22 (by kernel_rfl) (by decide) (fun O l=>by kernel_rfl) (fun O l=>by kernel_rfl) h
theorem WL:zzp 91 DV:=vt mix WS LR [(105,DI)] (gs VU g0) rfl (fun _ _=>rfl) fun O x=>by kernel_rfl
theorem mH:zzp 65 Ov:=vt mix Y4 Ol [(61,AY),(91,DV)] (gs C4 (gs WL g0)) rfl (fun _ _=>rfl) fun O x=>by kernel_rfl
theorem EZ:zzp 159 Ao:=vt mix QB QC [] g0 rfl (fun _ _=>rfl) fun O x=>by kernel_rfl
theorem Yg:zzp 160 Eb:=vt mix QH G2 [(159,Ao)] (gs EZ g0) rfl (fun _ _=>rfl) fun O x=>by kernel_rfl
theorem XK:zzp 198 EA:=vt mix PP GL [] g0 rfl (fun _ _=>rfl) fun O x=>by kernel_rfl
theorem HB:zzp 184 Au:=vt mix MX EK [(198,EA)] (gs XK g0) rfl (fun _ _=>rfl) fun O x=>by kernel_rfl
theorem Wz:zzp 161 Da:=vt mix Nr FW [(159,Ao),(184,Au)] (gs EZ (gs HB g0)) rfl (fun _ _=>rfl) fun O x=>by kernel_rfl
theorem Ws:zzp 186 Dd:=vt mix Np Fb [(159,Ao)] (gs EZ g0) rfl (fun _ _=>rfl) fun O x=>by kernel_rfl
theorem Ym:zzp 162 Ed:=vt mix P5 Gz [(186,Dd)] (gs Ws g0) rfl (fun _ _=>rfl) fun O x=>by kernel_rfl
theorem NX:zzp 127 BS:=vt mix SX JO [(61,AY),(159,Ao),(160,Eb),(161,Da),(162,Ed)] (gs C4 (gs EZ (gs Yg (gs Wz (gs Ym g0))))) rfl (fun _ _=>rfl) fun O x=>by kernel_rfl
theorem LT:zzp 135 BU:=vt mix V7 LZ [] g0 rfl (fun _ _=>rfl) fun O x=>by kernel_rfl
theorem WG:zzp 128 DU:=vt mix WD Ll [(135,BU)] (gs LT g0) rfl (fun _ _=>rfl) fun O x=>by kernel_rfl
theorem gj:zzp 129 IR:=vt mix V1 LW [] g0 rfl (fun _ _=>rfl) fun O x=>by kernel_rfl
theorem WV:zzp 106 DT:=vt mix WO Le [(61,AY),(127,BS),(128,DU),(129,IR)] (gs C4 (gs NX (gs WG (gs gj g0)))) rfl (fun _ _=>rfl) fun O x=>by kernel_rfl
theorem eu:zzp 130 HG:=vt mix UB KY [] g0 rfl (fun _ _=>rfl) fun O x=>by kernel_rfl
theorem bu:zzp 131 Ga:=vt mix TN NI [] g0 rfl (fun _ _=>rfl) fun O x=>by kernel_rfl
open Go.RowKit Go.Lib in
set_option maxHeartbeats 1000000 in
theorem Qb (s:ByteArray) (c:Int) (w:World):Calls Tryz.prog 187 #[.string s,.int .u8 c] w fun e w'=>e=.returned (.int .i64 (Lib.indexByte s.data.toList c.toNat.toUInt8))∧w'=w:=by
 go_enter Tryz.func187,Tryz.ntmps187
 go_wp2
 rw [run_callFunc_extern Tryz.func200 (by kernel_rfl) (by kernel_rfl) (by kernel_rfl) (e:=Extern.BytealgIndexByte.indexByte) (by kernel_rfl),Lib.run_indexByteString];simp only [Result.andThen];rw [Oper.upon_value]
 go_wp2
 go_ret
 exact ⟨rfl,rfl⟩
theorem SJ:zzp 187 Ck:=fun N h =>
 lQ Tryz.func187 (T9:=9) (T5:=5) (T3:=3) rfl rfl Tryz.underlying9 Tryz.underlying5 Tryz.underlying3 (by kernel_rfl) Qb h
theorem Wl:zzp 163 Dk:=vt mix Ns Fa [(187,Ck)] (gs SJ g0) rfl (fun _ _=>rfl) fun O x=>by kernel_rfl
theorem gM:zzp 164 Fo:=vt mix WJ WE [] g0 rfl (fun _ _=>rfl) fun O x=>by kernel_rfl
theorem lD:zzp 132 JX:=vt mix W3 NN [(163,Dk),(164,Fo)] (gs Wl (gs gM g0)) rfl (fun _ _=>rfl) fun O x=>by kernel_rfl
theorem XM:zzp 165 Dx:=vt mix PD J2 [] g0 rfl (fun _ _=>rfl) fun O x=>by kernel_rfl
theorem Z1:zzp 133 FG:=vt mix R4 IB [(165,Dx)] (gs XM g0) rfl (fun _ _=>rfl) fun O x=>by kernel_rfl
theorem V6:zzp 107 DR:=vt mix WQ IV [(130,HG),(131,Ga),(132,JX),(133,FG)] (gs eu (gs bu (gs lD (gs Z1 g0)))) rfl (fun _ _=>rfl) fun O x=>by kernel_rfl
theorem ED:zzp 166 Ab:=fun N h =>
 On mix (T:=158) (e:=216) (b:=1) Tryz.func166 Tryz.underlying158 (by kernel_rfl) (by decide) (fun O l=>by kernel_rfl) (fun O l=>by kernel_rfl) h
theorem F9:zzp 167 Ak:=fun N h =>
 On mix (T:=102) (e:=3) (b:=8) Tryz.func167 Tryz.underlying102 (by kernel_rfl) (by decide) (fun O l=>by kernel_rfl) (fun O l=>by kernel_rfl) h
theorem Fc:zzp 168 Ad:=fun N h =>
 On mix (T:=69) (e:=4) (b:=1) Tryz.func168 Tryz.underlying69 (by kernel_rfl) (by decide) (fun O l=>by kernel_rfl) (fun O l=>by kernel_rfl) h
theorem Cr:zzp 134 AX:=vt mix TD I8 [(166,Ab),(167,Ak),(168,Ad)] (gs ED (gs F9 (gs Fc g0))) rfl (fun _ _=>rfl) fun O x=>by kernel_rfl
theorem gS:zzp 108 Ig:=vt mix Wa LX [(91,DV),(134,AX)] (gs WL (gs Cr g0)) rfl (fun _ _=>rfl) fun O x=>by kernel_rfl
theorem Pw:zzp 139 CF:=vt mix WC LU [] g0 rfl (fun _ _=>rfl) fun O x=>by kernel_rfl
theorem Pb:zzp 172 B7:=vt mix O9 Fx [] g0 rfl (fun _ _=>rfl) fun O x=>by kernel_rfl
theorem bn:zzp 140 F1:=vt mix S4 JM [(106,DT),(135,BU),(139,CF),(172,B7)] (gs WV (gs LT (gs Pw (gs Pb g0)))) rfl (fun _ _=>rfl) fun O x=>by kernel_rfl
theorem dW:zzp 169 GW:=vt mix SU JG [(61,AY),(159,Ao)] (gs C4 (gs EZ g0)) rfl (fun _ _=>rfl) fun O x=>by kernel_rfl
theorem dx:zzp 170 G6:=vt mix UO KG [(135,BU),(139,CF)] (gs LT (gs Pw g0)) rfl (fun _ _=>rfl) fun O x=>by kernel_rfl
theorem Yj:zzp 202 EY:=vt mix QN Kn [] g0 rfl (fun _ _=>rfl) fun O x=>by kernel_rfl
theorem cO:zzp 188 GQ:=vt mix TH JQ [(202,EY)] (gs Yj g0) rfl (fun _ _=>rfl) fun O x=>by kernel_rfl
theorem HN:zzp 234 A4:=vt mix X3 NF [(166,Ab),(167,Ak),(168,Ad)] (gs ED (gs F9 (gs Fc g0))) rfl (fun _ _=>rfl) fun O x=>by kernel_rfl
theorem Zn:zzp 262 C8:=vt mix RC Ly [] g0 rfl (fun _ _=>rfl) fun O x=>by kernel_rfl
theorem Uj:zzp 235 CP:=vt mix Uk E3 [(262,C8)] (gs Zn g0) rfl (fun _ _=>rfl) fun O x=>by kernel_rfl
theorem HP:zzp 236 A3:=vt mix Uu KI [] g0 rfl (fun _ _=>rfl) fun O x=>by kernel_rfl
theorem gY:zzp 203 IM:=vt mix V5 LY [(234,A4),(235,CP),(236,A3)] (gs HN (gs Uj (gs HP g0))) rfl (fun _ _=>rfl) fun O x=>by kernel_rfl
theorem Tp:zzp 237 C1:=vt mix Y5 O0 [(166,Ab),(167,Ak),(168,Ad)] (gs ED (gs F9 (gs Fc g0))) rfl (fun _ _=>rfl) fun O x=>by kernel_rfl
theorem P3:zzp 263 CH:=vt mix V8 Lb [] g0 rfl (fun _ _=>rfl) fun O x=>by kernel_rfl
theorem kh:zzp 264 Jj:=vt mix Xq NA [(61,AY),(263,CH)] (gs C4 (gs P3 g0)) rfl (fun _ _=>rfl) fun O x=>by kernel_rfl
theorem lg:zzp 238 K6:=vt mix Yz O2 [(61,AY),(184,Au),(263,CH),(264,Jj)] (gs C4 (gs HB (gs P3 (gs kh g0)))) rfl (fun _ _=>rfl) fun O x=>by kernel_rfl
theorem jD:zzp 204 JU:=vt mix XU M5 [(237,C1),(238,K6)] (gs Tp (gs lg g0)) rfl (fun _ _=>rfl) fun O x=>by kernel_rfl
theorem Ww:zzp 103 Dl:=vt mix Nt Fd [] g0 rfl (fun _ _=>rfl) fun O x=>by kernel_rfl
theorem RK:zzp 87 Cd:=vt mix Rh Hp [(103,Dl)] (gs Ww g0) rfl (fun _ _=>rfl) fun O x=>by kernel_rfl
theorem Wp:zzp 88 Dg:=vt mix Nx FX [] g0 rfl (fun _ _=>rfl) fun O x=>by kernel_rfl
theorem Gx:zzp 57 A1:=vt mix QM Gw [(87,Cd),(88,Dg)] (gs RK (gs Wp g0)) rfl (fun _ _=>rfl) fun O x=>by kernel_rfl
theorem RH:zzp 58 Ca:=vt mix Rg Rd [] g0 rfl (fun _ _=>rfl) fun O x=>by kernel_rfl
theorem NO:zzp 217 BT:=vt mix Sk EE [(235,CP)] (gs Uj g0) rfl (fun _ _=>rfl) fun O x=>by kernel_rfl
theorem Ib:zzp 246 BB:=vt mix Wd Lh [] g0 rfl (fun _ _=>rfl) fun O x=>by kernel_rfl
theorem H3:zzp 247 BA:=vt mix RX H0 [(246,BB)] (gs Ib g0) rfl (fun _ _=>rfl) fun O x=>by kernel_rfl
theorem bB:zzp 275 GJ:=vt mix TF I2 [] g0 rfl (fun _ _=>rfl) fun O x=>by kernel_rfl
theorem gb:zzp 265 IZ:=vt mix WT Ls [(246,BB),(247,BA),(275,GJ)] (gs Ib (gs H3 (gs bB g0))) rfl (fun _ _=>rfl) fun O x=>by kernel_rfl
theorem P7:zzp 99 Bz:=vt mix QA QK [] g0 rfl (fun _ _=>rfl) fun O x=>by kernel_rfl
theorem UM:zzp 75 Dm:=vt mix UT KU [(99,Bz)] (gs P7 g0) rfl (fun _ _=>rfl) fun O x=>by kernel_rfl
theorem Xy:zzp 279 Dy:=vt mix PG GR [] g0 rfl (fun _ _=>rfl) fun O x=>by kernel_rfl
theorem UW:zzp 276 DE:=vt mix MP EG [(279,Dy)] (gs Xy g0) rfl (fun _ _=>rfl) fun O x=>by kernel_rfl
theorem Xt:zzp 280 D4:=vt mix PL GS [] g0 rfl (fun _ _=>rfl) fun O x=>by kernel_rfl
theorem Zr:zzp 277 FU:=vt mix Rl IE [(99,Bz),(280,D4)] (gs P7 (gs Xt g0)) rfl (fun _ _=>rfl) fun O x=>by kernel_rfl
theorem To:zzp 281 C2:=vt mix LJ Dv [] g0 rfl (fun _ _=>rfl) fun O x=>by kernel_rfl
theorem Vp:zzp 278 DK:=vt mix Nb Ep [(281,C2)] (gs To g0) rfl (fun _ _=>rfl) fun O x=>by kernel_rfl
theorem Vk:zzp 266 DM:=vt mix Ml Em [(75,Dm),(276,DE),(277,FU),(278,DK)] (gs UM (gs UW (gs Zr (gs Vp g0)))) rfl (fun _ _=>rfl) fun O x=>by kernel_rfl
theorem gG:zzp 267 IX:=vt mix V9 LP [(246,BB),(247,BA)] (gs Ib (gs H3 g0)) rfl (fun _ _=>rfl) fun O x=>by kernel_rfl
theorem Yn:zzp 239 Ej:=vt mix P9 G1 [(87,Cd),(217,BT),(265,IZ),(266,DM),(267,IX)] (gs RK (gs NO (gs gb (gs Vk (gs gG g0))))) rfl (fun _ _=>rfl) fun O x=>by kernel_rfl
theorem ib:zzp 240 Jo:=vt mix Xn NZ [(234,A4),(236,A3)] (gs HN (gs HP g0)) rfl (fun _ _=>rfl) fun O x=>by kernel_rfl
theorem lB:zzp 241 Jq:=vt mix W5 M6 [(61,AY),(184,Au),(237,C1),(263,CH)] (gs C4 (gs HB (gs Tp (gs P3 g0)))) rfl (fun _ _=>rfl) fun O x=>by kernel_rfl
theorem bU:zzp 242 GD:=vt mix Sf I6 [(234,A4)] (gs HN g0) rfl (fun _ _=>rfl) fun O x=>by kernel_rfl
theorem eK:zzp 205 HC:=vt mix Uy KH [(57,A1),(58,Ca),(134,AX),(239,Ej),(240,Jo),(241,Jq),(242,GD)] (gs Gx (gs RH (gs Cr (gs Yn (gs ib (gs lB (gs bU g0))))))) rfl (fun _ _=>rfl) fun O x=>by kernel_rfl
theorem YF:zzp 243 D5:=vt mix XY NM [(217,BT),(236,A3)] (gs NO (gs HP g0)) rfl (fun _ _=>rfl) fun O x=>by kernel_rfl
theorem aQ:zzp 206 FO:=vt mix RL Hs [(234,A4),(236,A3),(243,D5)] (gs HN (gs HP (gs YF g0))) rfl (fun _ _=>rfl) fun O x=>by kernel_rfl
theorem eD:zzp 207 HW:=vt mix Uq Ka [(234,A4),(243,D5)] (gs HN (gs YF g0)) rfl (fun _ _=>rfl) fun O x=>by kernel_rfl
theorem WW:zzp 218 C7:=vt mix WK Fn [] g0 rfl (fun _ _=>rfl) fun O x=>by kernel_rfl
theorem dR:zzp 208 GN:=vt mix Si JA [(218,C7),(234,A4),(236,A3)] (gs WW (gs HN (gs HP g0))) rfl (fun _ _=>rfl) fun O x=>by kernel_rfl
theorem Te:zzp 245 Cu:=vt mix ZO Ot [(166,Ab),(167,Ak),(168,Ad)] (gs ED (gs F9 (gs Fc g0))) rfl (fun _ _=>rfl) fun O x=>by kernel_rfl
theorem bQ:zzp 209 GH:=vt mix Sm JL [(245,Cu)] (gs Te g0) rfl (fun _ _=>rfl) fun O x=>by kernel_rfl
theorem eF:zzp 210 HR:=vt mix UC KV [(245,Cu),(246,BB),(247,BA)] (gs Te (gs Ib (gs H3 g0))) rfl (fun _ _=>rfl) fun O x=>by kernel_rfl
theorem Xr:zzp 211 D8:=vt mix PN Fy [(245,Cu),(246,BB),(247,BA)] (gs Te (gs Ib (gs H3 g0))) rfl (fun _ _=>rfl) fun O x=>by kernel_rfl
theorem bR:zzp 212 Gb:=vt mix Sq JI [(61,AY),(237,C1)] (gs C4 (gs Tp g0)) rfl (fun _ _=>rfl) fun O x=>by kernel_rfl
theorem Yk:zzp 213 Ec:=vt mix QS Gt [(134,AX)] (gs Cr g0) rfl (fun _ _=>rfl) fun O x=>by kernel_rfl
theorem QR:zzp 191 CS:=vt mix QF Gr [(134,AX)] (gs Cr g0) rfl (fun _ _=>rfl) fun O x=>by kernel_rfl
theorem Yo:zzp 214 EX:=vt mix QG G5 [(134,AX),(191,CS)] (gs Cr (gs QR g0)) rfl (fun _ _=>rfl) fun O x=>by kernel_rfl
theorem Zb:zzp 215 FA:=vt mix Q7 FK [(134,AX)] (gs Cr g0) rfl (fun _ _=>rfl) fun O x=>by kernel_rfl
theorem cn:zzp 248 GG:=vt mix Sp S0 [] g0 rfl (fun _ _=>rfl) fun O x=>by kernel_rfl
theorem Zs:zzp 216 FM:=vt mix RY IA [(134,AX),(248,GG)] (gs Cr (gs cn g0)) rfl (fun _ _=>rfl) fun O x=>by kernel_rfl
theorem Yt:zzp 189 Ea:=vt mix QI Ek [(203,IM),(204,JU),(205,HC),(206,FO),(207,HW),(208,GN),(209,GH),(210,HR),(211,D8),(212,Gb),(213,Ec),(214,EX),(215,FA),(216,FM)] (gs gY (gs jD (gs eK (gs aQ (gs eD (gs dR (gs bQ (gs eF (gs Xr (gs bR (gs Yk (gs Yo (gs Zb (gs Zs g0)))))))))))))) rfl (fun _ _=>rfl) fun O x=>by kernel_rfl
theorem Zf:zzp 190 Dp:=vt mix R1 Hv [(127,BS),(217,BT),(218,C7)] (gs NX (gs NO (gs WW g0))) rfl (fun _ _=>rfl) fun O x=>by kernel_rfl
theorem dh:zzp 171 HQ:=vt mix Ut KS [(107,DR),(127,BS),(134,AX),(188,GQ),(189,Ea),(190,Dp)] (gs V6 (gs NX (gs Cr (gs cO (gs Yt (gs Zf g0)))))) rfl (fun _ _=>rfl) fun O x=>by kernel_rfl
theorem iJ:zzp 92 NL:=vt mix W6 M7 [(106,DT),(107,DR),(108,Ig),(128,DU),(135,BU),(139,CF),(140,F1),(169,GW),(170,G6),(171,HQ),(172,B7),(191,CS)] (gs WV (gs V6 (gs gS (gs WG (gs LT (gs Pw (gs bn (gs dW (gs dx (gs dh (gs Pb (gs QR g0)))))))))))) rfl (fun _ _=>rfl) fun O x=>by kernel_rfl
def dJ:Cfg:={ gam:=[⟨92,[],true,true,[],[]⟩],imm:=false,old:=false }
theorem mD (O:Alg) (x:Ags O):XF (O:=O) Tryz.prog dJ (CI.ow ⟨66,[],false,false,[],[]⟩) false [] 66 [] (xr x VI 0)=M9 O x:=by kernel_rfl
theorem oz {E:Env} {M:Nat} (N:Nat) (h:∀ ls,E 66 [] ls=M1 N ls):VV Tryz.prog E M ⟨66,[],false,false,[],[]⟩ :=
 F6 mix (E:=HV N) (N:=N) (cfg:=dJ) (ci:=⟨66,[],false,false,[],[]⟩) (ks:=VI) (BN (iJ N (fun _=>rfl)) KW) (c:=M1 N) (F:=fun ls=>M9 (std (HV N) N) (xOf ls)) (fun ls=>rfl) (fun ls=>mD (std (HV N) N) (xOf ls)) h
theorem cL:zzp 67 JN:=vt mix So I3 [(57,A1)] (gs Gx g0) rfl (fun _ _=>rfl) fun O x=>by kernel_rfl
def cX:Cfg:={ gam:=[⟨65,[],true,true,[],[]⟩,⟨66,[],false,false,[],[]⟩,⟨67,[],true,true,[],[]⟩],imm:=false,old:=true,ie:=[170,99,35,9,73,64,4,160,3,39,5,216,143,190,212,87,33] }
theorem lZ (O:Alg) (x:Ags O):XF (O:=O) Tryz.prog cX (CI.ow ⟨32,[],true,false,[],[170,99,35,9,73,64,4,160,3,39,5,216,143,190,212,87,33]⟩) false [] 32 [] (xr x Vv 0)=NT O x:=by kernel_rfl
theorem dD {E:Env} {M:Nat} (N:Nat) (h:∀ ls,E 32 [] ls=Hu N ls):VV Tryz.prog E M ⟨32,[],true,false,[],[170,99,35,9,73,64,4,160,3,39,5,216,143,190,212,87,33]⟩ :=
 F6 mix (E:=Dz N) (N:=N) (cfg:=cX) (ci:=⟨32,[],true,false,[],[170,99,35,9,73,64,4,160,3,39,5,216,143,190,212,87,33]⟩) (ks:=Vv) (BN (mH N (fun _=>rfl)) (BN (oz N (fun _=>rfl)) (BN (cL N (fun _=>rfl)) KW))) (c:=Hu N) (F:=fun ls=>NT (std (Dz N) N) (xOf ls)) (fun ls=>rfl) (fun ls=>lZ (std (Dz N) N) (xOf ls)) h
def Xw:Cfg:={ gam:=[⟨32,[],true,false,[],[170,99,35,9,73,64,4,160,3,39,5,216,143,190,212,87,33]⟩],imm:=false,old:=false }
theorem gJ (O:Alg) (x:Ags O):XF (O:=O) Tryz.prog Xw (CI.ow ⟨62,[],false,false,[],[]⟩) false [] 62 [] (xr x RJ 0)=JZ O x:=by kernel_rfl
theorem iy {E:Env} {M:Nat} (N:Nat) (h:∀ ls,E 62 [] ls=Jd N ls):VV Tryz.prog E M ⟨62,[],false,false,[],[]⟩ :=
 F6 mix (E:=E1 N) (N:=N) (cfg:=Xw) (ci:=⟨62,[],false,false,[],[]⟩) (ks:=RJ) (BN (dD N (fun _=>rfl)) KW) (c:=Jd N) (F:=fun ls=>JZ (std (E1 N) N) (xOf ls)) (fun ls=>rfl) (fun ls=>gJ (std (E1 N) N) (xOf ls)) h
def ZQ:Cfg:={ gam:=[⟨61,[],true,true,[],[]⟩,⟨62,[],false,false,[],[]⟩],imm:=false,old:=false }
theorem je (O:Alg) (x:Ags O):XF (O:=O) Tryz.prog ZQ (CI.ow ⟨27,[],true,true,[],[]⟩) true [] 27 [] (xr x Tr 0)=K7 O x:=by kernel_rfl
theorem Tq:zzp 27 Cx:=fun N h =>
 F6 mix (E:=EV N) (N:=N) (cfg:=ZQ) (ci:=⟨27,[],true,true,[],[]⟩) (ks:=Tr) (BN (C4 N (fun _=>rfl)) (BN (iy N (fun _=>rfl)) KW)) (c:=Cx N) (F:=fun ls=>K7 (std (EV N) N) (xOf ls)) (fun ls=>rfl) (fun ls=>je (std (EV N) N) (xOf ls)) h
theorem cK:zzp 28 JE:=vti mix false false [60000] Sr JF [] g0 rfl (fun _ _=>rfl) fun O x=>by kernel_rfl
def IQ:Cfg:={ gam:=[],imm:=false,old:=false }
theorem PW (O:Alg) (x:Ags O):XF (O:=O) Tryz.prog IQ (CI.ow ⟨30,[31],true,true,[],[]⟩) true [] 30 [31] (xr x EW 0)=CG O x:=by kernel_rfl
theorem Pk {E:Env} {M:Nat} (N:Nat) (h:∀ ls,E 30 [31] ls=CD N ls):VV Tryz.prog E M ⟨30,[31],true,true,[],[]⟩ :=
 F6 mix (E:=B3 N) (N:=N) (cfg:=IQ) (ci:=⟨30,[31],true,true,[],[]⟩) (ks:=EW) KW (c:=CD N) (F:=fun ls=>CG (std (B3 N) N) (xOf ls)) (fun ls=>rfl) (fun ls=>PW (std (B3 N) N) (xOf ls)) h
theorem XQ:zzp 33 GB:=vt mix Pf F4 [] g0 rfl (fun _ _=>rfl) fun O x=>by kernel_rfl
def Ue:Cfg:={ gam:=[⟨17,[],true,true,[],[]⟩,⟨27,[],true,true,[],[]⟩,⟨28,[],true,true,[],[]⟩,⟨30,[31],true,true,[],[]⟩,⟨32,[],true,false,[],[170,99,35,9,73,64,4,160,3,39,5,216,143,190,212,87,33]⟩,⟨33,[],true,true,[],[]⟩],imm:=false,old:=false,ie:=[60000] }
theorem cx (O:Alg) (x:Ags O):XF (O:=O) Tryz.prog Ue (CI.ow ⟨10,[],true,true,[],[]⟩) true [] 10 [] (xr x Oh 0)=HK O x:=by kernel_rfl
theorem UI:zzp 10 Cf:=fun N h =>
 F6 mix (E:=BX N) (N:=N) (cfg:=Ue) (ci:=⟨10,[],true,true,[],[]⟩) (ks:=Oh) (BN (Kh N (fun _=>rfl)) (BN (Tq N (fun _=>rfl)) (BN (cK N (fun _=>rfl)) (BN (Pk N (fun _=>rfl)) (BN (dD N (fun _=>rfl)) (BN (XQ N (fun _=>rfl)) KW)))))) (c:=Cf N) (F:=fun ls=>HK (std (BX N) N) (xOf ls)) (fun ls=>rfl) (fun ls=>cx (std (BX N) N) (xOf ls)) h
theorem Tf:zzp 12 Cy:=vt mix LO Dt [] g0 rfl (fun _ _=>rfl) fun O x=>by kernel_rfl
theorem WX:zzp 42 Lj:=vt mix Wb Wh [] g0 rfl (fun _ _=>rfl) fun O x=>by kernel_rfl
theorem UL:zzp 98 HU:=vt mix MG ML [] g0 rfl (fun _ _=>rfl) fun O x=>by kernel_rfl
theorem SC:zzp 74 FE:=vt mix Jr JT [(98,HU)] (gs UL g0) rfl (fun _ _=>rfl) fun O x=>by kernel_rfl
theorem gN:zzp 37 Wc:=vt mix WM WR [(42,Lj),(73,Gk),(74,FE)] (gs WX (gs ZJ (gs SC g0))) rfl (fun _ _=>rfl) fun O x=>by kernel_rfl
theorem aI:zzp 38 Rm:=vt mix Rw Rx [] g0 rfl (fun _ _=>rfl) fun O x=>by kernel_rfl
theorem Yr:zzp 39 QO:=vt mix P8 P6 [] g0 rfl (fun _ _=>rfl) fun O x=>by kernel_rfl
theorem Zg:zzp 40 Re:=vt mix Q9 RS [(75,Dm)] (gs UM g0) rfl (fun _ _=>rfl) fun O x=>by kernel_rfl
theorem U2:zzp 101 Hw:=fun N h =>
 oG Tryz.func101 (T2:=2) (T3:=3) (T9:=9) rfl rfl Tryz.underlying2 Tryz.underlying3 Tryz.underlying9 (by kernel_rfl) (by kernel_rfl) (fun i h0 hi w ht=>Tryz.internal_strconv_FormatInt_10 i h0 hi w ht) h
theorem Wo:zzp 77 Iy:=vt mix Ny Nu [(101,Hw)] (gs U2 g0) rfl (fun _ _=>rfl) fun O x=>by kernel_rfl
theorem db:zzp 43 T1:=vt mix UF UQ [(77,Iy)] (gs Wo g0) rfl (fun _ _=>rfl) fun O x=>by kernel_rfl
def UX:Cfg:={ gam:=[⟨37,[],true,true,[],[]⟩,⟨38,[],true,true,[],[]⟩,⟨39,[],true,true,[],[]⟩,⟨40,[],true,true,[],[]⟩,⟨42,[],true,true,[],[]⟩,⟨43,[],true,true,[],[]⟩],imm:=false,old:=false,ie:=[70000],bld:=tJ }
theorem cU (O:Alg) (x:Ags O):XF (O:=O) Tryz.prog UX (CI.ow ⟨14,[],true,true,[],[]⟩) true [] 14 [] (xr x OQ 0)=Of O x:=by kernel_rfl
theorem eU:zzp 14 E4:=fun N h =>
 bF mix (E:=H2 N) (N:=N) (cfg:=UX) (ci:=⟨14,[],true,true,[],[]⟩) (ks:=OQ) (BN (gN N (fun _=>rfl)) (BN (aI N (fun _=>rfl)) (BN (Yr N (fun _=>rfl)) (BN (Zg N (fun _=>rfl)) (BN (WX N (fun _=>rfl)) (BN (db N (fun _=>rfl)) KW)))))) vz (c:=E4 N) (F:=fun ls=>Of (std (H2 N) N) (xOf ls)) (fun ls=>rfl) (fun ls=>cU (std (H2 N) N) (xOf ls)) h
theorem lK:zzp 25 LL:=vt mix ZP Yw [] g0 rfl (fun _ _=>rfl) fun O x=>by kernel_rfl
theorem l8:zzp 60 Tv:=vt mix ZK ZT [] g0 rfl (fun _ _=>rfl) fun O x=>by kernel_rfl
theorem qi:zzp 26 PA:=vt mix fP gD [(60,Tv)] (gs l8 g0) rfl (fun _ _=>rfl) fun O x=>by kernel_rfl
theorem lR:zzp 8 K0:=vt mix Y1 O3 [(10,Cf),(12,Cy),(14,E4),(25,LL),(26,PA)] (gs UI (gs Tf (gs eU (gs lK (gs qi g0))))) rfl (fun _ _=>rfl) fun O x=>by kernel_rfl
def fi:Cfg:={ gam:=[],imm:=false,old:=false }
theorem ny (O:Alg) (x:Ags O):XF (O:=O) Tryz.prog fi (CI.ow ⟨9,[],false,false,[],[]⟩) false [] 9 [] (xr x W0 0)=PF O x:=by kernel_rfl
theorem ph {E:Env} {M:Nat} (N:Nat) (h:∀ ls,E 9 [] ls=Pc N ls):VV Tryz.prog E M ⟨9,[],false,false,[],[]⟩ :=
 F6 mix (E:=LA N) (N:=N) (cfg:=fi) (ci:=⟨9,[],false,false,[],[]⟩) (ks:=W0) KW (c:=Pc N) (F:=fun ls=>PF (std (LA N) N) (xOf ls)) (fun ls=>rfl) (fun ls=>ny (std (LA N) N) (xOf ls)) h
theorem bh:zzp 21 GK:=vt mix Sw JH [] g0 rfl (fun _ _=>rfl) fun O x=>by kernel_rfl
theorem gd:zzp 86 IK:=vt mix WI LV [] g0 rfl (fun _ _=>rfl) fun O x=>by kernel_rfl
theorem gL:zzp 55 Ia:=vt mix WB Lk [(17,BR),(86,IK)] (gs Kh (gs gd g0)) rfl (fun _ _=>rfl) fun O x=>by kernel_rfl
theorem lM:zzp 56 Ky:=vt mix ZU Oz [] g0 rfl (fun _ _=>rfl) fun O x=>by kernel_rfl
theorem lJ:zzp 59 Ij:=vt mix Y3 Oy [] g0 rfl (fun _ _=>rfl) fun O x=>by kernel_rfl
theorem dj:zzp 23 KA:=vt mix Ty KQ [(17,BR),(27,Cx),(55,Ia),(56,Ky),(57,A1),(58,Ca),(59,Ij)] (gs Kh (gs Tq (gs gL (gs lM (gs Gx (gs RH (gs lJ g0))))))) rfl (fun _ _=>rfl) fun O x=>by kernel_rfl
theorem cG:zzp 24 JB:=vt mix Sd JC [(17,BR),(27,Cx),(57,A1)] (gs Kh (gs Tq (gs Gx g0))) rfl (fun _ _=>rfl) fun O x=>by kernel_rfl
def Nw:Cfg:={ gam:=[⟨8,[],true,true,[],[]⟩,⟨9,[],false,false,[],[]⟩,⟨10,[],true,true,[],[]⟩,⟨21,[],true,true,[],[]⟩,⟨23,[],true,true,[],[]⟩,⟨24,[],true,true,[],[]⟩],imm:=false,old:=false }
theorem VJ (O:Alg) (x:Ags O):XF (O:=O) Tryz.prog Nw (CI.ow ⟨7,[],true,true,[],[]⟩) true [] 7 [] (xr x Iu 0)=Df O x:=by kernel_rfl
theorem Wy:zzp 7 Dh:=fun N h =>
 F6 mix (E:=A2 N) (N:=N) (cfg:=Nw) (ci:=⟨7,[],true,true,[],[]⟩) (ks:=Iu) (BN (lR N (fun _=>rfl)) (BN (ph N (fun _=>rfl)) (BN (UI N (fun _=>rfl)) (BN (bh N (fun _=>rfl)) (BN (dj N (fun _=>rfl)) (BN (cG N (fun _=>rfl)) KW)))))) (c:=Dh N) (F:=fun ls=>Df (std (A2 N) N) (xOf ls)) (fun ls=>rfl) (fun ls=>VJ (std (A2 N) N) (xOf ls)) h
end Go.Px
