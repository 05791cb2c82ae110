/- Part 16. -/
import Derived.Test.YtejjoflbpnjohaaGreatDoorPart07
import Derived.Test.YtejjoflbpnjohaaGreatDoorProg
import Derived.Test.YtejjoflbpnjohaaGreatDoorPart10
import Derived.KernelRfl
import Derived.WalkKit
import Derived.Lib.Walk
import Derived.BigCall
import Derived.BigGuard
import Derived.Test.YtejjoflbpnjohaaGreatDoorPart15
set_option linter.unusedVariables false
set_option linter.unusedSimpArgs false
namespace Go.Px
open Go.Proofs
set_option maxRecDepth 100000
abbrev zzp:=Vd Tryz.prog
theorem mix:Tryz.prog.follows .mixedOrders=true:=by kernel_rfl
theorem db:zzp 17 Js:=vt mix UE Jo [] g0 rfl (fun _ _=>rfl) fun O x=>by kernel_rfl
theorem Ym:zzp 73 Eh:=vt mix Yk Oh [] g0 rfl (fun _ _=>rfl) fun O x=>by kernel_rfl
theorem Sp:zzp 104 CU:=vt mix TB SP [] g0 rfl (fun _ _=>rfl) fun O x=>by kernel_rfl
theorem bH:zzp 89 F2:=vt mix TE Ii [(104,CU)] (gs Sp g0) rfl (fun _ _=>rfl) fun O x=>by kernel_rfl
theorem dq:zzp 90 Gg:=vt mix T7 Jw [(104,CU)] (gs Sp g0) rfl (fun _ _=>rfl) fun O x=>by kernel_rfl
theorem Cj:zzp 61 AQ:=vt mix Vw LC [(73,Eh),(89,F2),(90,Gg)] (gs Ym (gs bH (gs dq g0))) rfl (fun _ _=>rfl) fun O x=>by kernel_rfl
theorem U9:zzp 105 Cy:=fun N h =>
 Ot mix (T:=22) (e:=170) (b:=24) Tryz.func105 Tryz.underlying22 (by kernel_rfl) (by decide) (fun O l=>by kernel_rfl) (fun O l=>by kernel_rfl) h
theorem Vv:zzp 91 C8:=vt mix V7 LM [(105,Cy)] (gs U9 g0) rfl (fun _ _=>rfl) fun O x=>by kernel_rfl
theorem lC:zzp 65 Oj:=vt mix Yi Of [(61,AQ),(91,C8)] (gs Cj (gs Vv g0)) rfl (fun _ _=>rfl) fun O x=>by kernel_rfl
theorem EO:zzp 159 Ak:=vt mix QB P5 [] g0 rfl (fun _ _=>rfl) fun O x=>by kernel_rfl
theorem YW:zzp 160 EM:=vt mix QI Ga [(159,Ak)] (gs EO g0) rfl (fun _ _=>rfl) fun O x=>by kernel_rfl
theorem Wf:zzp 198 Dj:=vt mix PB Fg [] g0 rfl (fun _ _=>rfl) fun O x=>by kernel_rfl
theorem Gp:zzp 184 Aq:=vt mix MA Dy [(198,Dj)] (gs Wf g0) rfl (fun _ _=>rfl) fun O x=>by kernel_rfl
theorem WX:zzp 161 DK:=vt mix Nk FG [(159,Ak),(184,Aq)] (gs EO (gs Gp g0)) rfl (fun _ _=>rfl) fun O x=>by kernel_rfl
theorem WP:zzp 186 DQ:=vt mix Nb FK [(159,Ak)] (gs EO g0) rfl (fun _ _=>rfl) fun O x=>by kernel_rfl
theorem YR:zzp 162 EP:=vt mix P8 GY [(186,DQ)] (gs WP g0) rfl (fun _ _=>rfl) fun O x=>by kernel_rfl
theorem M3:zzp 127 BL:=vt mix S9 Ij [(61,AQ),(159,Ak),(160,EM),(161,DK),(162,EP)] (gs Cj (gs EO (gs YW (gs WX (gs YR g0))))) rfl (fun _ _=>rfl) fun O x=>by kernel_rfl
theorem LU:zzp 135 BN:=vt mix WA LQ [] g0 rfl (fun _ _=>rfl) fun O x=>by kernel_rfl
theorem Vk:zzp 128 DA:=vt mix Vj LV [(135,BN)] (gs LU g0) rfl (fun _ _=>rfl) fun O x=>by kernel_rfl
theorem gG:zzp 129 IA:=vt mix WE LS [] g0 rfl (fun _ _=>rfl) fun O x=>by kernel_rfl
theorem Vr:zzp 106 DC:=vt mix Vy K7 [(61,AQ),(127,BL),(128,DA),(129,IA)] (gs Cj (gs M3 (gs Vk (gs gG g0)))) rfl (fun _ _=>rfl) fun O x=>by kernel_rfl
theorem dx:zzp 130 Gz:=vt mix T6 J7 [] g0 rfl (fun _ _=>rfl) fun O x=>by kernel_rfl
theorem cj:zzp 131 Fv:=vt mix S0 Mk [] g0 rfl (fun _ _=>rfl) fun O x=>by kernel_rfl
open Go.RowKit Go.Lib in
set_option maxHeartbeats 1000000 in
theorem QV (s:ByteArray) (c:Int) (w:World):Calls Tryz.prog 187 #[.string s,.int .u8 c] w fun e w'=>e=.returned (.int .i64 (Lib.indexByte s.data.toList c.toNat.toUInt8))∧w'=w:=by
 go_enter Tryz.func187,Tryz.ntmps187
 go_wp2
 rw [run_callFunc_extern Tryz.func200 (by kernel_rfl) (by kernel_rfl) (by kernel_rfl) (e:=Extern.BytealgIndexByte.indexByte) (by kernel_rfl),Lib.run_indexByteString];simp only [Result.andThen];rw [Oper.upon_value]
 go_wp2
 go_ret
 exact ⟨rfl,rfl⟩
theorem SD:zzp 187 CP:=fun N h =>
 lD Tryz.func187 (T9:=9) (T5:=5) (T3:=3) rfl rfl Tryz.underlying9 Tryz.underlying5 Tryz.underlying3 (by kernel_rfl) QV h
theorem WK:zzp 163 DP:=vt mix Nc FI [(187,CP)] (gs SD g0) rfl (fun _ _=>rfl) fun O x=>by kernel_rfl
theorem gD:zzp 164 FW:=vt mix Vq V9 [] g0 rfl (fun _ _=>rfl) fun O x=>by kernel_rfl
theorem jx:zzp 132 JK:=vt mix Xk Ma [(163,DP),(164,FW)] (gs WK (gs gD g0)) rfl (fun _ _=>rfl) fun O x=>by kernel_rfl
theorem XB:zzp 165 Dv:=vt mix O6 JH [] g0 rfl (fun _ _=>rfl) fun O x=>by kernel_rfl
theorem ZQ:zzp 133 Es:=vt mix RK HR [(165,Dv)] (gs XB g0) rfl (fun _ _=>rfl) fun O x=>by kernel_rfl
theorem Vz:zzp 107 DB:=vt mix V5 H1 [(130,Gz),(131,Fv),(132,JK),(133,Es)] (gs dx (gs cj (gs jx (gs ZQ g0)))) rfl (fun _ _=>rfl) fun O x=>by kernel_rfl
theorem D8:zzp 166 AZ:=fun N h =>
 Ot mix (T:=158) (e:=216) (b:=1) Tryz.func166 Tryz.underlying158 (by kernel_rfl) (by decide) (fun O l=>by kernel_rfl) (fun O l=>by kernel_rfl) h
theorem F9:zzp 167 Ag:=fun N h =>
 Ot mix (T:=102) (e:=3) (b:=8) Tryz.func167 Tryz.underlying102 (by kernel_rfl) (by decide) (fun O l=>by kernel_rfl) (fun O l=>by kernel_rfl) h
theorem FD:zzp 168 Ac:=fun N h =>
 Ot mix (T:=69) (e:=4) (b:=1) Tryz.func168 Tryz.underlying69 (by kernel_rfl) (by decide) (fun O l=>by kernel_rfl) (fun O l=>by kernel_rfl) h
theorem CT:zzp 134 AP:=vt mix SM It [(166,AZ),(167,Ag),(168,Ac)] (gs D8 (gs F9 (gs FD g0))) rfl (fun _ _=>rfl) fun O x=>by kernel_rfl
theorem fo:zzp 108 H2:=vt mix WI K4 [(91,C8),(134,AP)] (gs Vv (gs CT g0)) rfl (fun _ _=>rfl) fun O x=>by kernel_rfl
theorem Pe:zzp 139 Bw:=vt mix Vu LP [] g0 rfl (fun _ _=>rfl) fun O x=>by kernel_rfl
theorem O7:zzp 172 Bo:=vt mix PI Fr [] g0 rfl (fun _ _=>rfl) fun O x=>by kernel_rfl
theorem cY:zzp 140 Fl:=vt mix TC Il [(106,DC),(135,BN),(139,Bw),(172,Bo)] (gs Vr (gs LU (gs Pe (gs O7 g0)))) rfl (fun _ _=>rfl) fun O x=>by kernel_rfl
theorem cF:zzp 169 F4:=vt mix SU Iy [(61,AQ),(159,Ak)] (gs Cj (gs EO g0)) rfl (fun _ _=>rfl) fun O x=>by kernel_rfl
theorem ec:zzp 170 G9:=vt mix Tj KB [(135,BN),(139,Bw)] (gs LU (gs Pe g0)) rfl (fun _ _=>rfl) fun O x=>by kernel_rfl
theorem YI:zzp 202 EV:=vt mix Pw KQ [] g0 rfl (fun _ _=>rfl) fun O x=>by kernel_rfl
theorem cV:zzp 188 Fi:=vt mix S7 Ig [(202,EV)] (gs YI g0) rfl (fun _ _=>rfl) fun O x=>by kernel_rfl
theorem Gl:zzp 234 Ay:=vt mix Xc M5 [(166,AZ),(167,Ag),(168,Ac)] (gs D8 (gs F9 (gs FD g0))) rfl (fun _ _=>rfl) fun O x=>by kernel_rfl
theorem Za:zzp 262 Cp:=vt mix RW Lt [] g0 rfl (fun _ _=>rfl) fun O x=>by kernel_rfl
theorem UM:zzp 235 B2:=vt mix Tq En [(262,Cp)] (gs Za g0) rfl (fun _ _=>rfl) fun O x=>by kernel_rfl
theorem G4:zzp 236 A0:=vt mix UX Jt [] g0 rfl (fun _ _=>rfl) fun O x=>by kernel_rfl
theorem gM:zzp 203 H5:=vt mix WH LI [(234,Ay),(235,B2),(236,A0)] (gs Gl (gs UM (gs G4 g0))) rfl (fun _ _=>rfl) fun O x=>by kernel_rfl
theorem Ta:zzp 237 Cd:=vt mix Yj Om [(166,AZ),(167,Ag),(168,Ac)] (gs D8 (gs F9 (gs FD g0))) rfl (fun _ _=>rfl) fun O x=>by kernel_rfl
theorem PZ:zzp 263 Bx:=vt mix Vn LA [] g0 rfl (fun _ _=>rfl) fun O x=>by kernel_rfl
theorem hG:zzp 264 Jf:=vt mix Ww NJ [(61,AQ),(263,Bx)] (gs Cj (gs PZ g0)) rfl (fun _ _=>rfl) fun O x=>by kernel_rfl
theorem lh:zzp 238 Kk:=vt mix Y0 Oq [(61,AQ),(184,Aq),(263,Bx),(264,Jf)] (gs Cj (gs Gp (gs PZ (gs hG g0)))) rfl (fun _ _=>rfl) fun O x=>by kernel_rfl
theorem iC:zzp 204 Jj:=vt mix W7 Mv [(237,Cd),(238,Kk)] (gs Ta (gs lh g0)) rfl (fun _ _=>rfl) fun O x=>by kernel_rfl
theorem WT:zzp 103 DN:=vt mix Ng FC [] g0 rfl (fun _ _=>rfl) fun O x=>by kernel_rfl
theorem Rq:zzp 87 CE:=vt mix Q8 Hk [(103,DN)] (gs WT g0) rfl (fun _ _=>rfl) fun O x=>by kernel_rfl
theorem WV:zzp 88 DI:=vt mix Nf FJ [] g0 rfl (fun _ _=>rfl) fun O x=>by kernel_rfl
theorem P9:zzp 57 B6:=vt mix P7 GS [(87,CE),(88,DI)] (gs Rq (gs WV g0)) rfl (fun _ _=>rfl) fun O x=>by kernel_rfl
theorem ZP:zzp 58 E1:=vt mix R0 Rk [] g0 rfl (fun _ _=>rfl) fun O x=>by kernel_rfl
theorem NP:zzp 217 BO:=vt mix Si D3 [(235,B2)] (gs UM g0) rfl (fun _ _=>rfl) fun O x=>by kernel_rfl
theorem ID:zzp 246 A6:=vt mix Vs LT [] g0 rfl (fun _ _=>rfl) fun O x=>by kernel_rfl
theorem HQ:zzp 247 A4:=vt mix Rd Ho [(246,A6)] (gs ID g0) rfl (fun _ _=>rfl) fun O x=>by kernel_rfl
theorem dB:zzp 275 Ft:=vt mix Sn Im [] g0 rfl (fun _ _=>rfl) fun O x=>by kernel_rfl
theorem gC:zzp 265 IC:=vt mix V0 LF [(246,A6),(247,A4),(275,Ft)] (gs ID (gs HQ (gs dB g0))) rfl (fun _ _=>rfl) fun O x=>by kernel_rfl
theorem P4:zzp 99 Bi:=vt mix Pv Py [] g0 rfl (fun _ _=>rfl) fun O x=>by kernel_rfl
theorem Tp:zzp 75 Cr:=vt mix UC J8 [(99,Bi)] (gs P4 g0) rfl (fun _ _=>rfl) fun O x=>by kernel_rfl
theorem Wh:zzp 279 Df:=vt mix PQ F6 [] g0 rfl (fun _ _=>rfl) fun O x=>by kernel_rfl
theorem T1:zzp 276 Cs:=vt mix L7 Dz [(279,Df)] (gs Wh g0) rfl (fun _ _=>rfl) fun O x=>by kernel_rfl
theorem Xp:zzp 280 Dp:=vt mix Oz Fm [] g0 rfl (fun _ _=>rfl) fun O x=>by kernel_rfl
theorem Zn:zzp 277 E7:=vt mix RS HW [(99,Bi),(280,Dp)] (gs P4 (gs Xp g0)) rfl (fun _ _=>rfl) fun O x=>by kernel_rfl
theorem TY:zzp 281 Cg:=vt mix Kt DZ [] g0 rfl (fun _ _=>rfl) fun O x=>by kernel_rfl
theorem Vb:zzp 278 Cz:=vt mix MT Ee [(281,Cg)] (gs TY g0) rfl (fun _ _=>rfl) fun O x=>by kernel_rfl
theorem Ur:zzp 266 C1:=vt mix Mu Ed [(75,Cr),(276,Cs),(277,E7),(278,Cz)] (gs Tp (gs T1 (gs Zn (gs Vb g0)))) rfl (fun _ _=>rfl) fun O x=>by kernel_rfl
theorem fm:zzp 267 Hx:=vt mix V3 K9 [(246,A6),(247,A4)] (gs ID (gs HQ g0)) rfl (fun _ _=>rfl) fun O x=>by kernel_rfl
theorem YK:zzp 239 EN:=vt mix QF GV [(87,CE),(217,BO),(265,IC),(266,C1),(267,Hx)] (gs Rq (gs NP (gs gC (gs Ur (gs fm g0))))) rfl (fun _ _=>rfl) fun O x=>by kernel_rfl
theorem kf:zzp 240 Jm:=vt mix Wn M8 [(234,Ay),(236,A0)] (gs Gl (gs G4 g0)) rfl (fun _ _=>rfl) fun O x=>by kernel_rfl
theorem kO:zzp 241 JN:=vt mix XX Mr [(61,AQ),(184,Aq),(237,Cd),(263,Bx)] (gs Cj (gs Gp (gs Ta (gs PZ g0)))) rfl (fun _ _=>rfl) fun O x=>by kernel_rfl
theorem dE:zzp 242 Fx:=vt mix Sl I5 [(234,Ay)] (gs Gl g0) rfl (fun _ _=>rfl) fun O x=>by kernel_rfl
theorem dk:zzp 205 Gx:=vt mix UN J4 [(57,B6),(58,E1),(134,AP),(239,EN),(240,Jm),(241,JN),(242,Fx)] (gs P9 (gs ZP (gs CT (gs YK (gs kf (gs kO (gs dE g0))))))) rfl (fun _ _=>rfl) fun O x=>by kernel_rfl
theorem W4:zzp 243 Dh:=vt mix XW Mt [(217,BO),(236,A0)] (gs NP (gs G4 g0)) rfl (fun _ _=>rfl) fun O x=>by kernel_rfl
theorem Zj:zzp 206 E9:=vt mix R9 He [(234,Ay),(236,A0),(243,Dh)] (gs Gl (gs G4 (gs W4 g0))) rfl (fun _ _=>rfl) fun O x=>by kernel_rfl
theorem eY:zzp 207 Gu:=vt mix Tl Jp [(234,Ay),(243,Dh)] (gs Gl (gs W4 g0)) rfl (fun _ _=>rfl) fun O x=>by kernel_rfl
theorem WC:zzp 218 Ck:=vt mix Vh Fa [] g0 rfl (fun _ _=>rfl) fun O x=>by kernel_rfl
theorem cS:zzp 208 Fo:=vt mix Sz Ix [(218,Ck),(234,Ay),(236,A0)] (gs WC (gs Gl (gs G4 g0))) rfl (fun _ _=>rfl) fun O x=>by kernel_rfl
theorem Ti:zzp 245 CX:=vt mix Yx Ok [(166,AZ),(167,Ag),(168,Ac)] (gs D8 (gs F9 (gs FD g0))) rfl (fun _ _=>rfl) fun O x=>by kernel_rfl
theorem cD:zzp 209 Fy:=vt mix S5 I1 [(245,CX)] (gs Ti g0) rfl (fun _ _=>rfl) fun O x=>by kernel_rfl
theorem dc:zzp 210 Gw:=vt mix UP KH [(245,CX),(246,A6),(247,A4)] (gs Ti (gs ID (gs HQ g0))) rfl (fun _ _=>rfl) fun O x=>by kernel_rfl
theorem W0:zzp 211 De:=vt mix PE Fh [(245,CX),(246,A6),(247,A4)] (gs Ti (gs ID (gs HQ g0))) rfl (fun _ _=>rfl) fun O x=>by kernel_rfl
theorem cB:zzp 212 Fk:=vt mix Sa Ik [(61,AQ),(237,Cd)] (gs Cj (gs Ta g0)) rfl (fun _ _=>rfl) fun O x=>by kernel_rfl
theorem YO:zzp 213 EW:=vt mix P1 GR [(134,AP)] (gs CT g0) rfl (fun _ _=>rfl) fun O x=>by kernel_rfl
theorem QG:zzp 191 B7:=vt mix P3 GZ [(134,AP)] (gs CT g0) rfl (fun _ _=>rfl) fun O x=>by kernel_rfl
theorem YT:zzp 214 EU:=vt mix QA GP [(134,AP),(191,B7)] (gs CT (gs QG g0)) rfl (fun _ _=>rfl) fun O x=>by kernel_rfl
theorem aC:zzp 215 E2:=vt mix RU Er [(134,AP)] (gs CT g0) rfl (fun _ _=>rfl) fun O x=>by kernel_rfl
theorem bI:zzp 248 F7:=vt mix S4 SX [] g0 rfl (fun _ _=>rfl) fun O x=>by kernel_rfl
theorem Z2:zzp 216 E4:=vt mix RV HZ [(134,AP),(248,F7)] (gs CT (gs bI g0)) rfl (fun _ _=>rfl) fun O x=>by kernel_rfl
theorem YQ:zzp 189 EX:=vt mix P0 EL [(203,H5),(204,Jj),(205,Gx),(206,E9),(207,Gu),(208,Fo),(209,Fy),(210,Gw),(211,De),(212,Fk),(213,EW),(214,EU),(215,E2),(216,E4)] (gs gM (gs iC (gs dk (gs Zj (gs eY (gs cS (gs cD (gs dc (gs W0 (gs cB (gs YO (gs YT (gs aC (gs Z2 g0)))))))))))))) rfl (fun _ _=>rfl) fun O x=>by kernel_rfl
theorem aB:zzp 190 DR:=vt mix R5 Hn [(127,BL),(217,BO),(218,Ck)] (gs M3 (gs NP (gs WC g0))) rfl (fun _ _=>rfl) fun O x=>by kernel_rfl
theorem eN:zzp 171 Gk:=vt mix Uc KA [(107,DB),(127,BL),(134,AP),(188,Fi),(189,EX),(190,DR)] (gs Vz (gs M3 (gs CT (gs cV (gs YQ (gs aB g0)))))) rfl (fun _ _=>rfl) fun O x=>by kernel_rfl
theorem jd:zzp 92 MO:=vt mix Xt Mg [(106,DC),(107,DB),(108,H2),(128,DA),(135,BN),(139,Bw),(140,Fl),(169,F4),(170,G9),(171,Gk),(172,Bo),(191,B7)] (gs Vr (gs Vz (gs fo (gs Vk (gs LU (gs Pe (gs cY (gs cF (gs ec (gs eN (gs O7 (gs QG g0)))))))))))) rfl (fun _ _=>rfl) fun O x=>by kernel_rfl
def cg:Cfg:={ gam:=[⟨92,[],true,true,[],[]⟩],imm:=false,old:=false }
theorem kw (O:Alg) (x:Ags O):XF (O:=O) Tryz.prog cg (CI.ow ⟨66,[],false,false,[],[]⟩) false [] 66 [] (xr x Vc 0)=NN O x:=by kernel_rfl
theorem nc {E:Env} {M:Nat} (N:Nat) (h:∀ ls,E 66 [] ls=NI N ls):VV Tryz.prog E M ⟨66,[],false,false,[],[]⟩ :=
 Fn mix (E:=G0 N) (N:=N) (cfg:=cg) (ci:=⟨66,[],false,false,[],[]⟩) (ks:=Vc) (BJ (jd N (fun _=>rfl)) J3) (c:=NI N) (F:=fun ls=>NN (std (G0 N) N) (xOf ls)) (fun ls=>rfl) (fun ls=>kw (std (G0 N) N) (xOf ls)) h
theorem bJ:zzp 67 Iu:=vt mix S1 I0 [(57,B6)] (gs P9 g0) rfl (fun _ _=>rfl) fun O x=>by kernel_rfl
def cK:Cfg:={ gam:=[⟨65,[],true,true,[],[]⟩,⟨66,[],false,false,[],[]⟩,⟨67,[],true,true,[],[]⟩],imm:=false,old:=true,ie:=[170,99,35,9,73,64,4,160,3,39,5,216,143,190,212,87,33] }
theorem lM (O:Alg) (x:Ags O):XF (O:=O) Tryz.prog cK (CI.ow ⟨32,[],true,false,[],[170,99,35,9,73,64,4,160,3,39,5,216,143,190,212,87,33]⟩) false [] 32 [] (xr x VS 0)=NM O x:=by kernel_rfl
theorem cT {E:Env} {M:Nat} (N:Nat) (h:∀ ls,E 32 [] ls=Hq N ls):VV Tryz.prog E M ⟨32,[],true,false,[],[170,99,35,9,73,64,4,160,3,39,5,216,143,190,212,87,33]⟩ :=
 Fn mix (E:=Du N) (N:=N) (cfg:=cK) (ci:=⟨32,[],true,false,[],[170,99,35,9,73,64,4,160,3,39,5,216,143,190,212,87,33]⟩) (ks:=VS) (BJ (lC N (fun _=>rfl)) (BJ (nc N (fun _=>rfl)) (BJ (bJ N (fun _=>rfl)) J3))) (c:=Hq N) (F:=fun ls=>NM (std (Du N) N) (xOf ls)) (fun ls=>rfl) (fun ls=>lM (std (Du N) N) (xOf ls)) h
def W3:Cfg:={ gam:=[⟨32,[],true,false,[],[170,99,35,9,73,64,4,160,3,39,5,216,143,190,212,87,33]⟩],imm:=false,old:=false }
theorem fi (O:Alg) (x:Ags O):XF (O:=O) Tryz.prog W3 (CI.ow ⟨62,[],false,false,[],[]⟩) false [] 62 [] (xr x R7 0)=I9 O x:=by kernel_rfl
theorem jJ {E:Env} {M:Nat} (N:Nat) (h:∀ ls,E 62 [] ls=JD N ls):VV Tryz.prog E M ⟨62,[],false,false,[],[]⟩ :=
 Fn mix (E:=Eo N) (N:=N) (cfg:=W3) (ci:=⟨62,[],false,false,[],[]⟩) (ks:=R7) (BJ (cT N (fun _=>rfl)) J3) (c:=JD N) (F:=fun ls=>I9 (std (Eo N) N) (xOf ls)) (fun ls=>rfl) (fun ls=>fi (std (Eo N) N) (xOf ls)) h
def Yl:Cfg:={ gam:=[⟨61,[],true,true,[],[]⟩,⟨62,[],false,false,[],[]⟩],imm:=false,old:=false }
theorem jO (O:Alg) (x:Ags O):XF (O:=O) Tryz.prog Yl (CI.ow ⟨27,[],true,true,[],[]⟩) true [] 27 [] (xr x Te 0)=Kd O x:=by kernel_rfl
theorem ku:zzp 27 Kb:=fun N h =>
 Fn mix (E:=EJ N) (N:=N) (cfg:=Yl) (ci:=⟨27,[],true,true,[],[]⟩) (ks:=Te) (BJ (Cj N (fun _=>rfl)) (BJ (jJ N (fun _=>rfl)) J3)) (c:=Kb N) (F:=fun ls=>Kd (std (EJ N) N) (xOf ls)) (fun ls=>rfl) (fun ls=>jO (std (EJ N) N) (xOf ls)) h
theorem cP:zzp 28 Is:=vti mix false false [60000] Sg Ir [] g0 rfl (fun _ _=>rfl) fun O x=>by kernel_rfl
def Hz:Cfg:={ gam:=[],imm:=false,old:=false }
theorem PS (O:Alg) (x:Ags O):XF (O:=O) Tryz.prog Hz (CI.ow ⟨30,[31],true,true,[],[]⟩) true [] 30 [31] (xr x EC 0)=Bv O x:=by kernel_rfl
theorem PX {E:Env} {M:Nat} (N:Nat) (h:∀ ls,E 30 [31] ls=Bz N ls):VV Tryz.prog E M ⟨30,[31],true,true,[],[]⟩ :=
 Fn mix (E:=Bm N) (N:=N) (cfg:=Hz) (ci:=⟨30,[31],true,true,[],[]⟩) (ks:=EC) J3 (c:=Bz N) (F:=fun ls=>Bv (std (Bm N) N) (xOf ls)) (fun ls=>rfl) (fun ls=>PS (std (Bm N) N) (xOf ls)) h
theorem XH:zzp 33 GC:=vt mix Ox Ff [] g0 rfl (fun _ _=>rfl) fun O x=>by kernel_rfl
def UG:Cfg:={ gam:=[⟨17,[],true,true,[],[]⟩,⟨27,[],true,true,[],[]⟩,⟨28,[],true,true,[],[]⟩,⟨30,[31],true,true,[],[]⟩,⟨32,[],true,false,[],[170,99,35,9,73,64,4,160,3,39,5,216,143,190,212,87,33]⟩,⟨33,[],true,true,[],[]⟩],imm:=false,old:=false,ie:=[60000] }
theorem aI (O:Alg) (x:Ags O):XF (O:=O) Tryz.prog UG (CI.ow ⟨10,[],true,true,[],[]⟩) true [] 10 [] (xr x Ns 0)=G7 O x:=by kernel_rfl
theorem eW:zzp 10 DT:=fun N h =>
 Fn mix (E:=BQ N) (N:=N) (cfg:=UG) (ci:=⟨10,[],true,true,[],[]⟩) (ks:=Ns) (BJ (db N (fun _=>rfl)) (BJ (ku N (fun _=>rfl)) (BJ (cP N (fun _=>rfl)) (BJ (PX N (fun _=>rfl)) (BJ (cT N (fun _=>rfl)) (BJ (XH N (fun _=>rfl)) J3)))))) (c:=DT N) (F:=fun ls=>G7 (std (BQ N) N) (xOf ls)) (fun ls=>rfl) (fun ls=>aI (std (BQ N) N) (xOf ls)) h
theorem TK:zzp 12 Ce:=vt mix Kv Da [] g0 rfl (fun _ _=>rfl) fun O x=>by kernel_rfl
theorem Vo:zzp 42 EG:=vt mix Vt LD [] g0 rfl (fun _ _=>rfl) fun O x=>by kernel_rfl
theorem Tt:zzp 98 Cw:=vt mix Lz D2 [] g0 rfl (fun _ _=>rfl) fun O x=>by kernel_rfl
theorem Rx:zzp 74 Bl:=vt mix JA C2 [(98,Cw)] (gs Tt g0) rfl (fun _ _=>rfl) fun O x=>by kernel_rfl
theorem gK:zzp 37 LG:=vt mix V4 K1 [(42,EG),(73,Eh),(74,Bl)] (gs Vo (gs Ym (gs Rx g0))) rfl (fun _ _=>rfl) fun O x=>by kernel_rfl
theorem Zz:zzp 38 Hg:=vt mix Qz Hb [] g0 rfl (fun _ _=>rfl) fun O x=>by kernel_rfl
theorem YS:zzp 39 GT:=vt mix Pz GW [] g0 rfl (fun _ _=>rfl) fun O x=>by kernel_rfl
theorem ZV:zzp 40 Hh:=vt mix RP HX [(75,Cr)] (gs Tp g0) rfl (fun _ _=>rfl) fun O x=>by kernel_rfl
theorem VW:zzp 101 C4:=fun N h =>
 me Tryz.func101 (T2:=2) (T3:=3) (T9:=9) rfl rfl Tryz.underlying2 Tryz.underlying3 Tryz.underlying9 (by kernel_rfl) (by kernel_rfl) (fun i h0 hi w ht=>Tryz.internal_strconv_FormatInt_10 i h0 hi w ht) h
theorem WU:zzp 77 DJ:=vt mix Ni FE [(101,C4)] (gs VW g0) rfl (fun _ _=>rfl) fun O x=>by kernel_rfl
theorem eO:zzp 43 G6:=vt mix Uf Jy [(77,DJ)] (gs WU g0) rfl (fun _ _=>rfl) fun O x=>by kernel_rfl
def UH:Cfg:={ gam:=[⟨37,[],true,true,[],[]⟩,⟨38,[],true,true,[],[]⟩,⟨39,[],true,true,[],[]⟩,⟨40,[],true,true,[],[]⟩,⟨42,[],true,true,[],[]⟩,⟨43,[],true,true,[],[]⟩],imm:=false,old:=false,ie:=[70000],bld:=qS }
theorem dF (O:Alg) (x:Ags O):XF (O:=O) Tryz.prog UH (CI.ow ⟨14,[],true,true,[],[]⟩) true [] 14 [] (xr x N4 0)=HC O x:=by kernel_rfl
theorem UR:zzp 14 CJ:=fun N h =>
 aF mix (E:=BR N) (N:=N) (cfg:=UH) (ci:=⟨14,[],true,true,[],[]⟩) (ks:=N4) (BJ (gK N (fun _=>rfl)) (BJ (Zz N (fun _=>rfl)) (BJ (YS N (fun _=>rfl)) (BJ (ZV N (fun _=>rfl)) (BJ (Vo N (fun _=>rfl)) (BJ (eO N (fun _=>rfl)) J3)))))) ua (c:=CJ N) (F:=fun ls=>HC (std (BR N) N) (xOf ls)) (fun ls=>rfl) (fun ls=>dF (std (BR N) N) (xOf ls)) h
theorem kz:zzp 25 Kl:=vt mix Ye Y7 [] g0 rfl (fun _ _=>rfl) fun O x=>by kernel_rfl
theorem lQ:zzp 60 TR:=vt mix ZH Y6 [] g0 rfl (fun _ _=>rfl) fun O x=>by kernel_rfl
theorem pV:zzp 26 O4:=vt mix fX eg [(60,TR)] (gs lQ g0) rfl (fun _ _=>rfl) fun O x=>by kernel_rfl
theorem lG:zzp 8 Kh:=vt mix ZB Oi [(10,DT),(12,Ce),(14,CJ),(25,Kl),(26,O4)] (gs eW (gs TK (gs UR (gs kz (gs pV g0))))) rfl (fun _ _=>rfl) fun O x=>by kernel_rfl
def fH:Cfg:={ gam:=[],imm:=false,old:=false }
theorem nV (O:Alg) (x:Ags O):XF (O:=O) Tryz.prog fH (CI.ow ⟨13,[],false,false,[],[]⟩) false [] 13 [] (xr x W8 0)=O5 O x:=by kernel_rfl
theorem oa {E:Env} {M:Nat} (N:Nat) (h:∀ ls,E 13 [] ls=O1 N ls):VV Tryz.prog E M ⟨13,[],false,false,[],[]⟩ :=
 Fn mix (E:=Ke N) (N:=N) (cfg:=fH) (ci:=⟨13,[],false,false,[],[]⟩) (ks:=W8) J3 (c:=O1 N) (F:=fun ls=>O5 (std (Ke N) N) (xOf ls)) (fun ls=>rfl) (fun ls=>nV (std (Ke N) N) (xOf ls)) h
theorem lO:zzp 15 Od:=vt mix Y5 Oc [] g0 rfl (fun _ _=>rfl) fun O x=>by kernel_rfl
theorem ml:zzp 78 Mf:=vt mix bB Qf [] g0 rfl (fun _ _=>rfl) fun O x=>by kernel_rfl
theorem oH:zzp 79 Mw:=vt mix aM QS [] g0 rfl (fun _ _=>rfl) fun O x=>by kernel_rfl
theorem lZ:zzp 46 KX:=vt mix Yo Ou [(78,Mf),(79,Mw)] (gs ml (gs oH g0)) rfl (fun _ _=>rfl) fun O x=>by kernel_rfl
theorem kY:zzp 47 JC:=vt mix Wz MM [] g0 rfl (fun _ _=>rfl) fun O x=>by kernel_rfl
theorem lX:zzp 48 IP:=vt mix Y8 On [] g0 rfl (fun _ _=>rfl) fun O x=>by kernel_rfl
theorem ki:zzp 80 IQ:=vt mix Yc Yr [] g0 rfl (fun _ _=>rfl) fun O x=>by kernel_rfl
theorem nf:zzp 49 Mq:=vt mix aK MZ [(80,IQ)] (gs ki g0) rfl (fun _ _=>rfl) fun O x=>by kernel_rfl
theorem lA:zzp 50 Kn:=vt mix ZC Og [] g0 rfl (fun _ _=>rfl) fun O x=>by kernel_rfl
theorem kX:zzp 81 JY:=vt mix Xj MP [] g0 rfl (fun _ _=>rfl) fun O x=>by kernel_rfl
theorem fj:zzp 51 Fc:=vt mix WG LJ [(81,JY)] (gs kX g0) rfl (fun _ _=>rfl) fun O x=>by kernel_rfl
theorem nB:zzp 16 Qi:=vt mix bC QO [(46,KX),(47,JC),(48,IP),(49,Mq),(50,Kn),(51,Fc)] (gs lZ (gs kY (gs lX (gs nf (gs lA (gs fj g0)))))) rfl (fun _ _=>rfl) fun O x=>by kernel_rfl
def PF:Cfg:={ gam:=[⟨8,[],true,true,[],[]⟩,⟨13,[],false,false,[],[]⟩,⟨14,[],true,true,[],[]⟩,⟨15,[],true,true,[],[]⟩,⟨16,[],true,true,[],[]⟩],imm:=false,old:=false }
theorem WN (O:Alg) (x:Ags O):XF (O:=O) Tryz.prog PF (CI.ow ⟨4,[],true,true,[],[]⟩) true [] 4 [] (xr x JU 0)=Dm O x:=by kernel_rfl
theorem XR:zzp 4 Dk:=fun N h =>
 Fn mix (E:=BC N) (N:=N) (cfg:=PF) (ci:=⟨4,[],true,true,[],[]⟩) (ks:=JU) (BJ (lG N (fun _=>rfl)) (BJ (oa N (fun _=>rfl)) (BJ (UR N (fun _=>rfl)) (BJ (lO N (fun _=>rfl)) (BJ (nB N (fun _=>rfl)) J3))))) (c:=Dk N) (F:=fun ls=>Dm (std (BC N) N) (xOf ls)) (fun ls=>rfl) (fun ls=>WN (std (BC N) N) (xOf ls)) h
end Go.Px
