/- Part 17. -/
import Derived.Test.YtejjoflbpnjohaaGreatDoorPart07
import Derived.Test.YtejjoflbpnjohaaGreatDoorProg
import Derived.Test.YtejjoflbpnjohaaGreatDoorPart09
import Derived.KernelRfl
import Derived.WalkKit
import Derived.Lib.Walk
import Derived.BigCall
import Derived.BigGuard
import Derived.Test.YtejjoflbpnjohaaGreatDoorPart15
import Derived.Test.YtejjoflbpnjohaaGreatDoorPart16
set_option linter.unusedVariables false
set_option linter.unusedSimpArgs false
namespace Go.Px
open Go.Proofs
set_option maxRecDepth 100000
abbrev zzp:=Vd Tryz.prog
theorem mix:Tryz.prog.follows .mixedOrders=true:=by kernel_rfl
theorem TH:zzp 17 Ei:=vt mix S9 Jy [] g0 rfl (fun _ _=>rfl) fun O x=>by kernel_rfl
theorem Xu:zzp 73 GH:=vt mix Xj N1 [] g0 rfl (fun _ _=>rfl) fun O x=>by kernel_rfl
theorem Rq:zzp 104 CV:=vt mix SD Ro [] g0 rfl (fun _ _=>rfl) fun O x=>by kernel_rfl
theorem aF:zzp 89 F9:=vt mix Rp Ij [(104,CV)] (gs Rq g0) rfl (fun _ _=>rfl) fun O x=>by kernel_rfl
theorem cR:zzp 90 Ge:=vt mix TW Jz [(104,CV)] (gs Rq g0) rfl (fun _ _=>rfl) fun O x=>by kernel_rfl
theorem Cp:zzp 61 AW:=vt mix VL Kj [(73,GH),(89,F9),(90,Ge)] (gs Xu (gs aF (gs cR g0))) rfl (fun _ _=>rfl) fun O x=>by kernel_rfl
theorem UT:zzp 105 C6:=fun N h =>
 N0 mix (T:=22) (e:=170) (b:=24) Tryz.func105 Tryz.underlying22 (by kernel_rfl) (by decide) (fun O l=>by kernel_rfl) (fun O l=>by kernel_rfl) h
theorem Ur:zzp 91 DD:=vt mix Um K6 [(105,C6)] (gs UT g0) rfl (fun _ _=>rfl) fun O x=>by kernel_rfl
theorem jE:zzp 65 Nw:=vt mix YC Nu [(61,AW),(91,DD)] (gs Cp (gs Ur g0)) rfl (fun _ _=>rfl) fun O x=>by kernel_rfl
theorem EL:zzp 159 Al:=vt mix PU PJ [] g0 rfl (fun _ _=>rfl) fun O x=>by kernel_rfl
theorem Xe:zzp 160 EN:=vt mix PS GT [(159,Al)] (gs EL g0) rfl (fun _ _=>rfl) fun O x=>by kernel_rfl
theorem V7:zzp 198 Dj:=vt mix OH Fx [] g0 rfl (fun _ _=>rfl) fun O x=>by kernel_rfl
theorem Gc:zzp 184 Aq:=vt mix Li EB [(198,Dj)] (gs V7 g0) rfl (fun _ _=>rfl) fun O x=>by kernel_rfl
theorem VQ:zzp 161 DR:=vt mix M3 FK [(159,Al),(184,Aq)] (gs EL (gs Gc g0)) rfl (fun _ _=>rfl) fun O x=>by kernel_rfl
theorem VU:zzp 186 DQ:=vt mix M8 FL [(159,Al)] (gs EL g0) rfl (fun _ _=>rfl) fun O x=>by kernel_rfl
theorem XY:zzp 162 ER:=vt mix O9 GU [(186,DQ)] (gs VU g0) rfl (fun _ _=>rfl) fun O x=>by kernel_rfl
theorem MT:zzp 127 BJ:=vt mix SJ IV [(61,AW),(159,Al),(160,EN),(161,DR),(162,ER)] (gs Cp (gs EL (gs Xe (gs VQ (gs XY g0))))) rfl (fun _ _=>rfl) fun O x=>by kernel_rfl
theorem K4:zzp 135 BL:=vt mix Uq K8 [] g0 rfl (fun _ _=>rfl) fun O x=>by kernel_rfl
theorem U9:zzp 128 DC:=vt mix U8 K9 [(135,BL)] (gs K4 g0) rfl (fun _ _=>rfl) fun O x=>by kernel_rfl
theorem eX:zzp 129 Hp:=vt mix VA Kp [] g0 rfl (fun _ _=>rfl) fun O x=>by kernel_rfl
theorem Us:zzp 106 DB:=vt mix Un Kl [(61,AW),(127,BJ),(128,DC),(129,Hp)] (gs Cp (gs MT (gs U9 (gs eX g0)))) rfl (fun _ _=>rfl) fun O x=>by kernel_rfl
theorem bz:zzp 130 G8:=vt mix Ti Jk [] g0 rfl (fun _ _=>rfl) fun O x=>by kernel_rfl
theorem bM:zzp 131 F7:=vt mix Ru MR [] g0 rfl (fun _ _=>rfl) fun O x=>by kernel_rfl
open Go.RowKit Go.Lib in
set_option maxHeartbeats 1000000 in
theorem Pd (s:ByteArray) (c:Int) (w:World):Calls Tryz.prog 187 #[.string s,.int .u8 c] w fun e w'=>e=.returned (.int .i64 (Lib.indexByte s.data.toList c.toNat.toUInt8))∧w'=w:=by
 go_enter Tryz.func187,Tryz.ntmps187
 go_wp2
 rw [run_callFunc_extern Tryz.func200 (by kernel_rfl) (by kernel_rfl) (by kernel_rfl) (e:=Extern.BytealgIndexByte.indexByte) (by kernel_rfl),Lib.run_indexByteString];simp only [Result.andThen];rw [Oper.upon_value]
 go_wp2
 go_ret
 exact ⟨rfl,rfl⟩
theorem RT:zzp 187 CR:=fun N h =>
 ir Tryz.func187 (T9:=9) (T5:=5) (T3:=3) rfl rfl Tryz.underlying9 Tryz.underlying5 Tryz.underlying3 (by kernel_rfl) Pd h
theorem VY:zzp 163 DM:=vt mix M2 FJ [(187,CR)] (gs RT g0) rfl (fun _ _=>rfl) fun O x=>by kernel_rfl
theorem eV:zzp 164 Fa:=vt mix VB U3 [] g0 rfl (fun _ _=>rfl) fun O x=>by kernel_rfl
theorem gd:zzp 132 I7:=vt mix WV MG [(163,DM),(164,Fa)] (gs VY (gs eV g0)) rfl (fun _ _=>rfl) fun O x=>by kernel_rfl
theorem Wn:zzp 165 Dg:=vt mix OL JY [] g0 rfl (fun _ _=>rfl) fun O x=>by kernel_rfl
theorem Ys:zzp 133 E0:=vt mix Ql Hd [(165,Dg)] (gs Wn g0) rfl (fun _ _=>rfl) fun O x=>by kernel_rfl
theorem Ul:zzp 107 DE:=vt mix VI Hx [(130,G8),(131,F7),(132,I7),(133,E0)] (gs bz (gs bM (gs gd (gs Ys g0)))) rfl (fun _ _=>rfl) fun O x=>by kernel_rfl
theorem D3:zzp 166 Aa:=fun N h =>
 N0 mix (T:=158) (e:=216) (b:=1) Tryz.func166 Tryz.underlying158 (by kernel_rfl) (by decide) (fun O l=>by kernel_rfl) (fun O l=>by kernel_rfl) h
theorem Fk:zzp 167 Ah:=fun N h =>
 N0 mix (T:=102) (e:=3) (b:=8) Tryz.func167 Tryz.underlying102 (by kernel_rfl) (by decide) (fun O l=>by kernel_rfl) (fun O l=>by kernel_rfl) h
theorem FD:zzp 168 Ac:=fun N h =>
 N0 mix (T:=69) (e:=4) (b:=1) Tryz.func168 Tryz.underlying69 (by kernel_rfl) (by decide) (fun O l=>by kernel_rfl) (fun O l=>by kernel_rfl) h
theorem CW:zzp 134 AU:=vt mix Rv Ip [(166,Aa),(167,Ah),(168,Ac)] (gs D3 (gs Fk (gs FD g0))) rfl (fun _ _=>rfl) fun O x=>by kernel_rfl
theorem eS:zzp 108 Hz:=vt mix VF Kr [(91,DD),(134,AU)] (gs Ur (gs CW g0)) rfl (fun _ _=>rfl) fun O x=>by kernel_rfl
theorem O1:zzp 139 B0:=vt mix Ut Kn [] g0 rfl (fun _ _=>rfl) fun O x=>by kernel_rfl
theorem OV:zzp 172 Bp:=vt mix OP Fi [] g0 rfl (fun _ _=>rfl) fun O x=>by kernel_rfl
theorem bU:zzp 140 GC:=vt mix Rt IX [(106,DB),(135,BL),(139,B0),(172,Bp)] (gs Us (gs K4 (gs O1 (gs OV g0)))) rfl (fun _ _=>rfl) fun O x=>by kernel_rfl
theorem Zp:zzp 169 Fm:=vt mix R6 It [(61,AW),(159,Al)] (gs Cp (gs EL g0)) rfl (fun _ _=>rfl) fun O x=>by kernel_rfl
theorem cu:zzp 170 G3:=vt mix TP Jv [(135,BL),(139,B0)] (gs K4 (gs O1 g0)) rfl (fun _ _=>rfl) fun O x=>by kernel_rfl
theorem Xi:zzp 202 EU:=vt mix PW J3 [] g0 rfl (fun _ _=>rfl) fun O x=>by kernel_rfl
theorem Z3:zzp 188 Fu:=vt mix SB IR [(202,EU)] (gs Xi g0) rfl (fun _ _=>rfl) fun O x=>by kernel_rfl
theorem Gt:zzp 234 Ax:=vt mix Wc L4 [(166,Aa),(167,Ah),(168,Ac)] (gs D3 (gs Fk (gs FD g0))) rfl (fun _ _=>rfl) fun O x=>by kernel_rfl
theorem Yb:zzp 262 Cs:=vt mix QT LJ [] g0 rfl (fun _ _=>rfl) fun O x=>by kernel_rfl
theorem S6:zzp 235 B3:=vt mix Sv En [(262,Cs)] (gs Yb g0) rfl (fun _ _=>rfl) fun O x=>by kernel_rfl
theorem Gd:zzp 236 Av:=vt mix Te Jq [] g0 rfl (fun _ _=>rfl) fun O x=>by kernel_rfl
theorem eO:zzp 203 H7:=vt mix VH Kx [(234,Ax),(235,B3),(236,Av)] (gs Gt (gs S6 (gs Gd g0))) rfl (fun _ _=>rfl) fun O x=>by kernel_rfl
theorem Sj:zzp 237 Ci:=vt mix Xn N3 [(166,Aa),(167,Ah),(168,Ac)] (gs D3 (gs Fk (gs FD g0))) rfl (fun _ _=>rfl) fun O x=>by kernel_rfl
theorem Ox:zzp 263 Bw:=vt mix U5 K2 [] g0 rfl (fun _ _=>rfl) fun O x=>by kernel_rfl
theorem gt:zzp 264 I9:=vt mix WD MQ [(61,AW),(263,Bw)] (gs Cp (gs Ox g0)) rfl (fun _ _=>rfl) fun O x=>by kernel_rfl
theorem jD:zzp 238 Kc:=vt mix Xw N6 [(61,AW),(184,Aq),(263,Bw),(264,I9)] (gs Cp (gs Gc (gs Ox (gs gt g0)))) rfl (fun _ _=>rfl) fun O x=>by kernel_rfl
theorem fM:zzp 204 I5:=vt mix Wf MF [(237,Ci),(238,Kc)] (gs Sj (gs jD g0)) rfl (fun _ _=>rfl) fun O x=>by kernel_rfl
theorem VP:zzp 103 DP:=vt mix M5 FH [] g0 rfl (fun _ _=>rfl) fun O x=>by kernel_rfl
theorem QL:zzp 87 CM:=vt mix Qz HV [(103,DP)] (gs VP g0) rfl (fun _ _=>rfl) fun O x=>by kernel_rfl
theorem VW:zzp 88 DN:=vt mix M1 FG [] g0 rfl (fun _ _=>rfl) fun O x=>by kernel_rfl
theorem PI:zzp 57 B7:=vt mix PC GV [(87,CM),(88,DN)] (gs QL (gs VW g0)) rfl (fun _ _=>rfl) fun O x=>by kernel_rfl
theorem ZF:zzp 58 Et:=vt mix Q8 Qm [] g0 rfl (fun _ _=>rfl) fun O x=>by kernel_rfl
theorem Mr:zzp 217 BM:=vt mix Rk EC [(235,B3)] (gs S6 g0) rfl (fun _ _=>rfl) fun O x=>by kernel_rfl
theorem H0:zzp 246 A1:=vt mix Uv Kk [] g0 rfl (fun _ _=>rfl) fun O x=>by kernel_rfl
theorem HU:zzp 247 Az:=vt mix Q7 Hb [(246,A1)] (gs H0 g0) rfl (fun _ _=>rfl) fun O x=>by kernel_rfl
theorem bn:zzp 275 F3:=vt mix R5 Ik [] g0 rfl (fun _ _=>rfl) fun O x=>by kernel_rfl
theorem eC:zzp 265 H4:=vt mix VK Kt [(246,A1),(247,Az),(275,F3)] (gs H0 (gs HU (gs bn g0))) rfl (fun _ _=>rfl) fun O x=>by kernel_rfl
theorem PP:zzp 99 Bk:=vt mix O8 PD [] g0 rfl (fun _ _=>rfl) fun O x=>by kernel_rfl
theorem Th:zzp 75 DZ:=vt mix Su Jo [(99,Bk)] (gs PP g0) rfl (fun _ _=>rfl) fun O x=>by kernel_rfl
theorem Vm:zzp 279 Dk:=vt mix OW Fy [] g0 rfl (fun _ _=>rfl) fun O x=>by kernel_rfl
theorem TZ:zzp 276 Cv:=vt mix Ld D7 [(279,Dk)] (gs Vm g0) rfl (fun _ _=>rfl) fun O x=>by kernel_rfl
theorem V8:zzp 280 Dx:=vt mix OE F1 [] g0 rfl (fun _ _=>rfl) fun O x=>by kernel_rfl
theorem Y6:zzp 277 Er:=vt mix QX Hh [(99,Bk),(280,Dx)] (gs PP (gs V8 g0)) rfl (fun _ _=>rfl) fun O x=>by kernel_rfl
theorem Se:zzp 281 Cc:=vt mix KZ Df [] g0 rfl (fun _ _=>rfl) fun O x=>by kernel_rfl
theorem T6:zzp 278 C1:=vt mix Mm Ee [(281,Cc)] (gs Se g0) rfl (fun _ _=>rfl) fun O x=>by kernel_rfl
theorem Uc:zzp 266 C4:=vt mix MB Ea [(75,DZ),(276,Cv),(277,Er),(278,C1)] (gs Th (gs TZ (gs Y6 (gs T6 g0)))) rfl (fun _ _=>rfl) fun O x=>by kernel_rfl
theorem eT:zzp 267 Hv:=vt mix Uy Kg [(246,A1),(247,Az)] (gs H0 (gs HU g0)) rfl (fun _ _=>rfl) fun O x=>by kernel_rfl
theorem Xh:zzp 239 EV:=vt mix PQ GS [(87,CM),(217,BM),(265,H4),(266,C4),(267,Hv)] (gs QL (gs Mr (gs eC (gs Uc (gs eT g0))))) rfl (fun _ _=>rfl) fun O x=>by kernel_rfl
theorem gr:zzp 240 JW:=vt mix Vl Mf [(234,Ax),(236,Av)] (gs Gt (gs Gd g0)) rfl (fun _ _=>rfl) fun O x=>by kernel_rfl
theorem fD:zzp 241 JK:=vt mix Vv ML [(61,AW),(184,Aq),(237,Ci),(263,Bw)] (gs Cp (gs Gc (gs Sj (gs Ox g0)))) rfl (fun _ _=>rfl) fun O x=>by kernel_rfl
theorem bP:zzp 242 Fp:=vt mix Re Ir [(234,Ax)] (gs Gt g0) rfl (fun _ _=>rfl) fun O x=>by kernel_rfl
theorem cJ:zzp 205 Gn:=vt mix Ta Jl [(57,B7),(58,Et),(134,AU),(239,EV),(240,JW),(241,JK),(242,Fp)] (gs PI (gs ZF (gs CW (gs Xh (gs gr (gs fD (gs bP g0))))))) rfl (fun _ _=>rfl) fun O x=>by kernel_rfl
theorem Vs:zzp 243 Dn:=vt mix Vu L7 [(217,BM),(236,Av)] (gs Mr (gs Gd g0)) rfl (fun _ _=>rfl) fun O x=>by kernel_rfl
theorem ZA:zzp 206 E9:=vt mix Qv Hj [(234,Ax),(236,Av),(243,Dn)] (gs Gt (gs Gd (gs Vs g0))) rfl (fun _ _=>rfl) fun O x=>by kernel_rfl
theorem cd:zzp 207 Gu:=vt mix Sr JZ [(234,Ax),(243,Dn)] (gs Gt (gs Vs g0)) rfl (fun _ _=>rfl) fun O x=>by kernel_rfl
theorem U0:zzp 218 Cj:=vt mix VC FY [] g0 rfl (fun _ _=>rfl) fun O x=>by kernel_rfl
theorem Zw:zzp 208 F2:=vt mix SE Ig [(218,Cj),(234,Ax),(236,Av)] (gs U0 (gs Gt (gs Gd g0))) rfl (fun _ _=>rfl) fun O x=>by kernel_rfl
theorem So:zzp 245 Ce:=vt mix Xs Ny [(166,Aa),(167,Ah),(168,Ac)] (gs D3 (gs Fk (gs FD g0))) rfl (fun _ _=>rfl) fun O x=>by kernel_rfl
theorem Zd:zzp 209 Fq:=vt mix SL IU [(245,Ce)] (gs So g0) rfl (fun _ _=>rfl) fun O x=>by kernel_rfl
theorem cP:zzp 210 G0:=vt mix TO Jp [(245,Ce),(246,A1),(247,Az)] (gs So (gs H0 (gs HU g0))) rfl (fun _ _=>rfl) fun O x=>by kernel_rfl
theorem Vj:zzp 211 Dw:=vt mix N8 Fl [(245,Ce),(246,A1),(247,Az)] (gs So (gs H0 (gs HU g0))) rfl (fun _ _=>rfl) fun O x=>by kernel_rfl
theorem bO:zzp 212 GB:=vt mix Ri Ic [(61,AW),(237,Ci)] (gs Cp (gs Sj g0)) rfl (fun _ _=>rfl) fun O x=>by kernel_rfl
theorem Xg:zzp 213 EP:=vt mix PK GP [(134,AU)] (gs CW g0) rfl (fun _ _=>rfl) fun O x=>by kernel_rfl
theorem PN:zzp 191 B8:=vt mix PL GZ [(134,AU)] (gs CW g0) rfl (fun _ _=>rfl) fun O x=>by kernel_rfl
theorem XT:zzp 214 EM:=vt mix O7 GW [(134,AU),(191,B8)] (gs CW (gs PN g0)) rfl (fun _ _=>rfl) fun O x=>by kernel_rfl
theorem Yh:zzp 215 Ez:=vt mix QJ Ew [(134,AU)] (gs CW g0) rfl (fun _ _=>rfl) fun O x=>by kernel_rfl
theorem aD:zzp 248 F5:=vt mix SA SM [] g0 rfl (fun _ _=>rfl) fun O x=>by kernel_rfl
theorem Yv:zzp 216 E5:=vt mix QR Hk [(134,AU),(248,F5)] (gs CW (gs aD g0)) rfl (fun _ _=>rfl) fun O x=>by kernel_rfl
theorem XV:zzp 189 EY:=vt mix PE ES [(203,H7),(204,I5),(205,Gn),(206,E9),(207,Gu),(208,F2),(209,Fq),(210,G0),(211,Dw),(212,GB),(213,EP),(214,EM),(215,Ez),(216,E5)] (gs eO (gs fM (gs cJ (gs ZA (gs cd (gs Zw (gs Zd (gs cP (gs Vj (gs bO (gs Xg (gs XT (gs Yh (gs Yv g0)))))))))))))) rfl (fun _ _=>rfl) fun O x=>by kernel_rfl
theorem Ym:zzp 190 DU:=vt mix Qn Hf [(127,BJ),(217,BM),(218,Cj)] (gs MT (gs Mr (gs U0 g0))) rfl (fun _ _=>rfl) fun O x=>by kernel_rfl
theorem dC:zzp 171 Gk:=vt mix TY Jf [(107,DE),(127,BJ),(134,AU),(188,Fu),(189,EY),(190,DU)] (gs Ul (gs MT (gs CW (gs Z3 (gs XV (gs Ym g0)))))) rfl (fun _ _=>rfl) fun O x=>by kernel_rfl
theorem ik:zzp 92 Mj:=vt mix Wh Mq [(106,DB),(107,DE),(108,Hz),(128,DC),(135,BL),(139,B0),(140,GC),(169,Fm),(170,G3),(171,Gk),(172,Bp),(191,B8)] (gs Us (gs Ul (gs eS (gs U9 (gs K4 (gs O1 (gs bU (gs Zp (gs cu (gs dC (gs OV (gs PN g0)))))))))))) rfl (fun _ _=>rfl) fun O x=>by kernel_rfl
def Zn:Cfg:={ gam:=[⟨92,[],true,true,[],[]⟩],imm:=false,old:=false }
theorem jR (O:Alg) (x:Ags O):XF (O:=O) Tryz.prog Zn (CI.ow ⟨66,[],false,false,[],[]⟩) false [] 66 [] (xr x UX 0)=Mb O x:=by kernel_rfl
theorem lj {E:Env} {M:Nat} (N:Nat) (h:∀ ls,E 66 [] ls=MZ N ls):VV Tryz.prog E M ⟨66,[],false,false,[],[]⟩ :=
 Fh mix (E:=Gp N) (N:=N) (cfg:=Zn) (ci:=⟨66,[],false,false,[],[]⟩) (ks:=UX) (BI (ik N (fun _=>rfl)) Jt) (c:=MZ N) (F:=fun ls=>Mb (std (Gp N) N) (xOf ls)) (fun ls=>rfl) (fun ls=>jR (std (Gp N) N) (xOf ls)) h
theorem ZR:zzp 67 IZ:=vt mix SC Im [(57,B7)] (gs PI g0) rfl (fun _ _=>rfl) fun O x=>by kernel_rfl
def Z8:Cfg:={ gam:=[⟨65,[],true,true,[],[]⟩,⟨66,[],false,false,[],[]⟩,⟨67,[],true,true,[],[]⟩],imm:=false,old:=true,ie:=[170,99,35,9,73,64,4,160,3,39,5,216,143,190,212,87,33] }
theorem jO (O:Alg) (x:Ags O):XF (O:=O) Tryz.prog Z8 (CI.ow ⟨32,[],true,false,[],[170,99,35,9,73,64,4,160,3,39,5,216,143,190,212,87,33]⟩) false [] 32 [] (xr x UZ 0)=MO O x:=by kernel_rfl
theorem aW {E:Env} {M:Nat} (N:Nat) (h:∀ ls,E 32 [] ls=HP N ls):VV Tryz.prog E M ⟨32,[],true,false,[],[170,99,35,9,73,64,4,160,3,39,5,216,143,190,212,87,33]⟩ :=
 Fh mix (E:=D0 N) (N:=N) (cfg:=Z8) (ci:=⟨32,[],true,false,[],[170,99,35,9,73,64,4,160,3,39,5,216,143,190,212,87,33]⟩) (ks:=UZ) (BI (jE N (fun _=>rfl)) (BI (lj N (fun _=>rfl)) (BI (ZR N (fun _=>rfl)) Jt))) (c:=HP N) (F:=fun ls=>MO (std (D0 N) N) (xOf ls)) (fun ls=>rfl) (fun ls=>jO (std (D0 N) N) (xOf ls)) h
def Wq:Cfg:={ gam:=[⟨32,[],true,false,[],[170,99,35,9,73,64,4,160,3,39,5,216,143,190,212,87,33]⟩],imm:=false,old:=false }
theorem eN (O:Alg) (x:Ags O):XF (O:=O) Tryz.prog Wq (CI.ow ⟨62,[],false,false,[],[]⟩) false [] 62 [] (xr x Qh 0)=I3 O x:=by kernel_rfl
theorem fO {E:Env} {M:Nat} (N:Nat) (h:∀ ls,E 62 [] ls=JJ N ls):VV Tryz.prog E M ⟨62,[],false,false,[],[]⟩ :=
 Fh mix (E:=Ep N) (N:=N) (cfg:=Wq) (ci:=⟨62,[],false,false,[],[]⟩) (ks:=Qh) (BI (aW N (fun _=>rfl)) Jt) (c:=JJ N) (F:=fun ls=>I3 (std (Ep N) N) (xOf ls)) (fun ls=>rfl) (fun ls=>eN (std (Ep N) N) (xOf ls)) h
def YL:Cfg:={ gam:=[⟨61,[],true,true,[],[]⟩,⟨62,[],false,false,[],[]⟩],imm:=false,old:=false }
theorem iq (O:Alg) (x:Ags O):XF (O:=O) Tryz.prog YL (CI.ow ⟨27,[],true,true,[],[]⟩) true [] 27 [] (xr x SP 0)=KF O x:=by kernel_rfl
theorem jV:zzp 27 KE:=fun N h =>
 Fh mix (E:=EI N) (N:=N) (cfg:=YL) (ci:=⟨27,[],true,true,[],[]⟩) (ks:=SP) (BI (Cp N (fun _=>rfl)) (BI (fO N (fun _=>rfl)) Jt)) (c:=KE N) (F:=fun ls=>KF (std (EI N) N) (xOf ls)) (fun ls=>rfl) (fun ls=>iq (std (EI N) N) (xOf ls)) h
theorem bm:zzp 28 Is:=vti mix false false [60000] R8 Id [] g0 rfl (fun _ _=>rfl) fun O x=>by kernel_rfl
def Hu:Cfg:={ gam:=[],imm:=false,old:=false }
theorem OI (O:Alg) (x:Ags O):XF (O:=O) Tryz.prog Hu (CI.ow ⟨30,[31],true,true,[],[]⟩) true [] 30 [31] (xr x EK 0)=Bx O x:=by kernel_rfl
theorem Oq {E:Env} {M:Nat} (N:Nat) (h:∀ ls,E 30 [31] ls=Bz N ls):VV Tryz.prog E M ⟨30,[31],true,true,[],[]⟩ :=
 Fh mix (E:=Bl N) (N:=N) (cfg:=Hu) (ci:=⟨30,[31],true,true,[],[]⟩) (ks:=EK) Jt (c:=Bz N) (F:=fun ls=>Bx (std (Bl N) N) (xOf ls)) (fun ls=>rfl) (fun ls=>OI (std (Bl N) N) (xOf ls)) h
theorem V1:zzp 33 Fw:=vt mix OM Fd [] g0 rfl (fun _ _=>rfl) fun O x=>by kernel_rfl
def S1:Cfg:={ gam:=[⟨17,[],true,true,[],[]⟩,⟨27,[],true,true,[],[]⟩,⟨28,[],true,true,[],[]⟩,⟨30,[31],true,true,[],[]⟩,⟨32,[],true,false,[],[170,99,35,9,73,64,4,160,3,39,5,216,143,190,212,87,33]⟩,⟨33,[],true,true,[],[]⟩],imm:=false,old:=false,ie:=[60000] }
theorem aV (O:Alg) (x:Ags O):XF (O:=O) Tryz.prog S1 (CI.ow ⟨10,[],true,true,[],[]⟩) true [] 10 [] (xr x NK 0)=G1 O x:=by kernel_rfl
theorem S8:zzp 10 CQ:=fun N h =>
 Fh mix (E:=BN N) (N:=N) (cfg:=S1) (ci:=⟨10,[],true,true,[],[]⟩) (ks:=NK) (BI (TH N (fun _=>rfl)) (BI (jV N (fun _=>rfl)) (BI (bm N (fun _=>rfl)) (BI (Oq N (fun _=>rfl)) (BI (aW N (fun _=>rfl)) (BI (V1 N (fun _=>rfl)) Jt)))))) (c:=CQ N) (F:=fun ls=>G1 (std (BN N) N) (xOf ls)) (fun ls=>rfl) (fun ls=>aV (std (BN N) N) (xOf ls)) h
theorem Sa:zzp 12 Ca:=vt mix KY Db [] g0 rfl (fun _ _=>rfl) fun O x=>by kernel_rfl
theorem U7:zzp 42 Km:=vt mix U6 U1 [] g0 rfl (fun _ _=>rfl) fun O x=>by kernel_rfl
theorem Ss:zzp 98 Gq:=vt mix LZ LV [] g0 rfl (fun _ _=>rfl) fun O x=>by kernel_rfl
theorem QB:zzp 74 Es:=vt mix Iv JO [(98,Gq)] (gs Ss g0) rfl (fun _ _=>rfl) fun O x=>by kernel_rfl
theorem eD:zzp 37 VJ:=vt mix U4 U2 [(42,Km),(73,GH),(74,Es)] (gs U7 (gs Xu (gs QB g0))) rfl (fun _ _=>rfl) fun O x=>by kernel_rfl
theorem Yp:zzp 38 Qd:=vt mix Q0 QE [] g0 rfl (fun _ _=>rfl) fun O x=>by kernel_rfl
theorem XR:zzp 39 PO:=vt mix PM PG [] g0 rfl (fun _ _=>rfl) fun O x=>by kernel_rfl
theorem YW:zzp 40 QY:=vt mix QU QV [(75,DZ)] (gs Th g0) rfl (fun _ _=>rfl) fun O x=>by kernel_rfl
theorem Ts:zzp 101 Hl:=fun N h =>
 kv Tryz.func101 (T2:=2) (T3:=3) (T9:=9) rfl rfl Tryz.underlying2 Tryz.underlying3 Tryz.underlying9 (by kernel_rfl) (by kernel_rfl) (fun i h0 hi w ht=>Tryz.internal_strconv_FormatInt_10 i h0 hi w ht) h
theorem Vb:zzp 77 IK:=vt mix M7 M6 [(101,Hl)] (gs Ts g0) rfl (fun _ _=>rfl) fun O x=>by kernel_rfl
theorem cY:zzp 43 Tg:=vt mix TA Sw [(77,IK)] (gs Vb g0) rfl (fun _ _=>rfl) fun O x=>by kernel_rfl
def TB:Cfg:={ gam:=[⟨37,[],true,true,[],[]⟩,⟨38,[],true,true,[],[]⟩,⟨39,[],true,true,[],[]⟩,⟨40,[],true,true,[],[]⟩,⟨42,[],true,true,[],[]⟩,⟨43,[],true,true,[],[]⟩],imm:=false,old:=false,ie:=[70000],bld:=oX }
theorem Z5 (O:Alg) (x:Ags O):XF (O:=O) Tryz.prog TB (CI.ow ⟨14,[],true,true,[],[]⟩) true [] 14 [] (xr x Nc 0)=Nn O x:=by kernel_rfl
theorem cw:zzp 14 El:=fun N h =>
 ZJ mix (E:=Hi N) (N:=N) (cfg:=TB) (ci:=⟨14,[],true,true,[],[]⟩) (ks:=Nc) (BI (eD N (fun _=>rfl)) (BI (Yp N (fun _=>rfl)) (BI (XR N (fun _=>rfl)) (BI (YW N (fun _=>rfl)) (BI (U7 N (fun _=>rfl)) (BI (cY N (fun _=>rfl)) Jt)))))) sV (c:=El N) (F:=fun ls=>Nn (std (Hi N) N) (xOf ls)) (fun ls=>rfl) (fun ls=>Z5 (std (Hi N) N) (xOf ls)) h
theorem jQ:zzp 25 KQ:=vt mix X3 X0 [] g0 rfl (fun _ _=>rfl) fun O x=>by kernel_rfl
theorem jZ:zzp 60 Sm:=vt mix Xy YH [] g0 rfl (fun _ _=>rfl) fun O x=>by kernel_rfl
theorem nN:zzp 26 ON:=vt mix dQ dS [(60,Sm)] (gs jZ g0) rfl (fun _ _=>rfl) fun O x=>by kernel_rfl
theorem jX:zzp 8 Ke:=vt mix X7 Nv [(10,CQ),(12,Ca),(14,El),(25,KQ),(26,ON)] (gs S8 (gs Sa (gs cw (gs jQ (gs nN g0))))) rfl (fun _ _=>rfl) fun O x=>by kernel_rfl
def dJ:Cfg:={ gam:=[],imm:=false,old:=false }
theorem lf (O:Alg) (x:Ags O):XF (O:=O) Tryz.prog dJ (CI.ow ⟨9,[],false,false,[],[]⟩) false [] 9 [] (xr x WI 0)=OS O x:=by kernel_rfl
theorem nU {E:Env} {M:Nat} (N:Nat) (h:∀ ls,E 9 [] ls=OA N ls):VV Tryz.prog E M ⟨9,[],false,false,[],[]⟩ :=
 Fh mix (E:=KW N) (N:=N) (cfg:=dJ) (ci:=⟨9,[],false,false,[],[]⟩) (ks:=WI) Jt (c:=OA N) (F:=fun ls=>OS (std (KW N) N) (xOf ls)) (fun ls=>rfl) (fun ls=>lf (std (KW N) N) (xOf ls)) h
theorem Sh:zzp 52 Cb:=vt mix KM Dc [] g0 rfl (fun _ _=>rfl) fun O x=>by kernel_rfl
theorem Pn:zzp 18 CF:=vt mix IW Cw [(52,Cb)] (gs Sh g0) rfl (fun _ _=>rfl) fun O x=>by kernel_rfl
def Oa:Cfg:={ gam:=[⟨8,[],true,true,[],[]⟩,⟨9,[],false,false,[],[]⟩,⟨10,[],true,true,[],[]⟩,⟨17,[],true,true,[],[]⟩,⟨18,[],true,true,[],[]⟩],imm:=false,old:=false }
theorem Vc (O:Alg) (x:Ags O):XF (O:=O) Tryz.prog Oa (CI.ow ⟨5,[],true,true,[],[]⟩) true [] 5 [] (xr x Iw 0)=Ds O x:=by kernel_rfl
theorem We:zzp 5 Du:=fun N h =>
 Fh mix (E:=A9 N) (N:=N) (cfg:=Oa) (ci:=⟨5,[],true,true,[],[]⟩) (ks:=Iw) (BI (jX N (fun _=>rfl)) (BI (nU N (fun _=>rfl)) (BI (S8 N (fun _=>rfl)) (BI (TH N (fun _=>rfl)) (BI (Pn N (fun _=>rfl)) Jt))))) (c:=Du N) (F:=fun ls=>Ds (std (A9 N) N) (xOf ls)) (fun ls=>rfl) (fun ls=>Vc (std (A9 N) N) (xOf ls)) h
end Go.Px
