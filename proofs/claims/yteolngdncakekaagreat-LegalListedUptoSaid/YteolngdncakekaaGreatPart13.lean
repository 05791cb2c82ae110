/- Part 13. -/
import Derived.Test.YteolngdncakekaaGreatPart07
import Derived.Test.YteolngdncakekaaGreatProg
import Derived.Test.YteolngdncakekaaGreatPart08
import Derived.KernelRfl
import Derived.WalkKit
import Derived.Lib.Walk
import Derived.BigCall
import Derived.BigGuard
set_option linter.unusedVariables false
set_option linter.unusedSimpArgs false
namespace Go.Px
open Go.Proofs
set_option maxRecDepth 100000
theorem mix:Tryz.prog.follows .mixedOrders=true:=by kernel_rfl
theorem ZT:Vd Tryz.prog 57 IL:=vt mix Tu LZ [] g0 rfl (fun _ _=>rfl) fun O x=>by kernel_rfl
theorem OZ:Vd Tryz.prog 87 Bu:=vt mix Oz PD [] g0 rfl (fun _ _=>rfl) fun O x=>by kernel_rfl
theorem VK:Vd Tryz.prog 58 Eb:=vt mix Ox G6 [(87,Bu)] (gs OZ g0) rfl (fun _ _=>rfl) fun O x=>by kernel_rfl
theorem Wv:Vd Tryz.prog 59 FU:=vt mix P7 Hh [(87,Bu)] (gs OZ g0) rfl (fun _ _=>rfl) fun O x=>by kernel_rfl
theorem CU:Vd Tryz.prog 32 AN:=vt mix RD Il [(57,IL),(58,Eb),(59,FU)] (gs ZT (gs VK (gs Wv g0))) rfl (fun _ _=>rfl) fun O x=>by kernel_rfl
theorem DL:Vd Tryz.prog 60 Aa:=vt mix Mx M0 [] g0 rfl (fun _ _=>rfl) fun O x=>by kernel_rfl
theorem Tn:Vd Tryz.prog 61 DJ:=vt mix Ml FA [(60,Aa)] (gs DL g0) rfl (fun _ _=>rfl) fun O x=>by kernel_rfl
theorem SD:Vd Tryz.prog 118 Cx:=vt mix L5 Eg [] g0 rfl (fun _ _=>rfl) fun O x=>by kernel_rfl
theorem FX:Vd Tryz.prog 88 Ae:=vt mix JQ C3 [(118,Cx)] (gs SD g0) rfl (fun _ _=>rfl) fun O x=>by kernel_rfl
theorem Ro:Vd Tryz.prog 62 Cc:=vt mix Km D7 [(60,Aa),(88,Ae)] (gs DL (gs FX g0)) rfl (fun _ _=>rfl) fun O x=>by kernel_rfl
theorem Rk:Vd Tryz.prog 90 Ce:=vt mix Kp D4 [(60,Aa)] (gs DL g0) rfl (fun _ _=>rfl) fun O x=>by kernel_rfl
theorem Tj:Vd Tryz.prog 63 DT:=vt mix Mj FH [(90,Ce)] (gs Rk g0) rfl (fun _ _=>rfl) fun O x=>by kernel_rfl
theorem J8:Vd Tryz.prog 33 A3:=vt mix O5 G9 [(32,AN),(60,Aa),(61,DJ),(62,Cc),(63,DT)] (gs CU (gs DL (gs Tn (gs Ro (gs Tj g0))))) rfl (fun _ _=>rfl) fun O x=>by kernel_rfl
theorem Iz:Vd Tryz.prog 51 A1:=vt mix RP I3 [] g0 rfl (fun _ _=>rfl) fun O x=>by kernel_rfl
theorem RT:Vd Tryz.prog 34 CV:=vt mix RL I0 [(51,A1)] (gs Iz g0) rfl (fun _ _=>rfl) fun O x=>by kernel_rfl
theorem Xn:Vd Tryz.prog 35 GN:=vt mix RO Ij [] g0 rfl (fun _ _=>rfl) fun O x=>by kernel_rfl
theorem I4:Vd Tryz.prog 13 BK:=vt mix Re Ig [(32,AN),(33,A3),(34,CV),(35,GN)] (gs CU (gs J8 (gs RT (gs Xn g0)))) rfl (fun _ _=>rfl) fun O x=>by kernel_rfl
theorem W1:Vd Tryz.prog 46 Ff:=vt mix QU Hj [] g0 rfl (fun _ _=>rfl) fun O x=>by kernel_rfl
theorem V7:Vd Tryz.prog 47 EX:=vt mix PL KN [] g0 rfl (fun _ _=>rfl) fun O x=>by kernel_rfl
open Go.RowKit Go.Lib in
set_option maxHeartbeats 1000000 in
theorem NK (s:ByteArray) (c:Int) (w:World):Calls Tryz.prog 113 #[.string s,.int .u8 c] w fun e w'=>e=.returned (.int .i64 (Lib.indexByte s.data.toList c.toNat.toUInt8))∧w'=w:=by
 go_enter Tryz.func113,Tryz.ntmps113
 go_wp2
 rw [run_callFunc_extern Tryz.func134 (by kernel_rfl) (by kernel_rfl) (by kernel_rfl) (e:=Extern.BytealgIndexByte.indexByte) (by kernel_rfl),Lib.run_indexByteString]
 simp only [Result.andThen]
 rw [Oper.upon_value]
 go_wp2
 go_ret
 exact ⟨rfl,rfl⟩
theorem OS:Vd Tryz.prog 113 Br:=fun N h =>
 Zh Tryz.func113 (T9:=9) (T5:=5) (T3:=3) rfl rfl Tryz.underlying9 Tryz.underlying5 Tryz.underlying3 (by kernel_rfl) NK h
theorem Rl:Vd Tryz.prog 76 Ca:=vt mix Ko EA [(113,Br)] (gs OS g0) rfl (fun _ _=>rfl) fun O x=>by kernel_rfl
theorem Xg:Vd Tryz.prog 77 EM:=vt mix Rb Rg [] g0 rfl (fun _ _=>rfl) fun O x=>by kernel_rfl
theorem YG:Vd Tryz.prog 48 HW:=vt mix SQ J3 [(76,Ca),(77,EM)] (gs Rl (gs Xg g0)) rfl (fun _ _=>rfl) fun O x=>by kernel_rfl
theorem ST:Vd Tryz.prog 78 Cq:=vt mix L7 HG [] g0 rfl (fun _ _=>rfl) fun O x=>by kernel_rfl
theorem Ul:Vd Tryz.prog 49 Dy:=vt mix N6 F6 [(78,Cq)] (gs ST g0) rfl (fun _ _=>rfl) fun O x=>by kernel_rfl
theorem RN:Vd Tryz.prog 28 CR:=vt mix RH GL [(46,Ff),(47,EX),(48,HW),(49,Dy)] (gs W1 (gs V7 (gs YG (gs Ul g0)))) rfl (fun _ _=>rfl) fun O x=>by kernel_rfl
theorem Qv:Vd Tryz.prog 74 CL:=fun N h =>
 Lm mix (T:=22) (e:=118) (b:=24) Tryz.func74 Tryz.underlying22 (by kernel_rfl) (by decide) (fun O l=>by kernel_rfl) (fun O l=>by kernel_rfl) h
theorem RK:Vd Tryz.prog 43 CS:=vt mix RS Iq [(74,CL)] (gs Qv g0) rfl (fun _ _=>rfl) fun O x=>by kernel_rfl
theorem C7:Vd Tryz.prog 79 AM:=fun N h =>
 Lm mix (T:=67) (e:=126) (b:=1) Tryz.func79 Tryz.underlying67 (by kernel_rfl) (by decide) (fun O l=>by kernel_rfl) (fun O l=>by kernel_rfl) h
theorem Ed:Vd Tryz.prog 80 AX:=fun N h =>
 Lm mix (T:=68) (e:=3) (b:=8) Tryz.func80 Tryz.underlying68 (by kernel_rfl) (by decide) (fun O l=>by kernel_rfl) (fun O l=>by kernel_rfl) h
theorem D5:Vd Tryz.prog 81 AS:=fun N h =>
 Lm mix (T:=69) (e:=4) (b:=1) Tryz.func81 Tryz.underlying69 (by kernel_rfl) (by decide) (fun O l=>by kernel_rfl) (fun O l=>by kernel_rfl) h
theorem Bw:Vd Tryz.prog 50 AK:=vt mix Oo G5 [(79,AM),(80,AX),(81,AS)] (gs C7 (gs Ed (gs D5 g0))) rfl (fun _ _=>rfl) fun O x=>by kernel_rfl
theorem Xc:Vd Tryz.prog 29 GX:=vt mix Rf Ii [(43,CS),(50,AK)] (gs RK (gs Bw g0)) rfl (fun _ _=>rfl) fun O x=>by kernel_rfl
theorem MW:Vd Tryz.prog 55 BV:=vt mix RF Iu [] g0 rfl (fun _ _=>rfl) fun O x=>by kernel_rfl
theorem Lz:Vd Tryz.prog 85 BP:=vt mix Lw Eu [] g0 rfl (fun _ _=>rfl) fun O x=>by kernel_rfl
theorem VP:Vd Tryz.prog 56 Ef:=vt mix Ob G1 [(13,BK),(51,A1),(55,BV),(85,BP)] (gs I4 (gs Iz (gs MW (gs Lz g0)))) rfl (fun _ _=>rfl) fun O x=>by kernel_rfl
theorem U6:Vd Tryz.prog 82 Ez:=vt mix On G3 [(32,AN),(60,Aa)] (gs CU (gs DL g0)) rfl (fun _ _=>rfl) fun O x=>by kernel_rfl
theorem Ws:Vd Tryz.prog 83 FK:=vt mix QQ Hs [(51,A1),(55,BV)] (gs Iz (gs MW g0)) rfl (fun _ _=>rfl) fun O x=>by kernel_rfl
theorem Te:Vd Tryz.prog 136 DH:=vt mix Mu H4 [] g0 rfl (fun _ _=>rfl) fun O x=>by kernel_rfl
theorem Va:Vd Tryz.prog 114 Ew:=vt mix Om G8 [(136,DH)] (gs Te g0) rfl (fun _ _=>rfl) fun O x=>by kernel_rfl
theorem Fd:Vd Tryz.prog 160 Aj:=vt mix Sp Ka [(79,AM),(80,AX),(81,AS)] (gs C7 (gs Ed (gs D5 g0))) rfl (fun _ _=>rfl) fun O x=>by kernel_rfl
theorem U0:Vd Tryz.prog 191 B9:=vt mix OO I7 [] g0 rfl (fun _ _=>rfl) fun O x=>by kernel_rfl
theorem QS:Vd Tryz.prog 161 BW:=vt mix QD Df [(191,B9)] (gs U0 g0) rfl (fun _ _=>rfl) fun O x=>by kernel_rfl
theorem FO:Vd Tryz.prog 162 Ai:=vt mix Pt H1 [] g0 rfl (fun _ _=>rfl) fun O x=>by kernel_rfl
theorem Xh:Vd Tryz.prog 137 GH:=vt mix RG Im [(160,Aj),(161,BW),(162,Ai)] (gs Fd (gs QS (gs FO g0))) rfl (fun _ _=>rfl) fun O x=>by kernel_rfl
theorem PT:Vd Tryz.prog 163 B0:=vt mix UA Lh [(79,AM),(80,AX),(81,AS)] (gs C7 (gs Ed (gs D5 g0))) rfl (fun _ _=>rfl) fun O x=>by kernel_rfl
theorem Me:Vd Tryz.prog 192 BU:=vt mix RJ I6 [] g0 rfl (fun _ _=>rfl) fun O x=>by kernel_rfl
theorem YK:Vd Tryz.prog 193 HL:=vt mix Rz KB [(32,AN),(192,BU)] (gs CU (gs Me g0)) rfl (fun _ _=>rfl) fun O x=>by kernel_rfl
theorem Zc:Vd Tryz.prog 164 IV:=vt mix Tv Lb [(32,AN),(88,Ae),(192,BU),(193,HL)] (gs CU (gs FX (gs Me (gs YK g0)))) rfl (fun _ _=>rfl) fun O x=>by kernel_rfl
theorem Yd:Vd Tryz.prog 138 HZ:=vt mix S1 KH [(163,B0),(164,IV)] (gs PT (gs Zc g0)) rfl (fun _ _=>rfl) fun O x=>by kernel_rfl
theorem Rj:Vd Tryz.prog 103 Cb:=vt mix Kq EC [] g0 rfl (fun _ _=>rfl) fun O x=>by kernel_rfl
theorem Ni:Vd Tryz.prog 70 Bl:=vt mix OI Fz [(103,Cb)] (gs Rj g0) rfl (fun _ _=>rfl) fun O x=>by kernel_rfl
theorem Mi:Vd Tryz.prog 130 BJ:=vt mix M2 Mk [] g0 rfl (fun _ _=>rfl) fun O x=>by kernel_rfl
theorem WU:Vd Tryz.prog 104 FZ:=vt mix QL Hv [(130,BJ)] (gs Mi g0) rfl (fun _ _=>rfl) fun O x=>by kernel_rfl
theorem Sn:Vd Tryz.prog 131 Cz:=vt mix ME EW [] g0 rfl (fun _ _=>rfl) fun O x=>by kernel_rfl
theorem Pp:Vd Tryz.prog 105 CC:=vt mix JU C6 [(131,Cz)] (gs Sn g0) rfl (fun _ _=>rfl) fun O x=>by kernel_rfl
theorem Sj:Vd Tryz.prog 132 Cv:=vt mix L4 Ek [] g0 rfl (fun _ _=>rfl) fun O x=>by kernel_rfl
theorem Uh:Vd Tryz.prog 106 Dq:=vt mix OG GA [(130,BJ),(132,Cv)] (gs Mi (gs Sj g0)) rfl (fun _ _=>rfl) fun O x=>by kernel_rfl
theorem Pf:Vd Tryz.prog 133 B3:=vt mix IQ Cj [] g0 rfl (fun _ _=>rfl) fun O x=>by kernel_rfl
theorem QY:Vd Tryz.prog 107 CK:=vt mix KS DZ [(133,B3)] (gs Pf g0) rfl (fun _ _=>rfl) fun O x=>by kernel_rfl
theorem Qg:Vd Tryz.prog 71 CP:=vt mix Jz DY [(104,FZ),(105,CC),(106,Dq),(107,CK)] (gs WU (gs Pp (gs Uh (gs QY g0)))) rfl (fun _ _=>rfl) fun O x=>by kernel_rfl
theorem Kb:Vd Tryz.prog 151 A0:=vt mix Oq C9 [(161,BW)] (gs QS g0) rfl (fun _ _=>rfl) fun O x=>by kernel_rfl
theorem GR:Vd Tryz.prog 174 Ao:=vt mix RV Iv [] g0 rfl (fun _ _=>rfl) fun O x=>by kernel_rfl
theorem F9:Vd Tryz.prog 175 Al:=vt mix OA F0 [(174,Ao)] (gs GR g0) rfl (fun _ _=>rfl) fun O x=>by kernel_rfl
theorem WE:Vd Tryz.prog 210 E2:=vt mix PA Gy [] g0 rfl (fun _ _=>rfl) fun O x=>by kernel_rfl
theorem Xb:Vd Tryz.prog 194 GZ:=vt mix Ra I1 [(174,Ao),(175,Al),(210,E2)] (gs GR (gs F9 (gs WE g0))) rfl (fun _ _=>rfl) fun O x=>by kernel_rfl
theorem Xm:Vd Tryz.prog 195 GY:=vt mix RZ Is [(174,Ao),(175,Al)] (gs GR (gs F9 g0)) rfl (fun _ _=>rfl) fun O x=>by kernel_rfl
theorem Td:Vd Tryz.prog 165 DN:=vt mix Mz FE [(70,Bl),(71,CP),(151,A0),(194,GZ),(195,GY)] (gs Ni (gs Qg (gs Kb (gs Xb (gs Xm g0))))) rfl (fun _ _=>rfl) fun O x=>by kernel_rfl
theorem Rn:Vd Tryz.prog 196 Cd:=vt mix Kl ED [] g0 rfl (fun _ _=>rfl) fun O x=>by kernel_rfl
theorem TX:Vd Tryz.prog 166 DW:=vt mix Mt E9 [(70,Bl),(196,Cd)] (gs Ni (gs Rn g0)) rfl (fun _ _=>rfl) fun O x=>by kernel_rfl
theorem Yg:Vd Tryz.prog 167 HP:=vt mix SB Jy [(160,Aj),(162,Ai)] (gs Fd (gs FO g0)) rfl (fun _ _=>rfl) fun O x=>by kernel_rfl
theorem UT:Vd Tryz.prog 168 Dn:=vt mix N9 Nj [] g0 rfl (fun _ _=>rfl) fun O x=>by kernel_rfl
theorem Yz:Vd Tryz.prog 169 HA:=vt mix SW KZ [(32,AN),(88,Ae),(163,B0),(192,BU)] (gs CU (gs FX (gs PT (gs Me g0)))) rfl (fun _ _=>rfl) fun O x=>by kernel_rfl
theorem U8:Vd Tryz.prog 170 EZ:=vt mix PB Gr [(160,Aj)] (gs Fd g0) rfl (fun _ _=>rfl) fun O x=>by kernel_rfl
theorem WP:Vd Tryz.prog 139 Fg:=vt mix Pv Hn [(50,AK),(165,DN),(166,DW),(167,HP),(168,Dn),(169,HA),(170,EZ)] (gs Bw (gs Td (gs TX (gs Yg (gs UT (gs Yz (gs U8 g0))))))) rfl (fun _ _=>rfl) fun O x=>by kernel_rfl
theorem S6:Vd Tryz.prog 171 Ct:=vt mix R3 Jw [(151,A0),(162,Ai)] (gs Kb (gs FO g0)) rfl (fun _ _=>rfl) fun O x=>by kernel_rfl
theorem US:Vd Tryz.prog 140 Dt:=vt mix Ng Fy [(160,Aj),(162,Ai),(171,Ct)] (gs Fd (gs FO (gs S6 g0))) rfl (fun _ _=>rfl) fun O x=>by kernel_rfl
theorem Wn:Vd Tryz.prog 141 FR:=vt mix QK Hi [(160,Aj),(171,Ct)] (gs Fd (gs S6 g0)) rfl (fun _ _=>rfl) fun O x=>by kernel_rfl
theorem Rd:Vd Tryz.prog 152 B7:=vt mix Rh ES [] g0 rfl (fun _ _=>rfl) fun O x=>by kernel_rfl
theorem VJ:Vd Tryz.prog 142 Er:=vt mix Og G0 [(152,B7),(160,Aj),(162,Ai)] (gs Rd (gs Fd (gs FO g0))) rfl (fun _ _=>rfl) fun O x=>by kernel_rfl
theorem Pk:Vd Tryz.prog 173 B2:=vt mix T2 Lp [(79,AM),(80,AX),(81,AS)] (gs C7 (gs Ed (gs D5 g0))) rfl (fun _ _=>rfl) fun O x=>by kernel_rfl
theorem VL:Vd Tryz.prog 143 E1:=vt mix Ov Gw [(173,B2)] (gs Pk g0) rfl (fun _ _=>rfl) fun O x=>by kernel_rfl
theorem Wx:Vd Tryz.prog 144 Fc:=vt mix Pn H0 [(173,B2),(174,Ao),(175,Al)] (gs Pk (gs GR (gs F9 g0))) rfl (fun _ _=>rfl) fun O x=>by kernel_rfl
theorem Sw:Vd Tryz.prog 145 Cy:=vt mix MB Em [(173,B2),(174,Ao),(175,Al)] (gs Pk (gs GR (gs F9 g0))) rfl (fun _ _=>rfl) fun O x=>by kernel_rfl
theorem Vk:Vd Tryz.prog 146 En:=vt mix O0 Gu [(32,AN),(163,B0)] (gs CU (gs PT g0)) rfl (fun _ _=>rfl) fun O x=>by kernel_rfl
theorem Th:Vd Tryz.prog 147 DM:=vt mix Mv FG [(50,AK)] (gs Bw g0) rfl (fun _ _=>rfl) fun O x=>by kernel_rfl
theorem My:Vd Tryz.prog 117 Be:=vt mix Mh FB [(50,AK)] (gs Bw g0) rfl (fun _ _=>rfl) fun O x=>by kernel_rfl
theorem TU:Vd Tryz.prog 148 DF:=vt mix Mm FI [(50,AK),(117,Be)] (gs Bw (gs My g0)) rfl (fun _ _=>rfl) fun O x=>by kernel_rfl
theorem UV:Vd Tryz.prog 149 Dv:=vt mix N7 Dw [(50,AK)] (gs Bw g0) rfl (fun _ _=>rfl) fun O x=>by kernel_rfl
theorem VY:Vd Tryz.prog 176 Et:=vt mix PJ Oh [] g0 rfl (fun _ _=>rfl) fun O x=>by kernel_rfl
theorem UY:Vd Tryz.prog 150 Dp:=vt mix Nl F3 [(50,AK),(176,Et)] (gs Bw (gs VY g0)) rfl (fun _ _=>rfl) fun O x=>by kernel_rfl
theorem Tb:Vd Tryz.prog 115 DI:=vt mix Mw DU [(137,GH),(138,HZ),(139,Fg),(140,Dt),(141,FR),(142,Er),(143,E1),(144,Fc),(145,Cy),(146,En),(147,DM),(148,DF),(149,Dv),(150,Dp)] (gs Xh (gs Yd (gs WP (gs US (gs Wn (gs VJ (gs VL (gs Wx (gs Sw (gs Vk (gs Th (gs TU (gs UV (gs UY g0)))))))))))))) rfl (fun _ _=>rfl) fun O x=>by kernel_rfl
theorem Uu:Vd Tryz.prog 116 Cf:=vt mix Nm GB [(33,A3),(151,A0),(152,B7)] (gs J8 (gs Kb (gs Rd g0))) rfl (fun _ _=>rfl) fun O x=>by kernel_rfl
theorem WZ:Vd Tryz.prog 84 FT:=vt mix Ps Hm [(28,CR),(33,A3),(50,AK),(114,Ew),(115,DI),(116,Cf)] (gs RN (gs J8 (gs Bw (gs Va (gs Tb (gs Uu g0)))))) rfl (fun _ _=>rfl) fun O x=>by kernel_rfl
theorem Nr:Vd Tryz.prog 12 BS:=vt mix Sq KG [(13,BK),(28,CR),(29,GX),(34,CV),(51,A1),(55,BV),(56,Ef),(82,Ez),(83,FK),(84,FT),(85,BP),(117,Be)] (gs I4 (gs RN (gs Xc (gs RT (gs Iz (gs MW (gs VP (gs U6 (gs Ws (gs WZ (gs Lz (gs My g0)))))))))))) rfl (fun _ _=>rfl) fun O x=>by kernel_rfl
theorem Tz:Vd Tryz.prog 15 CG:=vt mix UI Lk [(12,BS)] (gs Nr g0) rfl (fun _ _=>rfl) fun O x=>by kernel_rfl
theorem YR:Vd Tryz.prog 75 Cr:=vt mix SO KF [] g0 rfl (fun _ _=>rfl) fun O x=>by kernel_rfl
def QN:Cfg:={ gam:=[⟨75,[],true,true,[]⟩],imm:=false,old:=false }
theorem WH (O:Alg) (x:Ags O):XF (O:=O) Tryz.prog QN false true [] 44 [] (xr x LO 0)=Fm O x:=by kernel_rfl
theorem Wt {E:Env} {M:Nat} (N:Nat) (h:∀ ls,E 44 [] ls=Fn N ls):VV Tryz.prog E M ⟨44,[],false,true,[]⟩ :=
 MG mix (E:=Ch N) (N:=N) (cfg:=QN) (ci:=⟨44,[],false,true,[]⟩) (ks:=LO) (F8 (YR N (fun _=>rfl)) TA) (c:=Fn N) (F:=fun ls=>Fm (std (Ch N) N) (xOf ls)) (fun ls=>rfl) (fun ls=>WH (std (Ch N) N) (xOf ls)) h
def U9:Cfg:={ gam:=[⟨13,[],true,true,[]⟩,⟨15,[],true,true,[]⟩,⟨44,[],false,true,[]⟩],imm:=false,old:=false,ie:=[60000] }
theorem ZZ (O:Alg) (x:Ags O):XF (O:=O) Tryz.prog U9 true true [] 27 [] (xr x RA 0)=J2 O x:=by kernel_rfl
theorem bF:Vd Tryz.prog 27 F7:=fun N h =>
 MG mix (E:=Cw N) (N:=N) (cfg:=U9) (ci:=⟨27,[],true,true,[]⟩) (ks:=RA) (F8 (I4 N (fun _=>rfl)) (F8 (Tz N (fun _=>rfl)) (F8 (Wt N (fun _=>rfl)) TA))) (c:=F7 N) (F:=fun ls=>J2 (std (Cw N) N) (xOf ls)) (fun ls=>rfl) (fun ls=>ZZ (std (Cw N) N) (xOf ls)) h
theorem SZ:Vd Tryz.prog 11 Bm:=vt mix Sr J6 [(27,F7)] (gs bF g0) rfl (fun _ _=>rfl) fun O x=>by kernel_rfl
theorem Yy:Vd Tryz.prog 14 CH:=vt mix Rx J1 [] g0 rfl (fun _ _=>rfl) fun O x=>by kernel_rfl
theorem ZS:Vd Tryz.prog 25 E4:=vt mix T7 Ld [(32,AN),(43,CS)] (gs CU (gs RK g0)) rfl (fun _ _=>rfl) fun O x=>by kernel_rfl
theorem cH:Vd Tryz.prog 26 L2:=vt mix XE XB [] g0 rfl (fun _ _=>rfl) fun O x=>by kernel_rfl
theorem ZU:Vd Tryz.prog 9 IY:=vt mix Tx Le [(11,Bm),(12,BS),(14,CH),(15,CG),(25,E4),(26,L2)] (gs SZ (gs Nr (gs Yy (gs Tz (gs ZS (gs cH g0)))))) rfl (fun _ _=>rfl) fun O x=>by kernel_rfl
def XN:Cfg:={ gam:=[],imm:=false,old:=true }
theorem aa (O:Alg) (x:Ags O):XF (O:=O) Tryz.prog XN false false [] 10 [] (xr x R0 0)=Lr O x:=by kernel_rfl
theorem bz {E:Env} {M:Nat} (N:Nat) (h:∀ ls,E 10 [] ls=MA N ls):VV Tryz.prog E M ⟨10,[],false,false,[]⟩ :=
 MG mix (E:=IZ N) (N:=N) (cfg:=XN) (ci:=⟨10,[],false,false,[]⟩) (ks:=R0) TA (c:=MA N) (F:=fun ls=>Lr (std (IZ N) N) (xOf ls)) (fun ls=>rfl) (fun ls=>aa (std (IZ N) N) (xOf ls)) h
def Mn:Cfg:={ gam:=[⟨9,[],true,true,[]⟩,⟨10,[],false,false,[]⟩,⟨11,[],true,true,[]⟩,⟨12,[],true,true,[]⟩,⟨13,[],true,true,[]⟩],imm:=false,old:=false }
theorem Rw (O:Alg) (x:Ags O):XF (O:=O) Tryz.prog Mn true true [] 3 [] (xr x H7 0)=DP O x:=by kernel_rfl
theorem Tg:Vd Tryz.prog 3 DR:=fun N h =>
 MG mix (E:=Au N) (N:=N) (cfg:=Mn) (ci:=⟨3,[],true,true,[]⟩) (ks:=H7) (F8 (ZU N (fun _=>rfl)) (F8 (bz N (fun _=>rfl)) (F8 (SZ N (fun _=>rfl)) (F8 (Nr N (fun _=>rfl)) (F8 (I4 N (fun _=>rfl)) TA))))) (c:=DR N) (F:=fun ls=>DP (std (Au N) N) (xOf ls)) (fun ls=>rfl) (fun ls=>Rw (std (Au N) N) (xOf ls)) h
end Go.Px
