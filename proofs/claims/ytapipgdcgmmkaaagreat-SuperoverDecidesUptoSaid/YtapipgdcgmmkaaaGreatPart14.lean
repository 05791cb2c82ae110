/- Part 14. -/
import Derived.Test.YtapipgdcgmmkaaaGreatPart06
import Derived.Test.YtapipgdcgmmkaaaGreatProg
import Derived.Test.YtapipgdcgmmkaaaGreatPart09
import Derived.KernelRfl
import Derived.WalkKit
import Derived.Lib.Walk
import Derived.BigCall
import Derived.BigGuard
set_option linter.unusedVariables false
set_option linter.unusedSimpArgs false
namespace Go.Px
open Go.Proofs
set_option maxRecDepth 100000
theorem mix : Tryz.prog.follows .mixedOrders = true := by kernel_rfl
theorem nf : Vd Tryz.prog 31 Ku := vt mix cJ PR [] g0 rfl (fun _ _ => rfl) fun O x => by kernel_rfl
theorem UE : Vd Tryz.prog 47 CO := vt mix UL UR [] g0 rfl (fun _ _ => rfl) fun O x => by kernel_rfl
theorem fe : Vd Tryz.prog 32 Fg := vt mix UT Is [(47, CO)] (gs UE g0) rfl (fun _ _ => rfl) fun O x => by kernel_rfl
theorem gm : Vd Tryz.prog 33 Ge := vt mix WN J0 [(47, CO)] (gs UE g0) rfl (fun _ _ => rfl) fun O x => by kernel_rfl
theorem Cc : Vd Tryz.prog 17 AP := vt mix X5 Lq [(31, Ku), (32, Fg), (33, Ge)] (gs nf (gs fe (gs gm g0))) rfl (fun _ _ => rfl) fun O x => by kernel_rfl
theorem RW : Vd Tryz.prog 19 Bt := vt mix Rd GM [(17, AP)] (gs Cc g0) rfl (fun _ _ => rfl) fun O x => by kernel_rfl
theorem W6 : Vd Tryz.prog 81 Ct := fun N h =>
 Pu mix (T := 22) (e := 88) (b := 24) Tryz.func81 Tryz.underlying22 (by kernel_rfl) (by decide) (fun O l => by kernel_rfl) (fun O l => by kernel_rfl) h
theorem X8 : Vd Tryz.prog 59 C5 := vt mix YX LM [(81, Ct)] (gs W6 g0) rfl (fun _ _ => rfl) fun O x => by kernel_rfl
theorem my : Vd Tryz.prog 42 K0 := vt mix cc PP [(17, AP), (59, C5)] (gs Cc (gs X8 g0)) rfl (fun _ _ => rfl) fun O x => by kernel_rfl
theorem gM : Vd Tryz.prog 29 Fh := vt mix T1 Ir [(42, K0)] (gs my g0) rfl (fun _ _ => rfl) fun O x => by kernel_rfl
theorem EB : Vd Tryz.prog 48 Ag := vt mix RO RL [] g0 rfl (fun _ _ => rfl) fun O x => by kernel_rfl
theorem bN : Vd Tryz.prog 49 D7 := vt mix RQ GQ [(48, Ag)] (gs EB g0) rfl (fun _ _ => rfl) fun O x => by kernel_rfl
theorem aI : Vd Tryz.prog 93 Di := vt mix QP FQ [] g0 rfl (fun _ _ => rfl) fun O x => by kernel_rfl
theorem Gc : Vd Tryz.prog 70 Ak := vt mix MZ Dm [(93, Di)] (gs aI g0) rfl (fun _ _ => rfl) fun O x => by kernel_rfl
theorem Yi : Vd Tryz.prog 50 DJ := vt mix Of E4 [(48, Ag), (70, Ak)] (gs EB (gs Gc g0)) rfl (fun _ _ => rfl) fun O x => by kernel_rfl
theorem Yu : Vd Tryz.prog 72 DG := vt mix Oc E5 [(48, Ag)] (gs EB g0) rfl (fun _ _ => rfl) fun O x => by kernel_rfl
theorem bE : Vd Tryz.prog 51 D8 := vt mix RU GL [(72, DG)] (gs Yu g0) rfl (fun _ _ => rfl) fun O x => by kernel_rfl
theorem Nt : Vd Tryz.prog 34 A9 := vt mix Uj It [(17, AP), (48, Ag), (49, D7), (50, DJ), (51, D8)] (gs Cc (gs EB (gs bN (gs Yi (gs bE g0))))) rfl (fun _ _ => rfl) fun O x => by kernel_rfl
theorem Lp : Vd Tryz.prog 52 BB := vt mix YR LU [] g0 rfl (fun _ _ => rfl) fun O x => by kernel_rfl
theorem Xx : Vd Tryz.prog 35 C6 := vt mix Yc LZ [(52, BB)] (gs Lp g0) rfl (fun _ _ => rfl) fun O x => by kernel_rfl
theorem jl : Vd Tryz.prog 36 Hx := vt mix YS LR [] g0 rfl (fun _ _ => rfl) fun O x => by kernel_rfl
theorem X0 : Vd Tryz.prog 18 C7 := vt mix YT Lx [(17, AP), (34, A9), (35, C6), (36, Hx)] (gs Cc (gs Nt (gs Xx (gs jl g0)))) rfl (fun _ _ => rfl) fun O x => by kernel_rfl
theorem iR : Vd Tryz.prog 60 Gl := vt mix WL Jq [] g0 rfl (fun _ _ => rfl) fun O x => by kernel_rfl
theorem fj : Vd Tryz.prog 61 Fo := vt mix T6 Nv [] g0 rfl (fun _ _ => rfl) fun O x => by kernel_rfl
open Go.RowKit Go.Lib in
set_option maxHeartbeats 1000000 in
theorem Ry (s : ByteArray) (c : Int) (w : World) : Calls Tryz.prog 108 #[.string s, .int .u8 c] w fun e w' => e = .returned (.int .i64 (Lib.indexByte s.data.toList c.toNat.toUInt8)) ∧ w' = w := by
 go_enter Tryz.func108, Tryz.ntmps108
 go_wp2
 rw [run_callFunc_extern Tryz.func120 (by kernel_rfl) (by kernel_rfl) (by kernel_rfl) (e := Extern.BytealgIndexByte.indexByte) (by kernel_rfl), Lib.run_indexByteString]
 simp only [Result.andThen]
 rw [Oper.upon_value]
 go_wp2
 go_ret
 exact ⟨rfl, rfl⟩
theorem Tj : Vd Tryz.prog 108 CG := fun N h =>
 mz Tryz.func108 (T9 := 9) (T5 := 5) (T3 := 3) rfl rfl Tryz.underlying9 Tryz.underlying5 Tryz.underlying3 (by kernel_rfl) Ry h
theorem Yg : Vd Tryz.prog 82 DI := vt mix Og E6 [(108, CG)] (gs Tj g0) rfl (fun _ _ => rfl) fun O x => by kernel_rfl
theorem jm : Vd Tryz.prog 83 FM := vt mix YE YB [] g0 rfl (fun _ _ => rfl) fun O x => by kernel_rfl
theorem mR : Vd Tryz.prog 62 JQ := vt mix aO NA [(82, DI), (83, FM)] (gs Yg (gs jm g0)) rfl (fun _ _ => rfl) fun O x => by kernel_rfl
theorem Zu : Vd Tryz.prog 84 DU := vt mix QF Jj [] g0 rfl (fun _ _ => rfl) fun O x => by kernel_rfl
theorem eC : Vd Tryz.prog 63 EV := vt mix Sl Hh [(84, DU)] (gs Zu g0) rfl (fun _ _ => rfl) fun O x => by kernel_rfl
theorem Xv : Vd Tryz.prog 43 C3 := vt mix YL IB [(60, Gl), (61, Fo), (62, JQ), (63, EV)] (gs iR (gs fj (gs mR (gs eC g0)))) rfl (fun _ _ => rfl) fun O x => by kernel_rfl
theorem Dq : Vd Tryz.prog 85 AR := fun N h =>
 Pu mix (T := 65) (e := 103) (b := 1) Tryz.func85 Tryz.underlying65 (by kernel_rfl) (by decide) (fun O l => by kernel_rfl) (fun O l => by kernel_rfl) h
theorem Fc : Vd Tryz.prog 86 Ae := fun N h =>
 Pu mix (T := 66) (e := 3) (b := 8) Tryz.func86 Tryz.underlying66 (by kernel_rfl) (by decide) (fun O l => by kernel_rfl) (fun O l => by kernel_rfl) h
theorem E3 : Vd Tryz.prog 87 Aa := fun N h =>
 Pu mix (T := 67) (e := 4) (b := 1) Tryz.func87 Tryz.underlying67 (by kernel_rfl) (by decide) (fun O l => by kernel_rfl) (fun O l => by kernel_rfl) h
theorem CN : Vd Tryz.prog 64 AO := vt mix UB Iy [(85, AR), (86, Ae), (87, Aa)] (gs Dq (gs Fc (gs E3 g0))) rfl (fun _ _ => rfl) fun O x => by kernel_rfl
theorem jQ : Vd Tryz.prog 44 IG := vt mix X3 LW [(59, C5), (64, AO)] (gs X8 (gs CN g0)) rfl (fun _ _ => rfl) fun O x => by kernel_rfl
theorem Qu : Vd Tryz.prog 68 Bg := vt mix Xw Li [] g0 rfl (fun _ _ => rfl) fun O x => by kernel_rfl
theorem QN : Vd Tryz.prog 91 Ba := vt mix P6 FX [] g0 rfl (fun _ _ => rfl) fun O x => by kernel_rfl
theorem gN : Vd Tryz.prog 69 Fe := vt mix UU Iq [(18, C7), (52, BB), (68, Bg), (91, Ba)] (gs X0 (gs Lp (gs Qu (gs QN g0)))) rfl (fun _ _ => rfl) fun O x => by kernel_rfl
theorem gP : Vd Tryz.prog 88 Fw := vt mix Ug Iw [(17, AP), (48, Ag)] (gs Cc (gs EB g0)) rfl (fun _ _ => rfl) fun O x => by kernel_rfl
theorem iP : Vd Tryz.prog 89 GX := vt mix WI J6 [(52, BB), (68, Bg)] (gs Lp (gs Qu g0)) rfl (fun _ _ => rfl) fun O x => by kernel_rfl
theorem bM : Vd Tryz.prog 122 D6 := vt mix RJ KW [] g0 rfl (fun _ _ => rfl) fun O x => by kernel_rfl
theorem gO : Vd Tryz.prog 109 Ft := vt mix UY Ik [(122, D6)] (gs bM g0) rfl (fun _ _ => rfl) fun O x => by kernel_rfl
theorem Gp : Vd Tryz.prog 142 As := vt mix aW NP [(85, AR), (86, Ae), (87, Aa)] (gs Dq (gs Fc (gs E3 g0))) rfl (fun _ _ => rfl) fun O x => by kernel_rfl
theorem dY : Vd Tryz.prog 173 Ch := vt mix Sy L5 [] g0 rfl (fun _ _ => rfl) fun O x => by kernel_rfl
theorem WY : Vd Tryz.prog 143 Bk := vt mix WH EU [(173, Ch)] (gs dY g0) rfl (fun _ _ => rfl) fun O x => by kernel_rfl
theorem Gm : Vd Tryz.prog 144 Au := vt mix Wf KI [] g0 rfl (fun _ _ => rfl) fun O x => by kernel_rfl
theorem jk : Vd Tryz.prog 123 Hy := vt mix Ya Lu [(142, As), (143, Bk), (144, Au)] (gs Gp (gs WY (gs Gm g0))) rfl (fun _ _ => rfl) fun O x => by kernel_rfl
theorem Va : Vd Tryz.prog 145 CV := vt mix cK PY [(85, AR), (86, Ae), (87, Aa)] (gs Dq (gs Fc (gs E3 g0))) rfl (fun _ _ => rfl) fun O x => by kernel_rfl
theorem Q5 : Vd Tryz.prog 174 Bh := vt mix YW Ll [] g0 rfl (fun _ _ => rfl) fun O x => by kernel_rfl
theorem mN : Vd Tryz.prog 175 Jb := vt mix aa OH [(17, AP), (174, Bh)] (gs Cc (gs Q5 g0)) rfl (fun _ _ => rfl) fun O x => by kernel_rfl
theorem nY : Vd Tryz.prog 146 K4 := vt mix bg Pb [(17, AP), (70, Ak), (174, Bh), (175, Jb)] (gs Cc (gs Gc (gs Q5 (gs mN g0)))) rfl (fun _ _ => rfl) fun O x => by kernel_rfl
theorem mX : Vd Tryz.prog 124 JX := vt mix aK NK [(145, CV), (146, K4)] (gs Va (gs nY g0)) rfl (fun _ _ => rfl) fun O x => by kernel_rfl
theorem OL : Vd Tryz.prog 137 BA := vt mix Ul Du [(143, Bk)] (gs WY g0) rfl (fun _ _ => rfl) fun O x => by kernel_rfl
theorem H0 : Vd Tryz.prog 156 Ay := vt mix Yb Ld [] g0 rfl (fun _ _ => rfl) fun O x => by kernel_rfl
theorem HX : Vd Tryz.prog 157 Ax := vt mix TX Hi [(156, Ay)] (gs H0 g0) rfl (fun _ _ => rfl) fun O x => by kernel_rfl
theorem gL : Vd Tryz.prog 196 Ff := vt mix Ub Iz [] g0 rfl (fun _ _ => rfl) fun O x => by kernel_rfl
theorem jp : Vd Tryz.prog 176 H2 := vt mix X7 Lo [(156, Ay), (157, Ax), (196, Ff)] (gs H0 (gs HX (gs gL g0))) rfl (fun _ _ => rfl) fun O x => by kernel_rfl
theorem Yr : Vd Tryz.prog 197 DH := vt mix Od E1 [] g0 rfl (fun _ _ => rfl) fun O x => by kernel_rfl
theorem TZ : Vd Tryz.prog 177 B5 := vt mix TI Ho [(197, DH)] (gs Yr g0) rfl (fun _ _ => rfl) fun O x => by kernel_rfl
theorem Rb : Vd Tryz.prog 213 BU := vt mix RH RN [] g0 rfl (fun _ _ => rfl) fun O x => by kernel_rfl
theorem iQ : Vd Tryz.prog 198 Gi := vt mix WU J8 [(213, BU)] (gs Rb g0) rfl (fun _ _ => rfl) fun O x => by kernel_rfl
theorem Zf : Vd Tryz.prog 214 Dd := vt mix Qd FO [] g0 rfl (fun _ _ => rfl) fun O x => by kernel_rfl
theorem V0 : Vd Tryz.prog 199 Cj := vt mix MM Dl [(214, Dd)] (gs Zf g0) rfl (fun _ _ => rfl) fun O x => by kernel_rfl
theorem ZT : Vd Tryz.prog 215 Dh := vt mix Qj FN [] g0 rfl (fun _ _ => rfl) fun O x => by kernel_rfl
theorem du : Vd Tryz.prog 200 El := vt mix S9 Hl [(213, BU), (215, Dh)] (gs Rb (gs ZT g0)) rfl (fun _ _ => rfl) fun O x => by kernel_rfl
theorem Us : Vd Tryz.prog 216 CU := vt mix LA DQ [] g0 rfl (fun _ _ => rfl) fun O x => by kernel_rfl
theorem W3 : Vd Tryz.prog 201 Cz := vt mix NW ED [(216, CU)] (gs Us g0) rfl (fun _ _ => rfl) fun O x => by kernel_rfl
theorem Xc : Vd Tryz.prog 178 Cy := vt mix ON EG [(198, Gi), (199, Cj), (200, El), (201, Cz)] (gs iQ (gs V0 (gs du (gs W3 g0)))) rfl (fun _ _ => rfl) fun O x => by kernel_rfl
theorem jv : Vd Tryz.prog 179 H7 := vt mix Xu Ls [(156, Ay), (157, Ax)] (gs H0 (gs HX g0)) rfl (fun _ _ => rfl) fun O x => by kernel_rfl
theorem bU : Vd Tryz.prog 147 D2 := vt mix RZ GG [(137, BA), (176, H2), (177, B5), (178, Cy), (179, H7)] (gs OL (gs jp (gs TZ (gs Xc (gs jv g0))))) rfl (fun _ _ => rfl) fun O x => by kernel_rfl
theorem Yt : Vd Tryz.prog 180 DF := vt mix Ob Ez [] g0 rfl (fun _ _ => rfl) fun O x => by kernel_rfl
theorem bJ : Vd Tryz.prog 148 EA := vt mix RP GH [(177, B5), (180, DF)] (gs TZ (gs Yt g0)) rfl (fun _ _ => rfl) fun O x => by kernel_rfl
theorem lT : Vd Tryz.prog 149 I9 := vt mix Z7 OJ [(142, As), (144, Au)] (gs Gp (gs Gm g0)) rfl (fun _ _ => rfl) fun O x => by kernel_rfl
theorem eO : Vd Tryz.prog 150 Eb := vt mix TA TD [] g0 rfl (fun _ _ => rfl) fun O x => by kernel_rfl
theorem kc : Vd Tryz.prog 151 JB := vt mix Zp Np [(17, AP), (70, Ak), (145, CV), (174, Bh)] (gs Cc (gs Gc (gs Va (gs Q5 g0)))) rfl (fun _ _ => rfl) fun O x => by kernel_rfl
theorem eW : Vd Tryz.prog 152 Fj := vt mix UV Il [(142, As)] (gs Gp g0) rfl (fun _ _ => rfl) fun O x => by kernel_rfl
theorem gZ : Vd Tryz.prog 125 G8 := vt mix Vx KA [(64, AO), (147, D2), (148, EA), (149, I9), (150, Eb), (151, JB), (152, Fj)] (gs CN (gs bU (gs bJ (gs lT (gs eO (gs kc (gs eW g0))))))) rfl (fun _ _ => rfl) fun O x => by kernel_rfl
theorem Zw : Vd Tryz.prog 153 Db := vt mix ac NM [(137, BA), (144, Au)] (gs OL (gs Gm g0)) rfl (fun _ _ => rfl) fun O x => by kernel_rfl
theorem dR : Vd Tryz.prog 126 EY := vt mix Si Hk [(142, As), (144, Au), (153, Db)] (gs Gp (gs Gm (gs Zw g0))) rfl (fun _ _ => rfl) fun O x => by kernel_rfl
theorem gr : Vd Tryz.prog 127 Gu := vt mix WT Jy [(142, As), (153, Db)] (gs Gp (gs Zw g0)) rfl (fun _ _ => rfl) fun O x => by kernel_rfl
theorem YM : Vd Tryz.prog 138 Cd := vt mix X2 FD [] g0 rfl (fun _ _ => rfl) fun O x => by kernel_rfl
theorem fG : Vd Tryz.prog 128 Fa := vt mix UJ Ij [(138, Cd), (142, As), (144, Au)] (gs YM (gs Gp (gs Gm g0))) rfl (fun _ _ => rfl) fun O x => by kernel_rfl
theorem U7 : Vd Tryz.prog 155 CY := vt mix dD PZ [(85, AR), (86, Ae), (87, Aa)] (gs Dq (gs Fc (gs E3 g0))) rfl (fun _ _ => rfl) fun O x => by kernel_rfl
theorem fX : Vd Tryz.prog 129 FY := vt mix Tw Ix [(155, CY)] (gs U7 g0) rfl (fun _ _ => rfl) fun O x => by kernel_rfl
theorem iW : Vd Tryz.prog 130 Gj := vt mix V9 J2 [(155, CY), (156, Ay), (157, Ax)] (gs U7 (gs H0 (gs HX g0))) rfl (fun _ _ => rfl) fun O x => by kernel_rfl
theorem ZL : Vd Tryz.prog 131 Df := vt mix QW Fq [(155, CY), (156, Ay), (157, Ax)] (gs U7 (gs H0 (gs HX g0))) rfl (fun _ _ => rfl) fun O x => by kernel_rfl
theorem gV : Vd Tryz.prog 132 F1 := vt mix Ur Im [(17, AP), (145, CV)] (gs Cc (gs Va g0)) rfl (fun _ _ => rfl) fun O x => by kernel_rfl
theorem bK : Vd Tryz.prog 133 D0 := vt mix RX GF [(64, AO)] (gs CN g0) rfl (fun _ _ => rfl) fun O x => by kernel_rfl
theorem RK : Vd Tryz.prog 112 Bu := vt mix RY GJ [(64, AO)] (gs CN g0) rfl (fun _ _ => rfl) fun O x => by kernel_rfl
theorem bL : Vd Tryz.prog 134 D9 := vt mix RF GE [(64, AO), (112, Bu)] (gs CN (gs RK g0)) rfl (fun _ _ => rfl) fun O x => by kernel_rfl
theorem eJ : Vd Tryz.prog 135 EW := vt mix Su EX [(64, AO)] (gs CN g0) rfl (fun _ _ => rfl) fun O x => by kernel_rfl
theorem fp : Vd Tryz.prog 158 FU := vt mix T4 Uk [] g0 rfl (fun _ _ => rfl) fun O x => by kernel_rfl
theorem eM : Vd Tryz.prog 136 Ew := vt mix TJ Hj [(64, AO), (158, FU)] (gs CN (gs fp g0)) rfl (fun _ _ => rfl) fun O x => by kernel_rfl
theorem bR : Vd Tryz.prog 110 Dy := vt mix RT D5 [(123, Hy), (124, JX), (125, G8), (126, EY), (127, Gu), (128, Fa), (129, FY), (130, Gj), (131, Df), (132, F1), (133, D0), (134, D9), (135, EW), (136, Ew)] (gs jk (gs mX (gs gZ (gs dR (gs gr (gs fG (gs fX (gs iW (gs ZL (gs gV (gs bK (gs bL (gs eJ (gs eM g0)))))))))))))) rfl (fun _ _ => rfl) fun O x => by kernel_rfl
theorem db : Vd Tryz.prog 111 DL := vt mix TG Hb [(34, A9), (137, BA), (138, Cd)] (gs Nt (gs OL (gs YM g0))) rfl (fun _ _ => rfl) fun O x => by kernel_rfl
theorem hG : Vd Tryz.prog 90 Gx := vt mix Vn KE [(34, A9), (43, C3), (64, AO), (109, Ft), (110, Dy), (111, DL)] (gs Nt (gs Xv (gs CN (gs gO (gs bR (gs db g0)))))) rfl (fun _ _ => rfl) fun O x => by kernel_rfl
theorem ku : Vd Tryz.prog 30 Jg := vt mix Zn Nb [(18, C7), (35, C6), (43, C3), (44, IG), (52, BB), (68, Bg), (69, Fe), (88, Fw), (89, GX), (90, Gx), (91, Ba), (112, Bu)] (gs X0 (gs Xx (gs Xv (gs jQ (gs Lp (gs Qu (gs gN (gs gP (gs iP (gs hG (gs QN (gs RK g0)))))))))))) rfl (fun _ _ => rfl) fun O x => by kernel_rfl
theorem ZG : Vd Tryz.prog 16 DX := vt mix QE Fp [(19, Bt), (29, Fh), (30, Jg)] (gs RW (gs gM (gs ku g0))) rfl (fun _ _ => rfl) fun O x => by kernel_rfl
theorem P7 : Vd Tryz.prog 12 Ci := vt mix Qa FW [(16, DX), (19, Bt)] (gs ZG (gs RW g0)) rfl (fun _ _ => rfl) fun O x => by kernel_rfl
theorem ow : Vd Tryz.prog 14 XM := vt mix f6 gY [] g0 rfl (fun _ _ => rfl) fun O x => by kernel_rfl
theorem qo : Vd Tryz.prog 15 Y7 := vt mix ip ii [] g0 rfl (fun _ _ => rfl) fun O x => by kernel_rfl
theorem nS : Vd Tryz.prog 9 K7 := vt mix br bW [(12, Ci), (14, XM), (15, Y7)] (gs P7 (gs ow (gs qo g0))) rfl (fun _ _ => rfl) fun O x => by kernel_rfl
def YK : Cfg := { gam := [], imm := false, old := false }
theorem hZ (O : Alg) (x : Ags O) : XF (O := O) Tryz.prog YK false false [] 10 [] (xr x Q8 0) = IA O x := by kernel_rfl
theorem j0 {E : Env} {M : Nat} (N : Nat) (h : ∀ ls, E 10 [] ls = II N ls) : VV Tryz.prog E M ⟨10, [], false, false, []⟩ :=
 BE mix (E := F0 N) (N := N) (cfg := YK) (ci := ⟨10, [], false, false, []⟩) (ks := Q8) CB (c := II N) (F := fun ls => IA (std (F0 N) N) (xOf ls)) (fun ls => rfl) (fun ls => hZ (std (F0 N) N) (xOf ls)) h
def iu : Cfg := { gam := [], imm := false, old := true }
theorem oZ (O : Alg) (x : Ags O) : XF (O := O) Tryz.prog iu false false [] 11 [] (xr x ZE 0) = QL O x := by kernel_rfl
theorem pz {E : Env} {M : Nat} (N : Nat) (h : ∀ ls, E 11 [] ls = QS N ls) : VV Tryz.prog E M ⟨11, [], false, false, []⟩ :=
 BE mix (E := K1 N) (N := N) (cfg := iu) (ci := ⟨11, [], false, false, []⟩) (ks := ZE) CB (c := QS N) (F := fun ls => QL (std (K1 N) N) (xOf ls)) (fun ls => rfl) (fun ls => oZ (std (K1 N) N) (xOf ls)) h
theorem o4 : Vd Tryz.prog 53 Mz := vt mix gW SJ [] g0 rfl (fun _ _ => rfl) fun O x => by kernel_rfl
theorem rz : Vd Tryz.prog 54 TT := vt mix ll lW [] g0 rfl (fun _ _ => rfl) fun O x => by kernel_rfl
theorem DS : Vd Tryz.prog 37 Ab := vt mix cm Ps [(53, Mz), (54, TT)] (gs o4 (gs rz g0)) rfl (fun _ _ => rfl) fun O x => by kernel_rfl
theorem ce : Vd Tryz.prog 20 IL := vt mix cx Pm [(37, Ab)] (gs DS g0) rfl (fun _ _ => rfl) fun O x => by kernel_rfl
theorem dA : Vd Tryz.prog 73 EP := vt mix cO Pn [] g0 rfl (fun _ _ => rfl) fun O x => by kernel_rfl
theorem qh : Vd Tryz.prog 55 Qc := vt mix jB T0 [(37, Ab), (73, EP)] (gs DS (gs dA g0)) rfl (fun _ _ => rfl) fun O x => by kernel_rfl
theorem ja : Vd Tryz.prog 38 LQ := vt mix Yf LJ [(55, Qc)] (gs qh g0) rfl (fun _ _ => rfl) fun O x => by kernel_rfl
theorem dN : Vd Tryz.prog 105 Eh := vt mix kq kn [] g0 rfl (fun _ _ => rfl) fun O x => by kernel_rfl
theorem pn : Vd Tryz.prog 106 Qi := vt mix iy Up [(105, Eh)] (gs dN g0) rfl (fun _ _ => rfl) fun O x => by kernel_rfl
theorem PS : Vd Tryz.prog 119 BP := vt mix cY IR [] g0 rfl (fun _ _ => rfl) fun O x => by kernel_rfl
theorem jh : Vd Tryz.prog 107 IK := vt mix X4 Lj [(119, BP)] (gs PS g0) rfl (fun _ _ => rfl) fun O x => by kernel_rfl
theorem Vg : Vd Tryz.prog 79 CX := vt mix bk PT [(37, Ab), (105, Eh), (106, Qi), (107, IK)] (gs DS (gs dN (gs pn (gs jh g0)))) rfl (fun _ _ => rfl) fun O x => by kernel_rfl
theorem Ky : Vd Tryz.prog 100 Bo := vt mix bh PN [] g0 rfl (fun _ _ => rfl) fun O x => by kernel_rfl
theorem ZH : Vd Tryz.prog 80 Er := vt mix Z5 NE [(100, Bo)] (gs Ky g0) rfl (fun _ _ => rfl) fun O x => by kernel_rfl
theorem gR : Vd Tryz.prog 57 Fm := vt mix Ui I1 [(79, CX), (80, Er)] (gs Vg (gs ZH g0)) rfl (fun _ _ => rfl) fun O x => by kernel_rfl
theorem U6 : Vd Tryz.prog 40 EN := vt mix cu Pc [(37, Ab), (57, Fm)] (gs DS (gs gR g0)) rfl (fun _ _ => rfl) fun O x => by kernel_rfl
theorem Bm : Vd Tryz.prog 113 AM := vt mix ba PU [] g0 rfl (fun _ _ => rfl) fun O x => by kernel_rfl
theorem U2 : Vd Tryz.prog 95 Cr := vt mix cg Ph [(113, AM)] (gs Bm g0) rfl (fun _ _ => rfl) fun O x => by kernel_rfl
theorem nZ : Vd Tryz.prog 74 P4 := vt mix cl Po [(73, EP), (95, Cr)] (gs dA (gs U2 g0)) rfl (fun _ _ => rfl) fun O x => by kernel_rfl
theorem kU : Vd Tryz.prog 96 JR := vt mix ZU Nc [] g0 rfl (fun _ _ => rfl) fun O x => by kernel_rfl
theorem oq : Vd Tryz.prog 97 N5 := vt mix f9 Rx [] g0 rfl (fun _ _ => rfl) fun O x => by kernel_rfl
theorem rY : Vd Tryz.prog 98 SW := vt mix lg dj [] g0 rfl (fun _ _ => rfl) fun O x => by kernel_rfl
theorem ry : Vd Tryz.prog 114 Sj := vt mix lH di [] g0 rfl (fun _ _ => rfl) fun O x => by kernel_rfl
theorem nM : Vd Tryz.prog 99 Kz := vt mix cH P3 [(114, Sj)] (gs ry g0) rfl (fun _ _ => rfl) fun O x => by kernel_rfl
theorem bm : Vd Tryz.prog 75 IQ := vt mix cN Pj [(96, JR), (97, N5), (98, SW), (99, Kz)] (gs kU (gs oq (gs rY (gs nM g0)))) rfl (fun _ _ => rfl) fun O x => by kernel_rfl
theorem VK : Vd Tryz.prog 103 ER := vt mix cd PQ [] g0 rfl (fun _ _ => rfl) fun O x => by kernel_rfl
def fM : Cfg := { gam := [], imm := false, old := false }
theorem nc (O : Alg) (x : Ags O) : XF (O := O) Tryz.prog fM false false [] 77 [] (xr x Wm 0) = ND O x := by kernel_rfl
theorem Rk {E : Env} {M : Nat} (N : Nat) (h : ∀ ls, E 77 [] ls = C0 N ls) : VV Tryz.prog E M ⟨77, [], false, false, []⟩ :=
 BE mix (E := JV N) (N := N) (cfg := fM) (ci := ⟨77, [], false, false, []⟩) (ks := Wm) CB (c := C0 N) (F := fun ls => ND (std (JV N) N) (xOf ls)) (fun ls => rfl) (fun ls => nc (std (JV N) N) (xOf ls)) h
def YN : Cfg := { gam := [⟨40, [], true, true, []⟩, ⟨77, [], false, false, []⟩, ⟨80, [], true, true, []⟩], imm := false, old := false }
theorem iS (O : Alg) (x : Ags O) : XF (O := O) Tryz.prog YN true true [] 115 [] (xr x Qr 0) = IJ O x := by kernel_rfl
theorem jc : Vd Tryz.prog 115 IE := fun N h =>
 BE mix (E := CP N) (N := N) (cfg := YN) (ci := ⟨115, [], true, true, []⟩) (ks := Qr) (AF (U6 N (fun _ => rfl)) (AF (Rk N (fun _ => rfl)) (AF (ZH N (fun _ => rfl)) CB))) (c := IE N) (F := fun ls => IJ (std (CP N) N) (xOf ls)) (fun ls => rfl) (fun ls => iS (std (CP N) N) (xOf ls)) h
theorem ni : Vd Tryz.prog 116 Py := vt mix bX Pe [(37, Ab), (105, Eh)] (gs DS (gs dN g0)) rfl (fun _ _ => rfl) fun O x => by kernel_rfl
theorem YV : Vd Tryz.prog 118 FF := vt mix YH LF [(95, Cr)] (gs U2 g0) rfl (fun _ _ => rfl) fun O x => by kernel_rfl
theorem NO : Vd Tryz.prog 181 BK := vt mix Zm Nl [] g0 rfl (fun _ _ => rfl) fun O x => by kernel_rfl
theorem oj : Vd Tryz.prog 159 SC := vt mix eV Ro [(113, AM), (119, BP), (181, BK)] (gs Bm (gs PS (gs NO g0))) rfl (fun _ _ => rfl) fun O x => by kernel_rfl
theorem G0 : Vd Tryz.prog 194 Ar := vt mix WA KC [] g0 rfl (fun _ _ => rfl) fun O x => by kernel_rfl
theorem Sf : Vd Tryz.prog 202 CA := vt mix aH NJ [] g0 rfl (fun _ _ => rfl) fun O x => by kernel_rfl
theorem pI : Vd Tryz.prog 203 Nh := vt mix eu Rm [(37, Ab), (202, CA)] (gs DS (gs Sf g0)) rfl (fun _ _ => rfl) fun O x => by kernel_rfl
theorem i6 : Vd Tryz.prog 204 HG := vt mix iq Ty [] g0 rfl (fun _ _ => rfl) fun O x => by kernel_rfl
theorem qS : Vd Tryz.prog 182 QR := vt mix iX UO [(37, Ab), (194, Ar), (202, CA), (203, Nh), (204, HG)] (gs DS (gs G0 (gs Sf (gs pI (gs i6 g0))))) rfl (fun _ _ => rfl) fun O x => by kernel_rfl
theorem pj : Vd Tryz.prog 160 Rp := vt mix eU SL [(113, AM), (182, QR)] (gs Bm (gs qS g0)) rfl (fun _ _ => rfl) fun O x => by kernel_rfl
theorem S4 : Vd Tryz.prog 171 B8 := vt mix Y4 G1 [(119, BP)] (gs PS g0) rfl (fun _ _ => rfl) fun O x => by kernel_rfl
theorem OB : Vd Tryz.prog 193 BM := vt mix aY OI [] g0 rfl (fun _ _ => rfl) fun O x => by kernel_rfl
theorem jZ : Vd Tryz.prog 205 ID := vt mix YI LT [] g0 rfl (fun _ _ => rfl) fun O x => by kernel_rfl
theorem nV : Vd Tryz.prog 183 Pz := vt mix cW PW [(193, BM), (194, Ar), (205, ID)] (gs OB (gs G0 (gs jZ g0))) rfl (fun _ _ => rfl) fun O x => by kernel_rfl
theorem rJ : Vd Tryz.prog 206 So := vt mix lO dU [] g0 rfl (fun _ _ => rfl) fun O x => by kernel_rfl
theorem gf : Vd Tryz.prog 207 Gb := vt mix V5 KF [] g0 rfl (fun _ _ => rfl) fun O x => by kernel_rfl
theorem cf : Vd Tryz.prog 184 F4 := vt mix bl Pt [(206, So), (207, Gb)] (gs rJ (gs gf g0)) rfl (fun _ _ => rfl) fun O x => by kernel_rfl
theorem go : Vd Tryz.prog 208 Gv := vt mix WC Jz [] g0 rfl (fun _ _ => rfl) fun O x => by kernel_rfl
theorem rl : Vd Tryz.prog 209 TW := vt mix kw XA [] g0 rfl (fun _ _ => rfl) fun O x => by kernel_rfl
theorem kW : Vd Tryz.prog 210 Jh := vt mix Zk Nf [] g0 rfl (fun _ _ => rfl) fun O x => by kernel_rfl
theorem gl : Vd Tryz.prog 185 J7 := vt mix Vt J5 [(208, Gv), (209, TW), (210, Jh)] (gs go (gs rl (gs kW g0))) rfl (fun _ _ => rfl) fun O x => by kernel_rfl
theorem mo : Vd Tryz.prog 186 Pg := vt mix cP Pk [(193, BM), (194, Ar)] (gs OB (gs G0 g0)) rfl (fun _ _ => rfl) fun O x => by kernel_rfl
theorem gu : Vd Tryz.prog 211 G2 := vt mix Vi Jp [] g0 rfl (fun _ _ => rfl) fun O x => by kernel_rfl
theorem nL : Vd Tryz.prog 212 Kl := vt mix cp PO [] g0 rfl (fun _ _ => rfl) fun O x => by kernel_rfl
theorem kP : Vd Tryz.prog 187 Nd := vt mix Y1 Nq [(184, F4), (211, G2), (212, Kl)] (gs cf (gs gu (gs nL g0))) rfl (fun _ _ => rfl) fun O x => by kernel_rfl
theorem Zc : Vd Tryz.prog 190 Eu := vt mix Y9 My [(113, AM)] (gs Bm g0) rfl (fun _ _ => rfl) fun O x => by kernel_rfl
theorem qx : Vd Tryz.prog 188 Tx := vt mix i7 US [(113, AM), (181, BK), (190, Eu)] (gs Bm (gs NO (gs Zc g0))) rfl (fun _ _ => rfl) fun O x => by kernel_rfl
theorem oV : Vd Tryz.prog 189 Rr := vt mix fE Rz [(37, Ab), (113, AM), (202, CA), (204, HG)] (gs DS (gs Bm (gs Sf (gs i6 g0)))) rfl (fun _ _ => rfl) fun O x => by kernel_rfl
theorem np : Vd Tryz.prog 191 Pq := vt mix bc cE [] g0 rfl (fun _ _ => rfl) fun O x => by kernel_rfl
def fx : Cfg := { gam := [⟨171, [], true, true, []⟩, ⟨183, [], true, true, []⟩, ⟨184, [], true, true, []⟩, ⟨185, [], true, true, []⟩, ⟨186, [], true, true, []⟩, ⟨187, [], true, true, []⟩, ⟨188, [], true, true, []⟩, ⟨189, [], true, true, []⟩, ⟨190, [], true, true, []⟩, ⟨191, [], true, true, []⟩], imm := false, old := false }
theorem nQ (O : Alg) (x : Ags O) : XF (O := O) Tryz.prog fx false false [] 161 [] (xr x XV 0) = N8 O x := by kernel_rfl
theorem o6 {E : Env} {M : Nat} (N : Nat) (h : ∀ ls, E 161 [] ls = M7 N ls) : VV Tryz.prog E M ⟨161, [], false, false, []⟩ :=
 BE mix (E := BD N) (N := N) (cfg := fx) (ci := ⟨161, [], false, false, []⟩) (ks := XV) (AF (S4 N (fun _ => rfl)) (AF (nV N (fun _ => rfl)) (AF (cf N (fun _ => rfl)) (AF (gl N (fun _ => rfl)) (AF (mo N (fun _ => rfl)) (AF (kP N (fun _ => rfl)) (AF (qx N (fun _ => rfl)) (AF (oV N (fun _ => rfl)) (AF (Zc N (fun _ => rfl)) (AF (np N (fun _ => rfl)) CB)))))))))) (c := M7 N) (F := fun ls => N8 (std (BD N) N) (xOf ls)) (fun ls => rfl) (fun ls => nQ (std (BD N) N) (xOf ls)) h
theorem cX : Vd Tryz.prog 192 EK := vt mix cU P2 [(171, B8), (181, BK)] (gs S4 (gs NO g0)) rfl (fun _ _ => rfl) fun O x => by kernel_rfl
theorem ji : Vd Tryz.prog 162 LN := vt mix YZ LY [(113, AM), (192, EK)] (gs Bm (gs cX g0)) rfl (fun _ _ => rfl) fun O x => by kernel_rfl
theorem nE : Vd Tryz.prog 163 Pp := vt mix bv Pw [(113, AM), (192, EK)] (gs Bm (gs cX g0)) rfl (fun _ _ => rfl) fun O x => by kernel_rfl
theorem fC : Vd Tryz.prog 172 EC := vt mix fZ KN [] g0 rfl (fun _ _ => rfl) fun O x => by kernel_rfl
theorem lw : Vd Tryz.prog 164 NZ := vt mix Yz Mv [(113, AM), (172, EC), (181, BK)] (gs Bm (gs fC (gs NO g0))) rfl (fun _ _ => rfl) fun O x => by kernel_rfl
theorem jL : Vd Tryz.prog 165 LV := vt mix Ye LS [(113, AM)] (gs Bm g0) rfl (fun _ _ => rfl) fun O x => by kernel_rfl
theorem mD : Vd Tryz.prog 166 Mo := vt mix aR Mr [(113, AM), (193, BM), (194, Ar)] (gs Bm (gs OB (gs G0 g0))) rfl (fun _ _ => rfl) fun O x => by kernel_rfl
theorem eB : Vd Tryz.prog 167 HP := vt mix Se HU [(113, AM), (193, BM), (194, Ar)] (gs Bm (gs OB (gs G0 g0))) rfl (fun _ _ => rfl) fun O x => by kernel_rfl
theorem ju : Vd Tryz.prog 168 Ln := vt mix YA Lb [(37, Ab), (113, AM)] (gs DS (gs Bm g0)) rfl (fun _ _ => rfl) fun O x => by kernel_rfl
def Y3 : Cfg := { gam := [], imm := false, old := false }
theorem jJ (O : Alg) (x : Ags O) : XF (O := O) Tryz.prog Y3 false false [] 169 [] (xr x Sg 0) = G9 O x := by kernel_rfl
theorem mT {E : Env} {M : Nat} (N : Nat) (h : ∀ ls, E 169 [] ls = I8 N ls) : VV Tryz.prog E M ⟨169, [], false, false, []⟩ :=
 BE mix (E := Gf N) (N := N) (cfg := Y3) (ci := ⟨169, [], false, false, []⟩) (ks := Sg) CB (c := I8 N) (F := fun ls => G9 (std (Gf N) N) (xOf ls)) (fun ls => rfl) (fun ls => jJ (std (Gf N) N) (xOf ls)) h
theorem nT : Vd Tryz.prog 195 Pl := vt mix bz cZ [] g0 rfl (fun _ _ => rfl) fun O x => by kernel_rfl
def Zl : Cfg := { gam := [⟨195, [], true, true, []⟩], imm := false, old := false }
theorem jX (O : Alg) (x : Ags O) : XF (O := O) Tryz.prog Zl false false [] 170 [] (xr x TF 0) = Ji O x := by kernel_rfl
theorem lU {E : Env} {M : Nat} (N : Nat) (h : ∀ ls, E 170 [] ls = JJ N ls) : VV Tryz.prog E M ⟨170, [], false, false, []⟩ :=
 BE mix (E := ES N) (N := N) (cfg := Zl) (ci := ⟨170, [], false, false, []⟩) (ks := TF) (AF (nT N (fun _ => rfl)) CB) (c := JJ N) (F := fun ls => Ji (std (ES N) N) (xOf ls)) (fun ls => rfl) (fun ls => jX (std (ES N) N) (xOf ls)) h
def ir : Cfg := { gam := [⟨118, [], true, true, []⟩, ⟨159, [], true, true, []⟩, ⟨160, [], true, true, []⟩, ⟨161, [], false, false, []⟩, ⟨162, [], true, true, []⟩, ⟨163, [], true, true, []⟩, ⟨164, [], true, true, []⟩, ⟨165, [], true, true, []⟩, ⟨166, [], true, true, []⟩, ⟨167, [], true, true, []⟩, ⟨168, [], true, true, []⟩, ⟨169, [], false, false, []⟩, ⟨170, [], false, false, []⟩], imm := false, old := false }
theorem pW (O : Alg) (x : Ags O) : XF (O := O) Tryz.prog ir false false [] 139 [] (xr x ZD 0) = Mc O x := by kernel_rfl
theorem qL {E : Env} {M : Nat} (N : Nat) (h : ∀ ls, E 139 [] ls = QM N ls) : VV Tryz.prog E M ⟨139, [], false, false, []⟩ :=
 BE mix (E := A2 N) (N := N) (cfg := ir) (ci := ⟨139, [], false, false, []⟩) (ks := ZD) (AF (YV N (fun _ => rfl)) (AF (oj N (fun _ => rfl)) (AF (pj N (fun _ => rfl)) (AF (o6 N (fun _ => rfl)) (AF (ji N (fun _ => rfl)) (AF (nE N (fun _ => rfl)) (AF (lw N (fun _ => rfl)) (AF (jL N (fun _ => rfl)) (AF (mD N (fun _ => rfl)) (AF (eB N (fun _ => rfl)) (AF (ju N (fun _ => rfl)) (AF (mT N (fun _ => rfl)) (AF (lU N (fun _ => rfl)) CB))))))))))))) (c := QM N) (F := fun ls => Mc (std (A2 N) N) (xOf ls)) (fun ls => rfl) (fun ls => pW (std (A2 N) N) (xOf ls)) h
theorem lG : Vd Tryz.prog 140 JT := vt mix Yy NX [(79, CX), (171, B8), (172, EC)] (gs Vg (gs S4 (gs fC g0))) rfl (fun _ _ => rfl) fun O x => by kernel_rfl
def gG : Cfg := { gam := [⟨75, [], true, true, []⟩, ⟨79, [], true, true, []⟩, ⟨95, [], true, true, []⟩, ⟨119, [], true, true, []⟩, ⟨139, [], false, false, []⟩, ⟨140, [], true, true, []⟩], imm := false, old := false }
theorem mw (O : Alg) (x : Ags O) : XF (O := O) Tryz.prog gG false false [] 117 [] (xr x Xk 0) = M3 O x := by kernel_rfl
theorem gU {E : Env} {M : Nat} (N : Nat) (h : ∀ ls, E 117 [] ls = HV N ls) : VV Tryz.prog E M ⟨117, [], false, false, []⟩ :=
 BE mix (E := B6 N) (N := N) (cfg := gG) (ci := ⟨117, [], false, false, []⟩) (ks := Xk) (AF (bm N (fun _ => rfl)) (AF (Vg N (fun _ => rfl)) (AF (U2 N (fun _ => rfl)) (AF (PS N (fun _ => rfl)) (AF (qL N (fun _ => rfl)) (AF (lG N (fun _ => rfl)) CB)))))) (c := HV N) (F := fun ls => M3 (std (B6 N) N) (xOf ls)) (fun ls => rfl) (fun ls => mw (std (B6 N) N) (xOf ls)) h
def gE : Cfg := { gam := [⟨100, [], true, true, []⟩, ⟨103, [], true, true, []⟩, ⟨115, [], true, true, []⟩, ⟨116, [], true, true, []⟩, ⟨117, [], false, false, []⟩], imm := false, old := false }
theorem nU (O : Alg) (x : Ags O) : XF (O := O) Tryz.prog gE false false [true, false] 101 [] (xr x XS 0) = OK O x := by kernel_rfl
theorem oU {E : Env} {M : Nat} (N : Nat) (h : ∀ ls, E 101 [] ls = Mq N ls) : VV Tryz.prog E M ⟨101, [], false, false, [true, false]⟩ :=
 BE mix (E := CW N) (N := N) (cfg := gE) (ci := ⟨101, [], false, false, [true, false]⟩) (ks := XS) (AF (Ky N (fun _ => rfl)) (AF (VK N (fun _ => rfl)) (AF (jc N (fun _ => rfl)) (AF (ni N (fun _ => rfl)) (AF (gU N (fun _ => rfl)) CB))))) (c := Mq N) (F := fun ls => OK (std (CW N) N) (xOf ls)) (fun ls => rfl) (fun ls => nU (std (CW N) N) (xOf ls)) h
def ef : Cfg := { gam := [⟨117, [], false, false, []⟩, ⟨118, [], true, true, []⟩], imm := true, old := true }
theorem ml (O : Alg) (x : Ags O) : XF (O := O) Tryz.prog ef false false [true, false] 102 [] (xr x Xg 0) = OE O x := by kernel_rfl
theorem o5 {E : Env} {M : Nat} (N : Nat) (h : ∀ ls, E 102 [] ls = N1 N ls) : VV Tryz.prog E M ⟨102, [], false, false, [true, false]⟩ :=
 BE mix (E := Eo N) (N := N) (cfg := ef) (ci := ⟨102, [], false, false, [true, false]⟩) (ks := Xg) (AF (gU N (fun _ => rfl)) (AF (YV N (fun _ => rfl)) CB)) (c := N1 N) (F := fun ls => OE (std (Eo N) N) (xOf ls)) (fun ls => rfl) (fun ls => ml (std (Eo N) N) (xOf ls)) h
def jC : Cfg := { gam := [⟨100, [], true, true, []⟩, ⟨101, [], false, false, [true, false]⟩, ⟨102, [], false, false, [true, false]⟩], imm := false, old := false }
theorem oi (O : Alg) (x : Ags O) : XF (O := O) Tryz.prog jC false false [true, false] 76 [] (xr x ZC 0) = P5 O x := by kernel_rfl
theorem qU {E : Env} {M : Nat} (N : Nat) (h : ∀ ls, E 76 [] ls = QB N ls) : VV Tryz.prog E M ⟨76, [], false, false, [true, false]⟩ :=
 BE mix (E := EJ N) (N := N) (cfg := jC) (ci := ⟨76, [], false, false, [true, false]⟩) (ks := ZC) (AF (Ky N (fun _ => rfl)) (AF (oU N (fun _ => rfl)) (AF (o5 N (fun _ => rfl)) CB))) (c := QB N) (F := fun ls => P5 (std (EJ N) N) (xOf ls)) (fun ls => rfl) (fun ls => oi (std (EJ N) N) (xOf ls)) h
def YO : Cfg := { gam := [⟨40, [], true, true, []⟩, ⟨77, [], false, false, []⟩, ⟨100, [], true, true, []⟩, ⟨103, [], true, true, []⟩], imm := false, old := false }
theorem gp (O : Alg) (x : Ags O) : XF (O := O) Tryz.prog YO true true [] 104 [] (xr x Q6 0) = Hs O x := by kernel_rfl
theorem jN : Vd Tryz.prog 104 Hr := fun N h =>
 BE mix (E := Bw N) (N := N) (cfg := YO) (ci := ⟨104, [], true, true, []⟩) (ks := Q6) (AF (U6 N (fun _ => rfl)) (AF (Rk N (fun _ => rfl)) (AF (Ky N (fun _ => rfl)) (AF (VK N (fun _ => rfl)) CB)))) (c := Hr N) (F := fun ls => Hs (std (Bw N) N) (xOf ls)) (fun ls => rfl) (fun ls => gp (std (Bw N) N) (xOf ls)) h
def aJ : Cfg := { gam := [⟨77, [], false, false, []⟩, ⟨100, [], true, true, []⟩, ⟨103, [], true, true, []⟩, ⟨104, [], true, true, []⟩], imm := false, old := false }
theorem jT (O : Alg) (x : Ags O) : XF (O := O) Tryz.prog aJ false false [] 78 [] (xr x TC 0) = Jf O x := by kernel_rfl
theorem lX {E : Env} {M : Nat} (N : Nat) (h : ∀ ls, E 78 [] ls = JN N ls) : VV Tryz.prog E M ⟨78, [], false, false, []⟩ :=
 BE mix (E := CE N) (N := N) (cfg := aJ) (ci := ⟨78, [], false, false, []⟩) (ks := TC) (AF (Rk N (fun _ => rfl)) (AF (Ky N (fun _ => rfl)) (AF (VK N (fun _ => rfl)) (AF (jN N (fun _ => rfl)) CB)))) (c := JN N) (F := fun ls => Jf (std (CE N) N) (xOf ls)) (fun ls => rfl) (fun ls => jT (std (CE N) N) (xOf ls)) h
def eY : Cfg := { gam := [⟨40, [], true, true, []⟩, ⟨74, [], true, true, []⟩, ⟨75, [], true, true, []⟩, ⟨76, [], false, false, [true, false]⟩, ⟨77, [], false, false, []⟩, ⟨78, [], false, false, []⟩], imm := false, old := false }
theorem mt (O : Alg) (x : Ags O) : XF (O := O) Tryz.prog eY false false [] 56 [] (xr x XG 0) = Mm O x := by kernel_rfl
theorem pO {E : Env} {M : Nat} (N : Nat) (h : ∀ ls, E 56 [] ls = M8 N ls) : VV Tryz.prog E M ⟨56, [], false, false, []⟩ :=
 BE mix (E := B3 N) (N := N) (cfg := eY) (ci := ⟨56, [], false, false, []⟩) (ks := XG) (AF (U6 N (fun _ => rfl)) (AF (nZ N (fun _ => rfl)) (AF (bm N (fun _ => rfl)) (AF (qU N (fun _ => rfl)) (AF (Rk N (fun _ => rfl)) (AF (lX N (fun _ => rfl)) CB)))))) (c := M8 N) (F := fun ls => Mm (std (B3 N) N) (xOf ls)) (fun ls => rfl) (fun ls => mt (std (B3 N) N) (xOf ls)) h
def fT : Cfg := { gam := [⟨56, [], false, false, []⟩], imm := true, old := true }
theorem nJ (O : Alg) (x : Ags O) : XF (O := O) Tryz.prog fT false false [] 39 [] (xr x Xe 0) = Mn O x := by kernel_rfl
theorem pQ {E : Env} {M : Nat} (N : Nat) (h : ∀ ls, E 39 [] ls = N0 N ls) : VV Tryz.prog E M ⟨39, [], false, false, []⟩ :=
 BE mix (E := HA N) (N := N) (cfg := fT) (ci := ⟨39, [], false, false, []⟩) (ks := Xe) (AF (pO N (fun _ => rfl)) CB) (c := N0 N) (F := fun ls => Mn (std (HA N) N) (xOf ls)) (fun ls => rfl) (fun ls => nJ (std (HA N) N) (xOf ls)) h
def Z1 : Cfg := { gam := [⟨20, [], true, true, []⟩, ⟨38, [], true, true, []⟩, ⟨39, [], false, false, []⟩], imm := false, old := false }
theorem jV (O : Alg) (x : Ags O) : XF (O := O) Tryz.prog Z1 false false [] 23 [] (xr x Sp 0) = JD O x := by kernel_rfl
theorem kL {E : Env} {M : Nat} (N : Nat) (h : ∀ ls, E 23 [] ls = Jo N ls) : VV Tryz.prog E M ⟨23, [], false, false, []⟩ :=
 BE mix (E := Co N) (N := N) (cfg := Z1) (ci := ⟨23, [], false, false, []⟩) (ks := Sp) (AF (ce N (fun _ => rfl)) (AF (ja N (fun _ => rfl)) (AF (pQ N (fun _ => rfl)) CB))) (c := Jo N) (F := fun ls => JD (std (Co N) N) (xOf ls)) (fun ls => rfl) (fun ls => jV (std (Co N) N) (xOf ls)) h
def aN : Cfg := { gam := [⟨20, [], true, true, []⟩, ⟨23, [], false, false, []⟩], imm := false, old := false }
theorem jo (O : Alg) (x : Ags O) : XF (O := O) Tryz.prog aN true true [] 13 [] (xr x SU 0) = JK O x := by kernel_rfl
theorem lD : Vd Tryz.prog 13 JP := fun N h =>
 BE mix (E := DM N) (N := N) (cfg := aN) (ci := ⟨13, [], true, true, []⟩) (ks := SU) (AF (ce N (fun _ => rfl)) (AF (kL N (fun _ => rfl)) CB)) (c := JP N) (F := fun ls => JK (std (DM N) N) (xOf ls)) (fun ls => rfl) (fun ls => jo (std (DM N) N) (xOf ls)) h
def Kh : Cfg := { gam := [⟨9, [], true, true, []⟩, ⟨10, [], false, false, []⟩, ⟨11, [], false, false, []⟩, ⟨12, [], true, true, []⟩, ⟨13, [], true, true, []⟩], imm := false, old := false }
theorem Ta (O : Alg) (x : Ags O) : XF (O := O) Tryz.prog Kh true true [] 3 [] (xr x F2 0) = CZ O x := by kernel_rfl
theorem VC : Vd Tryz.prog 3 CS := fun N h =>
 BE mix (E := Ao N) (N := N) (cfg := Kh) (ci := ⟨3, [], true, true, []⟩) (ks := F2) (AF (nS N (fun _ => rfl)) (AF (j0 N (fun _ => rfl)) (AF (pz N (fun _ => rfl)) (AF (P7 N (fun _ => rfl)) (AF (lD N (fun _ => rfl)) CB))))) (c := CS N) (F := fun ls => CZ (std (Ao N) N) (xOf ls)) (fun ls => rfl) (fun ls => Ta (std (Ao N) N) (xOf ls)) h
end Go.Px
