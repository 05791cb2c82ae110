/- Part 12. -/
import Derived.Test.YtapipgdcgmmkaaaGreatDoorPart06
import Derived.Test.YtapipgdcgmmkaaaGreatDoorProg
import Derived.Test.YtapipgdcgmmkaaaGreatDoorPart08
import Derived.KernelRfl
import Derived.WalkKit
import Derived.Lib.Walk
import Derived.BigCall
import Derived.BigGuard
import Derived.Test.YtapipgdcgmmkaaaGreatDoorPart11
set_option linter.unusedVariables false
set_option linter.unusedSimpArgs false
namespace Go.Px
open Go.Proofs
set_option maxRecDepth 100000
theorem mix : Tryz.prog.follows .mixedOrders = true := by kernel_rfl
theorem Yj : Vd Tryz.prog 76 Hx := vt mix TS K7 [] g0 rfl (fun _ _ => rfl) fun O x => by kernel_rfl
theorem OC : Vd Tryz.prog 117 Bo := vt mix Ny N5 [] g0 rfl (fun _ _ => rfl) fun O x => by kernel_rfl
theorem VD : Vd Tryz.prog 77 En := vt mix OL Gq [(117, Bo)] (gs OC g0) rfl (fun _ _ => rfl) fun O x => by kernel_rfl
theorem Vu : Vd Tryz.prog 78 Fa := vt mix PQ HJ [(117, Bo)] (gs OC g0) rfl (fun _ _ => rfl) fun O x => by kernel_rfl
theorem CM : Vd Tryz.prog 40 AP := vt mix Qq Ia [(76, Hx), (77, En), (78, Fa)] (gs Yj (gs VD (gs Vu g0))) rfl (fun _ _ => rfl) fun O x => by kernel_rfl
theorem DI : Vd Tryz.prog 79 Aa := vt mix MH MO [] g0 rfl (fun _ _ => rfl) fun O x => by kernel_rfl
theorem S0 : Vd Tryz.prog 80 DH := vt mix MP E8 [(79, Aa)] (gs DI g0) rfl (fun _ _ => rfl) fun O x => by kernel_rfl
theorem Ru : Vd Tryz.prog 136 Cr := vt mix LJ EW [] g0 rfl (fun _ _ => rfl) fun O x => by kernel_rfl
theorem FA : Vd Tryz.prog 118 Ad := vt mix I0 Cv [(136, Cr)] (gs Ru g0) rfl (fun _ _ => rfl) fun O x => by kernel_rfl
theorem Q5 : Vd Tryz.prog 81 CS := vt mix KI D2 [(79, Aa), (118, Ad)] (gs DI (gs FA g0)) rfl (fun _ _ => rfl) fun O x => by kernel_rfl
theorem Q2 : Vd Tryz.prog 120 CU := vt mix KL Dz [(79, Aa)] (gs DI g0) rfl (fun _ _ => rfl) fun O x => by kernel_rfl
theorem Su : Vd Tryz.prog 82 DC := vt mix MC E2 [(120, CU)] (gs Q2 g0) rfl (fun _ _ => rfl) fun O x => by kernel_rfl
theorem Jv : Vd Tryz.prog 41 A3 := vt mix OO Gc [(40, AP), (79, Aa), (80, DH), (81, CS), (82, DC)] (gs CM (gs DI (gs S0 (gs Q5 (gs Su g0))))) rfl (fun _ _ => rfl) fun O x => by kernel_rfl
theorem IJ : Vd Tryz.prog 49 A2 := vt mix Qi IM [] g0 rfl (fun _ _ => rfl) fun O x => by kernel_rfl
theorem Qn : Vd Tryz.prog 42 CK := vt mix Qe IP [(49, A2)] (gs IJ g0) rfl (fun _ _ => rfl) fun O x => by kernel_rfl
theorem Wx : Vd Tryz.prog 43 GE := vt mix Qp IX [] g0 rfl (fun _ _ => rfl) fun O x => by kernel_rfl
theorem IL : Vd Tryz.prog 14 BH := vt mix QY IU [(40, AP), (41, A3), (42, CK), (43, GE)] (gs CM (gs Jv (gs Qn (gs Wx g0)))) rfl (fun _ _ => rfl) fun O x => by kernel_rfl
theorem L3 : Vd Tryz.prog 22 BP := vt mix Qo IZ [] g0 rfl (fun _ _ => rfl) fun O x => by kernel_rfl
theorem LL : Vd Tryz.prog 50 BK := vt mix LP Ed [] g0 rfl (fun _ _ => rfl) fun O x => by kernel_rfl
theorem VL : Vd Tryz.prog 24 EU := vt mix OJ Gg [(14, BH), (22, BP), (49, A2), (50, BK)] (gs IL (gs L3 (gs IJ (gs LL g0)))) rfl (fun _ _ => rfl) fun O x => by kernel_rfl
theorem QP : Vd Tryz.prog 83 CD := fun N h =>
 LD mix (T := 22) (e := 68) (b := 24) Tryz.func83 Tryz.underlying22 (by kernel_rfl) (by decide) (fun O l => by kernel_rfl) (fun O l => by kernel_rfl) h
theorem QZ : Vd Tryz.prog 44 C4 := vt mix Qt IK [(83, CD)] (gs QP g0) rfl (fun _ _ => rfl) fun O x => by kernel_rfl
theorem Cw : Vd Tryz.prog 87 AO := fun N h =>
 LD mix (T := 60) (e := 66) (b := 1) Tryz.func87 Tryz.underlying60 (by kernel_rfl) (by decide) (fun O l => by kernel_rfl) (fun O l => by kernel_rfl) h
theorem EX : Vd Tryz.prog 88 AX := fun N h =>
 LD mix (T := 61) (e := 3) (b := 8) Tryz.func88 Tryz.underlying61 (by kernel_rfl) (by decide) (fun O l => by kernel_rfl) (fun O l => by kernel_rfl) h
theorem D1 : Vd Tryz.prog 89 AR := fun N h =>
 LD mix (T := 62) (e := 4) (b := 1) Tryz.func89 Tryz.underlying62 (by kernel_rfl) (by decide) (fun O l => by kernel_rfl) (fun O l => by kernel_rfl) h
theorem Bp : Vd Tryz.prog 52 AL := vt mix OG Gj [(87, AO), (88, AX), (89, AR)] (gs Cw (gs EX (gs D1 g0))) rfl (fun _ _ => rfl) fun O x => by kernel_rfl
theorem Wz : Vd Tryz.prog 26 GJ := vt mix Qh Id [(44, C4), (52, AL)] (gs QZ (gs Bp g0)) rfl (fun _ _ => rfl) fun O x => by kernel_rfl
theorem WA : Vd Tryz.prog 62 FD := vt mix PG Hc [] g0 rfl (fun _ _ => rfl) fun O x => by kernel_rfl
theorem VW : Vd Tryz.prog 63 EZ := vt mix OX J3 [] g0 rfl (fun _ _ => rfl) fun O x => by kernel_rfl
open Go.RowKit Go.Lib in
set_option maxHeartbeats 1000000 in
theorem Ma (s : ByteArray) (c : Int) (w : World) : Calls Tryz.prog 128 #[.string s, .int .u8 c] w fun e w' => e = .returned (.int .i64 (Lib.indexByte s.data.toList c.toNat.toUInt8)) ∧ w' = w := by
 go_enter Tryz.func128, Tryz.ntmps128
 go_wp2
 rw [run_callFunc_extern Tryz.func141 (by kernel_rfl) (by kernel_rfl) (by kernel_rfl) (e := Extern.BytealgIndexByte.indexByte) (by kernel_rfl), Lib.run_indexByteString]
 simp only [Result.andThen]
 rw [Oper.upon_value]
 go_wp2
 go_ret
 exact ⟨rfl, rfl⟩
theorem Nk : Vd Tryz.prog 128 Bl := fun N h =>
 Yr Tryz.func128 (T9 := 9) (T5 := 5) (T3 := 3) rfl rfl Tryz.underlying9 Tryz.underlying5 Tryz.underlying3 (by kernel_rfl) Ma h
theorem Q9 : Vd Tryz.prog 106 CV := vt mix KN D0 [(128, Bl)] (gs Nk g0) rfl (fun _ _ => rfl) fun O x => by kernel_rfl
theorem Ww : Vd Tryz.prog 107 EH := vt mix Qm Qk [] g0 rfl (fun _ _ => rfl) fun O x => by kernel_rfl
theorem XW : Vd Tryz.prog 64 G9 := vt mix Rj JP [(106, CV), (107, EH)] (gs Q9 (gs Ww g0)) rfl (fun _ _ => rfl) fun O x => by kernel_rfl
theorem Rt : Vd Tryz.prog 108 Cm := vt mix Lb G1 [] g0 rfl (fun _ _ => rfl) fun O x => by kernel_rfl
theorem Td : Vd Tryz.prog 65 Dq := vt mix NB Fx [(108, Cm)] (gs Rt g0) rfl (fun _ _ => rfl) fun O x => by kernel_rfl
theorem QW : Vd Tryz.prog 31 CL := vt mix QV GM [(62, FD), (63, EZ), (64, G9), (65, Dq)] (gs WA (gs VW (gs XW (gs Td g0)))) rfl (fun _ _ => rfl) fun O x => by kernel_rfl
theorem UX : Vd Tryz.prog 109 El := vt mix OD Gk [(40, AP), (79, Aa)] (gs CM (gs DI g0)) rfl (fun _ _ => rfl) fun O x => by kernel_rfl
theorem Vt : Vd Tryz.prog 110 FM := vt mix PY HI [(22, BP), (49, A2)] (gs L3 (gs IJ g0)) rfl (fun _ _ => rfl) fun O x => by kernel_rfl
theorem Sk : Vd Tryz.prog 143 DK := vt mix L7 Ho [] g0 rfl (fun _ _ => rfl) fun O x => by kernel_rfl
theorem UZ : Vd Tryz.prog 129 EL := vt mix OP Gl [(143, DK)] (gs Sk g0) rfl (fun _ _ => rfl) fun O x => by kernel_rfl
theorem FE : Vd Tryz.prog 179 Ah := vt mix Rn Js [(87, AO), (88, AX), (89, AR)] (gs Cw (gs EX (gs D1 g0))) rfl (fun _ _ => rfl) fun O x => by kernel_rfl
theorem T6 : Vd Tryz.prog 215 B4 := vt mix NQ Is [] g0 rfl (fun _ _ => rfl) fun O x => by kernel_rfl
theorem O1 : Vd Tryz.prog 180 BU := vt mix PI DX [(215, B4)] (gs T6 g0) rfl (fun _ _ => rfl) fun O x => by kernel_rfl
theorem FY : Vd Tryz.prog 181 Ai := vt mix PS HK [] g0 rfl (fun _ _ => rfl) fun O x => by kernel_rfl
theorem Wm : Vd Tryz.prog 144 F9 := vt mix Qv IE [(179, Ah), (180, BU), (181, Ai)] (gs FE (gs O1 (gs FY g0))) rfl (fun _ _ => rfl) fun O x => by kernel_rfl
theorem Oi : Vd Tryz.prog 182 Bu := vt mix TW LH [(87, AO), (88, AX), (89, AR)] (gs Cw (gs EX (gs D1 g0))) rfl (fun _ _ => rfl) fun O x => by kernel_rfl
theorem Lo : Vd Tryz.prog 216 BQ := vt mix Qb IG [] g0 rfl (fun _ _ => rfl) fun O x => by kernel_rfl
theorem X4 : Vd Tryz.prog 217 G7 := vt mix RI JM [(40, AP), (216, BQ)] (gs CM (gs Lo g0)) rfl (fun _ _ => rfl) fun O x => by kernel_rfl
theorem Ys : Vd Tryz.prog 183 Hs := vt mix TY LA [(40, AP), (118, Ad), (216, BQ), (217, G7)] (gs CM (gs FA (gs Lo (gs X4 g0)))) rfl (fun _ _ => rfl) fun O x => by kernel_rfl
theorem Xi : Vd Tryz.prog 145 G0 := vt mix SB Jz [(182, Bu), (183, Hs)] (gs Oi (gs Ys g0)) rfl (fun _ _ => rfl) fun O x => by kernel_rfl
theorem JN : Vd Tryz.prog 158 A1 := vt mix N9 Ct [(180, BU)] (gs O1 g0) rfl (fun _ _ => rfl) fun O x => by kernel_rfl
theorem F7 : Vd Tryz.prog 193 Ak := vt mix Qf II [] g0 rfl (fun _ _ => rfl) fun O x => by kernel_rfl
theorem Fu : Vd Tryz.prog 194 Aj := vt mix Na F2 [(193, Ak)] (gs F7 g0) rfl (fun _ _ => rfl) fun O x => by kernel_rfl
theorem VO : Vd Tryz.prog 236 Ek := vt mix OI Gb [] g0 rfl (fun _ _ => rfl) fun O x => by kernel_rfl
theorem W2 : Vd Tryz.prog 218 GA := vt mix QX Ic [(193, Ak), (194, Aj), (236, Ek)] (gs F7 (gs Fu (gs VO g0))) rfl (fun _ _ => rfl) fun O x => by kernel_rfl
theorem Q3 : Vd Tryz.prog 237 CT := vt mix KH D3 [] g0 rfl (fun _ _ => rfl) fun O x => by kernel_rfl
theorem M4 : Vd Tryz.prog 219 Bh := vt mix M2 Fm [(237, CT)] (gs Q3 g0) rfl (fun _ _ => rfl) fun O x => by kernel_rfl
theorem MG : Vd Tryz.prog 242 BG := vt mix MK ML [] g0 rfl (fun _ _ => rfl) fun O x => by kernel_rfl
theorem Vz : Vd Tryz.prog 238 FJ := vt mix PF HU [(242, BG)] (gs MG g0) rfl (fun _ _ => rfl) fun O x => by kernel_rfl
theorem R0 : Vd Tryz.prog 243 Cl := vt mix Lj EY [] g0 rfl (fun _ _ => rfl) fun O x => by kernel_rfl
theorem Pe : Vd Tryz.prog 239 B6 := vt mix I5 Cu [(243, Cl)] (gs R0 g0) rfl (fun _ _ => rfl) fun O x => by kernel_rfl
theorem Rs : Vd Tryz.prog 244 Ci := vt mix LO EM [] g0 rfl (fun _ _ => rfl) fun O x => by kernel_rfl
theorem UP : Vd Tryz.prog 240 DZ := vt mix NR Fy [(242, BG), (244, Ci)] (gs MG (gs Rs g0)) rfl (fun _ _ => rfl) fun O x => by kernel_rfl
theorem Ox : Vd Tryz.prog 245 Bv := vt mix Hw Cc [] g0 rfl (fun _ _ => rfl) fun O x => by kernel_rfl
theorem P9 : Vd Tryz.prog 241 B9 := vt mix Jh DM [(245, Bv)] (gs Ox g0) rfl (fun _ _ => rfl) fun O x => by kernel_rfl
theorem P2 : Vd Tryz.prog 220 CB := vt mix JK DN [(238, FJ), (239, B6), (240, DZ), (241, B9)] (gs Vz (gs Pe (gs UP (gs P9 g0)))) rfl (fun _ _ => rfl) fun O x => by kernel_rfl
theorem Wt : Vd Tryz.prog 221 F8 := vt mix Qy IW [(193, Ak), (194, Aj)] (gs F7 (gs Fu g0)) rfl (fun _ _ => rfl) fun O x => by kernel_rfl
theorem Sx : Vd Tryz.prog 184 DD := vt mix MB E6 [(158, A1), (218, GA), (219, Bh), (220, CB), (221, F8)] (gs JN (gs W2 (gs M4 (gs P2 (gs Wt g0))))) rfl (fun _ _ => rfl) fun O x => by kernel_rfl
theorem Q7 : Vd Tryz.prog 222 CR := vt mix KJ D4 [] g0 rfl (fun _ _ => rfl) fun O x => by kernel_rfl
theorem Sn : Vd Tryz.prog 185 C6 := vt mix MI E0 [(219, Bh), (222, CR)] (gs M4 (gs Q7 g0)) rfl (fun _ _ => rfl) fun O x => by kernel_rfl
theorem XQ : Vd Tryz.prog 186 Gv := vt mix Rl Jn [(179, Ah), (181, Ai)] (gs FE (gs FY g0)) rfl (fun _ _ => rfl) fun O x => by kernel_rfl
theorem UE : Vd Tryz.prog 187 Du := vt mix NN NM [] g0 rfl (fun _ _ => rfl) fun O x => by kernel_rfl
theorem XU : Vd Tryz.prog 188 HG := vt mix R2 Jw [(40, AP), (118, Ad), (182, Bu), (216, BQ)] (gs CM (gs FA (gs Oi (gs Lo g0)))) rfl (fun _ _ => rfl) fun O x => by kernel_rfl
theorem UV : Vd Tryz.prog 189 EP := vt mix OV Gh [(179, Ah)] (gs FE g0) rfl (fun _ _ => rfl) fun O x => by kernel_rfl
theorem V6 : Vd Tryz.prog 146 FB := vt mix Ph HR [(52, AL), (184, DD), (185, C6), (186, Gv), (187, Du), (188, HG), (189, EP)] (gs Bp (gs Sx (gs Sn (gs XQ (gs UE (gs XU (gs UV g0))))))) rfl (fun _ _ => rfl) fun O x => by kernel_rfl
theorem Rz : Vd Tryz.prog 190 Cp := vt mix RN Jt [(158, A1), (181, Ai)] (gs JN (gs FY g0)) rfl (fun _ _ => rfl) fun O x => by kernel_rfl
theorem Tf : Vd Tryz.prog 147 Dd := vt mix NX Ft [(179, Ah), (181, Ai), (190, Cp)] (gs FE (gs FY (gs Rz g0))) rfl (fun _ _ => rfl) fun O x => by kernel_rfl
theorem Ve : Vd Tryz.prog 148 FP := vt mix PL HL [(179, Ah), (190, Cp)] (gs FE (gs Rz g0)) rfl (fun _ _ => rfl) fun O x => by kernel_rfl
theorem Qw : Vd Tryz.prog 159 B2 := vt mix Qj EB [] g0 rfl (fun _ _ => rfl) fun O x => by kernel_rfl
theorem U3 : Vd Tryz.prog 149 Ej := vt mix N6 Gm [(159, B2), (179, Ah), (181, Ai)] (gs Qw (gs FE (gs FY g0))) rfl (fun _ _ => rfl) fun O x => by kernel_rfl
theorem Oo : Vd Tryz.prog 192 Bs := vt mix S4 LF [(87, AO), (88, AX), (89, AR)] (gs Cw (gs EX (gs D1 g0))) rfl (fun _ _ => rfl) fun O x => by kernel_rfl
theorem VS : Vd Tryz.prog 150 Ei := vt mix Nx Gf [(192, Bs)] (gs Oo g0) rfl (fun _ _ => rfl) fun O x => by kernel_rfl
theorem Vn : Vd Tryz.prog 151 FV := vt mix O2 HP [(192, Bs), (193, Ak), (194, Aj)] (gs Oo (gs F7 (gs Fu g0))) rfl (fun _ _ => rfl) fun O x => by kernel_rfl
theorem R9 : Vd Tryz.prog 152 Ck := vt mix LQ Ec [(192, Bs), (193, Ak), (194, Aj)] (gs Oo (gs F7 (gs Fu g0))) rfl (fun _ _ => rfl) fun O x => by kernel_rfl
theorem Ui : Vd Tryz.prog 153 EO := vt mix OY Gn [(40, AP), (182, Bu)] (gs CM (gs Oi g0)) rfl (fun _ _ => rfl) fun O x => by kernel_rfl
theorem Sl : Vd Tryz.prog 154 C9 := vt mix MN E3 [(52, AL)] (gs Bp g0) rfl (fun _ _ => rfl) fun O x => by kernel_rfl
theorem L8 : Vd Tryz.prog 132 BX := vt mix MM Ez [(52, AL)] (gs Bp g0) rfl (fun _ _ => rfl) fun O x => by kernel_rfl
theorem Sz : Vd Tryz.prog 155 DJ := vt mix MQ Ey [(52, AL), (132, BX)] (gs Bp (gs L8 g0)) rfl (fun _ _ => rfl) fun O x => by kernel_rfl
theorem UF : Vd Tryz.prog 156 Dv := vt mix M6 Dt [(52, AL)] (gs Bp g0) rfl (fun _ _ => rfl) fun O x => by kernel_rfl
theorem Nv : Vd Tryz.prog 97 CE := vt mix N1 Oa [] g0 rfl (fun _ _ => rfl) fun O x => by kernel_rfl
theorem UI : Vd Tryz.prog 157 Di := vt mix Nh F0 [(52, AL), (97, CE)] (gs Bp (gs Nv g0)) rfl (fun _ _ => rfl) fun O x => by kernel_rfl
theorem Sr : Vd Tryz.prog 130 DA := vt mix MA DF [(144, F9), (145, G0), (146, FB), (147, Dd), (148, FP), (149, Ej), (150, Ei), (151, FV), (152, Ck), (153, EO), (154, C9), (155, DJ), (156, Dv), (157, Di)] (gs Wm (gs Xi (gs V6 (gs Tf (gs Ve (gs U3 (gs VS (gs Vn (gs R9 (gs Ui (gs Sl (gs Sz (gs UF (gs UI g0)))))))))))))) rfl (fun _ _ => rfl) fun O x => by kernel_rfl
theorem Te : Vd Tryz.prog 131 CX := vt mix Ni Fp [(41, A3), (158, A1), (159, B2)] (gs Jv (gs JN (gs Qw g0))) rfl (fun _ _ => rfl) fun O x => by kernel_rfl
theorem Vc : Vd Tryz.prog 111 FI := vt mix PB HH [(31, CL), (41, A3), (52, AL), (129, EL), (130, DA), (131, CX)] (gs QW (gs Jv (gs Bp (gs UZ (gs Sr (gs Te g0)))))) rfl (fun _ _ => rfl) fun O x => by kernel_rfl
theorem Ra : Vd Tryz.prog 11 FK := vt mix Rb JT [(14, BH), (22, BP), (24, EU), (26, GJ), (31, CL), (42, CK), (49, A2), (50, BK), (109, El), (110, FM), (111, FI), (132, BX)] (gs IL (gs L3 (gs VL (gs Wz (gs QW (gs Qn (gs IJ (gs LL (gs UX (gs Vt (gs Vc (gs L8 g0)))))))))))) rfl (fun _ _ => rfl) fun O x => by kernel_rfl
theorem Yl : Vd Tryz.prog 15 Od := vt mix TQ TN [(40, AP), (44, C4)] (gs CM (gs QZ g0)) rfl (fun _ _ => rfl) fun O x => by kernel_rfl
theorem bN : Vd Tryz.prog 29 R4 := vt mix WS Wh [] g0 rfl (fun _ _ => rfl) fun O x => by kernel_rfl
theorem Vj : Vd Tryz.prog 57 KR := vt mix PZ Pg [(97, CE)] (gs Nv g0) rfl (fun _ _ => rfl) fun O x => by kernel_rfl
theorem Jd : Vd Tryz.prog 99 CC := vt mix N4 N7 [] g0 rfl (fun _ _ => rfl) fun O x => by kernel_rfl
theorem Qs : Vd Tryz.prog 98 F6 := vt mix Qx Ql [(99, CC)] (gs Jd g0) rfl (fun _ _ => rfl) fun O x => by kernel_rfl
theorem Z7 : Vd Tryz.prog 100 Pv := vt mix Ul Uk [(98, F6), (99, CC)] (gs Qs (gs Jd g0)) rfl (fun _ _ => rfl) fun O x => by kernel_rfl
theorem VN : Vd Tryz.prog 124 Jp := fun N h =>
 Z3 Tryz.func124 (T3 := 3) (T9 := 9) rfl rfl Tryz.underlying3 Tryz.underlying9 (by kernel_rfl) (fun i hi w => Tryz.internal_strconv_Itoa_small i hi w) h
theorem Vo : Vd Tryz.prog 101 Kp := vt mix Pm PP [(124, Jp)] (gs VN g0) rfl (fun _ _ => rfl) fun O x => by kernel_rfl
theorem XY : Vd Tryz.prog 58 NG := vt mix Rg Rm [(98, F6), (99, CC), (100, Pv), (101, Kp)] (gs Qs (gs Jd (gs Z7 (gs Vo g0)))) rfl (fun _ _ => rfl) fun O x => by kernel_rfl
theorem QK : Vd Tryz.prog 138 Fr := fun N h =>
 aH Tryz.func138 (T2 := 2) (T3 := 3) (T9 := 9) rfl rfl Tryz.underlying2 Tryz.underlying3 Tryz.underlying9 (by kernel_rfl) (fun i hi w => Tryz.internal_strconv_FormatInt_10_small i hi w) h
theorem Qz : Vd Tryz.prog 125 GV := vt mix KG KM [(138, Fr)] (gs QK g0) rfl (fun _ _ => rfl) fun O x => by kernel_rfl
theorem Va : Vd Tryz.prog 102 Kf := vt mix PR Pf [(125, GV)] (gs Qz g0) rfl (fun _ _ => rfl) fun O x => by kernel_rfl
theorem PD : Vd Tryz.prog 59 FF := vt mix PC PU [(102, Kf)] (gs Va g0) rfl (fun _ _ => rfl) fun O x => by kernel_rfl
theorem Vh : Vd Tryz.prog 60 Kz := vt mix Pc Pb [(59, FF)] (gs PD g0) rfl (fun _ _ => rfl) fun O x => by kernel_rfl
theorem VZ : Vd Tryz.prog 61 KW := fun N h =>
 Zg Tryz.func61 (T8 := 86) (T9 := 9) rfl rfl Tryz.underlying86 Tryz.underlying9 (by kernel_rfl) (fun a c sep w => Tryz.strings_Join_none a c sep w) (fun bk o c xs sep w h1 h2 h3 h4 h5 => Tryz.strings_Join bk o c xs sep w h1 h2 h3 h4 h5) h
theorem Xn : Vd Tryz.prog 30 NY := vt mix Rv R5 [(14, BH), (57, KR), (58, NG), (59, FF), (60, Kz), (61, KW)] (gs IL (gs Vj (gs XY (gs PD (gs Vh (gs VZ g0)))))) rfl (fun _ _ => rfl) fun O x => by kernel_rfl
theorem Y1 : Vd Tryz.prog 9 H9 := vt mix TE S1 [(11, FK), (15, Od), (29, R4), (30, NY)] (gs Ra (gs Yl (gs bN (gs Xn g0)))) rfl (fun _ _ => rfl) fun O x => by kernel_rfl
def Wi : Cfg := { gam := [], imm := false, old := true }
theorem ZX (O : Alg) (x : Ags O) : XF (O := O) Tryz.prog Wi false false [] 10 [] (xr x SE 0) = Le O x := by kernel_rfl
theorem ac {E : Env} {M : Nat} (N : Nat) (h : ∀ ls, E 10 [] ls = LN N ls) : VV Tryz.prog E M ⟨10, [], false, false, []⟩ :=
 Rx mix (E := H4 N) (N := N) (cfg := Wi) (ci := ⟨10, [], false, false, []⟩) (ks := SE) ZB (c := LN N) (F := fun ls => Le (std (H4 N) N) (xOf ls)) (fun ls => rfl) (fun ls => ZX (std (H4 N) N) (xOf ls)) h
def Nb : Cfg := { gam := [⟨9, [], true, true, []⟩, ⟨10, [], false, false, []⟩, ⟨11, [], true, true, []⟩, ⟨14, [], true, true, []⟩], imm := false, old := false }
theorem So (O : Alg) (x : Ags O) : XF (O := O) Tryz.prog Nb true true [] 4 [] (xr x Iq 0) = Db O x := by kernel_rfl
theorem TZ : Vd Tryz.prog 4 Df := fun N h =>
 Rx mix (E := BB N) (N := N) (cfg := Nb) (ci := ⟨4, [], true, true, []⟩) (ks := Iq) (Ps (Y1 N (fun _ => rfl)) (Ps (ac N (fun _ => rfl)) (Ps (Ra N (fun _ => rfl)) (Ps (IL N (fun _ => rfl)) ZB)))) (c := Df N) (F := fun ls => Db (std (BB N) N) (xOf ls)) (fun ls => rfl) (fun ls => So (std (BB N) N) (xOf ls)) h
end Go.Px
