/- Part 12. -/
import Derived.Test.YtapipgdcgmmkaaaGreatPart06
import Derived.Test.YtapipgdcgmmkaaaGreatProg
import Derived.Test.YtapipgdcgmmkaaaGreatPart08
import Derived.KernelRfl
import Derived.WalkKit
import Derived.Lib.Walk
import Derived.BigCall
import Derived.BigGuard
set_option linter.unusedVariables false
set_option linter.unusedSimpArgs false
namespace Go.Px
open Go.Proofs
set_option maxRecDepth 100000
theorem mix : Tryz.prog.follows .mixedOrders = true := by kernel_rfl
theorem Ty : Vd Tryz.prog 31 Ei := vt mix O7 Gp [] g0 rfl (fun _ _ => rfl) fun O x => by kernel_rfl
theorem JE : Vd Tryz.prog 47 BQ := vt mix JJ JS [] g0 rfl (fun _ _ => rfl) fun O x => by kernel_rfl
theorem Qo : Vd Tryz.prog 32 Ch := vt mix I9 Dt [(47, BQ)] (gs JE g0) rfl (fun _ _ => rfl) fun O x => by kernel_rfl
theorem RC : Vd Tryz.prog 33 C6 := vt mix KS ED [(47, BQ)] (gs JE g0) rfl (fun _ _ => rfl) fun O x => by kernel_rfl
theorem BX : Vd Tryz.prog 17 AP := vt mix L8 Ep [(31, Ei), (32, Ch), (33, C6)] (gs Ty (gs Qo (gs RC g0))) rfl (fun _ _ => rfl) fun O x => by kernel_rfl
theorem Ht : Vd Tryz.prog 19 CB := vt mix Hs Hu [(17, AP)] (gs BX g0) rfl (fun _ _ => rfl) fun O x => by kernel_rfl
theorem Lp : Vd Tryz.prog 81 DI := fun N h =>
 Gv mix (T := 22) (e := 88) (b := 24) Tryz.func81 Tryz.underlying22 (by kernel_rfl) (by decide) (fun O l => by kernel_rfl) (fun O l => by kernel_rfl) h
theorem MB : Vd Tryz.prog 59 DP := vt mix MM MD [(81, DI)] (gs Lp g0) rfl (fun _ _ => rfl) fun O x => by kernel_rfl
theorem T4 : Vd Tryz.prog 42 KE := vt mix PB O5 [(17, AP), (59, DP)] (gs BX (gs MB g0)) rfl (fun _ _ => rfl) fun O x => by kernel_rfl
theorem QD : Vd Tryz.prog 29 Fx := vt mix Jy JL [(42, KE)] (gs T4 g0) rfl (fun _ _ => rfl) fun O x => by kernel_rfl
theorem CC : Vd Tryz.prog 48 AR := vt mix Hg Hn [] g0 rfl (fun _ _ => rfl) fun O x => by kernel_rfl
theorem OX : Vd Tryz.prog 49 CE := vt mix Ha Cs [(48, AR)] (gs CC g0) rfl (fun _ _ => rfl) fun O x => by kernel_rfl
theorem Mu : Vd Tryz.prog 93 Bv := vt mix G5 Cd [] g0 rfl (fun _ _ => rfl) fun O x => by kernel_rfl
theorem C3 : Vd Tryz.prog 70 Af := vt mix FH B1 [(93, Bv)] (gs Mu g0) rfl (fun _ _ => rfl) fun O x => by kernel_rfl
theorem Mi : Vd Tryz.prog 50 Bk := vt mix GC CP [(48, AR), (70, Af)] (gs CC (gs C3 g0)) rfl (fun _ _ => rfl) fun O x => by kernel_rfl
theorem MZ : Vd Tryz.prog 72 Bl := vt mix GD CQ [(48, AR)] (gs CC g0) rfl (fun _ _ => rfl) fun O x => by kernel_rfl
theorem OH : Vd Tryz.prog 51 CD := vt mix Hp Ct [(72, Bl)] (gs MZ g0) rfl (fun _ _ => rfl) fun O x => by kernel_rfl
theorem F3 : Vd Tryz.prog 34 A6 := vt mix JP Dq [(17, AP), (48, AR), (49, CE), (50, Bk), (51, CD)] (gs BX (gs CC (gs OX (gs Mi (gs OH g0))))) rfl (fun _ _ => rfl) fun O x => by kernel_rfl
theorem Eo : Vd Tryz.prog 52 BD := vt mix L7 Er [] g0 rfl (fun _ _ => rfl) fun O x => by kernel_rfl
theorem Lz : Vd Tryz.prog 35 B6 := vt mix MQ Em [(52, BD)] (gs Eo g0) rfl (fun _ _ => rfl) fun O x => by kernel_rfl
theorem R9 : Vd Tryz.prog 36 DN := vt mix MJ Ew [] g0 rfl (fun _ _ => rfl) fun O x => by kernel_rfl
theorem HQ : Vd Tryz.prog 18 BV := vt mix Lt E0 [(17, AP), (34, A6), (35, B6), (36, DN)] (gs BX (gs F3 (gs Lz (gs R9 g0)))) rfl (fun _ _ => rfl) fun O x => by kernel_rfl
theorem Rb : Vd Tryz.prog 60 GL := vt mix KP Kl [] g0 rfl (fun _ _ => rfl) fun O x => by kernel_rfl
theorem Qu : Vd Tryz.prog 61 Fh := vt mix JG Jg [] g0 rfl (fun _ _ => rfl) fun O x => by kernel_rfl
open Go.RowKit Go.Lib in
set_option maxHeartbeats 1000000 in
theorem H0 (s : ByteArray) (c : Int) (w : World) : Calls Tryz.prog 108 #[.string s, .int .u8 c] w fun e w' => e = .returned (.int .i64 (Lib.indexByte s.data.toList c.toNat.toUInt8)) ∧ w' = w := by
 go_enter Tryz.func108, Tryz.ntmps108
 go_wp2
 rw [run_callFunc_extern Tryz.func120 (by kernel_rfl) (by kernel_rfl) (by kernel_rfl) (e := Extern.BytealgIndexByte.indexByte) (by kernel_rfl), Lib.run_indexByteString]
 simp only [Result.andThen]
 rw [Oper.upon_value]
 go_wp2
 go_ret
 exact ⟨rfl, rfl⟩
theorem I5 : Vd Tryz.prog 108 CT := fun N h =>
 To Tryz.func108 (T9 := 9) (T5 := 5) (T3 := 3) rfl rfl Tryz.underlying9 Tryz.underlying5 Tryz.underlying3 (by kernel_rfl) H0 h
theorem Mf : Vd Tryz.prog 82 Dh := vt mix GE F8 [(108, CT)] (gs I5 g0) rfl (fun _ _ => rfl) fun O x => by kernel_rfl
theorem SG : Vd Tryz.prog 83 HV := vt mix L2 MK [] g0 rfl (fun _ _ => rfl) fun O x => by kernel_rfl
theorem TZ : Vd Tryz.prog 62 Iz := vt mix Np M8 [(82, Dh), (83, HV)] (gs Mf (gs SG g0)) rfl (fun _ _ => rfl) fun O x => by kernel_rfl
theorem Nt : Vd Tryz.prog 84 D9 := vt mix G6 G4 [] g0 rfl (fun _ _ => rfl) fun O x => by kernel_rfl
theorem PL : Vd Tryz.prog 63 FC := vt mix IV IM [(84, D9)] (gs Nt g0) rfl (fun _ _ => rfl) fun O x => by kernel_rfl
theorem L1 : Vd Tryz.prog 43 DL := vt mix MG Lu [(60, GL), (61, Fh), (62, Iz), (63, FC)] (gs Rb (gs Qu (gs TZ (gs PL g0)))) rfl (fun _ _ => rfl) fun O x => by kernel_rfl
theorem B3 : Vd Tryz.prog 85 Ae := fun N h =>
 Gv mix (T := 65) (e := 103) (b := 1) Tryz.func85 Tryz.underlying65 (by kernel_rfl) (by decide) (fun O l => by kernel_rfl) (fun O l => by kernel_rfl) h
theorem Ci : Vd Tryz.prog 86 Au := fun N h =>
 Gv mix (T := 66) (e := 3) (b := 8) Tryz.func86 Tryz.underlying66 (by kernel_rfl) (by decide) (fun O l => by kernel_rfl) (fun O l => by kernel_rfl) h
theorem CR : Vd Tryz.prog 87 Am := fun N h =>
 Gv mix (T := 67) (e := 4) (b := 1) Tryz.func87 Tryz.underlying67 (by kernel_rfl) (by decide) (fun O l => by kernel_rfl) (fun O l => by kernel_rfl) h
theorem BR : Vd Tryz.prog 64 AX := vt mix Jh Jt [(85, Ae), (86, Au), (87, Am)] (gs B3 (gs Ci (gs CR g0))) rfl (fun _ _ => rfl) fun O x => by kernel_rfl
theorem SI : Vd Tryz.prog 44 HX := vt mix Ly MF [(59, DP), (64, AX)] (gs MB (gs BR g0)) rfl (fun _ _ => rfl) fun O x => by kernel_rfl
theorem HO : Vd Tryz.prog 68 B9 := vt mix Lr ML [] g0 rfl (fun _ _ => rfl) fun O x => by kernel_rfl
theorem HD : Vd Tryz.prog 91 Bw := vt mix G7 HI [] g0 rfl (fun _ _ => rfl) fun O x => by kernel_rfl
theorem Qp : Vd Tryz.prog 69 F2 := vt mix Ji JR [(18, BV), (52, BD), (68, B9), (91, Bw)] (gs HQ (gs Eo (gs HO (gs HD g0)))) rfl (fun _ _ => rfl) fun O x => by kernel_rfl
theorem P6 : Vd Tryz.prog 88 Fk := vt mix Jd Jb [(17, AP), (48, AR)] (gs BX (gs CC g0)) rfl (fun _ _ => rfl) fun O x => by kernel_rfl
theorem Re : Vd Tryz.prog 89 Gd := vt mix KU KX [(52, BD), (68, B9)] (gs Eo (gs HO g0)) rfl (fun _ _ => rfl) fun O x => by kernel_rfl
theorem OZ : Vd Tryz.prog 122 EO := vt mix HZ Hk [] g0 rfl (fun _ _ => rfl) fun O x => by kernel_rfl
theorem Qy : Vd Tryz.prog 109 Fw := vt mix Jq Jn [(122, EO)] (gs OZ g0) rfl (fun _ _ => rfl) fun O x => by kernel_rfl
theorem C8 : Vd Tryz.prog 142 A4 := vt mix N0 Na [(85, Ae), (86, Au), (87, Am)] (gs B3 (gs Ci (gs CR g0))) rfl (fun _ _ => rfl) fun O x => by kernel_rfl
theorem PM : Vd Tryz.prog 173 E8 := vt mix II Ii [] g0 rfl (fun _ _ => rfl) fun O x => by kernel_rfl
theorem Kg : Vd Tryz.prog 143 Cz := vt mix Kv KK [(173, E8)] (gs PM g0) rfl (fun _ _ => rfl) fun O x => by kernel_rfl
theorem C2 : Vd Tryz.prog 144 A2 := vt mix Kf KO [] g0 rfl (fun _ _ => rfl) fun O x => by kernel_rfl
theorem SL : Vd Tryz.prog 123 HU := vt mix L4 L6 [(142, A4), (143, Cz), (144, A2)] (gs C8 (gs Kg (gs C2 g0))) rfl (fun _ _ => rfl) fun O x => by kernel_rfl
theorem J0 : Vd Tryz.prog 145 Ck := vt mix Ov PG [(85, Ae), (86, Au), (87, Am)] (gs B3 (gs Ci (gs CR g0))) rfl (fun _ _ => rfl) fun O x => by kernel_rfl
theorem HN : Vd Tryz.prog 174 B5 := vt mix L5 MP [] g0 rfl (fun _ _ => rfl) fun O x => by kernel_rfl
theorem TK : Vd Tryz.prog 175 Ir := vt mix Ne M4 [(17, AP), (174, B5)] (gs BX (gs HN g0)) rfl (fun _ _ => rfl) fun O x => by kernel_rfl
theorem T2 : Vd Tryz.prog 146 KC := vt mix PF O3 [(17, AP), (70, Af), (174, B5), (175, Ir)] (gs BX (gs C3 (gs HN (gs TK g0)))) rfl (fun _ _ => rfl) fun O x => by kernel_rfl
theorem Se : Vd Tryz.prog 124 Ia := vt mix M6 NQ [(145, Ck), (146, KC)] (gs J0 (gs T2 g0)) rfl (fun _ _ => rfl) fun O x => by kernel_rfl
theorem Fe : Vd Tryz.prog 137 Bg := vt mix JA I7 [(143, Cz)] (gs Kg g0) rfl (fun _ _ => rfl) fun O x => by kernel_rfl
theorem DQ : Vd Tryz.prog 156 BC := vt mix L0 ME [] g0 rfl (fun _ _ => rfl) fun O x => by kernel_rfl
theorem DJ : Vd Tryz.prog 157 BA := vt mix Iv Ig [(156, BC)] (gs DQ g0) rfl (fun _ _ => rfl) fun O x => by kernel_rfl
theorem QL : Vd Tryz.prog 196 FT := vt mix I8 JQ [] g0 rfl (fun _ _ => rfl) fun O x => by kernel_rfl
theorem SJ : Vd Tryz.prog 176 HL := vt mix Lw L3 [(156, BC), (157, BA), (196, FT)] (gs DQ (gs DJ (gs QL g0))) rfl (fun _ _ => rfl) fun O x => by kernel_rfl
theorem Ma : Vd Tryz.prog 197 Dg := vt mix GA GB [] g0 rfl (fun _ _ => rfl) fun O x => by kernel_rfl
theorem I1 : Vd Tryz.prog 177 CM := vt mix IJ Id [(197, Dg)] (gs Ma g0) rfl (fun _ _ => rfl) fun O x => by kernel_rfl
theorem Hc : Vd Tryz.prog 213 CA := vt mix Ho Hw [] g0 rfl (fun _ _ => rfl) fun O x => by kernel_rfl
theorem RI : Vd Tryz.prog 198 GR := vt mix K0 KQ [(213, CA)] (gs Hc g0) rfl (fun _ _ => rfl) fun O x => by kernel_rfl
theorem Nk : Vd Tryz.prog 214 D1 := vt mix HC G1 [] g0 rfl (fun _ _ => rfl) fun O x => by kernel_rfl
theorem KZ : Vd Tryz.prog 199 Cw := vt mix FI FN [(214, D1)] (gs Nk g0) rfl (fun _ _ => rfl) fun O x => by kernel_rfl
theorem NB : Vd Tryz.prog 215 Dz := vt mix Gx Gy [] g0 rfl (fun _ _ => rfl) fun O x => by kernel_rfl
theorem Pb : Vd Tryz.prog 200 FE := vt mix IU IK [(213, CA), (215, Dz)] (gs Hc (gs NB g0)) rfl (fun _ _ => rfl) fun O x => by kernel_rfl
theorem J9 : Vd Tryz.prog 216 Cj := vt mix Ea Eb [] g0 rfl (fun _ _ => rfl) fun O x => by kernel_rfl
theorem Ld : Vd Tryz.prog 201 DD := vt mix Fg F1 [(216, Cj)] (gs J9 g0) rfl (fun _ _ => rfl) fun O x => by kernel_rfl
theorem K7 : Vd Tryz.prog 178 DG := vt mix Fr FU [(198, GR), (199, Cw), (200, FE), (201, DD)] (gs RI (gs KZ (gs Pb (gs Ld g0)))) rfl (fun _ _ => rfl) fun O x => by kernel_rfl
theorem SS : Vd Tryz.prog 179 HP := vt mix MN MO [(156, BC), (157, BA)] (gs DQ (gs DJ g0)) rfl (fun _ _ => rfl) fun O x => by kernel_rfl
theorem OL : Vd Tryz.prog 147 EN := vt mix Hz Hl [(137, Bg), (176, HL), (177, CM), (178, DG), (179, HP)] (gs Fe (gs SJ (gs I1 (gs K7 (gs SS g0))))) rfl (fun _ _ => rfl) fun O x => by kernel_rfl
theorem Mj : Vd Tryz.prog 180 Df := vt mix F7 F9 [] g0 rfl (fun _ _ => rfl) fun O x => by kernel_rfl
theorem OJ : Vd Tryz.prog 148 EP := vt mix Hj Hh [(177, CM), (180, Df)] (gs I1 (gs Mj g0)) rfl (fun _ _ => rfl) fun O x => by kernel_rfl
theorem Tb : Vd Tryz.prog 149 I2 := vt mix N1 N3 [(142, A4), (144, A2)] (gs C8 (gs C2 g0)) rfl (fun _ _ => rfl) fun O x => by kernel_rfl
theorem PZ : Vd Tryz.prog 150 FA := vt mix Im Ij [] g0 rfl (fun _ _ => rfl) fun O x => by kernel_rfl
theorem TI : Vd Tryz.prog 151 Ic := vt mix Mw M5 [(17, AP), (70, Af), (145, Ck), (174, B5)] (gs BX (gs C3 (gs J0 (gs HN g0)))) rfl (fun _ _ => rfl) fun O x => by kernel_rfl
theorem Qf : Vd Tryz.prog 152 Ft := vt mix JV Jw [(142, A4)] (gs C8 g0) rfl (fun _ _ => rfl) fun O x => by kernel_rfl
theorem Rd : Vd Tryz.prog 125 Gc := vt mix KL KR [(64, AX), (147, EN), (148, EP), (149, I2), (150, FA), (151, Ic), (152, Ft)] (gs BR (gs OL (gs OJ (gs Tb (gs PZ (gs TI (gs Qf g0))))))) rfl (fun _ _ => rfl) fun O x => by kernel_rfl
theorem N4 : Vd Tryz.prog 153 D4 := vt mix Ng NU [(137, Bg), (144, A2)] (gs Fe (gs C2 g0)) rfl (fun _ _ => rfl) fun O x => by kernel_rfl
theorem PT : Vd Tryz.prog 126 E9 := vt mix IQ Ix [(142, A4), (144, A2), (153, D4)] (gs C8 (gs C2 (gs N4 g0))) rfl (fun _ _ => rfl) fun O x => by kernel_rfl
theorem RN : Vd Tryz.prog 127 GX := vt mix Ke Kj [(142, A4), (153, D4)] (gs C8 (gs N4 g0)) rfl (fun _ _ => rfl) fun O x => by kernel_rfl
theorem Lx : Vd Tryz.prog 138 DM := vt mix MR MH [] g0 rfl (fun _ _ => rfl) fun O x => by kernel_rfl
theorem QC : Vd Tryz.prog 128 FR := vt mix Ja Jj [(138, DM), (142, A4), (144, A2)] (gs Lx (gs C8 (gs C2 g0))) rfl (fun _ _ => rfl) fun O x => by kernel_rfl
theorem J7 : Vd Tryz.prog 155 Cm := vt mix Oe PE [(85, Ae), (86, Au), (87, Am)] (gs B3 (gs Ci (gs CR g0))) rfl (fun _ _ => rfl) fun O x => by kernel_rfl
theorem Qc : Vd Tryz.prog 129 F5 := vt mix JT Jl [(155, Cm)] (gs J7 g0) rfl (fun _ _ => rfl) fun O x => by kernel_rfl
theorem RZ : Vd Tryz.prog 130 GN := vt mix Kb Kt [(155, Cm), (156, BC), (157, BA)] (gs J7 (gs DQ (gs DJ g0))) rfl (fun _ _ => rfl) fun O x => by kernel_rfl
theorem NM : Vd Tryz.prog 131 D0 := vt mix HK G0 [(155, Cm), (156, BC), (157, BA)] (gs J7 (gs DQ (gs DJ g0))) rfl (fun _ _ => rfl) fun O x => by kernel_rfl
theorem QV : Vd Tryz.prog 132 Fu := vt mix Jc JD [(17, AP), (145, Ck)] (gs BX (gs J0 g0)) rfl (fun _ _ => rfl) fun O x => by kernel_rfl
theorem OO : Vd Tryz.prog 133 EK := vt mix Hr Hi [(64, AX)] (gs BR g0) rfl (fun _ _ => rfl) fun O x => by kernel_rfl
theorem He : Vd Tryz.prog 112 CG := vt mix Hq Hy [(64, AX)] (gs BR g0) rfl (fun _ _ => rfl) fun O x => by kernel_rfl
theorem OP : Vd Tryz.prog 134 EM := vt mix Hf Hx [(64, AX), (112, CG)] (gs BR (gs He g0)) rfl (fun _ _ => rfl) fun O x => by kernel_rfl
theorem PS : Vd Tryz.prog 135 E6 := vt mix Iq Iy [(64, AX)] (gs BR g0) rfl (fun _ _ => rfl) fun O x => by kernel_rfl
theorem Qx : Vd Tryz.prog 158 Fo := vt mix JM Jm [] g0 rfl (fun _ _ => rfl) fun O x => by kernel_rfl
theorem PR : Vd Tryz.prog 136 FG := vt mix Ik Ib [(64, AX), (158, Fo)] (gs BR (gs Qx g0)) rfl (fun _ _ => rfl) fun O x => by kernel_rfl
theorem OI : Vd Tryz.prog 110 ER := vt mix Hd Hv [(123, HU), (124, Ia), (125, Gc), (126, E9), (127, GX), (128, FR), (129, F5), (130, GN), (131, D0), (132, Fu), (133, EK), (134, EM), (135, E6), (136, FG)] (gs SL (gs Se (gs Rd (gs PT (gs RN (gs QC (gs Qc (gs RZ (gs NM (gs QV (gs OO (gs OP (gs PS (gs PR g0)))))))))))))) rfl (fun _ _ => rfl) fun O x => by kernel_rfl
theorem Pt : Vd Tryz.prog 111 E5 := vt mix IP IL [(34, A6), (137, Bg), (138, DM)] (gs F3 (gs Fe (gs Lx g0))) rfl (fun _ _ => rfl) fun O x => by kernel_rfl
theorem RL : Vd Tryz.prog 90 GH := vt mix Kp Kr [(34, A6), (43, DL), (64, AX), (109, Fw), (110, ER), (111, E5)] (gs F3 (gs L1 (gs BR (gs Qy (gs OI (gs Pt g0)))))) rfl (fun _ _ => rfl) fun O x => by kernel_rfl
theorem Sd : Vd Tryz.prog 30 Ih := vt mix Nw ND [(18, BV), (35, B6), (43, DL), (44, HX), (52, BD), (68, B9), (69, F2), (88, Fk), (89, Gd), (90, GH), (91, Bw), (112, CG)] (gs HQ (gs Lz (gs L1 (gs SI (gs Eo (gs HO (gs Qp (gs P6 (gs Re (gs RL (gs HD (gs He g0)))))))))))) rfl (fun _ _ => rfl) fun O x => by kernel_rfl
theorem Mv : Vd Tryz.prog 16 EB := vt mix G9 HH [(19, CB), (29, Fx), (30, Ih)] (gs Ht (gs QD (gs Sd g0))) rfl (fun _ _ => rfl) fun O x => by kernel_rfl
theorem NP : Vd Tryz.prog 12 D7 := vt mix Gz HE [(16, EB), (19, CB)] (gs Mv (gs Ht g0)) rfl (fun _ _ => rfl) fun O x => by kernel_rfl
theorem Ux : Vd Tryz.prog 14 LM := vt mix Qi P7 [] g0 rfl (fun _ _ => rfl) fun O x => by kernel_rfl
theorem VI : Vd Tryz.prog 15 M1 := vt mix R6 Rk [] g0 rfl (fun _ _ => rfl) fun O x => by kernel_rfl
theorem T8 : Vd Tryz.prog 9 Ee := vt mix Od PD [(12, D7), (14, LM), (15, M1)] (gs NP (gs Ux (gs VI g0))) rfl (fun _ _ => rfl) fun O x => by kernel_rfl
theorem Oc : Vd Tryz.prog 24 Cu := vt mix Hm Co [(18, BV)] (gs HQ g0) rfl (fun _ _ => rfl) fun O x => by kernel_rfl
theorem U6 : Vd Tryz.prog 53 F4 := vt mix Q7 H3 [] g0 rfl (fun _ _ => rfl) fun O x => by kernel_rfl
theorem WG : Vd Tryz.prog 54 I4 := vt mix Su Sc [] g0 rfl (fun _ _ => rfl) fun O x => by kernel_rfl
theorem PA : Vd Tryz.prog 37 Bq := vt mix PI Gh [(53, F4), (54, I4)] (gs U6 (gs WG g0)) rfl (fun _ _ => rfl) fun O x => by kernel_rfl
theorem Ss : Vd Tryz.prog 105 D2 := vt mix Sl TA [] g0 rfl (fun _ _ => rfl) fun O x => by kernel_rfl
theorem VN : Vd Tryz.prog 106 HB := vt mix R2 JZ [(105, D2)] (gs Ss g0) rfl (fun _ _ => rfl) fun O x => by kernel_rfl
theorem T0 : Vd Tryz.prog 119 Ej := vt mix O6 Gq [] g0 rfl (fun _ _ => rfl) fun O x => by kernel_rfl
theorem SO : Vd Tryz.prog 107 DU := vt mix MC Ey [(119, Ej)] (gs T0 g0) rfl (fun _ _ => rfl) fun O x => by kernel_rfl
theorem Tm : Vd Tryz.prog 79 Dd := vt mix Ok Gg [(37, Bq), (105, D2), (106, HB), (107, DU)] (gs PA (gs Ss (gs VN (gs SO g0)))) rfl (fun _ _ => rfl) fun O x => by kernel_rfl
theorem Tp : Vd Tryz.prog 100 Eh := vt mix Og Gj [] g0 rfl (fun _ _ => rfl) fun O x => by kernel_rfl
theorem Te : Vd Tryz.prog 80 EC := vt mix Nm Fi [(100, Eh)] (gs Tp g0) rfl (fun _ _ => rfl) fun O x => by kernel_rfl
theorem QX : Vd Tryz.prog 57 Cc := vt mix Je Dr [(79, Dd), (80, EC)] (gs Tm (gs Te g0)) rfl (fun _ _ => rfl) fun O x => by kernel_rfl
theorem UE : Vd Tryz.prog 40 Ek := vt mix Om Ge [(37, Bq), (57, Cc)] (gs PA (gs QX g0)) rfl (fun _ _ => rfl) fun O x => by kernel_rfl
theorem Ts : Vd Tryz.prog 25 Gm := vt mix O1 Gr [(40, Ek)] (gs UE g0) rfl (fun _ _ => rfl) fun O x => by kernel_rfl
def Rm : Cfg := { gam := [], imm := false, old := true }
theorem Un (O : Alg) (x : Ags O) : XF (O := O) Tryz.prog Rm false false [] 27 [] (xr x Mt 0) = G2 O x := by kernel_rfl
theorem Ve {E : Env} {M : Nat} (N : Nat) (h : ∀ ls, E 27 [] ls = HG N ls) : VV Tryz.prog E M ⟨27, [], false, false, []⟩ :=
 NX mix (E := Ed N) (N := N) (cfg := Rm) (ci := ⟨27, [], false, false, []⟩) (ks := Mt) UP (c := HG N) (F := fun ls => G2 (std (Ed N) N) (xOf ls)) (fun ls => rfl) (fun ls => Un (std (Ed N) N) (xOf ls)) h
def Fy : Cfg := { gam := [⟨9, [], true, true, []⟩, ⟨24, [], true, true, []⟩, ⟨25, [], true, true, []⟩, ⟨27, [], false, false, []⟩], imm := false, old := false }
theorem Kz (O : Alg) (x : Ags O) : XF (O := O) Tryz.prog Fy true true [] 8 [] (xr x DE 0) = Bh O x := by kernel_rfl
theorem K6 : Vd Tryz.prog 8 Be := fun N h =>
 NX mix (E := Ad N) (N := N) (cfg := Fy) (ci := ⟨8, [], true, true, []⟩) (ks := DE) (K8 (T8 N (fun _ => rfl)) (K8 (Oc N (fun _ => rfl)) (K8 (Ts N (fun _ => rfl)) (K8 (Ve N (fun _ => rfl)) UP)))) (c := Be N) (F := fun ls => Bh (std (Ad N) N) (xOf ls)) (fun ls => rfl) (fun ls => Kz (std (Ad N) N) (xOf ls)) h
end Go.Px
