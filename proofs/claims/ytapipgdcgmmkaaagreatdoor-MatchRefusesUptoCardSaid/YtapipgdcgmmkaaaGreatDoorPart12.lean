/- Part 12. -/
import Derived.Test.YtapipgdcgmmkaaaGreatDoorPart06
import Derived.Test.YtapipgdcgmmkaaaGreatDoorProg
import Derived.Test.YtapipgdcgmmkaaaGreatDoorPart08
import Derived.KernelRfl
import Derived.WalkKit
import Derived.Lib.Walk
import Derived.BigCall
import Derived.BigGuard
import Derived.Test.YtapipgdcgmmkaaaGreatDoorPart11
set_option linter.unusedVariables false
set_option linter.unusedSimpArgs false
namespace Go.Px
open Go.Proofs
set_option maxRecDepth 100000
theorem mix : Tryz.prog.follows .mixedOrders = true := by kernel_rfl
theorem Z4 : Vd Tryz.prog 76 IX := vt mix UY L0 [] g0 rfl (fun _ _ => rfl) fun O x => by kernel_rfl
theorem Pb : Vd Tryz.prog 117 Bt := vt mix PW PE [] g0 rfl (fun _ _ => rfl) fun O x => by kernel_rfl
theorem Vk : Vd Tryz.prog 77 Ei := vt mix PY Gw [(117, Bt)] (gs Pb g0) rfl (fun _ _ => rfl) fun O x => by kernel_rfl
theorem XC : Vd Tryz.prog 78 Fm := vt mix QQ H5 [(117, Bt)] (gs Pb g0) rfl (fun _ _ => rfl) fun O x => by kernel_rfl
theorem CP : Vd Tryz.prog 40 AP := vt mix Ro I5 [(76, IX), (77, Ei), (78, Fm)] (gs Z4 (gs Vk (gs XC g0))) rfl (fun _ _ => rfl) fun O x => by kernel_rfl
theorem DJ : Vd Tryz.prog 79 Aa := vt mix NJ Mz [] g0 rfl (fun _ _ => rfl) fun O x => by kernel_rfl
theorem T1 : Vd Tryz.prog 80 DW := vt mix M9 FM [(79, Aa)] (gs DJ g0) rfl (fun _ _ => rfl) fun O x => by kernel_rfl
theorem SJ : Vd Tryz.prog 136 Cs := vt mix MU Eg [] g0 rfl (fun _ _ => rfl) fun O x => by kernel_rfl
theorem FU : Vd Tryz.prog 118 Af := vt mix Jd C2 [(136, Cs)] (gs SJ g0) rfl (fun _ _ => rfl) fun O x => by kernel_rfl
theorem R2 : Vd Tryz.prog 81 Ca := vt mix K4 D9 [(79, Aa), (118, Af)] (gs DJ (gs FU g0)) rfl (fun _ _ => rfl) fun O x => by kernel_rfl
theorem R4 : Vd Tryz.prog 120 CY := vt mix K6 EA [(79, Aa)] (gs DJ g0) rfl (fun _ _ => rfl) fun O x => by kernel_rfl
theorem Tw : Vd Tryz.prog 82 DT := vt mix M3 FF [(120, CY)] (gs R4 g0) rfl (fun _ _ => rfl) fun O x => by kernel_rfl
theorem Jv : Vd Tryz.prog 41 A4 := vt mix PO G1 [(40, AP), (79, Aa), (80, DW), (81, Ca), (82, DT)] (gs CP (gs DJ (gs T1 (gs R2 (gs Tw g0))))) rfl (fun _ _ => rfl) fun O x => by kernel_rfl
theorem Iw : Vd Tryz.prog 49 A3 := vt mix Rz Iu [] g0 rfl (fun _ _ => rfl) fun O x => by kernel_rfl
theorem RX : Vd Tryz.prog 42 CN := vt mix Rl JD [(49, A3)] (gs Iw g0) rfl (fun _ _ => rfl) fun O x => by kernel_rfl
theorem YA : Vd Tryz.prog 43 GS := vt mix Rd I4 [] g0 rfl (fun _ _ => rfl) fun O x => by kernel_rfl
theorem I7 : Vd Tryz.prog 14 BL := vt mix Rm I1 [(40, AP), (41, A4), (42, CN), (43, GS)] (gs CP (gs Jv (gs RX (gs YA g0)))) rfl (fun _ _ => rfl) fun O x => by kernel_rfl
theorem Mi : Vd Tryz.prog 22 BV := vt mix RW Iy [] g0 rfl (fun _ _ => rfl) fun O x => by kernel_rfl
theorem MB : Vd Tryz.prog 50 BN := vt mix MF Ep [] g0 rfl (fun _ _ => rfl) fun O x => by kernel_rfl
theorem Vb : Vd Tryz.prog 24 E0 := vt mix PM HB [(14, BL), (22, BV), (49, A3), (50, BN)] (gs I7 (gs Mi (gs Iw (gs MB g0)))) rfl (fun _ _ => rfl) fun O x => by kernel_rfl
theorem Qx : Vd Tryz.prog 83 CL := fun N h =>
 L5 mix (T := 22) (e := 68) (b := 24) Tryz.func83 Tryz.underlying22 (by kernel_rfl) (by decide) (fun O l => by kernel_rfl) (fun O l => by kernel_rfl) h
theorem Rk : Vd Tryz.prog 44 DB := vt mix Rv Ix [(83, CL)] (gs Qx g0) rfl (fun _ _ => rfl) fun O x => by kernel_rfl
theorem C9 : Vd Tryz.prog 87 AO := fun N h =>
 L5 mix (T := 60) (e := 66) (b := 1) Tryz.func87 Tryz.underlying60 (by kernel_rfl) (by decide) (fun O l => by kernel_rfl) (fun O l => by kernel_rfl) h
theorem Et : Vd Tryz.prog 88 AY := fun N h =>
 L5 mix (T := 61) (e := 3) (b := 8) Tryz.func88 Tryz.underlying61 (by kernel_rfl) (by decide) (fun O l => by kernel_rfl) (fun O l => by kernel_rfl) h
theorem EC : Vd Tryz.prog 89 AR := fun N h =>
 L5 mix (T := 62) (e := 4) (b := 1) Tryz.func89 Tryz.underlying62 (by kernel_rfl) (by decide) (fun O l => by kernel_rfl) (fun O l => by kernel_rfl) h
theorem Bs : Vd Tryz.prog 52 AL := vt mix PG G9 [(87, AO), (88, AY), (89, AR)] (gs C9 (gs Et (gs EC g0))) rfl (fun _ _ => rfl) fun O x => by kernel_rfl
theorem RT : Vd Tryz.prog 26 DE := vt mix RZ Is [(44, DB), (52, AL)] (gs Rk (gs Bs g0)) rfl (fun _ _ => rfl) fun O x => by kernel_rfl
theorem Ws : Vd Tryz.prog 62 Fj := vt mix Qa H8 [] g0 rfl (fun _ _ => rfl) fun O x => by kernel_rfl
theorem WJ : Vd Tryz.prog 63 Em := vt mix PC KG [] g0 rfl (fun _ _ => rfl) fun O x => by kernel_rfl
open Go.RowKit Go.Lib in
set_option maxHeartbeats 1000000 in
theorem NV (s : ByteArray) (c : Int) (w : World) : Calls Tryz.prog 128 #[.string s, .int .u8 c] w fun e w' => e = .returned (.int .i64 (Lib.indexByte s.data.toList c.toNat.toUInt8)) ∧ w' = w := by
 go_enter Tryz.func128, Tryz.ntmps128
 go_wp2
 rw [run_callFunc_extern Tryz.func141 (by kernel_rfl) (by kernel_rfl) (by kernel_rfl) (e := Extern.BytealgIndexByte.indexByte) (by kernel_rfl), Lib.run_indexByteString]
 simp only [Result.andThen]
 rw [Oper.upon_value]
 go_wp2
 go_ret
 exact ⟨rfl, rfl⟩
theorem Oi : Vd Tryz.prog 128 Bp := fun N h =>
 Z1 Tryz.func128 (T9 := 9) (T5 := 5) (T3 := 3) rfl rfl Tryz.underlying9 Tryz.underlying5 Tryz.underlying3 (by kernel_rfl) NV h
theorem R1 : Vd Tryz.prog 106 CZ := vt mix K3 D8 [(128, Bp)] (gs Oi g0) rfl (fun _ _ => rfl) fun O x => by kernel_rfl
theorem X2 : Vd Tryz.prog 107 ET := vt mix Rn Rj [] g0 rfl (fun _ _ => rfl) fun O x => by kernel_rfl
theorem ZH : Vd Tryz.prog 64 HQ := vt mix TN Kj [(106, CZ), (107, ET)] (gs R1 (gs X2 g0)) rfl (fun _ _ => rfl) fun O x => by kernel_rfl
theorem SL : Vd Tryz.prog 108 Co := vt mix MJ HP [] g0 rfl (fun _ _ => rfl) fun O x => by kernel_rfl
theorem VP : Vd Tryz.prog 65 Dm := vt mix OG F8 [(108, Co)] (gs SL g0) rfl (fun _ _ => rfl) fun O x => by kernel_rfl
theorem Rf : Vd Tryz.prog 31 CQ := vt mix Rg Gf [(62, Fj), (63, Em), (64, HQ), (65, Dm)] (gs Ws (gs WJ (gs ZH (gs VP g0)))) rfl (fun _ _ => rfl) fun O x => by kernel_rfl
theorem Vy : Vd Tryz.prog 109 Ec := vt mix PB Gy [(40, AP), (79, Aa)] (gs CP (gs DJ g0)) rfl (fun _ _ => rfl) fun O x => by kernel_rfl
theorem Wo : Vd Tryz.prog 110 FY := vt mix P5 H2 [(22, BV), (49, A3)] (gs Mi (gs Iw g0)) rfl (fun _ _ => rfl) fun O x => by kernel_rfl
theorem Ty : Vd Tryz.prog 143 DP := vt mix M0 IB [] g0 rfl (fun _ _ => rfl) fun O x => by kernel_rfl
theorem We : Vd Tryz.prog 129 EX := vt mix PH G8 [(143, DP)] (gs Ty g0) rfl (fun _ _ => rfl) fun O x => by kernel_rfl
theorem FQ : Vd Tryz.prog 179 Ak := vt mix Sr J9 [(87, AO), (88, AY), (89, AR)] (gs C9 (gs Et (gs EC g0))) rfl (fun _ _ => rfl) fun O x => by kernel_rfl
theorem VM : Vd Tryz.prog 215 B7 := vt mix N3 JP [] g0 rfl (fun _ _ => rfl) fun O x => by kernel_rfl
theorem QN : Vd Tryz.prog 180 BX := vt mix QM Di [(215, B7)] (gs VM g0) rfl (fun _ _ => rfl) fun O x => by kernel_rfl
theorem FP : Vd Tryz.prog 181 Ai := vt mix QG H4 [] g0 rfl (fun _ _ => rfl) fun O x => by kernel_rfl
theorem YG : Vd Tryz.prog 144 GX := vt mix RV I0 [(179, Ak), (180, BX), (181, Ai)] (gs FQ (gs QN (gs FP g0))) rfl (fun _ _ => rfl) fun O x => by kernel_rfl
theorem Pu : Vd Tryz.prog 182 Bz := vt mix Ub Lu [(87, AO), (88, AY), (89, AR)] (gs C9 (gs Et (gs EC g0))) rfl (fun _ _ => rfl) fun O x => by kernel_rfl
theorem Mf : Vd Tryz.prog 216 BS := vt mix Rr JC [] g0 rfl (fun _ _ => rfl) fun O x => by kernel_rfl
theorem Y3 : Vd Tryz.prog 217 Hh := vt mix Sm Kk [(40, AP), (216, BS)] (gs CP (gs Mf g0)) rfl (fun _ _ => rfl) fun O x => by kernel_rfl
theorem Zv : Vd Tryz.prog 183 IP := vt mix UV Lz [(40, AP), (118, Af), (216, BS), (217, Hh)] (gs CP (gs FU (gs Mf (gs Y3 g0)))) rfl (fun _ _ => rfl) fun O x => by kernel_rfl
theorem Za : Vd Tryz.prog 145 HN := vt mix So KA [(182, Bz), (183, IP)] (gs Pu (gs Zv g0)) rfl (fun _ _ => rfl) fun O x => by kernel_rfl
theorem KO : Vd Tryz.prog 158 A2 := vt mix PA DA [(180, BX)] (gs QN g0) rfl (fun _ _ => rfl) fun O x => by kernel_rfl
theorem GZ : Vd Tryz.prog 193 Aq := vt mix Re I6 [] g0 rfl (fun _ _ => rfl) fun O x => by kernel_rfl
theorem GJ : Vd Tryz.prog 194 Ao := vt mix OC GK [(193, Aq)] (gs GZ g0) rfl (fun _ _ => rfl) fun O x => by kernel_rfl
theorem Vq : Vd Tryz.prog 236 EZ := vt mix Oy Gz [] g0 rfl (fun _ _ => rfl) fun O x => by kernel_rfl
theorem X5 : Vd Tryz.prog 218 GW := vt mix Ri I8 [(193, Aq), (194, Ao), (236, EZ)] (gs GZ (gs GJ (gs Vq g0))) rfl (fun _ _ => rfl) fun O x => by kernel_rfl
theorem R5 : Vd Tryz.prog 237 CV := vt mix K0 EE [] g0 rfl (fun _ _ => rfl) fun O x => by kernel_rfl
theorem ON : Vd Tryz.prog 219 Bm := vt mix Oa F4 [(237, CV)] (gs R5 g0) rfl (fun _ _ => rfl) fun O x => by kernel_rfl
theorem NG : Vd Tryz.prog 242 BJ := vt mix NC M1 [] g0 rfl (fun _ _ => rfl) fun O x => by kernel_rfl
theorem W7 : Vd Tryz.prog 238 FV := vt mix Pw Ho [(242, BJ)] (gs NG g0) rfl (fun _ _ => rfl) fun O x => by kernel_rfl
theorem TP : Vd Tryz.prog 243 Cu := vt mix MR Eb [] g0 rfl (fun _ _ => rfl) fun O x => by kernel_rfl
theorem P6 : Vd Tryz.prog 239 B9 := vt mix Jg C3 [(243, Cu)] (gs TP g0) rfl (fun _ _ => rfl) fun O x => by kernel_rfl
theorem Sz : Vd Tryz.prog 244 C0 := vt mix MT Ej [] g0 rfl (fun _ _ => rfl) fun O x => by kernel_rfl
theorem VL : Vd Tryz.prog 240 Dj := vt mix Of GE [(242, BJ), (244, C0)] (gs NG (gs Sz g0)) rfl (fun _ _ => rfl) fun O x => by kernel_rfl
theorem Ps : Vd Tryz.prog 245 Bw := vt mix Ij Cl [] g0 rfl (fun _ _ => rfl) fun O x => by kernel_rfl
theorem Q0 : Vd Tryz.prog 241 CH := vt mix KP Db [(245, Bw)] (gs Ps g0) rfl (fun _ _ => rfl) fun O x => by kernel_rfl
theorem Q5 : Vd Tryz.prog 220 CE := vt mix KS Da [(238, FV), (239, B9), (240, Dj), (241, CH)] (gs W7 (gs P6 (gs VL (gs Q0 g0)))) rfl (fun _ _ => rfl) fun O x => by kernel_rfl
theorem X6 : Vd Tryz.prog 221 Gd := vt mix RU Iv [(193, Aq), (194, Ao)] (gs GZ (gs GJ g0)) rfl (fun _ _ => rfl) fun O x => by kernel_rfl
theorem T7 : Vd Tryz.prog 184 DM := vt mix M5 FL [(158, A2), (218, GW), (219, Bm), (220, CE), (221, Gd)] (gs KO (gs X5 (gs ON (gs Q5 (gs X6 g0))))) rfl (fun _ _ => rfl) fun O x => by kernel_rfl
theorem R8 : Vd Tryz.prog 222 CX := vt mix K1 EB [] g0 rfl (fun _ _ => rfl) fun O x => by kernel_rfl
theorem Tv : Vd Tryz.prog 185 DU := vt mix M4 FI [(219, Bm), (222, CX)] (gs ON (gs R8 g0)) rfl (fun _ _ => rfl) fun O x => by kernel_rfl
theorem ZK : Vd Tryz.prog 186 Ha := vt mix Sh KM [(179, Ak), (181, Ai)] (gs FQ (gs FP g0)) rfl (fun _ _ => rfl) fun O x => by kernel_rfl
theorem Up : Vd Tryz.prog 187 Dt := vt mix N2 Oc [] g0 rfl (fun _ _ => rfl) fun O x => by kernel_rfl
theorem ZI : Vd Tryz.prog 188 HV := vt mix TT J2 [(40, AP), (118, Af), (182, Bz), (216, BS)] (gs CP (gs FU (gs Pu (gs Mf g0)))) rfl (fun _ _ => rfl) fun O x => by kernel_rfl
theorem V9 : Vd Tryz.prog 189 Ew := vt mix Ox G6 [(179, Ak)] (gs FQ g0) rfl (fun _ _ => rfl) fun O x => by kernel_rfl
theorem Wt : Vd Tryz.prog 146 Fq := vt mix P3 Hj [(52, AL), (184, DM), (185, DU), (186, Ha), (187, Dt), (188, HV), (189, Ew)] (gs Bs (gs T7 (gs Tv (gs ZK (gs Up (gs ZI (gs V9 g0))))))) rfl (fun _ _ => rfl) fun O x => by kernel_rfl
theorem SW : Vd Tryz.prog 190 Ct := vt mix S6 KX [(158, A2), (181, Ai)] (gs KO (gs FP g0)) rfl (fun _ _ => rfl) fun O x => by kernel_rfl
theorem U4 : Vd Tryz.prog 147 Dv := vt mix N4 F1 [(179, Ak), (181, Ai), (190, Ct)] (gs FQ (gs FP (gs SW g0))) rfl (fun _ _ => rfl) fun O x => by kernel_rfl
theorem XB : Vd Tryz.prog 148 Fa := vt mix QZ H9 [(179, Ak), (190, Ct)] (gs FQ (gs SW g0)) rfl (fun _ _ => rfl) fun O x => by kernel_rfl
theorem Rb : Vd Tryz.prog 159 B4 := vt mix Rh EV [] g0 rfl (fun _ _ => rfl) fun O x => by kernel_rfl
theorem Vn : Vd Tryz.prog 149 Eh := vt mix On G3 [(159, B4), (179, Ak), (181, Ai)] (gs Rb (gs FQ (gs FP g0))) rfl (fun _ _ => rfl) fun O x => by kernel_rfl
theorem Pk : Vd Tryz.prog 192 B0 := vt mix US Lt [(87, AO), (88, AY), (89, AR)] (gs C9 (gs Et (gs EC g0))) rfl (fun _ _ => rfl) fun O x => by kernel_rfl
theorem VZ : Vd Tryz.prog 150 Ef := vt mix Om Gv [(192, B0)] (gs Pk g0) rfl (fun _ _ => rfl) fun O x => by kernel_rfl
theorem Wx : Vd Tryz.prog 151 Fh := vt mix QC H0 [(192, B0), (193, Aq), (194, Ao)] (gs Pk (gs GZ (gs GJ g0))) rfl (fun _ _ => rfl) fun O x => by kernel_rfl
theorem S0 : Vd Tryz.prog 152 Cy := vt mix MG Es [(192, B0), (193, Aq), (194, Ao)] (gs Pk (gs GZ (gs GJ g0))) rfl (fun _ _ => rfl) fun O x => by kernel_rfl
theorem Ve : Vd Tryz.prog 153 Er := vt mix PU G2 [(40, AP), (182, Bz)] (gs CP (gs Pu g0)) rfl (fun _ _ => rfl) fun O x => by kernel_rfl
theorem Tq : Vd Tryz.prog 154 DX := vt mix NI FC [(52, AL)] (gs Bs g0) rfl (fun _ _ => rfl) fun O x => by kernel_rfl
theorem NA : Vd Tryz.prog 132 Bc := vt mix NE FD [(52, AL)] (gs Bs g0) rfl (fun _ _ => rfl) fun O x => by kernel_rfl
theorem T4 : Vd Tryz.prog 155 DI := vt mix M6 FO [(52, AL), (132, Bc)] (gs Bs (gs NA g0)) rfl (fun _ _ => rfl) fun O x => by kernel_rfl
theorem U9 : Vd Tryz.prog 156 Du := vt mix OA Dr [(52, AL)] (gs Bs g0) rfl (fun _ _ => rfl) fun O x => by kernel_rfl
theorem O4 : Vd Tryz.prog 97 CJ := vt mix PN Ot [] g0 rfl (fun _ _ => rfl) fun O x => by kernel_rfl
theorem Ul : Vd Tryz.prog 157 Dy := vt mix OX F0 [(52, AL), (97, CJ)] (gs Bs (gs O4 g0)) rfl (fun _ _ => rfl) fun O x => by kernel_rfl
theorem UB : Vd Tryz.prog 130 DK := vt mix M7 DL [(144, GX), (145, HN), (146, Fq), (147, Dv), (148, Fa), (149, Eh), (150, Ef), (151, Fh), (152, Cy), (153, Er), (154, DX), (155, DI), (156, Du), (157, Dy)] (gs YG (gs Za (gs Wt (gs U4 (gs XB (gs Vn (gs VZ (gs Wx (gs S0 (gs Ve (gs Tq (gs T4 (gs U9 (gs Ul g0)))))))))))))) rfl (fun _ _ => rfl) fun O x => by kernel_rfl
theorem VJ : Vd Tryz.prog 131 Cc := vt mix Ob F7 [(41, A4), (158, A2), (159, B4)] (gs Jv (gs KO (gs Rb g0))) rfl (fun _ _ => rfl) fun O x => by kernel_rfl
theorem XG : Vd Tryz.prog 111 Fe := vt mix P8 Hv [(31, CQ), (41, A4), (52, AL), (129, EX), (130, DK), (131, Cc)] (gs Rf (gs Jv (gs Bs (gs We (gs UB (gs VJ g0)))))) rfl (fun _ _ => rfl) fun O x => by kernel_rfl
theorem SS : Vd Tryz.prog 11 Fl := vt mix TC J4 [(14, BL), (22, BV), (24, E0), (26, DE), (31, CQ), (42, CN), (49, A3), (50, BN), (109, Ec), (110, FY), (111, Fe), (132, Bc)] (gs I7 (gs Mi (gs Vb (gs RT (gs Rf (gs RX (gs Iw (gs MB (gs Vy (gs Wo (gs XG (gs NA g0)))))))))))) rfl (fun _ _ => rfl) fun O x => by kernel_rfl
theorem Z6 : Vd Tryz.prog 15 Pv := vt mix UQ Ua [(40, AP), (44, DB)] (gs CP (gs Rk g0)) rfl (fun _ _ => rfl) fun O x => by kernel_rfl
theorem cc : Vd Tryz.prog 29 S7 := vt mix Xg Xr [] g0 rfl (fun _ _ => rfl) fun O x => by kernel_rfl
theorem Wv : Vd Tryz.prog 57 LY := vt mix Qi QY [(97, CJ)] (gs O4 g0) rfl (fun _ _ => rfl) fun O x => by kernel_rfl
theorem KN : Vd Tryz.prog 99 CK := vt mix O9 Oo [] g0 rfl (fun _ _ => rfl) fun O x => by kernel_rfl
theorem Rw : Vd Tryz.prog 98 GR := vt mix Ru Rp [(99, CK)] (gs KN g0) rfl (fun _ _ => rfl) fun O x => by kernel_rfl
theorem bS : Vd Tryz.prog 100 RD := vt mix V3 Wg [(98, GR), (99, CK)] (gs Rw (gs KN g0)) rfl (fun _ _ => rfl) fun O x => by kernel_rfl
theorem WE : Vd Tryz.prog 124 Kl := fun N h =>
 aa Tryz.func124 (T3 := 3) (T9 := 9) rfl rfl Tryz.underlying3 Tryz.underlying9 (by kernel_rfl) (fun i hi w => Tryz.internal_strconv_Itoa_small i hi w) h
theorem W3 : Vd Tryz.prog 101 Ln := vt mix QA Qg [(124, Kl)] (gs WE g0) rfl (fun _ _ => rfl) fun O x => by kernel_rfl
theorem Y5 : Vd Tryz.prog 58 OJ := vt mix Sd TI [(98, GR), (99, CK), (100, RD), (101, Ln)] (gs Rw (gs KN (gs bS (gs W3 g0)))) rfl (fun _ _ => rfl) fun O x => by kernel_rfl
theorem RG : Vd Tryz.prog 138 F2 := fun N h =>
 cW Tryz.func138 (T2 := 2) (T3 := 3) (T9 := 9) rfl rfl Tryz.underlying2 Tryz.underlying3 Tryz.underlying9 (by kernel_rfl) (fun i hi w => Tryz.internal_strconv_FormatInt_10_small i hi w) h
theorem SB : Vd Tryz.prog 125 Gp := vt mix K8 K5 [(138, F2)] (gs RG g0) rfl (fun _ _ => rfl) fun O x => by kernel_rfl
theorem XO : Vd Tryz.prog 102 LL := vt mix QT Pz [(125, Gp)] (gs SB g0) rfl (fun _ _ => rfl) fun O x => by kernel_rfl
theorem Qd : Vd Tryz.prog 59 FR := vt mix Qf Qe [(102, LL)] (gs XO g0) rfl (fun _ _ => rfl) fun O x => by kernel_rfl
theorem W0 : Vd Tryz.prog 60 LU := vt mix QX Qj [(59, FR)] (gs Qd g0) rfl (fun _ _ => rfl) fun O x => by kernel_rfl
theorem Wh : Vd Tryz.prog 61 Lo := fun N h =>
 bQ Tryz.func61 (T8 := 86) (T9 := 9) rfl rfl Tryz.underlying86 Tryz.underlying9 (by kernel_rfl) (fun a c sep w => Tryz.strings_Join_none a c sep w) (fun bk o c xs sep w h1 h2 h3 h4 h5 => Tryz.strings_Join bk o c xs sep w h1 h2 h3 h4 h5) h
theorem YU : Vd Tryz.prog 30 N1 := vt mix TW S5 [(14, BL), (57, LY), (58, OJ), (59, FR), (60, LU), (61, Lo)] (gs I7 (gs Wv (gs Y5 (gs Qd (gs W0 (gs Wh g0)))))) rfl (fun _ _ => rfl) fun O x => by kernel_rfl
theorem Z7 : Vd Tryz.prog 9 Ii := vt mix UH Ug [(11, Fl), (15, Pv), (29, S7), (30, N1)] (gs SS (gs Z6 (gs cc (gs YU g0)))) rfl (fun _ _ => rfl) fun O x => by kernel_rfl
def Xj : Cfg := { gam := [], imm := false, old := true }
theorem bD (O : Alg) (x : Ags O) : XF (O := O) Tryz.prog Xj false false [] 10 [] (xr x TO 0) = MH O x := by kernel_rfl
theorem cU {E : Env} {M : Nat} (N : Nat) (h : ∀ ls, E 10 [] ls = MD N ls) : VV Tryz.prog E M ⟨10, [], false, false, []⟩ :=
 MZ mix (E := Il N) (N := N) (cfg := Xj) (ci := ⟨10, [], false, false, []⟩) (ks := TO) Tf (c := MD N) (F := fun ls => MH (std (Il N) N) (xOf ls)) (fun ls => rfl) (fun ls => bD (std (Il N) N) (xOf ls)) h
theorem Vu : Vd Tryz.prog 90 EY := vt mix O0 Gx [] g0 rfl (fun _ _ => rfl) fun O x => by kernel_rfl
theorem Q9 : Vd Tryz.prog 91 CG := vt mix J1 Dc [] g0 rfl (fun _ _ => rfl) fun O x => by kernel_rfl
theorem ZT : Vd Tryz.prog 53 Kf := vt mix TX KJ [(90, EY), (91, CG)] (gs Vu (gs Q9 g0)) rfl (fun _ _ => rfl) fun O x => by kernel_rfl
theorem QF : Vd Tryz.prog 92 CA := vt mix Je C8 [] g0 rfl (fun _ _ => rfl) fun O x => by kernel_rfl
theorem TL : Vd Tryz.prog 93 Cz := vt mix L9 Ek [] g0 rfl (fun _ _ => rfl) fun O x => by kernel_rfl
theorem R9 : Vd Tryz.prog 94 CW := vt mix K2 D7 [] g0 rfl (fun _ _ => rfl) fun O x => by kernel_rfl
theorem VR : Vd Tryz.prog 95 Ds := vt mix OB GG [] g0 rfl (fun _ _ => rfl) fun O x => by kernel_rfl
theorem XH : Vd Tryz.prog 55 H1 := vt mix Py Hp [(92, CA), (93, Cz), (94, CW), (95, Ds)] (gs QF (gs TL (gs R9 (gs VR g0)))) rfl (fun _ _ => rfl) fun O x => by kernel_rfl
def GV : Cfg := { gam := [⟨55, [], true, true, []⟩], imm := false, old := false }
theorem MP (O : Alg) (x : Ags O) : XF (O := O) Tryz.prog GV true true [] 54 [55] (xr x DH 0) = BU O x := by kernel_rfl
theorem Mt {E : Env} {M : Nat} (N : Nat) (h : ∀ ls, E 54 [55] ls = BT N ls) : VV Tryz.prog E M ⟨54, [55], true, true, []⟩ :=
 MZ mix (E := A1 N) (N := N) (cfg := GV) (ci := ⟨54, [55], true, true, []⟩) (ks := DH) (F9 (XH N (fun _ => rfl)) Tf) (c := BT N) (F := fun ls => BU (std (A1 N) N) (xOf ls)) (fun ls => rfl) (fun ls => MP (std (A1 N) N) (xOf ls)) h
def TA : Cfg := { gam := [⟨53, [], true, true, []⟩, ⟨54, [55], true, true, []⟩], imm := false, old := false }
theorem YD (O : Alg) (x : Ags O) : XF (O := O) Tryz.prog TA true true [] 27 [] (xr x OD 0) = Hc O x := by kernel_rfl
theorem Yh : Vd Tryz.prog 27 HK := fun N h =>
 MZ mix (E := Cg N) (N := N) (cfg := TA) (ci := ⟨27, [], true, true, []⟩) (ks := OD) (F9 (ZT N (fun _ => rfl)) (F9 (Mt N (fun _ => rfl)) Tf)) (c := HK N) (F := fun ls => Hc (std (Cg N) N) (xOf ls)) (fun ls => rfl) (fun ls => YD (std (Cg N) N) (xOf ls)) h
def MS : Cfg := { gam := [⟨9, [], true, true, []⟩, ⟨10, [], false, false, []⟩, ⟨11, [], true, true, []⟩, ⟨14, [], true, true, []⟩, ⟨26, [], true, true, []⟩, ⟨27, [], true, true, []⟩], imm := false, old := false }
theorem R7 (O : Alg) (x : Ags O) : XF (O := O) Tryz.prog MS true true [] 7 [] (xr x Hf 0) = Cw O x := by kernel_rfl
theorem SU : Vd Tryz.prog 7 Cq := fun N h =>
 MZ mix (E := Ap N) (N := N) (cfg := MS) (ci := ⟨7, [], true, true, []⟩) (ks := Hf) (F9 (Z7 N (fun _ => rfl)) (F9 (cU N (fun _ => rfl)) (F9 (SS N (fun _ => rfl)) (F9 (I7 N (fun _ => rfl)) (F9 (RT N (fun _ => rfl)) (F9 (Yh N (fun _ => rfl)) Tf)))))) (c := Cq N) (F := fun ls => Cw (std (Ap N) N) (xOf ls)) (fun ls => rfl) (fun ls => R7 (std (Ap N) N) (xOf ls)) h
end Go.Px
