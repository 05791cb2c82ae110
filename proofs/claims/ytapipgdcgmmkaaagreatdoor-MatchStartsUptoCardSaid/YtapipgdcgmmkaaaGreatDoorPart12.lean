/- Part 12. -/
import Derived.Test.YtapipgdcgmmkaaaGreatDoorPart06
import Derived.Test.YtapipgdcgmmkaaaGreatDoorProg
import Derived.Test.YtapipgdcgmmkaaaGreatDoorPart08
import Derived.KernelRfl
import Derived.WalkKit
import Derived.Lib.Walk
import Derived.BigCall
import Derived.BigGuard
import Derived.Test.YtapipgdcgmmkaaaGreatDoorPart11
set_option linter.unusedVariables false
set_option linter.unusedSimpArgs false
namespace Go.Px
open Go.Proofs
set_option maxRecDepth 100000
theorem mix : Tryz.prog.follows .mixedOrders = true := by kernel_rfl
theorem UF : Vd Tryz.prog 76 EW := vt mix Oq Gd [] g0 rfl (fun _ _ => rfl) fun O x => by kernel_rfl
theorem JT : Vd Tryz.prog 117 BO := vt mix JO Jc [] g0 rfl (fun _ _ => rfl) fun O x => by kernel_rfl
theorem QS : Vd Tryz.prog 77 Cc := vt mix JQ Ds [(117, BO)] (gs JT g0) rfl (fun _ _ => rfl) fun O x => by kernel_rfl
theorem Rx : Vd Tryz.prog 78 C7 := vt mix Kg EC [(117, BO)] (gs JT g0) rfl (fun _ _ => rfl) fun O x => by kernel_rfl
theorem Bh : Vd Tryz.prog 40 AP := vt mix L9 Ej [(76, EW), (77, Cc), (78, C7)] (gs UF (gs QS (gs Rx g0))) rfl (fun _ _ => rfl) fun O x => by kernel_rfl
theorem CB : Vd Tryz.prog 79 AR := vt mix Hl HX [] g0 rfl (fun _ _ => rfl) fun O x => by kernel_rfl
theorem Oe : Vd Tryz.prog 80 CD := vt mix Hh Cq [(79, AR)] (gs CB g0) rfl (fun _ _ => rfl) fun O x => by kernel_rfl
theorem NA : Vd Tryz.prog 136 Bp := vt mix G9 CY [] g0 rfl (fun _ _ => rfl) fun O x => by kernel_rfl
theorem Cx : Vd Tryz.prog 118 Ae := vt mix FB Bw [(136, Bp)] (gs NA g0) rfl (fun _ _ => rfl) fun O x => by kernel_rfl
theorem Mn : Vd Tryz.prog 81 Bj := vt mix GA CO [(79, AR), (118, Ae)] (gs CB (gs Cx g0)) rfl (fun _ _ => rfl) fun O x => by kernel_rfl
theorem Mo : Vd Tryz.prog 120 Bk := vt mix F8 CP [(79, AR)] (gs CB g0) rfl (fun _ _ => rfl) fun O x => by kernel_rfl
theorem Oa : Vd Tryz.prog 82 CE := vt mix Hn Cl [(120, Bk)] (gs Mo g0) rfl (fun _ _ => rfl) fun O x => by kernel_rfl
theorem Fv : Vd Tryz.prog 41 A3 := vt mix JE Dm [(40, AP), (79, AR), (80, CD), (81, Bj), (82, CE)] (gs Bh (gs CB (gs Oe (gs Mn (gs Oa g0))))) rfl (fun _ _ => rfl) fun O x => by kernel_rfl
theorem Ec : Vd Tryz.prog 49 A8 := vt mix MK EZ [] g0 rfl (fun _ _ => rfl) fun O x => by kernel_rfl
theorem Lx : Vd Tryz.prog 42 B4 := vt mix MM Eh [(49, A8)] (gs Ec g0) rfl (fun _ _ => rfl) fun O x => by kernel_rfl
theorem Sb : Vd Tryz.prog 43 DP := vt mix Lq En [] g0 rfl (fun _ _ => rfl) fun O x => by kernel_rfl
theorem Eo : Vd Tryz.prog 14 A9 := vt mix MF Ei [(40, AP), (41, A3), (42, B4), (43, DP)] (gs Bh (gs Fv (gs Lx (gs Sb g0)))) rfl (fun _ _ => rfl) fun O x => by kernel_rfl
theorem HG : Vd Tryz.prog 22 B2 := vt mix Lz MV [] g0 rfl (fun _ _ => rfl) fun O x => by kernel_rfl
theorem Gz : Vd Tryz.prog 50 Br := vt mix Gt Gv [] g0 rfl (fun _ _ => rfl) fun O x => by kernel_rfl
theorem Qs : Vd Tryz.prog 24 Fn := vt mix JF JW [(14, A9), (22, B2), (49, A8), (50, Br)] (gs Eo (gs HG (gs Ec (gs Gz g0)))) rfl (fun _ _ => rfl) fun O x => by kernel_rfl
theorem LM : Vd Tryz.prog 83 Bd := fun N h =>
 Gl mix (T := 22) (e := 68) (b := 24) Tryz.func83 Tryz.underlying22 (by kernel_rfl) (by decide) (fun O l => by kernel_rfl) (fun O l => by kernel_rfl) h
theorem MH : Vd Tryz.prog 44 B3 := vt mix L2 EY [(83, Bd)] (gs LM g0) rfl (fun _ _ => rfl) fun O x => by kernel_rfl
theorem Bv : Vd Tryz.prog 87 Ad := fun N h =>
 Gl mix (T := 60) (e := 66) (b := 1) Tryz.func87 Tryz.underlying60 (by kernel_rfl) (by decide) (fun O l => by kernel_rfl) (fun O l => by kernel_rfl) h
theorem Cg : Vd Tryz.prog 88 Av := fun N h =>
 Gl mix (T := 61) (e := 3) (b := 8) Tryz.func88 Tryz.underlying61 (by kernel_rfl) (by decide) (fun O l => by kernel_rfl) (fun O l => by kernel_rfl) h
theorem CQ : Vd Tryz.prog 89 Ao := fun N h =>
 Gl mix (T := 62) (e := 4) (b := 1) Tryz.func89 Tryz.underlying62 (by kernel_rfl) (by decide) (fun O l => by kernel_rfl) (fun O l => by kernel_rfl) h
theorem BN : Vd Tryz.prog 52 AZ := vt mix Jk I8 [(87, Ad), (88, Av), (89, Ao)] (gs Bv (gs Cg (gs CQ g0))) rfl (fun _ _ => rfl) fun O x => by kernel_rfl
theorem SZ : Vd Tryz.prog 26 HH := vt mix MA MT [(44, B3), (52, AZ)] (gs MH (gs BN g0)) rfl (fun _ _ => rfl) fun O x => by kernel_rfl
theorem Rd : Vd Tryz.prog 62 GM := vt mix KS KJ [] g0 rfl (fun _ _ => rfl) fun O x => by kernel_rfl
theorem Qk : Vd Tryz.prog 63 Fm := vt mix Jo Jp [] g0 rfl (fun _ _ => rfl) fun O x => by kernel_rfl
open Go.RowKit Go.Lib in
set_option maxHeartbeats 1000000 in
theorem Hz (s : ByteArray) (c : Int) (w : World) : Calls Tryz.prog 128 #[.string s, .int .u8 c] w fun e w' => e = .returned (.int .i64 (Lib.indexByte s.data.toList c.toNat.toUInt8)) ∧ w' = w := by
 go_enter Tryz.func128, Tryz.ntmps128
 go_wp2
 rw [run_callFunc_extern Tryz.func141 (by kernel_rfl) (by kernel_rfl) (by kernel_rfl) (e := Extern.BytealgIndexByte.indexByte) (by kernel_rfl), Lib.run_indexByteString]
 simp only [Result.andThen]
 rw [Oper.upon_value]
 go_wp2
 go_ret
 exact ⟨rfl, rfl⟩
theorem I5 : Vd Tryz.prog 128 CS := fun N h =>
 UP Tryz.func128 (T9 := 9) (T5 := 5) (T3 := 3) rfl rfl Tryz.underlying9 Tryz.underlying5 Tryz.underlying3 (by kernel_rfl) Hz h
theorem Md : Vd Tryz.prog 106 Dh := vt mix F3 F5 [(128, CS)] (gs I5 g0) rfl (fun _ _ => rfl) fun O x => by kernel_rfl
theorem Sl : Vd Tryz.prog 107 HN := vt mix MS Lp [] g0 rfl (fun _ _ => rfl) fun O x => by kernel_rfl
theorem Ta : Vd Tryz.prog 64 IL := vt mix Nx NT [(106, Dh), (107, HN)] (gs Md (gs Sl g0)) rfl (fun _ _ => rfl) fun O x => by kernel_rfl
theorem NX : Vd Tryz.prog 108 Dv := vt mix HB G1 [] g0 rfl (fun _ _ => rfl) fun O x => by kernel_rfl
theorem PO : Vd Tryz.prog 65 Ep := vt mix Ii IV [(108, Dv)] (gs NX g0) rfl (fun _ _ => rfl) fun O x => by kernel_rfl
theorem L5 : Vd Tryz.prog 31 DK := vt mix MU MD [(62, GM), (63, Fm), (64, IL), (65, Ep)] (gs Rd (gs Qk (gs Ta (gs PO g0)))) rfl (fun _ _ => rfl) fun O x => by kernel_rfl
theorem RI : Vd Tryz.prog 109 FX := vt mix JG Jb [(40, AP), (79, AR)] (gs Bh (gs CB g0)) rfl (fun _ _ => rfl) fun O x => by kernel_rfl
theorem Rh : Vd Tryz.prog 110 GN := vt mix Kt KN [(22, B2), (49, A8)] (gs HG (gs Ec g0)) rfl (fun _ _ => rfl) fun O x => by kernel_rfl
theorem Of : Vd Tryz.prog 143 EL := vt mix Hm Hj [] g0 rfl (fun _ _ => rfl) fun O x => by kernel_rfl
theorem P8 : Vd Tryz.prog 129 FH := vt mix JA Jd [(143, EL)] (gs Of g0) rfl (fun _ _ => rfl) fun O x => by kernel_rfl
theorem C2 : Vd Tryz.prog 179 A0 := vt mix Np Nh [(87, Ad), (88, Av), (89, Ao)] (gs Bv (gs Cg (gs CQ g0))) rfl (fun _ _ => rfl) fun O x => by kernel_rfl
theorem Pt : Vd Tryz.prog 215 E2 := vt mix Iy Id [] g0 rfl (fun _ _ => rfl) fun O x => by kernel_rfl
theorem KW : Vd Tryz.prog 180 Cu := vt mix KZ Ku [(215, E2)] (gs Pt g0) rfl (fun _ _ => rfl) fun O x => by kernel_rfl
theorem C0 : Vd Tryz.prog 181 A1 := vt mix Ks Kn [] g0 rfl (fun _ _ => rfl) fun O x => by kernel_rfl
theorem Sf : Vd Tryz.prog 144 HM := vt mix Ls MR [(179, A0), (180, Cu), (181, A1)] (gs C2 (gs KW (gs C0 g0))) rfl (fun _ _ => rfl) fun O x => by kernel_rfl
theorem J6 : Vd Tryz.prog 182 Ci := vt mix Oz O9 [(87, Ad), (88, Av), (89, Ao)] (gs Bv (gs Cg (gs CQ g0))) rfl (fun _ _ => rfl) fun O x => by kernel_rfl
theorem HO : Vd Tryz.prog 216 B8 := vt mix Lr MN [] g0 rfl (fun _ _ => rfl) fun O x => by kernel_rfl
theorem S1 : Vd Tryz.prog 217 Ie := vt mix NI NL [(40, AP), (216, B8)] (gs Bh (gs HO g0)) rfl (fun _ _ => rfl) fun O x => by kernel_rfl
theorem UT : Vd Tryz.prog 183 KF := vt mix PH PJ [(40, AP), (118, Ae), (216, B8), (217, Ie)] (gs Bh (gs Cx (gs HO (gs S1 g0)))) rfl (fun _ _ => rfl) fun O x => by kernel_rfl
theorem Tn : Vd Tryz.prog 145 I2 := vt mix ND Nf [(182, Ci), (183, KF)] (gs J6 (gs UT g0)) rfl (fun _ _ => rfl) fun O x => by kernel_rfl
theorem FN : Vd Tryz.prog 158 Bf := vt mix JU JM [(180, Cu)] (gs KW g0) rfl (fun _ _ => rfl) fun O x => by kernel_rfl
theorem DL : Vd Tryz.prog 193 BA := vt mix L3 L6 [] g0 rfl (fun _ _ => rfl) fun O x => by kernel_rfl
theorem DD : Vd Tryz.prog 194 A6 := vt mix I0 Is [(193, BA)] (gs DL g0) rfl (fun _ _ => rfl) fun O x => by kernel_rfl
theorem QV : Vd Tryz.prog 236 Fu := vt mix Jg Jn [] g0 rfl (fun _ _ => rfl) fun O x => by kernel_rfl
theorem Sp : Vd Tryz.prog 218 HP := vt mix ME MG [(193, BA), (194, A6), (236, Fu)] (gs DL (gs DD (gs QV g0))) rfl (fun _ _ => rfl) fun O x => by kernel_rfl
theorem Mp : Vd Tryz.prog 237 Dg := vt mix F9 GD [] g0 rfl (fun _ _ => rfl) fun O x => by kernel_rfl
theorem Iq : Vd Tryz.prog 219 CH := vt mix IR Ik [(237, Dg)] (gs Mp g0) rfl (fun _ _ => rfl) fun O x => by kernel_rfl
theorem Hf : Vd Tryz.prog 242 CA := vt mix HU Ha [] g0 rfl (fun _ _ => rfl) fun O x => by kernel_rfl
theorem Ro : Vd Tryz.prog 238 GK := vt mix K4 KL [(242, CA)] (gs Hf g0) rfl (fun _ _ => rfl) fun O x => by kernel_rfl
theorem Nj : Vd Tryz.prog 243 D0 := vt mix HD G0 [] g0 rfl (fun _ _ => rfl) fun O x => by kernel_rfl
theorem Ky : Vd Tryz.prog 239 Cy := vt mix E8 E9 [(243, D0)] (gs Nj g0) rfl (fun _ _ => rfl) fun O x => by kernel_rfl
theorem Nt : Vd Tryz.prog 244 Dz := vt mix G7 G8 [] g0 rfl (fun _ _ => rfl) fun O x => by kernel_rfl
theorem PW : Vd Tryz.prog 240 Es := vt mix Ia IW [(242, CA), (244, Dz)] (gs Hf (gs Nt g0)) rfl (fun _ _ => rfl) fun O x => by kernel_rfl
theorem KA : Vd Tryz.prog 245 Cj := vt mix EV EO [] g0 rfl (fun _ _ => rfl) fun O x => by kernel_rfl
theorem LY : Vd Tryz.prog 241 DI := vt mix FO FQ [(245, Cj)] (gs KA g0) rfl (fun _ _ => rfl) fun O x => by kernel_rfl
theorem LW : Vd Tryz.prog 220 DF := vt mix FZ Fb [(238, GK), (239, Cy), (240, Es), (241, DI)] (gs Ro (gs Ky (gs PW (gs LY g0)))) rfl (fun _ _ => rfl) fun O x => by kernel_rfl
theorem Sg : Vd Tryz.prog 221 HI := vt mix MI MW [(193, BA), (194, A6)] (gs DL (gs DD g0)) rfl (fun _ _ => rfl) fun O x => by kernel_rfl
theorem OK : Vd Tryz.prog 184 EG := vt mix Hc HT [(158, Bf), (218, HP), (219, CH), (220, DF), (221, HI)] (gs FN (gs Sp (gs Iq (gs LW (gs Sg g0))))) rfl (fun _ _ => rfl) fun O x => by kernel_rfl
theorem Mh : Vd Tryz.prog 222 Df := vt mix F7 F4 [] g0 rfl (fun _ _ => rfl) fun O x => by kernel_rfl
theorem Oc : Vd Tryz.prog 185 EK := vt mix Hb Hd [(219, CH), (222, Df)] (gs Iq (gs Mh g0)) rfl (fun _ _ => rfl) fun O x => by kernel_rfl
theorem TU : Vd Tryz.prog 186 Ij := vt mix NZ NQ [(179, A0), (181, A1)] (gs C2 (gs C0 g0)) rfl (fun _ _ => rfl) fun O x => by kernel_rfl
theorem PS : Vd Tryz.prog 187 E0 := vt mix Ib IX [] g0 rfl (fun _ _ => rfl) fun O x => by kernel_rfl
theorem TQ : Vd Tryz.prog 188 Ir := vt mix Nu N0 [(40, AP), (118, Ae), (182, Ci), (216, B8)] (gs Bh (gs Cx (gs J6 (gs HO g0)))) rfl (fun _ _ => rfl) fun O x => by kernel_rfl
theorem QM : Vd Tryz.prog 189 FK := vt mix Jy Je [(179, A0)] (gs C2 g0) rfl (fun _ _ => rfl) fun O x => by kernel_rfl
theorem RY : Vd Tryz.prog 146 GZ := vt mix Kf KQ [(52, AZ), (184, EG), (185, EK), (186, Ij), (187, E0), (188, Ir), (189, FK)] (gs BN (gs OK (gs Oc (gs TU (gs PS (gs TQ (gs QM g0))))))) rfl (fun _ _ => rfl) fun O x => by kernel_rfl
theorem NP : Vd Tryz.prog 190 Dw := vt mix Nq Nv [(158, Bf), (181, A1)] (gs FN (gs C0 g0)) rfl (fun _ _ => rfl) fun O x => by kernel_rfl
theorem Pb : Vd Tryz.prog 147 E5 := vt mix Iu Iv [(179, A0), (181, A1), (190, Dw)] (gs C2 (gs C0 (gs NP g0))) rfl (fun _ _ => rfl) fun O x => by kernel_rfl
theorem RN : Vd Tryz.prog 148 GQ := vt mix Kp Km [(179, A0), (190, Dw)] (gs C2 (gs NP g0)) rfl (fun _ _ => rfl) fun O x => by kernel_rfl
theorem Lu : Vd Tryz.prog 159 DU := vt mix L0 MQ [] g0 rfl (fun _ _ => rfl) fun O x => by kernel_rfl
theorem QA : Vd Tryz.prog 149 FT := vt mix JB Jl [(159, DU), (179, A0), (181, A1)] (gs Lu (gs C2 (gs C0 g0))) rfl (fun _ _ => rfl) fun O x => by kernel_rfl
theorem J1 : Vd Tryz.prog 192 Ck := vt mix O7 O8 [(87, Ad), (88, Av), (89, Ao)] (gs Bv (gs Cg (gs CQ g0))) rfl (fun _ _ => rfl) fun O x => by kernel_rfl
theorem P5 : Vd Tryz.prog 150 Fl := vt mix Jt JN [(192, Ck)] (gs J1 g0) rfl (fun _ _ => rfl) fun O x => by kernel_rfl
theorem Rt : Vd Tryz.prog 151 GS := vt mix KU KO [(192, Ck), (193, BA), (194, A6)] (gs J1 (gs DL (gs DD g0))) rfl (fun _ _ => rfl) fun O x => by kernel_rfl
theorem Na : Vd Tryz.prog 152 D5 := vt mix G3 G4 [(192, Ck), (193, BA), (194, A6)] (gs J1 (gs DL (gs DD g0))) rfl (fun _ _ => rfl) fun O x => by kernel_rfl
theorem QJ : Vd Tryz.prog 153 Fx := vt mix Js Jj [(40, AP), (182, Ci)] (gs Bh (gs J6 g0)) rfl (fun _ _ => rfl) fun O x => by kernel_rfl
theorem OL : Vd Tryz.prog 154 EI := vt mix Hi HV [(52, AZ)] (gs BN g0) rfl (fun _ _ => rfl) fun O x => by kernel_rfl
theorem HY : Vd Tryz.prog 132 B9 := vt mix Hk He [(52, AZ)] (gs BN g0) rfl (fun _ _ => rfl) fun O x => by kernel_rfl
theorem OY : Vd Tryz.prog 155 EH := vt mix Ho HW [(52, AZ), (132, B9)] (gs BN (gs HY g0)) rfl (fun _ _ => rfl) fun O x => by kernel_rfl
theorem Pl : Vd Tryz.prog 156 Ez := vt mix Im Iw [(52, AZ)] (gs BN g0) rfl (fun _ _ => rfl) fun O x => by kernel_rfl
theorem JI : Vd Tryz.prog 97 Ce := vt mix JX Jr [] g0 rfl (fun _ _ => rfl) fun O x => by kernel_rfl
theorem PR : Vd Tryz.prog 157 Ey := vt mix Ih Il [(52, AZ), (97, Ce)] (gs BN (gs JI g0)) rfl (fun _ _ => rfl) fun O x => by kernel_rfl
theorem OT : Vd Tryz.prog 130 EJ := vt mix HR HZ [(144, HM), (145, I2), (146, GZ), (147, E5), (148, GQ), (149, FT), (150, Fl), (151, GS), (152, D5), (153, Fx), (154, EI), (155, EH), (156, Ez), (157, Ey)] (gs Sf (gs Tn (gs RY (gs Pb (gs RN (gs QA (gs P5 (gs Rt (gs Na (gs QJ (gs OL (gs OY (gs Pl (gs PR g0)))))))))))))) rfl (fun _ _ => rfl) fun O x => by kernel_rfl
theorem Pa : Vd Tryz.prog 131 E1 := vt mix Ip IE [(41, A3), (158, Bf), (159, DU)] (gs Fv (gs FN (gs Lu g0))) rfl (fun _ _ => rfl) fun O x => by kernel_rfl
theorem RQ : Vd Tryz.prog 111 GP := vt mix Ki KR [(31, DK), (41, A3), (52, AZ), (129, FH), (130, EJ), (131, E1)] (gs L5 (gs Fv (gs BN (gs P8 (gs OT (gs Pa g0)))))) rfl (fun _ _ => rfl) fun O x => by kernel_rfl
theorem T7 : Vd Tryz.prog 11 IJ := vt mix Nr Nw [(14, A9), (22, B2), (24, Fn), (26, HH), (31, DK), (42, B4), (49, A8), (50, Br), (109, FX), (110, GN), (111, GP), (132, B9)] (gs Eo (gs HG (gs Qs (gs SZ (gs L5 (gs Lx (gs Ec (gs Gz (gs RI (gs Rh (gs RQ (gs HY g0)))))))))))) rfl (fun _ _ => rfl) fun O x => by kernel_rfl
theorem KC : Vd Tryz.prog 15 Bc := vt mix PA Gf [(40, AP), (44, B3)] (gs Bh (gs MH g0)) rfl (fun _ _ => rfl) fun O x => by kernel_rfl
theorem Vp : Vd Tryz.prog 29 NS := vt mix SS SB [] g0 rfl (fun _ _ => rfl) fun O x => by kernel_rfl
theorem Ra : Vd Tryz.prog 57 GV := vt mix Kv Ke [(97, Ce)] (gs JI g0) rfl (fun _ _ => rfl) fun O x => by kernel_rfl
theorem Fc : Vd Tryz.prog 99 Bg := vt mix JH JK [] g0 rfl (fun _ _ => rfl) fun O x => by kernel_rfl
theorem L8 : Vd Tryz.prog 98 DQ := vt mix L1 MB [(99, Bg)] (gs Fc g0) rfl (fun _ _ => rfl) fun O x => by kernel_rfl
theorem Ut : Vd Tryz.prog 100 LI := vt mix Qp QF [(98, DQ), (99, Bg)] (gs L8 (gs Fc g0)) rfl (fun _ _ => rfl) fun O x => by kernel_rfl
theorem P6 : Vd Tryz.prog 124 Fd := fun N h =>
 VC Tryz.func124 (T3 := 3) (T9 := 9) rfl rfl Tryz.underlying3 Tryz.underlying9 (by kernel_rfl) (fun i hi w => Tryz.internal_strconv_Itoa_small i hi w) h
theorem RP : Vd Tryz.prog 101 GO := vt mix Kd K2 [(124, Fd)] (gs P6 g0) rfl (fun _ _ => rfl) fun O x => by kernel_rfl
theorem UA : Vd Tryz.prog 58 IH := vt mix Mv Ng [(98, DQ), (99, Bg), (100, LI), (101, GO)] (gs L8 (gs Fc (gs Ut (gs RP g0)))) rfl (fun _ _ => rfl) fun O x => by kernel_rfl
theorem LU : Vd Tryz.prog 138 DJ := fun N h =>
 Vj Tryz.func138 (T2 := 2) (T3 := 3) (T9 := 9) rfl rfl Tryz.underlying2 Tryz.underlying3 Tryz.underlying9 (by kernel_rfl) (fun i hi w => Tryz.internal_strconv_FormatInt_10_small i hi w) h
theorem Mj : Vd Tryz.prog 125 Di := vt mix GB F6 [(138, DJ)] (gs LU g0) rfl (fun _ _ => rfl) fun O x => by kernel_rfl
theorem Rg : Vd Tryz.prog 102 GF := vt mix KY Kq [(125, Di)] (gs Mj g0) rfl (fun _ _ => rfl) fun O x => by kernel_rfl
theorem Kx : Vd Tryz.prog 59 C4 := vt mix K5 Ka [(102, GF)] (gs Rg g0) rfl (fun _ _ => rfl) fun O x => by kernel_rfl
theorem Rn : Vd Tryz.prog 60 GL := vt mix KV Kh [(59, C4)] (gs Kx g0) rfl (fun _ _ => rfl) fun O x => by kernel_rfl
theorem RT : Vd Tryz.prog 61 GJ := fun N h =>
 VK Tryz.func61 (T8 := 86) (T9 := 9) rfl rfl Tryz.underlying86 Tryz.underlying9 (by kernel_rfl) (fun a c sep w => Tryz.strings_Join_none a c sep w) (fun bk o c xs sep w h1 h2 h3 h4 h5 => Tryz.strings_Join bk o c xs sep w h1 h2 h3 h4 h5) h
theorem Tp : Vd Tryz.prog 30 IK := vt mix NM NE [(14, A9), (57, GV), (58, IH), (59, C4), (60, GL), (61, GJ)] (gs Eo (gs Ra (gs UA (gs Kx (gs Rn (gs RT g0)))))) rfl (fun _ _ => rfl) fun O x => by kernel_rfl
theorem UQ : Vd Tryz.prog 9 Dc := vt mix O1 PD [(11, IJ), (15, Bc), (29, NS), (30, IK)] (gs T7 (gs KC (gs Vp (gs Tp g0)))) rfl (fun _ _ => rfl) fun O x => by kernel_rfl
theorem VT : Vd Tryz.prog 38 Ff := vt mix Q6 Hq [] g0 rfl (fun _ _ => rfl) fun O x => by kernel_rfl
theorem U8 : Vd Tryz.prog 75 Fo := vt mix Q9 H7 [] g0 rfl (fun _ _ => rfl) fun O x => by kernel_rfl
theorem Uy : Vd Tryz.prog 39 FI := vt mix Q4 Hr [(75, Fo)] (gs U8 g0) rfl (fun _ _ => rfl) fun O x => by kernel_rfl
theorem VE : Vd Tryz.prog 13 FU := vt mix Q8 H0 [(38, Ff), (39, FI)] (gs VT (gs Uy g0)) rfl (fun _ _ => rfl) fun O x => by kernel_rfl
theorem VN : Vd Tryz.prog 84 FV := vt mix Qg H3 [] g0 rfl (fun _ _ => rfl) fun O x => by kernel_rfl
theorem WL : Vd Tryz.prog 85 Ic := vt mix T1 Tq [] g0 rfl (fun _ _ => rfl) fun O x => by kernel_rfl
theorem UK : Vd Tryz.prog 45 Db := vt mix Ok Gh [(84, FV), (85, Ic)] (gs VN (gs WL g0)) rfl (fun _ _ => rfl) fun O x => by kernel_rfl
theorem UO : Vd Tryz.prog 46 EN := vt mix Ou Gp [] g0 rfl (fun _ _ => rfl) fun O x => by kernel_rfl
theorem SU : Vd Tryz.prog 16 DC := vt mix R8 JS [(45, Db), (46, EN)] (gs UK (gs UO g0)) rfl (fun _ _ => rfl) fun O x => by kernel_rfl
theorem QK : Vd Tryz.prog 17 CX := vt mix JP Dn [(15, Bc)] (gs KC g0) rfl (fun _ _ => rfl) fun O x => by kernel_rfl
theorem Sj : Vd Tryz.prog 18 DN := vt mix MC Ek [(16, DC)] (gs SU g0) rfl (fun _ _ => rfl) fun O x => by kernel_rfl
theorem OQ : Vd Tryz.prog 5 Cm := vt mix HQ Co [(9, Dc), (13, FU), (14, A9), (15, Bc), (16, DC), (17, CX), (18, DN)] (gs UQ (gs VE (gs Eo (gs KC (gs SU (gs QK (gs Sj g0))))))) rfl (fun _ _ => rfl) fun O x => by kernel_rfl
end Go.Px
