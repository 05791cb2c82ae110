/- Part 13. -/
import Derived.Test.YtapipgdcgmmkaaaGreatDoorPart06
import Derived.Test.YtapipgdcgmmkaaaGreatDoorProg
import Derived.Test.YtapipgdcgmmkaaaGreatDoorPart09
import Derived.KernelRfl
import Derived.WalkKit
import Derived.Lib.Walk
import Derived.BigCall
import Derived.BigGuard
import Derived.Test.YtapipgdcgmmkaaaGreatDoorPart12
set_option linter.unusedVariables false
set_option linter.unusedSimpArgs false
namespace Go.Px
open Go.Proofs
set_option maxRecDepth 100000
theorem mix : Tryz.prog.follows .mixedOrders = true := by kernel_rfl
theorem Vi : Vd Tryz.prog 76 E4 := vt mix QL Ha [] g0 rfl (fun _ _ => rfl) fun O x => by kernel_rfl
theorem Jx : Vd Tryz.prog 117 Bb := vt mix Kj J5 [] g0 rfl (fun _ _ => rfl) fun O x => by kernel_rfl
theorem SU : Vd Tryz.prog 77 Co := vt mix Ki EC [(117, Bb)] (gs Jx g0) rfl (fun _ _ => rfl) fun O x => by kernel_rfl
theorem TE : Vd Tryz.prog 78 DH := vt mix Lc Eh [(117, Bb)] (gs Jx g0) rfl (fun _ _ => rfl) fun O x => by kernel_rfl
theorem Bq : Vd Tryz.prog 40 AX := vt mix Mv FR [(76, E4), (77, Co), (78, DH)] (gs Vi (gs SU (gs TE g0))) rfl (fun _ _ => rfl) fun O x => by kernel_rfl
theorem CK : Vd Tryz.prog 79 AU := vt mix IH IY [] g0 rfl (fun _ _ => rfl) fun O x => by kernel_rfl
theorem PY : Vd Tryz.prog 80 CM := vt mix IZ C4 [(79, AU)] (gs CK g0) rfl (fun _ _ => rfl) fun O x => by kernel_rfl
theorem N6 : Vd Tryz.prog 136 B0 := vt mix Hn Cr [] g0 rfl (fun _ _ => rfl) fun O x => by kernel_rfl
theorem DN : Vd Tryz.prog 118 Aj := vt mix Ft B4 [(136, B0)] (gs N6 g0) rfl (fun _ _ => rfl) fun O x => by kernel_rfl
theorem Nl : Vd Tryz.prog 81 Bs := vt mix Gh Ca [(79, AU), (118, Aj)] (gs CK (gs DN g0)) rfl (fun _ _ => rfl) fun O x => by kernel_rfl
theorem Nr : Vd Tryz.prog 120 Bt := vt mix Gi CZ [(79, AU)] (gs CK g0) rfl (fun _ _ => rfl) fun O x => by kernel_rfl
theorem PW : Vd Tryz.prog 82 CJ := vt mix Ih C5 [(120, Bt)] (gs Nr g0) rfl (fun _ _ => rfl) fun O x => by kernel_rfl
theorem GZ : Vd Tryz.prog 41 BB := vt mix Js EF [(40, AX), (79, AU), (80, CM), (81, Bs), (82, CJ)] (gs Bq (gs CK (gs PY (gs Nl (gs PW g0))))) rfl (fun _ _ => rfl) fun O x => by kernel_rfl
theorem FQ : Vd Tryz.prog 49 A8 := vt mix Mt FO [] g0 rfl (fun _ _ => rfl) fun O x => by kernel_rfl
theorem ID : Vd Tryz.prog 42 BT := vt mix NN FM [(49, A8)] (gs FQ g0) rfl (fun _ _ => rfl) fun O x => by kernel_rfl
theorem Tq : Vd Tryz.prog 43 Da := vt mix NF FC [] g0 rfl (fun _ _ => rfl) fun O x => by kernel_rfl
theorem De : Vd Tryz.prog 14 As := vt mix M9 FK [(40, AX), (41, BB), (42, BT), (43, Da)] (gs Bq (gs GZ (gs ID (gs Tq g0)))) rfl (fun _ _ => rfl) fun O x => by kernel_rfl
theorem FL : Vd Tryz.prog 22 BI := vt mix Na FH [] g0 rfl (fun _ _ => rfl) fun O x => by kernel_rfl
theorem Hu : Vd Tryz.prog 50 BQ := vt mix He Cq [] g0 rfl (fun _ _ => rfl) fun O x => by kernel_rfl
theorem KX : Vd Tryz.prog 24 B7 := vt mix KV D8 [(14, As), (22, BI), (49, A8), (50, BQ)] (gs De (gs FL (gs FQ (gs Hu g0)))) rfl (fun _ _ => rfl) fun O x => by kernel_rfl
theorem Mg : Vd Tryz.prog 83 DX := fun N h =>
 HY mix (T := 22) (e := 68) (b := 24) Tryz.func83 Tryz.underlying22 (by kernel_rfl) (by decide) (fun O l => by kernel_rfl) (fun O l => by kernel_rfl) h
theorem NQ : Vd Tryz.prog 44 Dk := vt mix M6 NR [(83, DX)] (gs Mg g0) rfl (fun _ _ => rfl) fun O x => by kernel_rfl
theorem B5 : Vd Tryz.prog 87 Ai := fun N h =>
 HY mix (T := 60) (e := 66) (b := 1) Tryz.func87 Tryz.underlying60 (by kernel_rfl) (by decide) (fun O l => by kernel_rfl) (fun O l => by kernel_rfl) h
theorem Cj : Vd Tryz.prog 88 A3 := fun N h =>
 HY mix (T := 61) (e := 3) (b := 8) Tryz.func88 Tryz.underlying61 (by kernel_rfl) (by decide) (fun O l => by kernel_rfl) (fun O l => by kernel_rfl) h
theorem CY : Vd Tryz.prog 89 Av := fun N h =>
 HY mix (T := 62) (e := 4) (b := 1) Tryz.func89 Tryz.underlying62 (by kernel_rfl) (by decide) (fun O l => by kernel_rfl) (fun O l => by kernel_rfl) h
theorem BZ : Vd Tryz.prog 52 Aa := vt mix Kg Kk [(87, Ai), (88, A3), (89, Av)] (gs B5 (gs Cj (gs CY g0))) rfl (fun _ _ => rfl) fun O x => by kernel_rfl
theorem Tn : Vd Tryz.prog 26 H2 := vt mix Mx NU [(44, Dk), (52, Aa)] (gs NQ (gs BZ g0)) rfl (fun _ _ => rfl) fun O x => by kernel_rfl
theorem Sh : Vd Tryz.prog 62 HA := vt mix Ln LN [] g0 rfl (fun _ _ => rfl) fun O x => by kernel_rfl
theorem Rd : Vd Tryz.prog 63 GS := vt mix J8 J2 [] g0 rfl (fun _ _ => rfl) fun O x => by kernel_rfl
open Go.RowKit Go.Lib in
set_option maxHeartbeats 1000000 in
theorem Ij (s : ByteArray) (c : Int) (w : World) : Calls Tryz.prog 128 #[.string s, .int .u8 c] w fun e w' => e = .returned (.int .i64 (Lib.indexByte s.data.toList c.toNat.toUInt8)) ∧ w' = w := by
 go_enter Tryz.func128, Tryz.ntmps128
 go_wp2
 rw [run_callFunc_extern Tryz.func141 (by kernel_rfl) (by kernel_rfl) (by kernel_rfl) (e := Extern.BytealgIndexByte.indexByte) (by kernel_rfl), Lib.run_indexByteString]
 simp only [Result.andThen]
 rw [Oper.upon_value]
 go_wp2
 go_ret
 exact ⟨rfl, rfl⟩
theorem Jm : Vd Tryz.prog 128 Cc := fun N h =>
 Vg Tryz.func128 (T9 := 9) (T5 := 5) (T3 := 3) rfl rfl Tryz.underlying9 Tryz.underlying5 Tryz.underlying3 (by kernel_rfl) Ij h
theorem Nf : Vd Tryz.prog 106 D1 := vt mix Gd Gj [(128, Cc)] (gs Jm g0) rfl (fun _ _ => rfl) fun O x => by kernel_rfl
theorem T7 : Vd Tryz.prog 107 H0 := vt mix NT M5 [] g0 rfl (fun _ _ => rfl) fun O x => by kernel_rfl
theorem Ui : Vd Tryz.prog 64 Jd := vt mix Om OH [(106, D1), (107, H0)] (gs Nf (gs T7 g0)) rfl (fun _ _ => rfl) fun O x => by kernel_rfl
theorem PC : Vd Tryz.prog 108 EX := vt mix Hl Hh [] g0 rfl (fun _ _ => rfl) fun O x => by kernel_rfl
theorem RC : Vd Tryz.prog 65 FW := vt mix JG JK [(108, EX)] (gs PC g0) rfl (fun _ _ => rfl) fun O x => by kernel_rfl
theorem Nc : Vd Tryz.prog 31 Dr := vt mix M2 Nd [(62, HA), (63, GS), (64, Jd), (65, FW)] (gs Sh (gs Rd (gs Ui (gs RC g0)))) rfl (fun _ _ => rfl) fun O x => by kernel_rfl
theorem SO : Vd Tryz.prog 109 GP := vt mix KJ Jw [(40, AX), (79, AU)] (gs Bq (gs CK g0)) rfl (fun _ _ => rfl) fun O x => by kernel_rfl
theorem TA : Vd Tryz.prog 110 G9 := vt mix Lr LM [(22, BI), (49, A8)] (gs FL (gs FQ g0)) rfl (fun _ _ => rfl) fun O x => by kernel_rfl
theorem Pf : Vd Tryz.prog 143 Es := vt mix Ib IR [] g0 rfl (fun _ _ => rfl) fun O x => by kernel_rfl
theorem RX : Vd Tryz.prog 129 GT := vt mix Kh Ka [(143, Es)] (gs Pf g0) rfl (fun _ _ => rfl) fun O x => by kernel_rfl
theorem DI : Vd Tryz.prog 179 A9 := vt mix Oe OD [(87, Ai), (88, A3), (89, Av)] (gs B5 (gs Cj (gs CY g0))) rfl (fun _ _ => rfl) fun O x => by kernel_rfl
theorem QW : Vd Tryz.prog 215 Fc := vt mix JL JN [] g0 rfl (fun _ _ => rfl) fun O x => by kernel_rfl
theorem Lm : Vd Tryz.prog 180 DL := vt mix Lo LT [(215, Fc)] (gs QW g0) rfl (fun _ _ => rfl) fun O x => by kernel_rfl
theorem DG : Vd Tryz.prog 181 BA := vt mix Lx LF [] g0 rfl (fun _ _ => rfl) fun O x => by kernel_rfl
theorem T1 : Vd Tryz.prog 144 IC := vt mix Nb NI [(179, A9), (180, DL), (181, BA)] (gs DI (gs Lm (gs DG g0))) rfl (fun _ _ => rfl) fun O x => by kernel_rfl
theorem K5 : Vd Tryz.prog 182 C0 := vt mix Pu QN [(87, Ai), (88, A3), (89, Av)] (gs B5 (gs Cj (gs CY g0))) rfl (fun _ _ => rfl) fun O x => by kernel_rfl
theorem H1 : Vd Tryz.prog 216 CE := vt mix NZ NP [] g0 rfl (fun _ _ => rfl) fun O x => by kernel_rfl
theorem VF : Vd Tryz.prog 217 Ji := vt mix Oi Oq [(40, AX), (216, CE)] (gs Bq (gs H1 g0)) rfl (fun _ _ => rfl) fun O x => by kernel_rfl
theorem VZ : Vd Tryz.prog 183 K9 := vt mix QH QK [(40, AX), (118, Aj), (216, CE), (217, Ji)] (gs Bq (gs DN (gs H1 (gs VF g0)))) rfl (fun _ _ => rfl) fun O x => by kernel_rfl
theorem VP : Vd Tryz.prog 145 JC := vt mix O2 PB [(182, C0), (183, K9)] (gs K5 (gs VZ g0)) rfl (fun _ _ => rfl) fun O x => by kernel_rfl
theorem GL : Vd Tryz.prog 158 Bm := vt mix Ju KA [(180, DL)] (gs Lm g0) rfl (fun _ _ => rfl) fun O x => by kernel_rfl
theorem Dm : Vd Tryz.prog 193 BH := vt mix NC NA [] g0 rfl (fun _ _ => rfl) fun O x => by kernel_rfl
theorem DW : Vd Tryz.prog 194 BF := vt mix JU JM [(193, BH)] (gs Dm g0) rfl (fun _ _ => rfl) fun O x => by kernel_rfl
theorem SA : Vd Tryz.prog 236 F4 := vt mix Jq KW [] g0 rfl (fun _ _ => rfl) fun O x => by kernel_rfl
theorem Tv : Vd Tryz.prog 218 IE := vt mix NJ NV [(193, BH), (194, BF), (236, F4)] (gs Dm (gs DW (gs SA g0))) rfl (fun _ _ => rfl) fun O x => by kernel_rfl
theorem Ni : Vd Tryz.prog 237 D6 := vt mix Ge Gf [] g0 rfl (fun _ _ => rfl) fun O x => by kernel_rfl
theorem I5 : Vd Tryz.prog 219 CW := vt mix I3 JO [(237, D6)] (gs Ni g0) rfl (fun _ _ => rfl) fun O x => by kernel_rfl
theorem IK : Vd Tryz.prog 242 CL := vt mix IP Ic [] g0 rfl (fun _ _ => rfl) fun O x => by kernel_rfl
theorem TI : Vd Tryz.prog 238 HH := vt mix LP Ly [(242, CL)] (gs IK g0) rfl (fun _ _ => rfl) fun O x => by kernel_rfl
theorem N1 : Vd Tryz.prog 243 ES := vt mix Hd Hy [] g0 rfl (fun _ _ => rfl) fun O x => by kernel_rfl
theorem L8 : Vd Tryz.prog 239 DC := vt mix Fv Fq [(243, ES)] (gs N1 g0) rfl (fun _ _ => rfl) fun O x => by kernel_rfl
theorem O7 : Vd Tryz.prog 244 EW := vt mix Ht Hb [] g0 rfl (fun _ _ => rfl) fun O x => by kernel_rfl
theorem RJ : Vd Tryz.prog 240 Fb := vt mix JR Jk [(242, CL), (244, EW)] (gs IK (gs O7 g0)) rfl (fun _ _ => rfl) fun O x => by kernel_rfl
theorem K1 : Vd Tryz.prog 245 C1 := vt mix E6 E5 [] g0 rfl (fun _ _ => rfl) fun O x => by kernel_rfl
theorem Mr : Vd Tryz.prog 241 DT := vt mix GJ GO [(245, C1)] (gs K1 g0) rfl (fun _ _ => rfl) fun O x => by kernel_rfl
theorem MQ : Vd Tryz.prog 220 DV := vt mix GY F7 [(238, HH), (239, DC), (240, Fb), (241, DT)] (gs TI (gs L8 (gs RJ (gs Mr g0)))) rfl (fun _ _ => rfl) fun O x => by kernel_rfl
theorem Tz : Vd Tryz.prog 221 H8 := vt mix NY NL [(193, BH), (194, BF)] (gs Dm (gs DW g0)) rfl (fun _ _ => rfl) fun O x => by kernel_rfl
theorem PT : Vd Tryz.prog 184 Ep := vt mix IQ IW [(158, Bm), (218, IE), (219, CW), (220, DV), (221, H8)] (gs GL (gs Tv (gs I5 (gs MQ (gs Tz g0))))) rfl (fun _ _ => rfl) fun O x => by kernel_rfl
theorem Ns : Vd Tryz.prog 222 D7 := vt mix Gl Gk [] g0 rfl (fun _ _ => rfl) fun O x => by kernel_rfl
theorem Pb : Vd Tryz.prog 185 Em := vt mix Ia IU [(219, CW), (222, D7)] (gs I5 (gs Ns g0)) rfl (fun _ _ => rfl) fun O x => by kernel_rfl
theorem U3 : Vd Tryz.prog 186 Jj := vt mix N3 N8 [(179, A9), (181, BA)] (gs DI (gs DG g0)) rfl (fun _ _ => rfl) fun O x => by kernel_rfl
theorem Q0 : Vd Tryz.prog 187 FZ := vt mix I1 I8 [] g0 rfl (fun _ _ => rfl) fun O x => by kernel_rfl
theorem VO : Vd Tryz.prog 188 JT := vt mix OG Oh [(40, AX), (118, Aj), (182, C0), (216, CE)] (gs Bq (gs DN (gs K5 (gs H1 g0)))) rfl (fun _ _ => rfl) fun O x => by kernel_rfl
theorem Rx : Vd Tryz.prog 189 Fy := vt mix J9 Kd [(179, A9)] (gs DI g0) rfl (fun _ _ => rfl) fun O x => by kernel_rfl
theorem Sa : Vd Tryz.prog 146 HE := vt mix Lp LX [(52, Aa), (184, Ep), (185, Em), (186, Jj), (187, FZ), (188, JT), (189, Fy)] (gs BZ (gs PT (gs Pb (gs U3 (gs Q0 (gs VO (gs Rx g0))))))) rfl (fun _ _ => rfl) fun O x => by kernel_rfl
theorem OM : Vd Tryz.prog 190 EK := vt mix O0 PH [(158, Bm), (181, BA)] (gs GL (gs DG g0)) rfl (fun _ _ => rfl) fun O x => by kernel_rfl
theorem Qa : Vd Tryz.prog 147 FY := vt mix I2 JW [(179, A9), (181, BA), (190, EK)] (gs DI (gs DG (gs OM g0))) rfl (fun _ _ => rfl) fun O x => by kernel_rfl
theorem TC : Vd Tryz.prog 148 G0 := vt mix Le Lk [(179, A9), (190, EK)] (gs DI (gs OM g0)) rfl (fun _ _ => rfl) fun O x => by kernel_rfl
theorem NS : Vd Tryz.prog 159 Dt := vt mix M0 Mz [] g0 rfl (fun _ _ => rfl) fun O x => by kernel_rfl
theorem RT : Vd Tryz.prog 149 Gb := vt mix Kc KU [(159, Dt), (179, A9), (181, BA)] (gs NS (gs DI (gs DG g0))) rfl (fun _ _ => rfl) fun O x => by kernel_rfl
theorem Kv : Vd Tryz.prog 192 Cy := vt mix Ps QS [(87, Ai), (88, A3), (89, Av)] (gs B5 (gs Cj (gs CY g0))) rfl (fun _ _ => rfl) fun O x => by kernel_rfl
theorem SR : Vd Tryz.prog 150 GM := vt mix KS J0 [(192, Cy)] (gs Kv g0) rfl (fun _ _ => rfl) fun O x => by kernel_rfl
theorem TH : Vd Tryz.prog 151 HK := vt mix Ll Lt [(192, Cy), (193, BH), (194, BF)] (gs Kv (gs Dm (gs DW g0))) rfl (fun _ _ => rfl) fun O x => by kernel_rfl
theorem OO : Vd Tryz.prog 152 EM := vt mix Hx Hk [(192, Cy), (193, BH), (194, BF)] (gs Kv (gs Dm (gs DW g0))) rfl (fun _ _ => rfl) fun O x => by kernel_rfl
theorem SC : Vd Tryz.prog 153 GN := vt mix KN J7 [(40, AX), (182, C0)] (gs Bq (gs K5 g0)) rfl (fun _ _ => rfl) fun O x => by kernel_rfl
theorem Pd : Vd Tryz.prog 154 Et := vt mix Ie IX [(52, Aa)] (gs BZ g0) rfl (fun _ _ => rfl) fun O x => by kernel_rfl
theorem Id : Vd Tryz.prog 132 CG := vt mix IJ IG [(52, Aa)] (gs BZ g0) rfl (fun _ _ => rfl) fun O x => by kernel_rfl
theorem PZ : Vd Tryz.prog 155 En := vt mix IM II [(52, Aa), (132, CG)] (gs BZ (gs Id g0)) rfl (fun _ _ => rfl) fun O x => by kernel_rfl
theorem RD : Vd Tryz.prog 156 Fa := vt mix JF JY [(52, Aa)] (gs BZ g0) rfl (fun _ _ => rfl) fun O x => by kernel_rfl
theorem Kf : Vd Tryz.prog 97 Cm := vt mix KL KK [] g0 rfl (fun _ _ => rfl) fun O x => by kernel_rfl
theorem QX : Vd Tryz.prog 157 Fg := vt mix Jb JA [(52, Aa), (97, Cm)] (gs BZ (gs Kf g0)) rfl (fun _ _ => rfl) fun O x => by kernel_rfl
theorem PR : Vd Tryz.prog 130 El := vt mix IV Ig [(144, IC), (145, JC), (146, HE), (147, FY), (148, G0), (149, Gb), (150, GM), (151, HK), (152, EM), (153, GN), (154, Et), (155, En), (156, Fa), (157, Fg)] (gs T1 (gs VP (gs Sa (gs Qa (gs TC (gs RT (gs SR (gs TH (gs OO (gs SC (gs Pd (gs PZ (gs RD (gs QX g0)))))))))))))) rfl (fun _ _ => rfl) fun O x => by kernel_rfl
theorem QZ : Vd Tryz.prog 131 Fd := vt mix JE JJ [(41, BB), (158, Bm), (159, Dt)] (gs GZ (gs GL (gs NS g0))) rfl (fun _ _ => rfl) fun O x => by kernel_rfl
theorem Su : Vd Tryz.prog 111 Gw := vt mix L9 L3 [(31, Dr), (41, BB), (52, Aa), (129, GT), (130, El), (131, Fd)] (gs Nc (gs GZ (gs BZ (gs RX (gs PR (gs QZ g0)))))) rfl (fun _ _ => rfl) fun O x => by kernel_rfl
theorem U0 : Vd Tryz.prog 11 I4 := vt mix PD O1 [(14, As), (22, BI), (24, B7), (26, H2), (31, Dr), (42, BT), (49, A8), (50, BQ), (109, GP), (110, G9), (111, Gw), (132, CG)] (gs De (gs FL (gs KX (gs Tn (gs Nc (gs ID (gs FQ (gs Hu (gs SO (gs TA (gs Su (gs Id g0)))))))))))) rfl (fun _ _ => rfl) fun O x => by kernel_rfl
theorem Vb : Vd Tryz.prog 15 Kt := vt mix QA QD [(40, AX), (44, Dk)] (gs Bq (gs NQ g0)) rfl (fun _ _ => rfl) fun O x => by kernel_rfl
theorem Xb : Vd Tryz.prog 29 Ot := vt mix Th Tk [] g0 rfl (fun _ _ => rfl) fun O x => by kernel_rfl
theorem TG : Vd Tryz.prog 57 HC := vt mix L2 Li [(97, Cm)] (gs Kf g0) rfl (fun _ _ => rfl) fun O x => by kernel_rfl
theorem F8 : Vd Tryz.prog 99 Bl := vt mix J1 Km [] g0 rfl (fun _ _ => rfl) fun O x => by kernel_rfl
theorem M8 : Vd Tryz.prog 98 Db := vt mix NK M7 [(99, Bl)] (gs F8 g0) rfl (fun _ _ => rfl) fun O x => by kernel_rfl
theorem Wb : Vd Tryz.prog 100 MN := vt mix RU Rf [(98, Db), (99, Bl)] (gs M8 (gs F8 g0)) rfl (fun _ _ => rfl) fun O x => by kernel_rfl
theorem SM : Vd Tryz.prog 124 GQ := fun N h =>
 WV Tryz.func124 (T3 := 3) (T9 := 9) rfl rfl Tryz.underlying3 Tryz.underlying9 (by kernel_rfl) (fun i hi w => Tryz.internal_strconv_Itoa_small i hi w) h
theorem Sr : Vd Tryz.prog 101 HD := vt mix Lg LS [(124, GQ)] (gs SM g0) rfl (fun _ _ => rfl) fun O x => by kernel_rfl
theorem Ua : Vd Tryz.prog 58 I9 := vt mix N5 Nv [(98, Db), (99, Bl), (100, MN), (101, HD)] (gs M8 (gs F8 (gs Wb (gs Sr g0)))) rfl (fun _ _ => rfl) fun O x => by kernel_rfl
theorem ME : Vd Tryz.prog 138 DU := fun N h =>
 XZ Tryz.func138 (T2 := 2) (T3 := 3) (T9 := 9) rfl rfl Tryz.underlying2 Tryz.underlying3 Tryz.underlying9 (by kernel_rfl) (fun i hi w => Tryz.internal_strconv_FormatInt_10_small i hi w) h
theorem Ng : Vd Tryz.prog 125 D5 := vt mix Gg Gc [(138, DU)] (gs ME g0) rfl (fun _ _ => rfl) fun O x => by kernel_rfl
theorem S9 : Vd Tryz.prog 102 Gz := vt mix LI Lj [(125, D5)] (gs Ng g0) rfl (fun _ _ => rfl) fun O x => by kernel_rfl
theorem LY : Vd Tryz.prog 59 DD := vt mix LC Lw [(102, Gz)] (gs S9 g0) rfl (fun _ _ => rfl) fun O x => by kernel_rfl
theorem S6 : Vd Tryz.prog 60 Gr := vt mix L0 LZ [(59, DD)] (gs LY g0) rfl (fun _ _ => rfl) fun O x => by kernel_rfl
theorem Sg : Vd Tryz.prog 61 G7 := fun N h =>
 Wo Tryz.func61 (T8 := 86) (T9 := 9) rfl rfl Tryz.underlying86 Tryz.underlying9 (by kernel_rfl) (fun a c sep w => Tryz.strings_Join_none a c sep w) (fun bk o c xs sep w h1 h2 h3 h4 h5 => Tryz.strings_Join bk o c xs sep w h1 h2 h3 h4 h5) h
theorem UP : Vd Tryz.prog 30 Jh := vt mix Og Nw [(14, As), (57, HC), (58, I9), (59, DD), (60, Gr), (61, G7)] (gs De (gs TG (gs Ua (gs LY (gs S6 (gs Sg g0)))))) rfl (fun _ _ => rfl) fun O x => by kernel_rfl
theorem VY : Vd Tryz.prog 9 FA := vt mix Pq Py [(11, I4), (15, Kt), (29, Ot), (30, Jh)] (gs U0 (gs Vb (gs Xb (gs UP g0)))) rfl (fun _ _ => rfl) fun O x => by kernel_rfl
def TO : Cfg := { gam := [], imm := false, old := true }
theorem Wc (O : Alg) (x : Ags O) : XF (O := O) Tryz.prog TO false false [] 10 [] (xr x Of 0) = Ho O x := by kernel_rfl
theorem W9 {E : Env} {M : Nat} (N : Nat) (h : ∀ ls, E 10 [] ls = Hg N ls) : VV Tryz.prog E M ⟨10, [], false, false, []⟩ :=
 Fu mix (E := E3 N) (N := N) (cfg := TO) (ci := ⟨10, [], false, false, []⟩) (ks := Of) Lu (c := Hg N) (F := fun ls => Ho (std (E3 N) N) (xOf ls)) (fun ls => rfl) (fun ls => Wc (std (E3 N) N) (xOf ls)) h
theorem Wm : Vd Tryz.prog 84 F0 := vt mix RO Iw [] g0 rfl (fun _ _ => rfl) fun O x => by kernel_rfl
theorem Xh : Vd Tryz.prog 85 JX := vt mix VG Uz [] g0 rfl (fun _ _ => rfl) fun O x => by kernel_rfl
theorem P6 : Vd Tryz.prog 45 Bw := vt mix QF HX [(84, F0), (85, JX)] (gs Wm (gs Xh g0)) rfl (fun _ _ => rfl) fun O x => by kernel_rfl
theorem Pv : Vd Tryz.prog 51 Cz := vt mix QB HL [] g0 rfl (fun _ _ => rfl) fun O x => by kernel_rfl
theorem Oj : Vd Tryz.prog 48 CT := vt mix Ob GV [(51, Cz)] (gs Pv g0) rfl (fun _ _ => rfl) fun O x => by kernel_rfl
theorem U2 : Vd Tryz.prog 121 EV := vt mix VI VR [] g0 rfl (fun _ _ => rfl) fun O x => by kernel_rfl
theorem XU : Vd Tryz.prog 122 Hj := vt mix Tj Kb [(121, EV)] (gs U2 g0) rfl (fun _ _ => rfl) fun O x => by kernel_rfl
theorem Ve : Vd Tryz.prog 133 Eu := vt mix P1 HP [] g0 rfl (fun _ _ => rfl) fun O x => by kernel_rfl
theorem T0 : Vd Tryz.prog 123 Dg := vt mix NG FJ [(133, Eu)] (gs Ve g0) rfl (fun _ _ => rfl) fun O x => by kernel_rfl
theorem VT : Vd Tryz.prog 86 Dv := vt mix QT HT [(45, Bw), (121, EV), (122, Hj), (123, Dg)] (gs P6 (gs U2 (gs XU (gs T0 g0)))) rfl (fun _ _ => rfl) fun O x => by kernel_rfl
theorem SK : Vd Tryz.prog 47 Cl := vt mix KP EA [(48, CT), (86, Dv)] (gs Oj (gs VT g0)) rfl (fun _ _ => rfl) fun O x => by kernel_rfl
theorem Ks : Vd Tryz.prog 19 CP := vt mix QU HV [(45, Bw), (47, Cl)] (gs P6 (gs SK g0)) rfl (fun _ _ => rfl) fun O x => by kernel_rfl
theorem Ro : Vd Tryz.prog 20 EE := vt mix KE EG [(14, As), (42, BT)] (gs De (gs ID g0)) rfl (fun _ _ => rfl) fun O x => by kernel_rfl
def Ry : Cfg := { gam := [], imm := false, old := false }
theorem Vl (O : Alg) (x : Ags O) : XF (O := O) Tryz.prog Ry false false [] 36 [] (xr x MV 0) = GX O x := by kernel_rfl
theorem R1 {E : Env} {M : Nat} (N : Nat) (h : ∀ ls, E 36 [] ls = DZ N ls) : VV Tryz.prog E M ⟨36, [], false, false, []⟩ :=
 Fu mix (E := EZ N) (N := N) (cfg := Ry) (ci := ⟨36, [], false, false, []⟩) (ks := MV) Lu (c := DZ N) (F := fun ls => GX (std (EZ N) N) (xOf ls)) (fun ls => rfl) (fun ls => Vl (std (EZ N) N) (xOf ls)) h
def NE : Cfg := { gam := [⟨19, [], true, true, []⟩, ⟨36, [], false, false, []⟩, ⟨48, [], true, true, []⟩], imm := false, old := false }
theorem Sx (O : Alg) (x : Ags O) : XF (O := O) Tryz.prog NE true true [] 21 [] (xr x H9 0) = Dj O x := by kernel_rfl
theorem T6 : Vd Tryz.prog 21 Dc := fun N h =>
 Fu mix (E := Ba N) (N := N) (cfg := NE) (ci := ⟨21, [], true, true, []⟩) (ks := H9) (BP (Ks N (fun _ => rfl)) (BP (R1 N (fun _ => rfl)) (BP (Oj N (fun _ => rfl)) Lu))) (c := Dc N) (F := fun ls => Dj (std (Ba N) N) (xOf ls)) (fun ls => rfl) (fun ls => Sx (std (Ba N) N) (xOf ls)) h
theorem QJ : Vd Tryz.prog 23 Du := vt mix Pt HN [] g0 rfl (fun _ _ => rfl) fun O x => by kernel_rfl
def NM : Cfg := { gam := [⟨19, [], true, true, []⟩, ⟨23, [], true, true, []⟩, ⟨36, [], false, false, []⟩, ⟨51, [], true, true, []⟩], imm := false, old := false }
theorem Si (O : Alg) (x : Ags O) : XF (O := O) Tryz.prog NM true true [] 25 [] (xr x H4 0) = Dd O x := by kernel_rfl
theorem Tm : Vd Tryz.prog 25 Dq := fun N h =>
 Fu mix (E := BM N) (N := N) (cfg := NM) (ci := ⟨25, [], true, true, []⟩) (ks := H4) (BP (Ks N (fun _ => rfl)) (BP (QJ N (fun _ => rfl)) (BP (R1 N (fun _ => rfl)) (BP (Pv N (fun _ => rfl)) Lu)))) (c := Dq N) (F := fun ls => Dd (std (BM N) N) (xOf ls)) (fun ls => rfl) (fun ls => Si (std (BM N) N) (xOf ls)) h
def JZ : Cfg := { gam := [⟨9, [], true, true, []⟩, ⟨10, [], false, false, []⟩, ⟨14, [], true, true, []⟩, ⟨19, [], true, true, []⟩, ⟨20, [], true, true, []⟩, ⟨21, [], true, true, []⟩, ⟨22, [], true, true, []⟩, ⟨23, [], true, true, []⟩, ⟨24, [], true, true, []⟩, ⟨25, [], true, true, []⟩], imm := false, old := false }
theorem Pi (O : Alg) (x : Ags O) : XF (O := O) Tryz.prog JZ true true [] 6 [] (xr x FX 0) = CS O x := by kernel_rfl
theorem RB : Vd Tryz.prog 6 CX := fun N h =>
 Fu mix (E := AW N) (N := N) (cfg := JZ) (ci := ⟨6, [], true, true, []⟩) (ks := FX) (BP (VY N (fun _ => rfl)) (BP (W9 N (fun _ => rfl)) (BP (De N (fun _ => rfl)) (BP (Ks N (fun _ => rfl)) (BP (Ro N (fun _ => rfl)) (BP (T6 N (fun _ => rfl)) (BP (FL N (fun _ => rfl)) (BP (QJ N (fun _ => rfl)) (BP (KX N (fun _ => rfl)) (BP (Tm N (fun _ => rfl)) Lu)))))))))) (c := CX N) (F := fun ls => CS (std (AW N) N) (xOf ls)) (fun ls => rfl) (fun ls => Pi (std (AW N) N) (xOf ls)) h
end Go.Px
