/- Part 14. -/
import Derived.Test.YtapipgdcgmmkaaaGreatDoorPart06
import Derived.Test.YtapipgdcgmmkaaaGreatDoorProg
import Derived.Test.YtapipgdcgmmkaaaGreatDoorPart09
import Derived.KernelRfl
import Derived.WalkKit
import Derived.Lib.Walk
import Derived.BigCall
import Derived.BigGuard
import Derived.Test.YtapipgdcgmmkaaaGreatDoorPart13
set_option linter.unusedVariables false
set_option linter.unusedSimpArgs false
namespace Go.Px
open Go.Proofs
set_option maxRecDepth 100000
theorem mix : Tryz.prog.follows .mixedOrders = true := by kernel_rfl
theorem md : Vd Tryz.prog 76 KP := vt mix bT O6 [] g0 rfl (fun _ _ => rfl) fun O x => by kernel_rfl
theorem TL : Vd Tryz.prog 117 CN := vt mix T0 Tt [] g0 rfl (fun _ _ => rfl) fun O x => by kernel_rfl
theorem eh : Vd Tryz.prog 77 Fk := vt mix UB Ie [(117, CN)] (gs TL g0) rfl (fun _ _ => rfl) fun O x => by kernel_rfl
theorem iC : Vd Tryz.prog 78 Gi := vt mix Vb Jp [(117, CN)] (gs TL g0) rfl (fun _ _ => rfl) fun O x => by kernel_rfl
theorem C0 : Vd Tryz.prog 40 Aa := vt mix YK Km [(76, KP), (77, Fk), (78, Gi)] (gs md (gs eh (gs iC g0))) rfl (fun _ _ => rfl) fun O x => by kernel_rfl
theorem Dz : Vd Tryz.prog 79 Ah := vt mix Qd Qr [] g0 rfl (fun _ _ => rfl) fun O x => by kernel_rfl
theorem aw : Vd Tryz.prog 80 Dy := vt mix Qa F6 [(79, Ah)] (gs Dz g0) rfl (fun _ _ => rfl) fun O x => by kernel_rfl
theorem Zu : Vd Tryz.prog 136 DS := vt mix P3 FV [] g0 rfl (fun _ _ => rfl) fun O x => by kernel_rfl
theorem GA : Vd Tryz.prog 118 Ap := vt mix Lq Dg [(136, DS)] (gs Zu g0) rfl (fun _ _ => rfl) fun O x => by kernel_rfl
theorem YX : Vd Tryz.prog 81 C8 := vt mix N2 Eo [(79, Ah), (118, Ap)] (gs Dz (gs GA g0)) rfl (fun _ _ => rfl) fun O x => by kernel_rfl
theorem YM : Vd Tryz.prog 120 DA := vt mix Nt Ep [(79, Ah)] (gs Dz g0) rfl (fun _ _ => rfl) fun O x => by kernel_rfl
theorem aa : Vd Tryz.prog 82 Dv := vt mix Qq F3 [(120, DA)] (gs YM g0) rfl (fun _ _ => rfl) fun O x => by kernel_rfl
theorem M7 : Vd Tryz.prog 41 BF := vt mix Tm IJ [(40, Aa), (79, Ah), (80, Dy), (81, C8), (82, Dv)] (gs C0 (gs Dz (gs aw (gs YX (gs aa g0))))) rfl (fun _ _ => rfl) fun O x => by kernel_rfl
theorem LF : Vd Tryz.prog 49 BD := vt mix X9 Kk [] g0 rfl (fun _ _ => rfl) fun O x => by kernel_rfl
theorem X6 : Vd Tryz.prog 42 Cz := vt mix Xt K5 [(49, BD)] (gs LF g0) rfl (fun _ _ => rfl) fun O x => by kernel_rfl
theorem i4 : Vd Tryz.prog 43 Hs := vt mix YD Kl [] g0 rfl (fun _ _ => rfl) fun O x => by kernel_rfl
theorem QP : Vd Tryz.prog 14 CB := vt mix X1 Ko [(40, Aa), (41, BF), (42, Cz), (43, Hs)] (gs C0 (gs M7 (gs X6 (gs i4 g0)))) rfl (fun _ _ => rfl) fun O x => by kernel_rfl
theorem QT : Vd Tryz.prog 22 Bj := vt mix Xi Kq [] g0 rfl (fun _ _ => rfl) fun O x => by kernel_rfl
theorem P5 : Vd Tryz.prog 50 BZ := vt mix PW FU [] g0 rfl (fun _ _ => rfl) fun O x => by kernel_rfl
theorem gA : Vd Tryz.prog 24 Fe := vt mix Tr II [(14, CB), (22, Bj), (49, BD), (50, BZ)] (gs QP (gs QT (gs LF (gs P5 g0)))) rfl (fun _ _ => rfl) fun O x => by kernel_rfl
theorem WX : Vd Tryz.prog 83 Cw := fun N h =>
 PT mix (T := 22) (e := 68) (b := 24) Tryz.func83 Tryz.underlying22 (by kernel_rfl) (by decide) (fun O l => by kernel_rfl) (fun O l => by kernel_rfl) h
theorem YE : Vd Tryz.prog 44 Dp := vt mix Xw Kz [(83, Cw)] (gs WX g0) rfl (fun _ _ => rfl) fun O x => by kernel_rfl
theorem Db : Vd Tryz.prog 87 AY := fun N h =>
 PT mix (T := 60) (e := 66) (b := 1) Tryz.func87 Tryz.underlying60 (by kernel_rfl) (by decide) (fun O l => by kernel_rfl) (fun O l => by kernel_rfl) h
theorem Fd : Vd Tryz.prog 88 Af := fun N h =>
 PT mix (T := 61) (e := 3) (b := 8) Tryz.func88 Tryz.underlying61 (by kernel_rfl) (by decide) (fun O l => by kernel_rfl) (fun O l => by kernel_rfl) h
theorem Em : Vd Tryz.prog 89 Ac := fun N h =>
 PT mix (T := 62) (e := 4) (b := 1) Tryz.func89 Tryz.underlying62 (by kernel_rfl) (by decide) (fun O l => by kernel_rfl) (fun O l => by kernel_rfl) h
theorem CL : Vd Tryz.prog 52 AP := vt mix Tq Ia [(87, AY), (88, Af), (89, Ac)] (gs Db (gs Fd (gs Em g0))) rfl (fun _ _ => rfl) fun O x => by kernel_rfl
theorem jD : Vd Tryz.prog 26 Hu := vt mix X4 K1 [(44, Dp), (52, AP)] (gs YE (gs CL g0)) rfl (fun _ _ => rfl) fun O x => by kernel_rfl
theorem gD : Vd Tryz.prog 62 Gd := vt mix Vg Jb [] g0 rfl (fun _ _ => rfl) fun O x => by kernel_rfl
theorem fe : Vd Tryz.prog 63 FW := vt mix Ti L9 [] g0 rfl (fun _ _ => rfl) fun O x => by kernel_rfl
open Go.RowKit Go.Lib in
set_option maxHeartbeats 1000000 in
theorem Rk (s : ByteArray) (c : Int) (w : World) : Calls Tryz.prog 128 #[.string s, .int .u8 c] w fun e w' => e = .returned (.int .i64 (Lib.indexByte s.data.toList c.toNat.toUInt8)) ∧ w' = w := by
 go_enter Tryz.func128, Tryz.ntmps128
 go_wp2
 rw [run_callFunc_extern Tryz.func141 (by kernel_rfl) (by kernel_rfl) (by kernel_rfl) (e := Extern.BytealgIndexByte.indexByte) (by kernel_rfl), Lib.run_indexByteString]
 simp only [Result.andThen]
 rw [Oper.upon_value]
 go_wp2
 go_ret
 exact ⟨rfl, rfl⟩
theorem S0 : Vd Tryz.prog 128 CH := fun N h =>
 nO Tryz.func128 (T9 := 9) (T5 := 5) (T3 := 3) rfl rfl Tryz.underlying9 Tryz.underlying5 Tryz.underlying3 (by kernel_rfl) Rk h
theorem Yb : Vd Tryz.prog 106 C9 := vt mix Nv Er [(128, CH)] (gs S0 g0) rfl (fun _ _ => rfl) fun O x => by kernel_rfl
theorem i6 : Vd Tryz.prog 107 FA := vt mix X2 Xj [] g0 rfl (fun _ _ => rfl) fun O x => by kernel_rfl
theorem lB : Vd Tryz.prog 64 JH := vt mix Zv Mi [(106, C9), (107, FA)] (gs Yb (gs i6 g0)) rfl (fun _ _ => rfl) fun O x => by kernel_rfl
theorem Z9 : Vd Tryz.prog 108 DN := vt mix Pv JJ [] g0 rfl (fun _ _ => rfl) fun O x => by kernel_rfl
theorem cn : Vd Tryz.prog 65 ET := vt mix SP HW [(108, DN)] (gs Z9 g0) rfl (fun _ _ => rfl) fun O x => by kernel_rfl
theorem Xb : Vd Tryz.prog 31 Cy := vt mix Xh He [(62, Gd), (63, FW), (64, JH), (65, ET)] (gs gD (gs fe (gs lB (gs cn g0)))) rfl (fun _ _ => rfl) fun O x => by kernel_rfl
theorem fW : Vd Tryz.prog 109 Fj := vt mix Tn Ib [(40, Aa), (79, Ah)] (gs C0 (gs Dz g0)) rfl (fun _ _ => rfl) fun O x => by kernel_rfl
theorem g9 : Vd Tryz.prog 110 GH := vt mix VJ JX [(22, Bj), (49, BD)] (gs QT (gs LF g0)) rfl (fun _ _ => rfl) fun O x => by kernel_rfl
theorem au : Vd Tryz.prog 143 D3 := vt mix Qc J1 [] g0 rfl (fun _ _ => rfl) fun O x => by kernel_rfl
theorem fh : Vd Tryz.prog 129 FC := vt mix UH IR [(143, D3)] (gs au g0) rfl (fun _ _ => rfl) fun O x => by kernel_rfl
theorem GJ : Vd Tryz.prog 179 Av := vt mix Zf Ma [(87, AY), (88, Af), (89, Ac)] (gs Db (gs Fd (gs Em g0))) rfl (fun _ _ => rfl) fun O x => by kernel_rfl
theorem cY : Vd Tryz.prog 215 Ce := vt mix ST LP [] g0 rfl (fun _ _ => rfl) fun O x => by kernel_rfl
theorem VI : Vd Tryz.prog 180 Bl := vt mix U7 EH [(215, Ce)] (gs cY g0) rfl (fun _ _ => rfl) fun O x => by kernel_rfl
theorem GS : Vd Tryz.prog 181 Aw := vt mix Vo Jj [] g0 rfl (fun _ _ => rfl) fun O x => by kernel_rfl
theorem jI : Vd Tryz.prog 144 Hk := vt mix Xx K2 [(179, Av), (180, Bl), (181, Aw)] (gs GJ (gs VI (gs GS g0))) rfl (fun _ _ => rfl) fun O x => by kernel_rfl
theorem Up : Vd Tryz.prog 182 CV := vt mix bK Ov [(87, AY), (88, Af), (89, Ac)] (gs Db (gs Fd (gs Em g0))) rfl (fun _ _ => rfl) fun O x => by kernel_rfl
theorem QU : Vd Tryz.prog 216 Bi := vt mix Xq Ky [] g0 rfl (fun _ _ => rfl) fun O x => by kernel_rfl
theorem kt : Vd Tryz.prog 217 Iu := vt mix Z0 Mn [(40, Aa), (216, Bi)] (gs C0 (gs QU g0)) rfl (fun _ _ => rfl) fun O x => by kernel_rfl
theorem nN : Vd Tryz.prog 183 KO := vt mix ba PL [(40, Aa), (118, Ap), (216, Bi), (217, Iu)] (gs C0 (gs GA (gs QU (gs kt g0)))) rfl (fun _ _ => rfl) fun O x => by kernel_rfl
theorem lC : Vd Tryz.prog 145 Ip := vt mix Y0 My [(182, CV), (183, KO)] (gs Up (gs nN g0)) rfl (fun _ _ => rfl) fun O x => by kernel_rfl
theorem MY : Vd Tryz.prog 158 BE := vt mix Tc Di [(180, Bl)] (gs VI g0) rfl (fun _ _ => rfl) fun O x => by kernel_rfl
theorem Hn : Vd Tryz.prog 193 Az := vt mix X5 K3 [] g0 rfl (fun _ _ => rfl) fun O x => by kernel_rfl
theorem HP : Vd Tryz.prog 194 Ay := vt mix Sc HI [(193, Az)] (gs Hn g0) rfl (fun _ _ => rfl) fun O x => by kernel_rfl
theorem ek : Vd Tryz.prog 236 Fh := vt mix TT Id [] g0 rfl (fun _ _ => rfl) fun O x => by kernel_rfl
theorem jO : Vd Tryz.prog 218 Hq := vt mix YB Kx [(193, Az), (194, Ay), (236, Fh)] (gs Hn (gs HP (gs ek g0))) rfl (fun _ _ => rfl) fun O x => by kernel_rfl
theorem YT : Vd Tryz.prog 237 C7 := vt mix N5 Es [] g0 rfl (fun _ _ => rfl) fun O x => by kernel_rfl
theorem SA : Vd Tryz.prog 219 B6 := vt mix Sb HL [(237, C7)] (gs YT g0) rfl (fun _ _ => rfl) fun O x => by kernel_rfl
theorem Qe : Vd Tryz.prog 242 BV := vt mix Qi Ql [] g0 rfl (fun _ _ => rfl) fun O x => by kernel_rfl
theorem gl : Vd Tryz.prog 238 GW := vt mix VK Jn [(242, BV)] (gs Qe g0) rfl (fun _ _ => rfl) fun O x => by kernel_rfl
theorem Yy : Vd Tryz.prog 243 DM := vt mix Ps FD [] g0 rfl (fun _ _ => rfl) fun O x => by kernel_rfl
theorem Vu : Vd Tryz.prog 239 Cg := vt mix Lr Dc [(243, DM)] (gs Yy g0) rfl (fun _ _ => rfl) fun O x => by kernel_rfl
theorem Za : Vd Tryz.prog 244 Da := vt mix P0 FQ [] g0 rfl (fun _ _ => rfl) fun O x => by kernel_rfl
theorem cm : Vd Tryz.prog 240 EX := vt mix Sa G9 [(242, BV), (244, Da)] (gs Qe (gs Za g0)) rfl (fun _ _ => rfl) fun O x => by kernel_rfl
theorem UU : Vd Tryz.prog 245 CS := vt mix KI DL [] g0 rfl (fun _ _ => rfl) fun O x => by kernel_rfl
theorem XE : Vd Tryz.prog 241 Cv := vt mix Ng D8 [(245, CS)] (gs UU g0) rfl (fun _ _ => rfl) fun O x => by kernel_rfl
theorem XN : Vd Tryz.prog 220 Cp := vt mix Mq D7 [(238, GW), (239, Cg), (240, EX), (241, Cv)] (gs gl (gs Vu (gs cm (gs XE g0)))) rfl (fun _ _ => rfl) fun O x => by kernel_rfl
theorem jP : Vd Tryz.prog 221 Hp := vt mix Xv Kj [(193, Az), (194, Ay)] (gs Hn (gs HP g0)) rfl (fun _ _ => rfl) fun O x => by kernel_rfl
theorem ay : Vd Tryz.prog 184 Dt := vt mix Qp Fy [(158, BE), (218, Hq), (219, B6), (220, Cp), (221, Hp)] (gs MY (gs jO (gs SA (gs XN (gs jP g0))))) rfl (fun _ _ => rfl) fun O x => by kernel_rfl
theorem YL : Vd Tryz.prog 222 DB := vt mix Nu En [] g0 rfl (fun _ _ => rfl) fun O x => by kernel_rfl
theorem am : Vd Tryz.prog 185 D0 := vt mix Qn F0 [(219, B6), (222, DB)] (gs SA (gs YL g0)) rfl (fun _ _ => rfl) fun O x => by kernel_rfl
theorem kz : Vd Tryz.prog 186 JF := vt mix Zy M5 [(179, Av), (181, Aw)] (gs GJ (gs GS g0)) rfl (fun _ _ => rfl) fun O x => by kernel_rfl
theorem dW : Vd Tryz.prog 187 EW := vt mix SB SW [] g0 rfl (fun _ _ => rfl) fun O x => by kernel_rfl
theorem mA : Vd Tryz.prog 188 JK := vt mix ZY M8 [(40, Aa), (118, Ap), (182, CV), (216, Bi)] (gs C0 (gs GA (gs Up (gs QU g0)))) rfl (fun _ _ => rfl) fun O x => by kernel_rfl
theorem fX : Vd Tryz.prog 189 FT := vt mix TN IQ [(179, Av)] (gs GJ g0) rfl (fun _ _ => rfl) fun O x => by kernel_rfl
theorem gF : Vd Tryz.prog 146 GP := vt mix VG Js [(52, AP), (184, Dt), (185, D0), (186, JF), (187, EW), (188, JK), (189, FT)] (gs CL (gs ay (gs am (gs kz (gs dW (gs mA (gs fX g0))))))) rfl (fun _ _ => rfl) fun O x => by kernel_rfl
theorem Zb : Vd Tryz.prog 190 DX := vt mix Z3 Md [(158, BE), (181, Aw)] (gs MY (gs GS g0)) rfl (fun _ _ => rfl) fun O x => by kernel_rfl
theorem dM : Vd Tryz.prog 147 Eh := vt mix Sw HF [(179, Av), (181, Aw), (190, DX)] (gs GJ (gs GS (gs Zb g0))) rfl (fun _ _ => rfl) fun O x => by kernel_rfl
theorem iG : Vd Tryz.prog 148 Gf := vt mix U8 Ji [(179, Av), (190, DX)] (gs GJ (gs Zb g0)) rfl (fun _ _ => rfl) fun O x => by kernel_rfl
theorem Xp : Vd Tryz.prog 159 CZ := vt mix Xf E7 [] g0 rfl (fun _ _ => rfl) fun O x => by kernel_rfl
theorem f8 : Vd Tryz.prog 149 Ff := vt mix Tx Ic [(159, CZ), (179, Av), (181, Aw)] (gs Xp (gs GJ (gs GS g0))) rfl (fun _ _ => rfl) fun O x => by kernel_rfl
theorem UX : Vd Tryz.prog 192 CT := vt mix bo O1 [(87, AY), (88, Af), (89, Ac)] (gs Db (gs Fd (gs Em g0))) rfl (fun _ _ => rfl) fun O x => by kernel_rfl
theorem eP : Vd Tryz.prog 150 FP := vt mix TI IP [(192, CT)] (gs UX g0) rfl (fun _ _ => rfl) fun O x => by kernel_rfl
theorem gY : Vd Tryz.prog 151 Gp := vt mix VD JT [(192, CT), (193, Az), (194, Ay)] (gs UX (gs Hn (gs HP g0))) rfl (fun _ _ => rfl) fun O x => by kernel_rfl
theorem Yv : Vd Tryz.prog 152 DR := vt mix PZ Fb [(192, CT), (193, Az), (194, Ay)] (gs UX (gs Hn (gs HP g0))) rfl (fun _ _ => rfl) fun O x => by kernel_rfl
theorem fO : Vd Tryz.prog 153 FN := vt mix TW IZ [(40, Aa), (182, CV)] (gs C0 (gs Up g0)) rfl (fun _ _ => rfl) fun O x => by kernel_rfl
theorem al : Vd Tryz.prog 154 Du := vt mix Qo F5 [(52, AP)] (gs CL g0) rfl (fun _ _ => rfl) fun O x => by kernel_rfl
theorem Qf : Vd Tryz.prog 132 Bu := vt mix Qt F7 [(52, AP)] (gs CL g0) rfl (fun _ _ => rfl) fun O x => by kernel_rfl
theorem aW : Vd Tryz.prog 155 D2 := vt mix Qs F1 [(52, AP), (132, Bu)] (gs CL (gs Qf g0)) rfl (fun _ _ => rfl) fun O x => by kernel_rfl
theorem ce : Vd Tryz.prog 156 EN := vt mix Ru Eg [(52, AP)] (gs CL g0) rfl (fun _ _ => rfl) fun O x => by kernel_rfl
theorem UC : Vd Tryz.prog 97 Cl := vt mix Tg Td [] g0 rfl (fun _ _ => rfl) fun O x => by kernel_rfl
theorem dD : Vd Tryz.prog 157 EL := vt mix R5 HB [(52, AP), (97, Cl)] (gs CL (gs UC g0)) rfl (fun _ _ => rfl) fun O x => by kernel_rfl
theorem ai : Vd Tryz.prog 130 Dw := vt mix Qh D1 [(144, Hk), (145, Ip), (146, GP), (147, Eh), (148, Gf), (149, Ff), (150, FP), (151, Gp), (152, DR), (153, FN), (154, Du), (155, D2), (156, EN), (157, EL)] (gs jI (gs lC (gs gF (gs dM (gs iG (gs f8 (gs eP (gs gY (gs Yv (gs fO (gs al (gs aW (gs ce (gs dD g0)))))))))))))) rfl (fun _ _ => rfl) fun O x => by kernel_rfl
theorem dY : Vd Tryz.prog 131 DD := vt mix Rz HJ [(41, BF), (158, BE), (159, CZ)] (gs M7 (gs MY (gs Xp g0))) rfl (fun _ _ => rfl) fun O x => by kernel_rfl
theorem ge : Vd Tryz.prog 111 GQ := vt mix V3 JQ [(31, Cy), (41, BF), (52, AP), (129, FC), (130, Dw), (131, DD)] (gs Xb (gs M7 (gs CL (gs fh (gs ai (gs dY g0)))))) rfl (fun _ _ => rfl) fun O x => by kernel_rfl
theorem Ym : Vd Tryz.prog 11 GB := vt mix Z7 MP [(14, CB), (22, Bj), (24, Fe), (26, Hu), (31, Cy), (42, Cz), (49, BD), (50, BZ), (109, Fj), (110, GH), (111, GQ), (132, Bu)] (gs QP (gs QT (gs gA (gs jD (gs Xb (gs X6 (gs LF (gs P5 (gs fW (gs g9 (gs ge (gs Qf g0)))))))))))) rfl (fun _ _ => rfl) fun O x => by kernel_rfl
theorem nR : Vd Tryz.prog 15 Ug := vt mix cD bB [(40, Aa), (44, Dp)] (gs C0 (gs YE g0)) rfl (fun _ _ => rfl) fun O x => by kernel_rfl
theorem qs : Vd Tryz.prog 29 ZC := vt mix ib iP [] g0 rfl (fun _ _ => rfl) fun O x => by kernel_rfl
theorem hP : Vd Tryz.prog 57 OG := vt mix VT V0 [(97, Cl)] (gs UC g0) rfl (fun _ _ => rfl) fun O x => by kernel_rfl
theorem NW : Vd Tryz.prog 99 Cs := vt mix T7 UE [] g0 rfl (fun _ _ => rfl) fun O x => by kernel_rfl
theorem Xl : Vd Tryz.prog 98 Ht := vt mix Xk Xr [(99, Cs)] (gs NW g0) rfl (fun _ _ => rfl) fun O x => by kernel_rfl
theorem oz : Vd Tryz.prog 100 WT := vt mix gC eV [(98, Ht), (99, Cs)] (gs Xl (gs NW g0)) rfl (fun _ _ => rfl) fun O x => by kernel_rfl
theorem fi : Vd Tryz.prog 124 NL := fun N h =>
 pX Tryz.func124 (T3 := 3) (T9 := 9) rfl rfl Tryz.underlying3 Tryz.underlying9 (by kernel_rfl) (fun i hi w => Tryz.internal_strconv_Itoa_small i hi w) h
theorem hZ : Vd Tryz.prog 101 ON := vt mix VS VH [(124, NL)] (gs fi g0) rfl (fun _ _ => rfl) fun O x => by kernel_rfl
theorem lR : Vd Tryz.prog 58 Sx := vt mix Yr aG [(98, Ht), (99, Cs), (100, WT), (101, ON)] (gs Xl (gs NW (gs oz (gs hZ g0)))) rfl (fun _ _ => rfl) fun O x => by kernel_rfl
theorem WK : Vd Tryz.prog 138 HT := fun N h =>
 qp Tryz.func138 (T2 := 2) (T3 := 3) (T9 := 9) rfl rfl Tryz.underlying2 Tryz.underlying3 Tryz.underlying9 (by kernel_rfl) (fun i hi w => Tryz.internal_strconv_FormatInt_10_small i hi w) h
theorem YV : Vd Tryz.prog 125 ID := vt mix Ny N0 [(138, HT)] (gs WK g0) rfl (fun _ _ => rfl) fun O x => by kernel_rfl
theorem hO : Vd Tryz.prog 102 OW := vt mix U5 Vl [(125, ID)] (gs YV g0) rfl (fun _ _ => rfl) fun O x => by kernel_rfl
theorem Vx : Vd Tryz.prog 59 Gw := vt mix Vp Vm [(102, OW)] (gs hO g0) rfl (fun _ _ => rfl) fun O x => by kernel_rfl
theorem gz : Vd Tryz.prog 60 Oa := vt mix V2 VX [(59, Gw)] (gs Vx g0) rfl (fun _ _ => rfl) fun O x => by kernel_rfl
theorem gZ : Vd Tryz.prog 61 OZ := fun N h =>
 o6 Tryz.func61 (T8 := 86) (T9 := 9) rfl rfl Tryz.underlying86 Tryz.underlying9 (by kernel_rfl) (fun a c sep w => Tryz.strings_Join_none a c sep w) (fun bk o c xs sep w h1 h2 h3 h4 h5 => Tryz.strings_Join bk o c xs sep w h1 h2 h3 h4 h5) h
theorem mM : Vd Tryz.prog 30 Rw := vt mix Y4 Y9 [(14, CB), (57, OG), (58, Sx), (59, Gw), (60, Oa), (61, OZ)] (gs QP (gs hP (gs lR (gs Vx (gs gz (gs gZ g0)))))) rfl (fun _ _ => rfl) fun O x => by kernel_rfl
theorem mf : Vd Tryz.prog 9 KY := vt mix bC bX [(11, GB), (15, Ug), (29, ZC), (30, Rw)] (gs Ym (gs nR (gs qs (gs mM g0)))) rfl (fun _ _ => rfl) fun O x => by kernel_rfl
def iT : Cfg := { gam := [], imm := false, old := true }
theorem oF (O : Alg) (x : Ags O) : XF (O := O) Tryz.prog iT false false [] 10 [] (xr x Zx 0) = Pk O x := by kernel_rfl
theorem qj {E : Env} {M : Nat} (N : Nat) (h : ∀ ls, E 10 [] ls = P8 N ls) : VV Tryz.prog E M ⟨10, [], false, false, []⟩ :=
 Bt mix (E := KN N) (N := N) (cfg := iT) (ci := ⟨10, [], false, false, []⟩) (ks := Zx) DF (c := P8 N) (F := fun ls => Pk (std (KN N) N) (xOf ls)) (fun ls => rfl) (fun ls => oF (std (KN N) N) (xOf ls)) h
theorem pB : Vd Tryz.prog 84 L8 := vt mix eR Q0 [] g0 rfl (fun _ _ => rfl) fun O x => by kernel_rfl
theorem ri : Vd Tryz.prog 85 Se := vt mix lV lA [] g0 rfl (fun _ _ => rfl) fun O x => by kernel_rfl
theorem Fp : Vd Tryz.prog 45 Ao := vt mix cJ Oz [(84, L8), (85, Se)] (gs pB (gs ri g0)) rfl (fun _ _ => rfl) fun O x => by kernel_rfl
theorem KF : Vd Tryz.prog 51 Bo := vt mix bF PK [] g0 rfl (fun _ _ => rfl) fun O x => by kernel_rfl
theorem aC : Vd Tryz.prog 48 EM := vt mix Z8 Mu [(51, Bo)] (gs KF g0) rfl (fun _ _ => rfl) fun O x => by kernel_rfl
theorem cw : Vd Tryz.prog 121 ES := vt mix mJ kr [] g0 rfl (fun _ _ => rfl) fun O x => by kernel_rfl
theorem pm : Vd Tryz.prog 122 Pg := vt mix iR Ty [(121, ES)] (gs cw g0) rfl (fun _ _ => rfl) fun O x => by kernel_rfl
theorem Ou : Vd Tryz.prog 133 BQ := vt mix bu H6 [] g0 rfl (fun _ _ => rfl) fun O x => by kernel_rfl
theorem jH : Vd Tryz.prog 123 Hv := vt mix X8 K7 [(133, BQ)] (gs Ou g0) rfl (fun _ _ => rfl) fun O x => by kernel_rfl
theorem Uz : Vd Tryz.prog 86 CY := vt mix br PP [(45, Ao), (121, ES), (122, Pg), (123, Hv)] (gs Fp (gs cw (gs pm (gs jH g0)))) rfl (fun _ _ => rfl) fun O x => by kernel_rfl
theorem fV : Vd Tryz.prog 47 FJ := vt mix Tv IV [(48, EM), (86, CY)] (gs aC (gs Uz g0)) rfl (fun _ _ => rfl) fun O x => by kernel_rfl
theorem UO : Vd Tryz.prog 19 ED := vt mix b9 Ow [(45, Ao), (47, FJ)] (gs Fp (gs fV g0)) rfl (fun _ _ => rfl) fun O x => by kernel_rfl
theorem ml : Vd Tryz.prog 46 KM := vt mix bn Oo [] g0 rfl (fun _ _ => rfl) fun O x => by kernel_rfl
theorem Bq : Vd Tryz.prog 96 AM := vt mix bv Ox [] g0 rfl (fun _ _ => rfl) fun O x => by kernel_rfl
theorem UK : Vd Tryz.prog 56 Ck := vt mix cV O3 [(96, AM)] (gs Bq g0) rfl (fun _ _ => rfl) fun O x => by kernel_rfl
theorem nD : Vd Tryz.prog 28 O0 := vt mix cP Ot [(46, KM), (56, Ck)] (gs ml (gs UK g0)) rfl (fun _ _ => rfl) fun O x => by kernel_rfl
theorem kL : Vd Tryz.prog 69 Iq := vt mix Y1 NI [] g0 rfl (fun _ _ => rfl) fun O x => by kernel_rfl
theorem pN : Vd Tryz.prog 70 NF := vt mix eZ RE [] g0 rfl (fun _ _ => rfl) fun O x => by kernel_rfl
theorem sC : Vd Tryz.prog 71 SF := vt mix kX dh [] g0 rfl (fun _ _ => rfl) fun O x => by kernel_rfl
theorem rC : Vd Tryz.prog 113 R7 := vt mix kN co [] g0 rfl (fun _ _ => rfl) fun O x => by kernel_rfl
theorem nP : Vd Tryz.prog 72 KL := vt mix cF PF [(113, R7)] (gs rC g0) rfl (fun _ _ => rfl) fun O x => by kernel_rfl
theorem bA : Vd Tryz.prog 34 H7 := vt mix bM PQ [(69, Iq), (70, NF), (71, SF), (72, KL)] (gs kL (gs pN (gs sC (gs nP g0)))) rfl (fun _ _ => rfl) fun O x => by kernel_rfl
def fT : Cfg := { gam := [], imm := false, old := false }
theorem mh (O : Alg) (x : Ags O) : XF (O := O) Tryz.prog fT false false [] 36 [] (xr x Wq 0) = NE O x := by kernel_rfl
theorem RV {E : Env} {M : Nat} (N : Nat) (h : ∀ ls, E 36 [] ls = Cm N ls) : VV Tryz.prog E M ⟨36, [], false, false, []⟩ :=
 Bt mix (E := Iz N) (N := N) (cfg := fT) (ci := ⟨36, [], false, false, []⟩) (ks := Wq) DF (c := Cm N) (F := fun ls => NE (std (Iz N) N) (xOf ls)) (fun ls => rfl) (fun ls => mh (std (Iz N) N) (xOf ls)) h
def Xg : Cfg := { gam := [⟨19, [], true, true, []⟩, ⟨36, [], false, false, []⟩, ⟨48, [], true, true, []⟩], imm := false, old := false }
theorem gP (O : Alg) (x : Ags O) : XF (O := O) Tryz.prog Xg true true [] 21 [] (xr x QA 0) = HY O x := by kernel_rfl
theorem jc : Vd Tryz.prog 21 Hc := fun N h =>
 Bt mix (E := CO N) (N := N) (cfg := Xg) (ci := ⟨21, [], true, true, []⟩) (ks := QA) (AJ (UO N (fun _ => rfl)) (AJ (RV N (fun _ => rfl)) (AJ (aC N (fun _ => rfl)) DF))) (c := Hc N) (F := fun ls => HY (std (CO N) N) (xOf ls)) (fun ls => rfl) (fun ls => gP (std (CO N) N) (xOf ls)) h
theorem U3 : Vd Tryz.prog 23 EF := vt mix cU O5 [] g0 rfl (fun _ _ => rfl) fun O x => by kernel_rfl
theorem mn : Vd Tryz.prog 114 PE := vt mix be O7 [(45, Ao), (121, ES)] (gs Fp (gs cw g0)) rfl (fun _ _ => rfl) fun O x => by kernel_rfl
theorem Xm : Vd Tryz.prog 116 FB := vt mix YG LE [(56, Ck)] (gs UK g0) rfl (fun _ _ => rfl) fun O x => by kernel_rfl
theorem NO : Vd Tryz.prog 195 BN := vt mix Y8 MH [] g0 rfl (fun _ _ => rfl) fun O x => by kernel_rfl
theorem o5 : Vd Tryz.prog 160 Q3 := vt mix fE RU [(96, AM), (133, BQ), (195, BN)] (gs Bq (gs Ou (gs NO g0))) rfl (fun _ _ => rfl) fun O x => by kernel_rfl
theorem GM : Vd Tryz.prog 208 Au := vt mix VF Jc [] g0 rfl (fun _ _ => rfl) fun O x => by kernel_rfl
theorem SM : Vd Tryz.prog 223 B8 := vt mix ZS Me [] g0 rfl (fun _ _ => rfl) fun O x => by kernel_rfl
theorem pU : Vd Tryz.prog 224 Mk := vt mix fJ Ra [(45, Ao), (223, B8)] (gs Fp (gs SM g0)) rfl (fun _ _ => rfl) fun O x => by kernel_rfl
theorem iZ : Vd Tryz.prog 225 G3 := vt mix iQ TU [] g0 rfl (fun _ _ => rfl) fun O x => by kernel_rfl
theorem qQ : Vd Tryz.prog 196 Pi := vt mix iL TZ [(45, Ao), (208, Au), (223, B8), (224, Mk), (225, G3)] (gs Fp (gs GM (gs SM (gs pU (gs iZ g0))))) rfl (fun _ _ => rfl) fun O x => by kernel_rfl
theorem oU : Vd Tryz.prog 161 Q7 := vt mix fm RZ [(96, AM), (196, Pi)] (gs Bq (gs qQ g0)) rfl (fun _ _ => rfl) fun O x => by kernel_rfl
theorem SQ : Vd Tryz.prog 172 B7 := vt mix Yk Gb [(133, BQ)] (gs Ou g0) rfl (fun _ _ => rfl) fun O x => by kernel_rfl
theorem Mw : Vd Tryz.prog 207 BP := vt mix Y3 NG [] g0 rfl (fun _ _ => rfl) fun O x => by kernel_rfl
theorem jd : Vd Tryz.prog 226 HZ := vt mix Xz Kh [] g0 rfl (fun _ _ => rfl) fun O x => by kernel_rfl
theorem nI : Vd Tryz.prog 197 O2 := vt mix bg PG [(207, BP), (208, Au), (226, HZ)] (gs Mw (gs GM (gs jd g0))) rfl (fun _ _ => rfl) fun O x => by kernel_rfl
theorem sF : Vd Tryz.prog 227 SC := vt mix lZ dj [] g0 rfl (fun _ _ => rfl) fun O x => by kernel_rfl
theorem gu : Vd Tryz.prog 228 GD := vt mix V8 JS [] g0 rfl (fun _ _ => rfl) fun O x => by kernel_rfl
theorem cW : Vd Tryz.prog 198 Fn := vt mix cC O4 [(227, SC), (228, GD)] (gs sF (gs gu g0)) rfl (fun _ _ => rfl) fun O x => by kernel_rfl
theorem gJ : Vd Tryz.prog 229 Gl := vt mix VW Jf [] g0 rfl (fun _ _ => rfl) fun O x => by kernel_rfl
theorem rb : Vd Tryz.prog 230 SU := vt mix mO Ww [] g0 rfl (fun _ _ => rfl) fun O x => by kernel_rfl
theorem kO : Vd Tryz.prog 231 Is := vt mix ZH NP [] g0 rfl (fun _ _ => rfl) fun O x => by kernel_rfl
theorem gS : Vd Tryz.prog 199 JW := vt mix Vh Je [(229, Gl), (230, SU), (231, Is)] (gs gJ (gs rb (gs kO g0))) rfl (fun _ _ => rfl) fun O x => by kernel_rfl
theorem mp : Vd Tryz.prog 200 O8 := vt mix bz Oy [(207, BP), (208, Au)] (gs Mw (gs GM g0)) rfl (fun _ _ => rfl) fun O x => by kernel_rfl
theorem ga : Vd Tryz.prog 232 Gv := vt mix Vs Jr [] g0 rfl (fun _ _ => rfl) fun O x => by kernel_rfl
theorem mV : Vd Tryz.prog 233 J7 := vt mix cR PD [] g0 rfl (fun _ _ => rfl) fun O x => by kernel_rfl
theorem mC : Vd Tryz.prog 201 Mg := vt mix Z5 M0 [(198, Fn), (232, Gv), (233, J7)] (gs cW (gs ga (gs mV g0))) rfl (fun _ _ => rfl) fun O x => by kernel_rfl
theorem ZT : Vd Tryz.prog 204 EO := vt mix Z1 Nd [(96, AM)] (gs Bq g0) rfl (fun _ _ => rfl) fun O x => by kernel_rfl
theorem qE : Vd Tryz.prog 202 Ts := vt mix iq Tl [(96, AM), (195, BN), (204, EO)] (gs Bq (gs NO (gs ZT g0))) rfl (fun _ _ => rfl) fun O x => by kernel_rfl
theorem pY : Vd Tryz.prog 203 Qv := vt mix dp RJ [(45, Ao), (96, AM), (223, B8), (225, G3)] (gs Fp (gs Bq (gs SM (gs iZ g0)))) rfl (fun _ _ => rfl) fun O x => by kernel_rfl
theorem ma : Vd Tryz.prog 205 PR := vt mix cN bE [] g0 rfl (fun _ _ => rfl) fun O x => by kernel_rfl
def fM : Cfg := { gam := [⟨172, [], true, true, []⟩, ⟨197, [], true, true, []⟩, ⟨198, [], true, true, []⟩, ⟨199, [], true, true, []⟩, ⟨200, [], true, true, []⟩, ⟨201, [], true, true, []⟩, ⟨202, [], true, true, []⟩, ⟨203, [], true, true, []⟩, ⟨204, [], true, true, []⟩, ⟨205, [], true, true, []⟩], imm := false, old := false }
theorem mr (O : Alg) (x : Ags O) : XF (O := O) Tryz.prog fM false false [] 162 [] (xr x Wo 0) = M2 O x := by kernel_rfl
theorem oJ {E : Env} {M : Nat} (N : Nat) (h : ∀ ls, E 162 [] ls = Mv N ls) : VV Tryz.prog E M ⟨162, [], false, false, []⟩ :=
 Bt mix (E := BH N) (N := N) (cfg := fM) (ci := ⟨162, [], false, false, []⟩) (ks := Wo) (AJ (SQ N (fun _ => rfl)) (AJ (nI N (fun _ => rfl)) (AJ (cW N (fun _ => rfl)) (AJ (gS N (fun _ => rfl)) (AJ (mp N (fun _ => rfl)) (AJ (mC N (fun _ => rfl)) (AJ (qE N (fun _ => rfl)) (AJ (pY N (fun _ => rfl)) (AJ (ZT N (fun _ => rfl)) (AJ (ma N (fun _ => rfl)) DF)))))))))) (c := Mv N) (F := fun ls => M2 (std (BH N) N) (xOf ls)) (fun ls => rfl) (fun ls => mr (std (BH N) N) (xOf ls)) h
theorem cK : Vd Tryz.prog 206 EC := vt mix bp PM [(172, B7), (195, BN)] (gs SQ (gs NO g0)) rfl (fun _ _ => rfl) fun O x => by kernel_rfl
theorem jf : Vd Tryz.prog 163 Kw := vt mix Xa LB [(96, AM), (206, EC)] (gs Bq (gs cK g0)) rfl (fun _ _ => rfl) fun O x => by kernel_rfl
theorem mq : Vd Tryz.prog 164 PO := vt mix cX PA [(96, AM), (206, EC)] (gs Bq (gs cK g0)) rfl (fun _ _ => rfl) fun O x => by kernel_rfl
theorem fw : Vd Tryz.prog 173 D4 := vt mix fK Jd [] g0 rfl (fun _ _ => rfl) fun O x => by kernel_rfl
theorem ki : Vd Tryz.prog 165 MS := vt mix Yn MV [(96, AM), (173, D4), (195, BN)] (gs Bq (gs fw (gs NO g0))) rfl (fun _ _ => rfl) fun O x => by kernel_rfl
theorem jM : Vd Tryz.prog 166 Kv := vt mix Xn K9 [(96, AM)] (gs Bq g0) rfl (fun _ _ => rfl) fun O x => by kernel_rfl
theorem lH : Vd Tryz.prog 167 MF := vt mix ZJ MB [(96, AM), (207, BP), (208, Au)] (gs Bq (gs Mw (gs GM g0))) rfl (fun _ _ => rfl) fun O x => by kernel_rfl
theorem dT : Vd Tryz.prog 168 G7 := vt mix Ry HH [(96, AM), (207, BP), (208, Au)] (gs Bq (gs Mw (gs GM g0))) rfl (fun _ _ => rfl) fun O x => by kernel_rfl
theorem jQ : Vd Tryz.prog 169 LC := vt mix YI K8 [(45, Ao), (96, AM)] (gs Fp (gs Bq g0)) rfl (fun _ _ => rfl) fun O x => by kernel_rfl
def Zh : Cfg := { gam := [], imm := false, old := false }
theorem jC (O : Alg) (x : Ags O) : XF (O := O) Tryz.prog Zh false false [] 170 [] (xr x SG 0) = Gt O x := by kernel_rfl
theorem mB {E : Env} {M : Nat} (N : Nat) (h : ∀ ls, E 170 [] ls = I4 N ls) : VV Tryz.prog E M ⟨170, [], false, false, []⟩ :=
 Bt mix (E := Gr N) (N := N) (cfg := Zh) (ci := ⟨170, [], false, false, []⟩) (ks := SG) DF (c := I4 N) (F := fun ls => Gt (std (Gr N) N) (xOf ls)) (fun ls => rfl) (fun ls => jC (std (Gr N) N) (xOf ls)) h
theorem mo : Vd Tryz.prog 209 PB := vt mix bR bc [] g0 rfl (fun _ _ => rfl) fun O x => by kernel_rfl
def Yl : Cfg := { gam := [⟨209, [], true, true, []⟩], imm := false, old := false }
theorem jJ (O : Alg) (x : Ags O) : XF (O := O) Tryz.prog Yl false false [] 171 [] (xr x SH 0) = Ik O x := by kernel_rfl
theorem kD {E : Env} {M : Nat} (N : Nat) (h : ∀ ls, E 171 [] ls = I7 N ls) : VV Tryz.prog E M ⟨171, [], false, false, []⟩ :=
 Bt mix (E := EG N) (N := N) (cfg := Yl) (ci := ⟨171, [], false, false, []⟩) (ks := SH) (AJ (mo N (fun _ => rfl)) DF) (c := I7 N) (F := fun ls => Ik (std (EG N) N) (xOf ls)) (fun ls => rfl) (fun ls => jJ (std (EG N) N) (xOf ls)) h
def iV : Cfg := { gam := [⟨116, [], true, true, []⟩, ⟨160, [], true, true, []⟩, ⟨161, [], true, true, []⟩, ⟨162, [], false, false, []⟩, ⟨163, [], true, true, []⟩, ⟨164, [], true, true, []⟩, ⟨165, [], true, true, []⟩, ⟨166, [], true, true, []⟩, ⟨167, [], true, true, []⟩, ⟨168, [], true, true, []⟩, ⟨169, [], true, true, []⟩, ⟨170, [], false, false, []⟩, ⟨171, [], false, false, []⟩], imm := false, old := false }
theorem oI (O : Alg) (x : Ags O) : XF (O := O) Tryz.prog iV false false [] 134 [] (xr x Zt 0) = Lg O x := by kernel_rfl
theorem qf {E : Env} {M : Nat} (N : Nat) (h : ∀ ls, E 134 [] ls = Pb N ls) : VV Tryz.prog E M ⟨134, [], false, false, []⟩ :=
 Bt mix (E := A4 N) (N := N) (cfg := iV) (ci := ⟨134, [], false, false, []⟩) (ks := Zt) (AJ (Xm N (fun _ => rfl)) (AJ (o5 N (fun _ => rfl)) (AJ (oU N (fun _ => rfl)) (AJ (oJ N (fun _ => rfl)) (AJ (jf N (fun _ => rfl)) (AJ (mq N (fun _ => rfl)) (AJ (ki N (fun _ => rfl)) (AJ (jM N (fun _ => rfl)) (AJ (lH N (fun _ => rfl)) (AJ (dT N (fun _ => rfl)) (AJ (jQ N (fun _ => rfl)) (AJ (mB N (fun _ => rfl)) (AJ (kD N (fun _ => rfl)) DF))))))))))))) (c := Pb N) (F := fun ls => Lg (std (A4 N) N) (xOf ls)) (fun ls => rfl) (fun ls => oI (std (A4 N) N) (xOf ls)) h
theorem lX : Vd Tryz.prog 135 I0 := vt mix Zj Ni [(86, CY), (172, B7), (173, D4)] (gs Uz (gs SQ (gs fw g0))) rfl (fun _ _ => rfl) fun O x => by kernel_rfl
def fL : Cfg := { gam := [⟨34, [], true, true, []⟩, ⟨56, [], true, true, []⟩, ⟨86, [], true, true, []⟩, ⟨133, [], true, true, []⟩, ⟨134, [], false, false, []⟩, ⟨135, [], true, true, []⟩], imm := false, old := false }
theorem nA (O : Alg) (x : Ags O) : XF (O := O) Tryz.prog fL false false [] 115 [] (xr x WY 0) = Nf O x := by kernel_rfl
theorem fR {E : Env} {M : Nat} (N : Nat) (h : ∀ ls, E 115 [] ls = G8 N ls) : VV Tryz.prog E M ⟨115, [], false, false, []⟩ :=
 Bt mix (E := B9 N) (N := N) (cfg := fL) (ci := ⟨115, [], false, false, []⟩) (ks := WY) (AJ (bA N (fun _ => rfl)) (AJ (UK N (fun _ => rfl)) (AJ (Uz N (fun _ => rfl)) (AJ (Ou N (fun _ => rfl)) (AJ (qf N (fun _ => rfl)) (AJ (lX N (fun _ => rfl)) DF)))))) (c := G8 N) (F := fun ls => Nf (std (B9 N) N) (xOf ls)) (fun ls => rfl) (fun ls => nA (std (B9 N) N) (xOf ls)) h
def eM : Cfg := { gam := [⟨21, [], true, true, []⟩, ⟨23, [], true, true, []⟩, ⟨51, [], true, true, []⟩, ⟨114, [], true, true, []⟩, ⟨115, [], false, false, []⟩], imm := false, old := false }
theorem mZ (O : Alg) (x : Ags O) : XF (O := O) Tryz.prog eM false false [true, false] 73 [] (xr x W6 0) = NS O x := by kernel_rfl
theorem oE {E : Env} {M : Nat} (N : Nat) (h : ∀ ls, E 73 [] ls = MX N ls) : VV Tryz.prog E M ⟨73, [], false, false, [true, false]⟩ :=
 Bt mix (E := CX N) (N := N) (cfg := eM) (ci := ⟨73, [], false, false, [true, false]⟩) (ks := W6) (AJ (jc N (fun _ => rfl)) (AJ (U3 N (fun _ => rfl)) (AJ (KF N (fun _ => rfl)) (AJ (mn N (fun _ => rfl)) (AJ (fR N (fun _ => rfl)) DF))))) (c := MX N) (F := fun ls => NS (std (CX N) N) (xOf ls)) (fun ls => rfl) (fun ls => mZ (std (CX N) N) (xOf ls)) h
def dq : Cfg := { gam := [⟨115, [], false, false, []⟩, ⟨116, [], true, true, []⟩], imm := true, old := true }
theorem nS (O : Alg) (x : Ags O) : XF (O := O) Tryz.prog dq false false [true, false] 74 [] (xr x XX 0) = M3 O x := by kernel_rfl
theorem oq {E : Env} {M : Nat} (N : Nat) (h : ∀ ls, E 74 [] ls = Mo N ls) : VV Tryz.prog E M ⟨74, [], false, false, [true, false]⟩ :=
 Bt mix (E := Ef N) (N := N) (cfg := dq) (ci := ⟨74, [], false, false, [true, false]⟩) (ks := XX) (AJ (fR N (fun _ => rfl)) (AJ (Xm N (fun _ => rfl)) DF)) (c := Mo N) (F := fun ls => M3 (std (Ef N) N) (xOf ls)) (fun ls => rfl) (fun ls => nS (std (Ef N) N) (xOf ls)) h
def iI : Cfg := { gam := [⟨51, [], true, true, []⟩, ⟨73, [], false, false, [true, false]⟩, ⟨74, [], false, false, [true, false]⟩], imm := false, old := false }
theorem oO (O : Alg) (x : Ags O) : XF (O := O) Tryz.prog iI false false [true, false] 35 [] (xr x Yh 0) = Pl O x := by kernel_rfl
theorem qN {E : Env} {M : Nat} (N : Nat) (h : ∀ ls, E 35 [] ls = Pc N ls) : VV Tryz.prog E M ⟨35, [], false, false, [true, false]⟩ :=
 Bt mix (E := D9 N) (N := N) (cfg := iI) (ci := ⟨35, [], false, false, [true, false]⟩) (ks := Yh) (AJ (KF N (fun _ => rfl)) (AJ (oE N (fun _ => rfl)) (AJ (oq N (fun _ => rfl)) DF))) (c := Pc N) (F := fun ls => Pl (std (D9 N) N) (xOf ls)) (fun ls => rfl) (fun ls => oO (std (D9 N) N) (xOf ls)) h
def Xy : Cfg := { gam := [⟨19, [], true, true, []⟩, ⟨23, [], true, true, []⟩, ⟨36, [], false, false, []⟩, ⟨51, [], true, true, []⟩], imm := false, old := false }
theorem gQ (O : Alg) (x : Ags O) : XF (O := O) Tryz.prog Xy true true [] 25 [] (xr x QQ 0) = Hf O x := by kernel_rfl
theorem jT : Vd Tryz.prog 25 Hm := fun N h =>
 Bt mix (E := Bx N) (N := N) (cfg := Xy) (ci := ⟨25, [], true, true, []⟩) (ks := QQ) (AJ (UO N (fun _ => rfl)) (AJ (U3 N (fun _ => rfl)) (AJ (RV N (fun _ => rfl)) (AJ (KF N (fun _ => rfl)) DF)))) (c := Hm N) (F := fun ls => Hf (std (Bx N) N) (xOf ls)) (fun ls => rfl) (fun ls => gQ (std (Bx N) N) (xOf ls)) h
def Zz : Cfg := { gam := [⟨23, [], true, true, []⟩, ⟨25, [], true, true, []⟩, ⟨36, [], false, false, []⟩, ⟨51, [], true, true, []⟩], imm := false, old := false }
theorem jG (O : Alg) (x : Ags O) : XF (O := O) Tryz.prog Zz false false [] 37 [] (xr x So 0) = I8 O x := by kernel_rfl
theorem lY {E : Env} {M : Nat} (N : Nat) (h : ∀ ls, E 37 [] ls = JI N ls) : VV Tryz.prog E M ⟨37, [], false, false, []⟩ :=
 Bt mix (E := CD N) (N := N) (cfg := Zz) (ci := ⟨37, [], false, false, []⟩) (ks := So) (AJ (U3 N (fun _ => rfl)) (AJ (jT N (fun _ => rfl)) (AJ (RV N (fun _ => rfl)) (AJ (KF N (fun _ => rfl)) DF)))) (c := JI N) (F := fun ls => I8 (std (CD N) N) (xOf ls)) (fun ls => rfl) (fun ls => jG (std (CD N) N) (xOf ls)) h
def fq : Cfg := { gam := [⟨19, [], true, true, []⟩, ⟨28, [], true, true, []⟩, ⟨34, [], true, true, []⟩, ⟨35, [], false, false, [true, false]⟩, ⟨36, [], false, false, []⟩, ⟨37, [], false, false, []⟩], imm := false, old := false }
theorem mW (O : Alg) (x : Ags O) : XF (O := O) Tryz.prog fq false false [] 12 [] (xr x XR 0) = MW O x := by kernel_rfl
theorem o7 {E : Env} {M : Nat} (N : Nat) (h : ∀ ls, E 12 [] ls = Mp N ls) : VV Tryz.prog E M ⟨12, [], false, false, []⟩ :=
 Bt mix (E := B5 N) (N := N) (cfg := fq) (ci := ⟨12, [], false, false, []⟩) (ks := XR) (AJ (UO N (fun _ => rfl)) (AJ (nD N (fun _ => rfl)) (AJ (bA N (fun _ => rfl)) (AJ (qN N (fun _ => rfl)) (AJ (RV N (fun _ => rfl)) (AJ (lY N (fun _ => rfl)) DF)))))) (c := Mp N) (F := fun ls => MW (std (B5 N) N) (xOf ls)) (fun ls => rfl) (fun ls => mW (std (B5 N) N) (xOf ls)) h
theorem ny : Vd Tryz.prog 38 MQ := vt mix fp RN [] g0 rfl (fun _ _ => rfl) fun O x => by kernel_rfl
theorem oM : Vd Tryz.prog 75 NK := vt mix fg Rh [] g0 rfl (fun _ _ => rfl) fun O x => by kernel_rfl
theorem pO : Vd Tryz.prog 39 NB := vt mix eK RO [(75, NK)] (gs oM g0) rfl (fun _ _ => rfl) fun O x => by kernel_rfl
theorem pC : Vd Tryz.prog 13 Q9 := vt mix eD RP [(38, MQ), (39, NB)] (gs ny (gs pO g0)) rfl (fun _ _ => rfl) fun O x => by kernel_rfl
def Sm : Cfg := { gam := [⟨9, [], true, true, []⟩, ⟨10, [], false, false, []⟩, ⟨11, [], true, true, []⟩, ⟨12, [], false, false, []⟩, ⟨13, [], true, true, []⟩], imm := false, old := false }
theorem ar (O : Alg) (x : Ags O) : XF (O := O) Tryz.prog Sm true true [] 3 [] (xr x LI 0) = EP O x := by kernel_rfl
theorem de : Vd Tryz.prog 3 EU := fun N h =>
 Bt mix (E := A7 N) (N := N) (cfg := Sm) (ci := ⟨3, [], true, true, []⟩) (ks := LI) (AJ (mf N (fun _ => rfl)) (AJ (qj N (fun _ => rfl)) (AJ (Ym N (fun _ => rfl)) (AJ (o7 N (fun _ => rfl)) (AJ (pC N (fun _ => rfl)) DF))))) (c := EU N) (F := fun ls => EP (std (A7 N) N) (xOf ls)) (fun ls => rfl) (fun ls => ar (std (A7 N) N) (xOf ls)) h
end Go.Px
