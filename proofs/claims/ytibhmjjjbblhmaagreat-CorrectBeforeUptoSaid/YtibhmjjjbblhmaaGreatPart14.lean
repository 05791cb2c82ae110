/- Part 14. -/
import Derived.Test.YtibhmjjjbblhmaaGreatPart06
import Derived.Test.YtibhmjjjbblhmaaGreatProg
import Derived.Test.YtibhmjjjbblhmaaGreatPart08
import Derived.KernelRfl
import Derived.WalkKit
import Derived.Lib.Walk
import Derived.BigCall
import Derived.BigGuard
set_option linter.unusedVariables false
set_option linter.unusedSimpArgs false
namespace Go.Px
open Go.Proofs
set_option maxRecDepth 100000
theorem mix : Tryz.prog.follows .mixedOrders = true := by kernel_rfl
theorem bq : Vd Tryz.prog 53 JN := vt mix VY Mj [] g0 rfl (fun _ _ => rfl) fun O x => by kernel_rfl
theorem P7 : Vd Tryz.prog 86 B5 := vt mix P3 Qb [] g0 rfl (fun _ _ => rfl) fun O x => by kernel_rfl
theorem Xg : Vd Tryz.prog 54 FW := vt mix QB HV [(86, B5)] (gs P7 g0) rfl (fun _ _ => rfl) fun O x => by kernel_rfl
theorem YM : Vd Tryz.prog 55 Fr := vt mix RA IL [(86, B5)] (gs P7 g0) rfl (fun _ _ => rfl) fun O x => by kernel_rfl
theorem Bw : Vd Tryz.prog 35 AK := vt mix Sm Jl [(53, JN), (54, FW), (55, Fr)] (gs bq (gs Xg (gs YM g0))) rfl (fun _ _ => rfl) fun O x => by kernel_rfl
theorem Sa : Vd Tryz.prog 57 CW := fun N h =>
 JF mix (T := 22) (e := 102) (b := 24) Tryz.func57 Tryz.underlying22 (by kernel_rfl) (by decide) (fun O l => by kernel_rfl) (fun O l => by kernel_rfl) h
theorem S6 : Vd Tryz.prog 40 Ci := vt mix TB Jb [(57, CW)] (gs Sa g0) rfl (fun _ _ => rfl) fun O x => by kernel_rfl
theorem Va : Vd Tryz.prog 26 Fa := vt mix Vf Ma [(35, AK), (40, Ci)] (gs Bw (gs S6 g0)) rfl (fun _ _ => rfl) fun O x => by kernel_rfl
theorem DX : Vd Tryz.prog 58 AM := fun N h =>
 JF mix (T := 80) (e := 104) (b := 1) Tryz.func58 Tryz.underlying80 (by kernel_rfl) (by decide) (fun O l => by kernel_rfl) (fun O l => by kernel_rfl) h
theorem E0 : Vd Tryz.prog 59 AX := fun N h =>
 JF mix (T := 81) (e := 3) (b := 8) Tryz.func59 Tryz.underlying81 (by kernel_rfl) (by decide) (fun O l => by kernel_rfl) (fun O l => by kernel_rfl) h
theorem Ef : Vd Tryz.prog 60 AR := fun N h =>
 JF mix (T := 82) (e := 4) (b := 1) Tryz.func60 Tryz.underlying82 (by kernel_rfl) (by decide) (fun O l => by kernel_rfl) (fun O l => by kernel_rfl) h
theorem B6 : Vd Tryz.prog 41 AL := vt mix QD Hg [(58, AM), (59, AX), (60, AR)] (gs DX (gs E0 (gs Ef g0))) rfl (fun _ _ => rfl) fun O x => by kernel_rfl
theorem Sk : Vd Tryz.prog 27 Cg := vt mix S5 Ju [(40, Ci), (41, AL)] (gs S6 (gs B6 g0)) rfl (fun _ _ => rfl) fun O x => by kernel_rfl
theorem Dl : Vd Tryz.prog 89 AZ := vt mix Nn Ns [] g0 rfl (fun _ _ => rfl) fun O x => by kernel_rfl
theorem VF : Vd Tryz.prog 90 Df := vt mix Nm Fe [(89, AZ)] (gs Dl g0) rfl (fun _ _ => rfl) fun O x => by kernel_rfl
theorem Uc : Vd Tryz.prog 121 DL := vt mix Mr FO [] g0 rfl (fun _ _ => rfl) fun O x => by kernel_rfl
theorem F1 : Vd Tryz.prog 105 Ad := vt mix KK DW [(121, DL)] (gs Uc g0) rfl (fun _ _ => rfl) fun O x => by kernel_rfl
theorem TR : Vd Tryz.prog 91 Cs := vt mix Lo Eb [(89, AZ), (105, Ad)] (gs Dl (gs F1 g0)) rfl (fun _ _ => rfl) fun O x => by kernel_rfl
theorem TI : Vd Tryz.prog 107 Cv := vt mix Lu Eg [(89, AZ)] (gs Dl g0) rfl (fun _ _ => rfl) fun O x => by kernel_rfl
theorem VM : Vd Tryz.prog 92 Dm := vt mix N1 Fi [(107, Cv)] (gs TI g0) rfl (fun _ _ => rfl) fun O x => by kernel_rfl
theorem Kf : Vd Tryz.prog 61 A4 := vt mix P4 Hj [(35, AK), (89, AZ), (90, Df), (91, Cs), (92, Dm)] (gs Bw (gs Dl (gs VF (gs TR (gs VM g0))))) rfl (fun _ _ => rfl) fun O x => by kernel_rfl
theorem Ji : Vd Tryz.prog 68 A5 := vt mix Ss JY [] g0 rfl (fun _ _ => rfl) fun O x => by kernel_rfl
theorem Sx : Vd Tryz.prog 62 Ch := vt mix Sp JZ [(68, A5)] (gs Ji g0) rfl (fun _ _ => rfl) fun O x => by kernel_rfl
theorem ZS : Vd Tryz.prog 63 Gt := vt mix Sw Jj [] g0 rfl (fun _ _ => rfl) fun O x => by kernel_rfl
theorem TE : Vd Tryz.prog 42 Ck := vt mix Si Js [(35, AK), (61, A4), (62, Ch), (63, Gt)] (gs Bw (gs Kf (gs Sx (gs ZS g0)))) rfl (fun _ _ => rfl) fun O x => by kernel_rfl
theorem X5 : Vd Tryz.prog 64 GF := vt mix Rr Iq [] g0 rfl (fun _ _ => rfl) fun O x => by kernel_rfl
theorem Xq : Vd Tryz.prog 65 E7 := vt mix QZ Kk [] g0 rfl (fun _ _ => rfl) fun O x => by kernel_rfl
open Go.RowKit Go.Lib in
set_option maxHeartbeats 1000000 in
theorem Oe (s : ByteArray) (c : Int) (w : World) : Calls Tryz.prog 108 #[.string s, .int .u8 c] w fun e w' => e = .returned (.int .i64 (Lib.indexByte s.data.toList c.toNat.toUInt8)) ∧ w' = w := by
 go_enter Tryz.func108, Tryz.ntmps108
 go_wp2
 rw [run_callFunc_extern Tryz.func123 (by kernel_rfl) (by kernel_rfl) (by kernel_rfl) (e := Extern.BytealgIndexByte.indexByte) (by kernel_rfl), Lib.run_indexByteString]
 simp only [Result.andThen]
 rw [Oper.upon_value]
 go_wp2
 go_ret
 exact ⟨rfl, rfl⟩
theorem Pt : Vd Tryz.prog 108 B1 := fun N h =>
 cG Tryz.func108 (T9 := 9) (T5 := 5) (T3 := 3) rfl rfl Tryz.underlying9 Tryz.underlying5 Tryz.underlying3 (by kernel_rfl) Oe h
theorem TL : Vd Tryz.prog 93 Cu := vt mix Lq Ei [(108, B1)] (gs Pt g0) rfl (fun _ _ => rfl) fun O x => by kernel_rfl
theorem ZY : Vd Tryz.prog 94 Ep := vt mix Sr Sy [] g0 rfl (fun _ _ => rfl) fun O x => by kernel_rfl
theorem Z5 : Vd Tryz.prog 66 IG := vt mix Tn LW [(93, Cu), (94, Ep)] (gs TL (gs ZY g0)) rfl (fun _ _ => rfl) fun O x => by kernel_rfl
theorem UF : Vd Tryz.prog 95 DK := vt mix Mv Hx [] g0 rfl (fun _ _ => rfl) fun O x => by kernel_rfl
theorem WO : Vd Tryz.prog 67 EA := vt mix PE Gf [(95, DK)] (gs UF g0) rfl (fun _ _ => rfl) fun O x => by kernel_rfl
theorem Su : Vd Tryz.prog 43 Cm := vt mix So G1 [(64, GF), (65, E7), (66, IG), (67, EA)] (gs X5 (gs Xq (gs Z5 (gs WO g0)))) rfl (fun _ _ => rfl) fun O x => by kernel_rfl
theorem Nd : Vd Tryz.prog 72 BX := vt mix Sh Jq [] g0 rfl (fun _ _ => rfl) fun O x => by kernel_rfl
theorem Mw : Vd Tryz.prog 99 BO := vt mix NA FP [] g0 rfl (fun _ _ => rfl) fun O x => by kernel_rfl
theorem X4 : Vd Tryz.prog 73 E8 := vt mix P8 HZ [(42, Ck), (68, A5), (72, BX), (99, BO)] (gs TE (gs Ji (gs Nd (gs Mw g0)))) rfl (fun _ _ => rfl) fun O x => by kernel_rfl
theorem Xf : Vd Tryz.prog 96 FI := vt mix Pw He [(35, AK), (89, AZ)] (gs Bw (gs Dl g0)) rfl (fun _ _ => rfl) fun O x => by kernel_rfl
theorem X9 : Vd Tryz.prog 97 GK := vt mix Rq IK [(68, A5), (72, BX)] (gs Ji (gs Nd g0)) rfl (fun _ _ => rfl) fun O x => by kernel_rfl
theorem U8 : Vd Tryz.prog 125 Dk := vt mix Nw Iz [] g0 rfl (fun _ _ => rfl) fun O x => by kernel_rfl
theorem Xy : Vd Tryz.prog 109 FB := vt mix QU HU [(125, Dk)] (gs U8 g0) rfl (fun _ _ => rfl) fun O x => by kernel_rfl
theorem Fv : Vd Tryz.prog 155 Ai := vt mix UQ LB [(58, AM), (59, AX), (60, AR)] (gs DX (gs E0 (gs Ef g0))) rfl (fun _ _ => rfl) fun O x => by kernel_rfl
theorem WS : Vd Tryz.prog 179 CO := vt mix Ow J8 [] g0 rfl (fun _ _ => rfl) fun O x => by kernel_rfl
theorem RT : Vd Tryz.prog 156 Bc := vt mix Rj D7 [(179, CO)] (gs WS g0) rfl (fun _ _ => rfl) fun O x => by kernel_rfl
theorem GB : Vd Tryz.prog 157 Aj := vt mix Rb IW [] g0 rfl (fun _ _ => rfl) fun O x => by kernel_rfl
theorem ZQ : Vd Tryz.prog 126 Gu := vt mix Sz Jf [(155, Ai), (156, Bc), (157, Aj)] (gs Fv (gs RT (gs GB g0))) rfl (fun _ _ => rfl) fun O x => by kernel_rfl
theorem Qp : Vd Tryz.prog 158 B9 := vt mix Vp Mh [(58, AM), (59, AX), (60, AR)] (gs DX (gs E0 (gs Ef g0))) rfl (fun _ _ => rfl) fun O x => by kernel_rfl
theorem NV : Vd Tryz.prog 180 BZ := vt mix Sg Jv [] g0 rfl (fun _ _ => rfl) fun O x => by kernel_rfl
theorem be : Vd Tryz.prog 181 H7 := vt mix UM K8 [(35, AK), (180, BZ)] (gs Bw (gs NV g0)) rfl (fun _ _ => rfl) fun O x => by kernel_rfl
theorem cO : Vd Tryz.prog 159 JQ := vt mix VW Md [(35, AK), (105, Ad), (180, BZ), (181, H7)] (gs Bw (gs F1 (gs NV (gs be g0)))) rfl (fun _ _ => rfl) fun O x => by kernel_rfl
theorem aS : Vd Tryz.prog 127 H5 := vt mix Tr Kp [(158, B9), (159, JQ)] (gs Qp (gs cO g0)) rfl (fun _ _ => rfl) fun O x => by kernel_rfl
theorem TK : Vd Tryz.prog 153 Cw := vt mix Lp Ee [] g0 rfl (fun _ _ => rfl) fun O x => by kernel_rfl
theorem Pj : Vd Tryz.prog 119 Bu := vt mix PU Gm [(153, Cw)] (gs TK g0) rfl (fun _ _ => rfl) fun O x => by kernel_rfl
theorem TQ : Vd Tryz.prog 120 Cz := vt mix Lt Ea [] g0 rfl (fun _ _ => rfl) fun O x => by kernel_rfl
theorem N9 : Vd Tryz.prog 104 Bg := vt mix N0 Ff [(119, Bu), (120, Cz)] (gs Pj (gs TQ g0)) rfl (fun _ _ => rfl) fun O x => by kernel_rfl
theorem LA : Vd Tryz.prog 140 A3 := vt mix Qd DU [(156, Bc)] (gs RT g0) rfl (fun _ _ => rfl) fun O x => by kernel_rfl
theorem Gr : Vd Tryz.prog 168 Am := vt mix S9 Jn [] g0 rfl (fun _ _ => rfl) fun O x => by kernel_rfl
theorem Gg : Vd Tryz.prog 169 Al := vt mix Ph Ga [(168, Am)] (gs Gr g0) rfl (fun _ _ => rfl) fun O x => by kernel_rfl
theorem XN : Vd Tryz.prog 191 FH := vt mix P1 Hi [] g0 rfl (fun _ _ => rfl) fun O x => by kernel_rfl
theorem ZZ : Vd Tryz.prog 182 HD := vt mix Sl Jo [(168, Am), (169, Al), (191, FH)] (gs Gr (gs Gg (gs XN g0))) rfl (fun _ _ => rfl) fun O x => by kernel_rfl
theorem N5 : Vd Tryz.prog 210 BL := vt mix N2 Nx [] g0 rfl (fun _ _ => rfl) fun O x => by kernel_rfl
theorem X7 : Vd Tryz.prog 192 F6 := vt mix Rl IM [(210, BL)] (gs N5 g0) rfl (fun _ _ => rfl) fun O x => by kernel_rfl
theorem Tk : Vd Tryz.prog 211 DA := vt mix NC FR [] g0 rfl (fun _ _ => rfl) fun O x => by kernel_rfl
theorem Q9 : Vd Tryz.prog 193 CR := vt mix KM DQ [(211, DA)] (gs Tk g0) rfl (fun _ _ => rfl) fun O x => by kernel_rfl
theorem Tv : Vd Tryz.prog 212 DH := vt mix M1 E1 [] g0 rfl (fun _ _ => rfl) fun O x => by kernel_rfl
theorem WP : Vd Tryz.prog 194 EY := vt mix Pl Gq [(210, BL), (212, DH)] (gs N5 (gs Tv g0)) rfl (fun _ _ => rfl) fun O x => by kernel_rfl
theorem Q5 : Vd Tryz.prog 213 CC := vt mix JX C7 [] g0 rfl (fun _ _ => rfl) fun O x => by kernel_rfl
theorem SM : Vd Tryz.prog 195 CY := vt mix LH Dz [(213, CC)] (gs Q5 g0) rfl (fun _ _ => rfl) fun O x => by kernel_rfl
theorem R4 : Vd Tryz.prog 183 CX := vt mix LD D1 [(192, F6), (193, CR), (194, EY), (195, CY)] (gs X7 (gs Q9 (gs WP (gs SM g0)))) rfl (fun _ _ => rfl) fun O x => by kernel_rfl
theorem ZI : Vd Tryz.prog 184 HA := vt mix S1 Jp [(168, Am), (169, Al)] (gs Gr (gs Gg g0)) rfl (fun _ _ => rfl) fun O x => by kernel_rfl
theorem VD : Vd Tryz.prog 160 Dp := vt mix Nt Fo [(119, Bu), (140, A3), (182, HD), (183, CX), (184, HA)] (gs Pj (gs LA (gs ZZ (gs R4 (gs ZI g0))))) rfl (fun _ _ => rfl) fun O x => by kernel_rfl
theorem bO : Vd Tryz.prog 161 H4 := vt mix US Kx [(155, Ai), (157, Aj)] (gs Fv (gs GB g0)) rfl (fun _ _ => rfl) fun O x => by kernel_rfl
theorem WE : Vd Tryz.prog 162 EG := vt mix PS O1 [] g0 rfl (fun _ _ => rfl) fun O x => by kernel_rfl
theorem aD : Vd Tryz.prog 163 Hy := vt mix Tj LX [(35, AK), (105, Ad), (158, B9), (180, BZ)] (gs Bw (gs F1 (gs Qp (gs NV g0)))) rfl (fun _ _ => rfl) fun O x => by kernel_rfl
theorem Wz : Vd Tryz.prog 164 FM := vt mix P6 Hf [(155, Ai)] (gs Fv g0) rfl (fun _ _ => rfl) fun O x => by kernel_rfl
theorem YP : Vd Tryz.prog 128 F5 := vt mix Q8 Ii [(41, AL), (104, Bg), (160, Dp), (161, H4), (162, EG), (163, Hy), (164, FM)] (gs B6 (gs N9 (gs VD (gs bO (gs WE (gs aD (gs Wz g0))))))) rfl (fun _ _ => rfl) fun O x => by kernel_rfl
theorem Uf : Vd Tryz.prog 165 DP := vt mix Uk LO [(140, A3), (157, Aj)] (gs LA (gs GB g0)) rfl (fun _ _ => rfl) fun O x => by kernel_rfl
theorem WA : Vd Tryz.prog 129 ER := vt mix PB Gn [(155, Ai), (157, Aj), (165, DP)] (gs Fv (gs GB (gs Uf g0))) rfl (fun _ _ => rfl) fun O x => by kernel_rfl
theorem Yg : Vd Tryz.prog 130 F7 := vt mix RU Id [(155, Ai), (165, DP)] (gs Fv (gs Uf g0)) rfl (fun _ _ => rfl) fun O x => by kernel_rfl
theorem Sn : Vd Tryz.prog 141 CL := vt mix S7 Er [] g0 rfl (fun _ _ => rfl) fun O x => by kernel_rfl
theorem W6 : Vd Tryz.prog 131 E9 := vt mix Py HX [(141, CL), (155, Ai), (157, Aj)] (gs Sn (gs Fv (gs GB g0))) rfl (fun _ _ => rfl) fun O x => by kernel_rfl
theorem Q2 : Vd Tryz.prog 167 CE := vt mix Vw Mf [(58, AM), (59, AX), (60, AR)] (gs DX (gs E0 (gs Ef g0))) rfl (fun _ _ => rfl) fun O x => by kernel_rfl
theorem XW : Vd Tryz.prog 132 E6 := vt mix QJ Hb [(167, CE)] (gs Q2 g0) rfl (fun _ _ => rfl) fun O x => by kernel_rfl
theorem Ym : Vd Tryz.prog 133 Fu := vt mix Rd IJ [(167, CE), (168, Am), (169, Al)] (gs Q2 (gs Gr (gs Gg g0))) rfl (fun _ _ => rfl) fun O x => by kernel_rfl
theorem Tf : Vd Tryz.prog 134 DD := vt mix M7 FF [(167, CE), (168, Am), (169, Al)] (gs Q2 (gs Gr (gs Gg g0))) rfl (fun _ _ => rfl) fun O x => by kernel_rfl
theorem Xt : Vd Tryz.prog 135 FQ := vt mix P5 Hh [(35, AK), (158, B9)] (gs Bw (gs Qp g0)) rfl (fun _ _ => rfl) fun O x => by kernel_rfl
theorem VO : Vd Tryz.prog 136 Du := vt mix N7 Fl [(41, AL)] (gs B6 g0) rfl (fun _ _ => rfl) fun O x => by kernel_rfl
theorem Nr : Vd Tryz.prog 112 Bi := vt mix OA Fm [(41, AL)] (gs B6 g0) rfl (fun _ _ => rfl) fun O x => by kernel_rfl
theorem VJ : Vd Tryz.prog 137 Dq := vt mix Nj Fn [(41, AL), (112, Bi)] (gs B6 (gs Nr g0)) rfl (fun _ _ => rfl) fun O x => by kernel_rfl
theorem Wb : Vd Tryz.prog 138 EW := vt mix Pi EF [(41, AL)] (gs B6 g0) rfl (fun _ _ => rfl) fun O x => by kernel_rfl
theorem W3 : Vd Tryz.prog 170 FV := vt mix QX P0 [] g0 rfl (fun _ _ => rfl) fun O x => by kernel_rfl
theorem Wg : Vd Tryz.prog 139 ED := vt mix O8 Gk [(41, AL), (170, FV)] (gs B6 (gs W3 g0)) rfl (fun _ _ => rfl) fun O x => by kernel_rfl
theorem VA : Vd Tryz.prog 110 Dj := vt mix Nv Dt [(126, Gu), (127, H5), (128, F5), (129, ER), (130, F7), (131, E9), (132, E6), (133, Fu), (134, DD), (135, FQ), (136, Du), (137, Dq), (138, EW), (139, ED)] (gs ZQ (gs aS (gs YP (gs WA (gs Yg (gs W6 (gs XW (gs Ym (gs Tf (gs Xt (gs VO (gs VJ (gs Wb (gs Wg g0)))))))))))))) rfl (fun _ _ => rfl) fun O x => by kernel_rfl
theorem Wf : Vd Tryz.prog 111 C1 := vt mix Pg Gi [(61, A4), (140, A3), (141, CL)] (gs Kf (gs LA (gs Sn g0))) rfl (fun _ _ => rfl) fun O x => by kernel_rfl
theorem YW : Vd Tryz.prog 98 Fz := vt mix RX Ik [(41, AL), (43, Cm), (61, A4), (109, FB), (110, Dj), (111, C1)] (gs B6 (gs Su (gs Kf (gs Xy (gs VA (gs Wf g0)))))) rfl (fun _ _ => rfl) fun O x => by kernel_rfl
theorem UG : Vd Tryz.prog 28 EV := vt mix Um Ku [(27, Cg), (42, Ck), (43, Cm), (62, Ch), (68, A5), (72, BX), (73, E8), (96, FI), (97, GK), (98, Fz), (99, BO), (112, Bi)] (gs Sk (gs TE (gs Su (gs Sx (gs Ji (gs Nd (gs X4 (gs Xf (gs X9 (gs YW (gs Mw (gs Nr g0)))))))))))) rfl (fun _ _ => rfl) fun O x => by kernel_rfl
def Xu : Cfg := { gam := [⟨28, [], true, true, []⟩], imm := false, old := false }
theorem br (O : Alg) (x : Ags O) : XF (O := O) Tryz.prog Xu false false [] 87 [] (xr x SC 0) = K3 O x := by kernel_rfl
theorem dL {E : Env} {M : Nat} (N : Nat) (h : ∀ ls, E 87 [] ls = Ki N ls) : VV Tryz.prog E M ⟨87, [], false, false, []⟩ :=
 Cj mix (E := GL N) (N := N) (cfg := Xu) (ci := ⟨87, [], false, false, []⟩) (ks := SC) (Aq (UG N (fun _ => rfl)) Fq) (c := Ki N) (F := fun ls => K3 (std (GL N) N) (xOf ls)) (fun ls => rfl) (fun ls => br (std (GL N) N) (xOf ls)) h
theorem Wo : Vd Tryz.prog 88 HW := vt mix QW HY [(104, Bg)] (gs N9 g0) rfl (fun _ _ => rfl) fun O x => by kernel_rfl
def Wp : Cfg := { gam := [⟨26, [], true, true, []⟩, ⟨87, [], false, false, []⟩, ⟨88, [], true, true, []⟩], imm := false, old := true, ie := [102, 38, 85, 51, 25, 104, 3, 4, 112, 5, 139, 41, 34, 191] }
theorem cQ (O : Alg) (x : Ags O) : XF (O := O) Tryz.prog Wp false false [] 56 [] (xr x Sd 0) = LC O x := by kernel_rfl
theorem cz {E : Env} {M : Nat} (N : Nat) (h : ∀ ls, E 56 [] ls = K9 N ls) : VV Tryz.prog E M ⟨56, [], false, false, []⟩ :=
 Cj mix (E := DF N) (N := N) (cfg := Wp) (ci := ⟨56, [], false, false, []⟩) (ks := Sd) (Aq (Va N (fun _ => rfl)) (Aq (dL N (fun _ => rfl)) (Aq (Wo N (fun _ => rfl)) Fq))) (c := K9 N) (F := fun ls => LC (std (DF N) N) (xOf ls)) (fun ls => rfl) (fun ls => cQ (std (DF N) N) (xOf ls)) h
def UL : Cfg := { gam := [⟨56, [], false, false, []⟩], imm := false, old := false }
theorem ZR (O : Alg) (x : Ags O) : XF (O := O) Tryz.prog UL false false [] 36 [] (xr x PM 0) = Hn O x := by kernel_rfl
theorem PC {E : Env} {M : Nat} (N : Nat) (h : ∀ ls, E 36 [] ls = CF N ls) : VV Tryz.prog E M ⟨36, [], false, false, []⟩ :=
 Cj mix (E := D8 N) (N := N) (cfg := UL) (ci := ⟨36, [], false, false, []⟩) (ks := PM) (Aq (cz N (fun _ => rfl)) Fq) (c := CF N) (F := fun ls => Hn (std (D8 N) N) (xOf ls)) (fun ls => rfl) (fun ls => ZR (std (D8 N) N) (xOf ls)) h
def Vh : Cfg := { gam := [⟨35, [], true, true, []⟩, ⟨36, [], false, false, []⟩], imm := false, old := false }
theorem Z7 (O : Alg) (x : Ags O) : XF (O := O) Tryz.prog Vh true true [] 16 [] (xr x Q7 0) = JO O x := by kernel_rfl
theorem Vg : Vd Tryz.prog 16 D3 := fun N h =>
 Cj mix (E := De N) (N := N) (cfg := Vh) (ci := ⟨16, [], true, true, []⟩) (ks := Q7) (Aq (Bw N (fun _ => rfl)) (Aq (PC N (fun _ => rfl)) Fq)) (c := D3 N) (F := fun ls => JO (std (De N) N) (xOf ls)) (fun ls => rfl) (fun ls => Z7 (std (De N) N) (xOf ls)) h
theorem Xl : Vd Tryz.prog 74 FJ := vt mix QO HT [] g0 rfl (fun _ _ => rfl) fun O x => by kernel_rfl
theorem R2 : Vd Tryz.prog 75 CZ := vt mix LY Dw [] g0 rfl (fun _ _ => rfl) fun O x => by kernel_rfl
theorem bi : Vd Tryz.prog 46 K2 := vt mix T2 Ko [(74, FJ), (75, CZ)] (gs Xl (gs R2 g0)) rfl (fun _ _ => rfl) fun O x => by kernel_rfl
theorem Rk : Vd Tryz.prog 76 CQ := vt mix KJ DR [] g0 rfl (fun _ _ => rfl) fun O x => by kernel_rfl
theorem Tw : Vd Tryz.prog 77 DI := vt mix M8 FE [] g0 rfl (fun _ _ => rfl) fun O x => by kernel_rfl
theorem TF : Vd Tryz.prog 78 Cy := vt mix Ln EZ [] g0 rfl (fun _ _ => rfl) fun O x => by kernel_rfl
theorem WB : Vd Tryz.prog 79 EX := vt mix Pb Gp [] g0 rfl (fun _ _ => rfl) fun O x => by kernel_rfl
theorem Yd : Vd Tryz.prog 48 Ic := vt mix RY Ib [(76, CQ), (77, DI), (78, Cy), (79, EX)] (gs Rk (gs Tw (gs TF (gs WB g0)))) rfl (fun _ _ => rfl) fun O x => by kernel_rfl
def G8 : Cfg := { gam := [⟨48, [], true, true, []⟩], imm := false, old := false }
theorem M3 (O : Alg) (x : Ags O) : XF (O := O) Tryz.prog G8 true true [] 47 [48] (xr x Db 0) = BW O x := by kernel_rfl
theorem NZ {E : Env} {M : Nat} (N : Nat) (h : ∀ ls, E 47 [48] ls = BV N ls) : VV Tryz.prog E M ⟨47, [48], true, true, []⟩ :=
 Cj mix (E := A0 N) (N := N) (cfg := G8) (ci := ⟨47, [48], true, true, []⟩) (ks := Db) (Aq (Yd N (fun _ => rfl)) Fq) (c := BV N) (F := fun ls => BW (std (A0 N) N) (xOf ls)) (fun ls => rfl) (fun ls => M3 (std (A0 N) N) (xOf ls)) h
def Ty : Cfg := { gam := [⟨46, [], true, true, []⟩, ⟨47, [48], true, true, []⟩], imm := false, old := false }
theorem ZK (O : Alg) (x : Ags O) : XF (O := O) Tryz.prog Ty true true [] 29 [] (xr x Pf 0) = H2 O x := by kernel_rfl
theorem UE : Vd Tryz.prog 29 Ca := fun N h =>
 Cj mix (E := C3 N) (N := N) (cfg := Ty) (ci := ⟨29, [], true, true, []⟩) (ks := Pf) (Aq (bi N (fun _ => rfl)) (Aq (NZ N (fun _ => rfl)) Fq)) (c := Ca N) (F := fun ls => H2 (std (C3 N) N) (xOf ls)) (fun ls => rfl) (fun ls => ZK (std (C3 N) N) (xOf ls)) h
theorem PG : Vd Tryz.prog 9 CN := vt mix O0 Gc [(16, D3), (26, Fa), (27, Cg), (28, EV), (29, Ca)] (gs Vg (gs Va (gs Sk (gs UG (gs UE g0))))) rfl (fun _ _ => rfl) fun O x => by kernel_rfl
theorem SZ : Vd Tryz.prog 33 Dy := fun N h =>
 JF mix (T := 25) (e := 38) (b := 136) Tryz.func33 Tryz.underlying25 (by kernel_rfl) (by decide) (fun O l => by kernel_rfl) (fun O l => by kernel_rfl) h
def Nq : Cfg := { gam := [⟨36, [], false, false, []⟩], imm := false, old := false }
theorem UB (O : Alg) (x : Ags O) : XF (O := O) Tryz.prog Nq false false [] 34 [] (xr x Ix 0) = Ds O x := by kernel_rfl
theorem VB {E : Env} {M : Nat} (N : Nat) (h : ∀ ls, E 34 [] ls = Cf N ls) : VV Tryz.prog E M ⟨34, [], false, false, []⟩ :=
 Cj mix (E := B8 N) (N := N) (cfg := Nq) (ci := ⟨34, [], false, false, []⟩) (ks := Ix) (Aq (PC N (fun _ => rfl)) Fq) (c := Cf N) (F := fun ls => Ds (std (B8 N) N) (xOf ls)) (fun ls => rfl) (fun ls => UB (std (B8 N) N) (xOf ls)) h
def Ny : Cfg := { gam := [⟨16, [], true, true, []⟩, ⟨33, [], true, true, []⟩, ⟨34, [], false, false, []⟩], imm := false, old := false }
theorem Ub (O : Alg) (x : Ags O) : XF (O := O) Tryz.prog Ny false false [] 11 [] (xr x I0 0) = Dr O x := by kernel_rfl
theorem Np {E : Env} {M : Nat} (N : Nat) (h : ∀ ls, E 11 [] ls = BM N ls) : VV Tryz.prog E M ⟨11, [], false, false, []⟩ :=
 Cj mix (E := BJ N) (N := N) (cfg := Ny) (ci := ⟨11, [], false, false, []⟩) (ks := I0) (Aq (Vg N (fun _ => rfl)) (Aq (SZ N (fun _ => rfl)) (Aq (VB N (fun _ => rfl)) Fq))) (c := BM N) (F := fun ls => Dr (std (BJ N) N) (xOf ls)) (fun ls => rfl) (fun ls => Ub (std (BJ N) N) (xOf ls)) h
theorem cP : Vd Tryz.prog 39 Q1 := vt mix Vx VP [] g0 rfl (fun _ _ => rfl) fun O x => by kernel_rfl
theorem eW : Vd Tryz.prog 23 QV := vt mix Y8 ZA [(39, Q1)] (gs cP g0) rfl (fun _ _ => rfl) fun O x => by kernel_rfl
theorem cC : Vd Tryz.prog 24 Mc := vt mix Vn Vu [] g0 rfl (fun _ _ => rfl) fun O x => by kernel_rfl
theorem dB : Vd Tryz.prog 25 OX := vt mix XC Wy [] g0 rfl (fun _ _ => rfl) fun O x => by kernel_rfl
def VT : Cfg := { gam := [⟨9, [], true, true, []⟩, ⟨11, [], false, false, []⟩, ⟨23, [], true, true, []⟩, ⟨24, [], true, true, []⟩, ⟨25, [], true, true, []⟩], imm := false, old := false }
theorem al (O : Alg) (x : Ags O) : XF (O := O) Tryz.prog VT true true [] 8 [] (xr x Qx 0) = JA O x := by kernel_rfl
theorem bn : Vd Tryz.prog 8 HJ := fun N h =>
 Cj mix (E := Bv N) (N := N) (cfg := VT) (ci := ⟨8, [], true, true, []⟩) (ks := Qx) (Aq (PG N (fun _ => rfl)) (Aq (Np N (fun _ => rfl)) (Aq (eW N (fun _ => rfl)) (Aq (cC N (fun _ => rfl)) (Aq (dB N (fun _ => rfl)) Fq))))) (c := HJ N) (F := fun ls => JA (std (Bv N) N) (xOf ls)) (fun ls => rfl) (fun ls => al (std (Bv N) N) (xOf ls)) h
def aQ : Cfg := { gam := [⟨35, [], true, true, []⟩, ⟨36, [], false, false, []⟩], imm := false, old := false }
theorem ek (O : Alg) (x : Ags O) : XF (O := O) Tryz.prog aQ false false [] 12 [] (xr x V1 0) = Pa O x := by kernel_rfl
theorem fg {E : Env} {M : Nat} (N : Nat) (h : ∀ ls, E 12 [] ls = PJ N ls) : VV Tryz.prog E M ⟨12, [], false, false, []⟩ :=
 Cj mix (E := Gj N) (N := N) (cfg := aQ) (ci := ⟨12, [], false, false, []⟩) (ks := V1) (Aq (Bw N (fun _ => rfl)) (Aq (PC N (fun _ => rfl)) Fq)) (c := PJ N) (F := fun ls => Pa (std (Gj N) N) (xOf ls)) (fun ls => rfl) (fun ls => ek (std (Gj N) N) (xOf ls)) h
theorem YH : Vd Tryz.prog 13 Fx := vt mix RG IZ [(29, Ca)] (gs UE g0) rfl (fun _ _ => rfl) fun O x => by kernel_rfl
def Lx : Cfg := { gam := [⟨8, [], true, true, []⟩, ⟨9, [], true, true, []⟩, ⟨11, [], false, false, []⟩, ⟨12, [], false, false, []⟩, ⟨13, [], true, true, []⟩], imm := false, old := false }
theorem Se (O : Alg) (x : Ags O) : XF (O := O) Tryz.prog Lx true true [] 4 [] (xr x HQ 0) = Ct O x := by kernel_rfl
theorem TU : Vd Tryz.prog 4 Cx := fun N h =>
 Cj mix (E := Ap N) (N := N) (cfg := Lx) (ci := ⟨4, [], true, true, []⟩) (ks := HQ) (Aq (bn N (fun _ => rfl)) (Aq (PG N (fun _ => rfl)) (Aq (Np N (fun _ => rfl)) (Aq (fg N (fun _ => rfl)) (Aq (YH N (fun _ => rfl)) Fq))))) (c := Cx N) (F := fun ls => Ct (std (Ap N) N) (xOf ls)) (fun ls => rfl) (fun ls => Se (std (Ap N) N) (xOf ls)) h
end Go.Px
