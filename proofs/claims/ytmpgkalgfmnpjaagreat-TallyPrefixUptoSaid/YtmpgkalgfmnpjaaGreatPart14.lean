/- Part 14. -/
import Derived.Test.YtmpgkalgfmnpjaaGreatPart07
import Derived.Test.YtmpgkalgfmnpjaaGreatProg
import Derived.Test.YtmpgkalgfmnpjaaGreatPart08
import Derived.KernelRfl
import Derived.WalkKit
import Derived.Lib.Walk
import Derived.BigCall
import Derived.BigGuard
set_option linter.unusedVariables false
set_option linter.unusedSimpArgs false
namespace Go.Px
open Go.Proofs
set_option maxRecDepth 100000
theorem mix : Tryz.prog.follows .mixedOrders = true := by kernel_rfl
theorem T2 : Vd Tryz.prog 11 DF := vt mix MO Ej [] g0 rfl (fun _ _ => rfl) fun O x => by kernel_rfl
theorem I7 : Vd Tryz.prog 12 A4 := vt mix Ry Iu [] g0 rfl (fun _ _ => rfl) fun O x => by kernel_rfl
theorem Z5 : Vd Tryz.prog 27 HE := vt mix Tp J0 [] g0 rfl (fun _ _ => rfl) fun O x => by kernel_rfl
theorem Zs : Vd Tryz.prog 15 HD := vt mix Tk Jy [(12, A4), (27, HE)] (gs I7 (gs Z5 g0)) rfl (fun _ _ => rfl) fun O x => by kernel_rfl
theorem eI : Vd Tryz.prog 51 Je := vt mix V3 NK [] g0 rfl (fun _ _ => rfl) fun O x => by kernel_rfl
theorem Qi : Vd Tryz.prog 65 CL := vt mix Q1 RB [] g0 rfl (fun _ _ => rfl) fun O x => by kernel_rfl
theorem Xs : Vd Tryz.prog 52 FW := vt mix Qz Ho [(65, CL)] (gs Qi g0) rfl (fun _ _ => rfl) fun O x => by kernel_rfl
theorem Yr : Vd Tryz.prog 53 Gc := vt mix SQ Ip [(65, CL)] (gs Qi g0) rfl (fun _ _ => rfl) fun O x => by kernel_rfl
theorem CY : Vd Tryz.prog 39 AN := vt mix Tf J2 [(51, Je), (52, FW), (53, Gc)] (gs eI (gs Xs (gs Yr g0))) rfl (fun _ _ => rfl) fun O x => by kernel_rfl
theorem TD : Vd Tryz.prog 70 Cu := fun N h =>
 ND mix (T := 33) (e := 107) (b := 24) Tryz.func70 Tryz.underlying33 (by kernel_rfl) (by decide) (fun O l => by kernel_rfl) (fun O l => by kernel_rfl) h
theorem TL : Vd Tryz.prog 63 C0 := vt mix TW J1 [(70, Cu)] (gs TD g0) rfl (fun _ _ => rfl) fun O x => by kernel_rfl
theorem dy : Vd Tryz.prog 48 M9 := vt mix WD NJ [(39, AN), (63, C0)] (gs CY (gs TL g0)) rfl (fun _ _ => rfl) fun O x => by kernel_rfl
theorem Dw : Vd Tryz.prog 107 Ae := vt mix OW OU [] g0 rfl (fun _ _ => rfl) fun O x => by kernel_rfl
theorem Vb : Vd Tryz.prog 108 Dv := vt mix OO F3 [(107, Ae)] (gs Dw g0) rfl (fun _ _ => rfl) fun O x => by kernel_rfl
theorem Uq : Vd Tryz.prog 144 DX := vt mix Ni Fe [] g0 rfl (fun _ _ => rfl) fun O x => by kernel_rfl
theorem F9 : Vd Tryz.prog 130 Aj := vt mix Kf Dl [(144, DX)] (gs Uq g0) rfl (fun _ _ => rfl) fun O x => by kernel_rfl
theorem Ts : Vd Tryz.prog 109 DE := vt mix ML Es [(107, Ae), (130, Aj)] (gs Dw (gs F9 g0)) rfl (fun _ _ => rfl) fun O x => by kernel_rfl
theorem T0 : Vd Tryz.prog 132 DD := vt mix MM Ep [(107, Ae)] (gs Dw g0) rfl (fun _ _ => rfl) fun O x => by kernel_rfl
theorem Vm : Vd Tryz.prog 110 D0 := vt mix Og Fy [(132, DD)] (gs T0 g0) rfl (fun _ _ => rfl) fun O x => by kernel_rfl
theorem LE : Vd Tryz.prog 82 BL := vt mix Qh H4 [(39, AN), (107, Ae), (108, Dv), (109, DE), (110, D0)] (gs CY (gs Dw (gs Vb (gs Ts (gs Vm g0))))) rfl (fun _ _ => rfl) fun O x => by kernel_rfl
theorem KH : Vd Tryz.prog 90 BJ := vt mix Tb J7 [] g0 rfl (fun _ _ => rfl) fun O x => by kernel_rfl
theorem TO : Vd Tryz.prog 83 C2 := vt mix Th J8 [(90, BJ)] (gs KH g0) rfl (fun _ _ => rfl) fun O x => by kernel_rfl
theorem Zz : Vd Tryz.prog 84 HP := vt mix TP J4 [] g0 rfl (fun _ _ => rfl) fun O x => by kernel_rfl
theorem TI : Vd Tryz.prog 71 C3 := vt mix Tc J6 [(39, AN), (82, BL), (83, C2), (84, HP)] (gs CY (gs LE (gs TO (gs Zz g0)))) rfl (fun _ _ => rfl) fun O x => by kernel_rfl
theorem Yo : Vd Tryz.prog 85 GQ := vt mix SE Iy [] g0 rfl (fun _ _ => rfl) fun O x => by kernel_rfl
theorem XT : Vd Tryz.prog 86 FZ := vt mix Q9 Lc [] g0 rfl (fun _ _ => rfl) fun O x => by kernel_rfl
open Go.RowKit Go.Lib in
set_option maxHeartbeats 1000000 in
theorem Ox (s : ByteArray) (c : Int) (w : World) : Calls Tryz.prog 133 #[.string s, .int .u8 c] w fun e w' => e = .returned (.int .i64 (Lib.indexByte s.data.toList c.toNat.toUInt8)) ∧ w' = w := by
 go_enter Tryz.func133, Tryz.ntmps133
 go_wp2
 rw [run_callFunc_extern Tryz.func146 (by kernel_rfl) (by kernel_rfl) (by kernel_rfl) (e := Extern.BytealgIndexByte.indexByte) (by kernel_rfl), Lib.run_indexByteString]
 simp only [Result.andThen]
 rw [Oper.upon_value]
 go_wp2
 go_ret
 exact ⟨rfl, rfl⟩
theorem QQ : Vd Tryz.prog 133 CH := fun N h =>
 dY Tryz.func133 (T9 := 9) (T5 := 5) (T3 := 3) rfl rfl Tryz.underlying9 Tryz.underlying5 Tryz.underlying3 (by kernel_rfl) Ox h
theorem Tz : Vd Tryz.prog 111 DA := vt mix MP En [(133, CH)] (gs QQ g0) rfl (fun _ _ => rfl) fun O x => by kernel_rfl
theorem Zq : Vd Tryz.prog 112 E4 := vt mix Tl Te [] g0 rfl (fun _ _ => rfl) fun O x => by kernel_rfl
theorem bV : Vd Tryz.prog 87 Ia := vt mix U5 L9 [(111, DA), (112, E4)] (gs Tz (gs Zq g0)) rfl (fun _ _ => rfl) fun O x => by kernel_rfl
theorem UP : Vd Tryz.prog 113 DV := vt mix NQ IA [] g0 rfl (fun _ _ => rfl) fun O x => by kernel_rfl
theorem W3 : Vd Tryz.prog 88 Ee := vt mix Pb G8 [(113, DV)] (gs UP g0) rfl (fun _ _ => rfl) fun O x => by kernel_rfl
theorem TE : Vd Tryz.prog 72 C1 := vt mix Ta HT [(85, GQ), (86, FZ), (87, Ia), (88, Ee)] (gs Yo (gs XT (gs bV (gs W3 g0)))) rfl (fun _ _ => rfl) fun O x => by kernel_rfl
theorem Dh : Vd Tryz.prog 114 AO := fun N h =>
 ND mix (T := 64) (e := 144) (b := 1) Tryz.func114 Tryz.underlying64 (by kernel_rfl) (by decide) (fun O l => by kernel_rfl) (fun O l => by kernel_rfl) h
theorem Fi : Vd Tryz.prog 115 AY := fun N h =>
 ND mix (T := 30) (e := 3) (b := 8) Tryz.func115 Tryz.underlying30 (by kernel_rfl) (by decide) (fun O l => by kernel_rfl) (fun O l => by kernel_rfl) h
theorem Er : Vd Tryz.prog 116 AW := fun N h =>
 ND mix (T := 65) (e := 4) (b := 1) Tryz.func116 Tryz.underlying65 (by kernel_rfl) (by decide) (fun O l => by kernel_rfl) (fun O l => by kernel_rfl) h
theorem CM : Vd Tryz.prog 89 AM := vt mix RE Hv [(114, AO), (115, AY), (116, AW)] (gs Dh (gs Fi (gs Er g0))) rfl (fun _ _ => rfl) fun O x => by kernel_rfl
theorem aE : Vd Tryz.prog 73 HB := vt mix Tm KI [(63, C0), (89, AM)] (gs TL (gs CM g0)) rfl (fun _ _ => rfl) fun O x => by kernel_rfl
theorem OA : Vd Tryz.prog 94 Br := vt mix To J5 [] g0 rfl (fun _ _ => rfl) fun O x => by kernel_rfl
theorem Nm : Vd Tryz.prog 120 Bi := vt mix Nc FV [] g0 rfl (fun _ _ => rfl) fun O x => by kernel_rfl
theorem XV : Vd Tryz.prog 95 FL := vt mix QT H8 [(71, C3), (90, BJ), (94, Br), (120, Bi)] (gs TI (gs KH (gs OA (gs Nm g0)))) rfl (fun _ _ => rfl) fun O x => by kernel_rfl
theorem YV : Vd Tryz.prog 117 Fc := vt mix RA Ht [(39, AN), (107, Ae)] (gs CY (gs Dw g0)) rfl (fun _ _ => rfl) fun O x => by kernel_rfl
theorem ZC : Vd Tryz.prog 118 GO := vt mix R7 I3 [(90, BJ), (94, Br)] (gs KH (gs OA g0)) rfl (fun _ _ => rfl) fun O x => by kernel_rfl
theorem Vi : Vd Tryz.prog 148 D1 := vt mix OZ JJ [] g0 rfl (fun _ _ => rfl) fun O x => by kernel_rfl
theorem X1 : Vd Tryz.prog 134 Fj := vt mix Q0 Hq [(148, D1)] (gs Vi g0) rfl (fun _ _ => rfl) fun O x => by kernel_rfl
theorem GW : Vd Tryz.prog 180 Au := vt mix UQ K6 [(114, AO), (115, AY), (116, AW)] (gs Dh (gs Fi (gs Er g0))) rfl (fun _ _ => rfl) fun O x => by kernel_rfl
theorem WV : Vd Tryz.prog 206 Cc := vt mix Ps KV [] g0 rfl (fun _ _ => rfl) fun O x => by kernel_rfl
theorem SG : Vd Tryz.prog 181 Bt := vt mix R2 EM [(206, Cc)] (gs WV g0) rfl (fun _ _ => rfl) fun O x => by kernel_rfl
theorem GT : Vd Tryz.prog 182 Av := vt mix R3 I4 [] g0 rfl (fun _ _ => rfl) fun O x => by kernel_rfl
theorem Zv : Vd Tryz.prog 149 HI := vt mix TF KB [(180, Au), (181, Bt), (182, Av)] (gs GW (gs SG (gs GT g0))) rfl (fun _ _ => rfl) fun O x => by kernel_rfl
theorem RW : Vd Tryz.prog 183 CP := vt mix Vv NF [(114, AO), (115, AY), (116, AW)] (gs Dh (gs Fi (gs Er g0))) rfl (fun _ _ => rfl) fun O x => by kernel_rfl
theorem N4 : Vd Tryz.prog 207 Bq := vt mix TG Jz [] g0 rfl (fun _ _ => rfl) fun O x => by kernel_rfl
theorem dK : Vd Tryz.prog 208 IX := vt mix UV Lp [(39, AN), (207, Bq)] (gs CY (gs N4 g0)) rfl (fun _ _ => rfl) fun O x => by kernel_rfl
theorem eG : Vd Tryz.prog 184 Jb := vt mix Vx NB [(39, AN), (130, Aj), (207, Bq), (208, IX)] (gs CY (gs F9 (gs N4 (gs dK g0)))) rfl (fun _ _ => rfl) fun O x => by kernel_rfl
theorem dF : Vd Tryz.prog 150 IK := vt mix UE Lu [(183, CP), (184, Jb)] (gs RW (gs eG g0)) rfl (fun _ _ => rfl) fun O x => by kernel_rfl
theorem Tv : Vd Tryz.prog 55 C9 := vt mix MJ Eo [] g0 rfl (fun _ _ => rfl) fun O x => by kernel_rfl
theorem PX : Vd Tryz.prog 42 CA := vt mix QB G2 [(55, C9)] (gs Tv g0) rfl (fun _ _ => rfl) fun O x => by kernel_rfl
theorem Tq : Vd Tryz.prog 43 C8 := vt mix MN Ek [] g0 rfl (fun _ _ => rfl) fun O x => by kernel_rfl
theorem F0 : Vd Tryz.prog 30 As := vt mix ON F4 [(42, CA), (43, C8)] (gs PX (gs Tq g0)) rfl (fun _ _ => rfl) fun O x => by kernel_rfl
theorem P1 : Vd Tryz.prog 31 CD := vt mix PR PZ [] g0 rfl (fun _ _ => rfl) fun O x => by kernel_rfl
theorem L0 : Vd Tryz.prog 163 BI := vt mix Q3 Df [(181, Bt)] (gs SG g0) rfl (fun _ _ => rfl) fun O x => by kernel_rfl
theorem HC : Vd Tryz.prog 192 Ax := vt mix Tj J9 [] g0 rfl (fun _ _ => rfl) fun O x => by kernel_rfl
theorem G1 : Vd Tryz.prog 193 Aw := vt mix Po Gu [(192, Ax)] (gs HC g0) rfl (fun _ _ => rfl) fun O x => by kernel_rfl
theorem YO : Vd Tryz.prog 219 FX := vt mix Qr H5 [] g0 rfl (fun _ _ => rfl) fun O x => by kernel_rfl
theorem aA : Vd Tryz.prog 209 HW := vt mix TR KJ [(192, Ax), (193, Aw), (219, FX)] (gs HC (gs G1 (gs YO g0))) rfl (fun _ _ => rfl) fun O x => by kernel_rfl
theorem Oa : Vd Tryz.prog 224 Bd := vt mix OS Of [] g0 rfl (fun _ _ => rfl) fun O x => by kernel_rfl
theorem ZG : Vd Tryz.prog 220 Gb := vt mix SM JD [(224, Bd)] (gs Oa g0) rfl (fun _ _ => rfl) fun O x => by kernel_rfl
theorem UL : Vd Tryz.prog 225 Dd := vt mix Nf FI [] g0 rfl (fun _ _ => rfl) fun O x => by kernel_rfl
theorem Rk : Vd Tryz.prog 221 Cf := vt mix Ks Dj [(225, Dd)] (gs UL g0) rfl (fun _ _ => rfl) fun O x => by kernel_rfl
theorem Us : Vd Tryz.prog 226 Da := vt mix NU FY [] g0 rfl (fun _ _ => rfl) fun O x => by kernel_rfl
theorem WX : Vd Tryz.prog 222 EO := vt mix QI G4 [(224, Bd), (226, Da)] (gs Oa (gs Us g0)) rfl (fun _ _ => rfl) fun O x => by kernel_rfl
theorem Ri : Vd Tryz.prog 227 CR := vt mix Ja DN [] g0 rfl (fun _ _ => rfl) fun O x => by kernel_rfl
theorem TC : Vd Tryz.prog 223 Ct := vt mix Lk EA [(227, CR)] (gs Ri g0) rfl (fun _ _ => rfl) fun O x => by kernel_rfl
theorem SX : Vd Tryz.prog 210 Cv := vt mix LX D9 [(220, Gb), (221, Cf), (222, EO), (223, Ct)] (gs ZG (gs Rk (gs WX (gs TC g0)))) rfl (fun _ _ => rfl) fun O x => by kernel_rfl
theorem Z0 : Vd Tryz.prog 211 HM := vt mix TJ KE [(192, Ax), (193, Aw)] (gs HC (gs G1 g0)) rfl (fun _ _ => rfl) fun O x => by kernel_rfl
theorem Vq : Vd Tryz.prog 185 Dt := vt mix OY Fz [(42, CA), (163, BI), (209, HW), (210, Cv), (211, HM)] (gs PX (gs L0 (gs aA (gs SX (gs Z0 g0))))) rfl (fun _ _ => rfl) fun O x => by kernel_rfl
theorem dE : Vd Tryz.prog 186 IP := vt mix UM L8 [(180, Au), (182, Av)] (gs GW (gs GT g0)) rfl (fun _ _ => rfl) fun O x => by kernel_rfl
theorem bn : Vd Tryz.prog 187 Id := vt mix U9 Lj [(39, AN), (130, Aj), (183, CP), (207, Bq)] (gs CY (gs F9 (gs RW (gs N4 g0)))) rfl (fun _ _ => rfl) fun O x => by kernel_rfl
theorem X0 : Vd Tryz.prog 188 FC := vt mix Qn H0 [(180, Au)] (gs GW g0) rfl (fun _ _ => rfl) fun O x => by kernel_rfl
theorem Yp : Vd Tryz.prog 151 GG := vt mix SH Iw [(30, As), (31, CD), (89, AM), (185, Dt), (186, IP), (187, Id), (188, FC)] (gs F0 (gs P1 (gs CM (gs Vq (gs dE (gs bn (gs X0 g0))))))) rfl (fun _ _ => rfl) fun O x => by kernel_rfl
theorem UD : Vd Tryz.prog 189 DW := vt mix UX Li [(163, BI), (182, Av)] (gs L0 (gs GT g0)) rfl (fun _ _ => rfl) fun O x => by kernel_rfl
theorem Wc : Vd Tryz.prog 152 EP := vt mix Pl Gp [(180, Au), (182, Av), (189, DW)] (gs GW (gs GT (gs UD g0))) rfl (fun _ _ => rfl) fun O x => by kernel_rfl
theorem Yt : Vd Tryz.prog 153 GM := vt mix SN Is [(180, Au), (189, DW)] (gs GW (gs UD g0)) rfl (fun _ _ => rfl) fun O x => by kernel_rfl
theorem Tn : Vd Tryz.prog 164 CX := vt mix Td E7 [] g0 rfl (fun _ _ => rfl) fun O x => by kernel_rfl
theorem YA : Vd Tryz.prog 154 FG := vt mix Qx Hr [(164, CX), (180, Au), (182, Av)] (gs Tn (gs GW (gs GT g0))) rfl (fun _ _ => rfl) fun O x => by kernel_rfl
theorem Rb : Vd Tryz.prog 191 CU := vt mix WP NE [(114, AO), (115, AY), (116, AW)] (gs Dh (gs Fi (gs Er g0))) rfl (fun _ _ => rfl) fun O x => by kernel_rfl
theorem YR : Vd Tryz.prog 155 FB := vt mix Qs Hw [(191, CU)] (gs Rb g0) rfl (fun _ _ => rfl) fun O x => by kernel_rfl
theorem Y0 : Vd Tryz.prog 156 GY := vt mix Rz Iz [(191, CU), (192, Ax), (193, Aw)] (gs Rb (gs HC (gs G1 g0))) rfl (fun _ _ => rfl) fun O x => by kernel_rfl
theorem T8 : Vd Tryz.prog 157 DU := vt mix Nb Fb [(191, CU), (192, Ax), (193, Aw)] (gs Rb (gs HC (gs G1 g0))) rfl (fun _ _ => rfl) fun O x => by kernel_rfl
theorem XS : Vd Tryz.prog 158 FT := vt mix RG Hy [(39, AN), (183, CP)] (gs CY (gs RW g0)) rfl (fun _ _ => rfl) fun O x => by kernel_rfl
theorem VZ : Vd Tryz.prog 159 D6 := vt mix OM F2 [(89, AM)] (gs CM g0) rfl (fun _ _ => rfl) fun O x => by kernel_rfl
theorem Oe : Vd Tryz.prog 137 B1 := vt mix OX Fw [(89, AM)] (gs CM g0) rfl (fun _ _ => rfl) fun O x => by kernel_rfl
theorem Va : Vd Tryz.prog 160 D3 := vt mix OP Fx [(89, AM), (137, B1)] (gs CM (gs Oe g0)) rfl (fun _ _ => rfl) fun O x => by kernel_rfl
theorem Wi : Vd Tryz.prog 161 EY := vt mix QJ Ea [(89, AM)] (gs CM g0) rfl (fun _ _ => rfl) fun O x => by kernel_rfl
theorem YN : Vd Tryz.prog 54 FK := vt mix QU Qf [] g0 rfl (fun _ _ => rfl) fun O x => by kernel_rfl
theorem W6 : Vd Tryz.prog 162 ES := vt mix Pz G9 [(54, FK), (89, AM)] (gs YN (gs CM g0)) rfl (fun _ _ => rfl) fun O x => by kernel_rfl
theorem Vf : Vd Tryz.prog 135 D5 := vt mix OT Du [(149, HI), (150, IK), (151, GG), (152, EP), (153, GM), (154, FG), (155, FB), (156, GY), (157, DU), (158, FT), (159, D6), (160, D3), (161, EY), (162, ES)] (gs Zv (gs dF (gs Yp (gs Wc (gs Yt (gs YA (gs YR (gs Y0 (gs T8 (gs XS (gs VZ (gs Va (gs Wi (gs W6 g0)))))))))))))) rfl (fun _ _ => rfl) fun O x => by kernel_rfl
theorem W9 : Vd Tryz.prog 136 DG := vt mix P8 Gt [(82, BL), (163, BI), (164, CX)] (gs LE (gs L0 (gs Tn g0))) rfl (fun _ _ => rfl) fun O x => by kernel_rfl
theorem Y8 : Vd Tryz.prog 119 GU := vt mix Ru JH [(72, C1), (82, BL), (89, AM), (134, Fj), (135, D5), (136, DG)] (gs TE (gs LE (gs CM (gs X1 (gs Vf (gs W9 g0)))))) rfl (fun _ _ => rfl) fun O x => by kernel_rfl
theorem dT : Vd Tryz.prog 64 LQ := vt mix Uu K9 [(71, C3), (72, C1), (73, HB), (83, C2), (90, BJ), (94, Br), (95, FL), (117, Fc), (118, GO), (119, GU), (120, Bi), (137, B1)] (gs TI (gs TE (gs aE (gs TO (gs KH (gs OA (gs XV (gs YV (gs ZC (gs Y8 (gs Nm (gs Oe g0)))))))))))) rfl (fun _ _ => rfl) fun O x => by kernel_rfl
def X3 : Cfg := { gam := [⟨64, [], true, true, []⟩], imm := false, old := false }
theorem eJ (O : Alg) (x : Ags O) : XF (O := O) Tryz.prog X3 false false [] 49 [] (xr x Sf 0) = Lm O x := by kernel_rfl
theorem gI {E : Env} {M : Nat} (N : Nat) (h : ∀ ls, E 49 [] ls = Ll N ls) : VV Tryz.prog E M ⟨49, [], false, false, []⟩ :=
 IM mix (E := GD N) (N := N) (cfg := X3) (ci := ⟨49, [], false, false, []⟩) (ks := Sf) (Fm (dT N (fun _ => rfl)) PL) (c := Ll N) (F := fun ls => Lm (std (GD N) N) (xOf ls)) (fun ls => rfl) (fun ls => eJ (std (GD N) N) (xOf ls)) h
theorem Xd : Vd Tryz.prog 50 Hx := vt mix Q5 H1 [(30, As)] (gs F0 g0) rfl (fun _ _ => rfl) fun O x => by kernel_rfl
def Xn : Cfg := { gam := [⟨48, [], true, true, []⟩, ⟨49, [], false, false, []⟩, ⟨50, [], true, true, []⟩], imm := false, old := true, ie := [77, 27, 3, 107, 45, 67, 144, 4, 5, 124, 140, 59, 73, 190] }
theorem dr (O : Alg) (x : Ags O) : XF (O := O) Tryz.prog Xn false false [] 38 [] (xr x SY 0) = LW O x := by kernel_rfl
theorem fo {E : Env} {M : Nat} (N : Nat) (h : ∀ ls, E 38 [] ls = LN N ls) : VV Tryz.prog E M ⟨38, [], false, false, []⟩ :=
 IM mix (E := DT N) (N := N) (cfg := Xn) (ci := ⟨38, [], false, false, []⟩) (ks := SY) (Fm (dy N (fun _ => rfl)) (Fm (gI N (fun _ => rfl)) (Fm (Xd N (fun _ => rfl)) PL))) (c := LN N) (F := fun ls => LW (std (DT N) N) (xOf ls)) (fun ls => rfl) (fun ls => dr (std (DT N) N) (xOf ls)) h
def Uh : Cfg := { gam := [⟨38, [], false, false, []⟩], imm := false, old := false }
theorem Z4 (O : Alg) (x : Ags O) : XF (O := O) Tryz.prog Uh false false [] 22 [] (xr x QH 0) = IY O x := by kernel_rfl
theorem cF {E : Env} {M : Nat} (N : Nat) (h : ∀ ls, E 22 [] ls = IQ N ls) : VV Tryz.prog E M ⟨22, [], false, false, []⟩ :=
 IM mix (E := EJ N) (N := N) (cfg := Uh) (ci := ⟨22, [], false, false, []⟩) (ks := QH) (Fm (fo N (fun _ => rfl)) PL) (c := IQ N) (F := fun ls => IY (std (EJ N) N) (xOf ls)) (fun ls => rfl) (fun ls => Z4 (std (EJ N) N) (xOf ls)) h
def WS : Cfg := { gam := [⟨22, [], false, false, []⟩, ⟨39, [], true, true, []⟩], imm := false, old := false }
theorem ct (O : Alg) (x : Ags O) : XF (O := O) Tryz.prog WS true true [] 23 [] (xr x RT 0) = Ji O x := by kernel_rfl
theorem WA : Vd Tryz.prog 23 DM := fun N h =>
 IM mix (E := Ds N) (N := N) (cfg := WS) (ci := ⟨23, [], true, true, []⟩) (ks := RT) (Fm (cF N (fun _ => rfl)) (Fm (CY N (fun _ => rfl)) PL)) (c := DM N) (F := fun ls => Ji (std (Ds N) N) (xOf ls)) (fun ls => rfl) (fun ls => ct (std (Ds N) N) (xOf ls)) h
theorem eF : Vd Tryz.prog 29 Jn := vt mix WT NG [] g0 rfl (fun _ _ => rfl) fun O x => by kernel_rfl
theorem dU : Vd Tryz.prog 32 Hd := vt mix Vw M8 [] g0 rfl (fun _ _ => rfl) fun O x => by kernel_rfl
theorem Ro : Vd Tryz.prog 17 Cg := vt mix Rq I0 [(12, A4), (15, HD), (23, DM), (29, Jn), (30, As), (31, CD), (32, Hd)] (gs I7 (gs Zs (gs WA (gs eF (gs F0 (gs P1 (gs dU g0))))))) rfl (fun _ _ => rfl) fun O x => by kernel_rfl
theorem TB : Vd Tryz.prog 19 Cw := vt mix Lw EF [] g0 rfl (fun _ _ => rfl) fun O x => by kernel_rfl
theorem YP : Vd Tryz.prog 20 Dk := vt mix Qm H3 [(12, A4), (23, DM), (30, As)] (gs I7 (gs WA (gs F0 g0))) rfl (fun _ _ => rfl) fun O x => by kernel_rfl
theorem eN : Vd Tryz.prog 25 Js := vt mix WJ V2 [] g0 rfl (fun _ _ => rfl) fun O x => by kernel_rfl
theorem de : Vd Tryz.prog 41 Ra := vt mix WK WO [] g0 rfl (fun _ _ => rfl) fun O x => by kernel_rfl
theorem gz : Vd Tryz.prog 26 Nr := vt mix ZU ZZ [(41, Ra)] (gs de g0) rfl (fun _ _ => rfl) fun O x => by kernel_rfl
theorem dg : Vd Tryz.prog 9 JT := vt mix V4 NA [(11, DF), (12, A4), (17, Cg), (19, Cw), (20, Dk), (25, Js), (26, Nr)] (gs T2 (gs I7 (gs Ro (gs TB (gs YP (gs eN (gs gz g0))))))) rfl (fun _ _ => rfl) fun O x => by kernel_rfl
def ZS : Cfg := { gam := [], imm := false, old := false }
theorem fa (O : Alg) (x : Ags O) : XF (O := O) Tryz.prog ZS false false [] 10 [] (xr x U6 0) = Nq O x := by kernel_rfl
theorem gP {E : Env} {M : Nat} (N : Nat) (h : ∀ ls, E 10 [] ls = NR N ls) : VV Tryz.prog E M ⟨10, [], false, false, []⟩ :=
 IM mix (E := JX N) (N := N) (cfg := ZS) (ci := ⟨10, [], false, false, []⟩) (ks := U6) PL (c := NR N) (F := fun ls => Nq (std (JX N) N) (xOf ls)) (fun ls => rfl) (fun ls => fa (std (JX N) N) (xOf ls)) h
def Od : Cfg := { gam := [⟨9, [], true, true, []⟩, ⟨10, [], false, false, []⟩, ⟨17, [], true, true, []⟩], imm := false, old := false }
theorem Uk (O : Alg) (x : Ags O) : XF (O := O) Tryz.prog Od true true [] 7 [] (xr x JO 0) = Dz O x := by kernel_rfl
theorem Vc : Vd Tryz.prog 7 Dy := fun N h =>
 IM mix (E := Bb N) (N := N) (cfg := Od) (ci := ⟨7, [], true, true, []⟩) (ks := JO) (Fm (dg N (fun _ => rfl)) (Fm (gP N (fun _ => rfl)) (Fm (Ro N (fun _ => rfl)) PL))) (c := Dy N) (F := fun ls => Dz (std (Bb N) N) (xOf ls)) (fun ls => rfl) (fun ls => Uk (std (Bb N) N) (xOf ls)) h
end Go.Px
