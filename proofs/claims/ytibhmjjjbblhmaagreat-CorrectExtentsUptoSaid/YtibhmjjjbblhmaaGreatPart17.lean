/- Part 17. -/
import Derived.Test.YtibhmjjjbblhmaaGreatPart06
import Derived.Test.YtibhmjjjbblhmaaGreatProg
import Derived.Test.YtibhmjjjbblhmaaGreatPart09
import Derived.KernelRfl
import Derived.WalkKit
import Derived.Lib.Walk
import Derived.BigCall
import Derived.BigGuard
set_option linter.unusedVariables false
set_option linter.unusedSimpArgs false
namespace Go.Px
open Go.Proofs
set_option maxRecDepth 100000
theorem mix : Tryz.prog.follows .mixedOrders = true := by kernel_rfl
theorem rA : Vd Tryz.prog 53 Lz := vt mix gm Q6 [] g0 rfl (fun _ _ => rfl) fun O x => by kernel_rfl
theorem Vp : Vd Tryz.prog 86 CY := vt mix Vq Vh [] g0 rfl (fun _ _ => rfl) fun O x => by kernel_rfl
theorem jE : Vd Tryz.prog 54 F0 := vt mix Vf JN [(86, CY)] (gs Vp g0) rfl (fun _ _ => rfl) fun O x => by kernel_rfl
theorem l4 : Vd Tryz.prog 55 HY := vt mix Xj LB [(86, CY)] (gs Vp g0) rfl (fun _ _ => rfl) fun O x => by kernel_rfl
theorem Cu : Vd Tryz.prog 35 AS := vt mix Z5 Mb [(53, Lz), (54, F0), (55, HY)] (gs rA (gs jE (gs l4 g0))) rfl (fun _ _ => rfl) fun O x => by kernel_rfl
theorem Ym : Vd Tryz.prog 57 DA := fun N h =>
 Lt mix (T := 22) (e := 102) (b := 24) Tryz.func57 Tryz.underlying22 (by kernel_rfl) (by decide) (fun O l => by kernel_rfl) (fun O l => by kernel_rfl) h
theorem aB : Vd Tryz.prog 40 DM := vt mix aL MU [(57, DA)] (gs Ym g0) rfl (fun _ _ => rfl) fun O x => by kernel_rfl
theorem gL : Vd Tryz.prog 26 Ge := vt mix fW Qz [(35, AS), (40, DM)] (gs Cu (gs aB g0)) rfl (fun _ _ => rfl) fun O x => by kernel_rfl
theorem EG : Vd Tryz.prog 58 AU := fun N h =>
 Lt mix (T := 80) (e := 104) (b := 1) Tryz.func58 Tryz.underlying80 (by kernel_rfl) (by decide) (fun O l => by kernel_rfl) (fun O l => by kernel_rfl) h
theorem GN : Vd Tryz.prog 59 Af := fun N h =>
 Lt mix (T := 81) (e := 3) (b := 8) Tryz.func59 Tryz.underlying81 (by kernel_rfl) (by decide) (fun O l => by kernel_rfl) (fun O l => by kernel_rfl) h
theorem Fa : Vd Tryz.prog 60 Ab := fun N h =>
 Lt mix (T := 82) (e := 4) (b := 1) Tryz.func60 Tryz.underlying82 (by kernel_rfl) (by decide) (fun O l => by kernel_rfl) (fun O l => by kernel_rfl) h
theorem Ca : Vd Tryz.prog 41 AR := vt mix V2 JT [(58, AU), (59, Af), (60, Ab)] (gs EG (gs GN (gs Fa g0))) rfl (fun _ _ => rfl) fun O x => by kernel_rfl
theorem aV : Vd Tryz.prog 27 DN := vt mix aX MZ [(40, DM), (41, AR)] (gs aB (gs Ca g0)) rfl (fun _ _ => rfl) fun O x => by kernel_rfl
theorem Ea : Vd Tryz.prog 89 Ak := vt mix Sa Sh [] g0 rfl (fun _ _ => rfl) fun O x => by kernel_rfl
theorem fB : Vd Tryz.prog 90 EU := vt mix Sq Gp [(89, Ak)] (gs Ea g0) rfl (fun _ _ => rfl) fun O x => by kernel_rfl
theorem cJ : Vd Tryz.prog 121 D1 := vt mix Rh F2 [] g0 rfl (fun _ _ => rfl) fun O x => by kernel_rfl
theorem G2 : Vd Tryz.prog 105 Am := vt mix NI D9 [(121, D1)] (gs cJ g0) rfl (fun _ _ => rfl) fun O x => by kernel_rfl
theorem bO : Vd Tryz.prog 91 Da := vt mix Pt Fc [(89, Ak), (105, Am)] (gs Ea (gs G2 g0)) rfl (fun _ _ => rfl) fun O x => by kernel_rfl
theorem bP : Vd Tryz.prog 107 DX := vt mix Pz Fe [(89, Ak)] (gs Ea g0) rfl (fun _ _ => rfl) fun O x => by kernel_rfl
theorem fC : Vd Tryz.prog 92 EW := vt mix SV Gw [(107, DX)] (gs bP g0) rfl (fun _ _ => rfl) fun O x => by kernel_rfl
theorem OQ : Vd Tryz.prog 61 BF := vt mix WT JK [(35, AS), (89, Ak), (90, EU), (91, Da), (92, EW)] (gs Cu (gs Ea (gs fB (gs bO (gs fC g0))))) rfl (fun _ _ => rfl) fun O x => by kernel_rfl
theorem L6 : Vd Tryz.prog 68 BG := vt mix ah MO [] g0 rfl (fun _ _ => rfl) fun O x => by kernel_rfl
theorem Z7 : Vd Tryz.prog 62 DJ := vt mix ay MR [(68, BG)] (gs L6 g0) rfl (fun _ _ => rfl) fun O x => by kernel_rfl
theorem nV : Vd Tryz.prog 63 Iw := vt mix aN MW [] g0 rfl (fun _ _ => rfl) fun O x => by kernel_rfl
theorem au : Vd Tryz.prog 42 DK := vt mix bA MG [(35, AS), (61, BF), (62, DJ), (63, Iw)] (gs Cu (gs OQ (gs Z7 (gs nV g0)))) rfl (fun _ _ => rfl) fun O x => by kernel_rfl
theorem lQ : Vd Tryz.prog 64 He := vt mix YY KX [] g0 rfl (fun _ _ => rfl) fun O x => by kernel_rfl
theorem j9 : Vd Tryz.prog 65 GO := vt mix Vz OZ [] g0 rfl (fun _ _ => rfl) fun O x => by kernel_rfl
open Go.RowKit Go.Lib in
set_option maxHeartbeats 1000000 in
theorem S5 (s : ByteArray) (c : Int) (w : World) : Calls Tryz.prog 108 #[.string s, .int .u8 c] w fun e w' => e = .returned (.int .i64 (Lib.indexByte s.data.toList c.toNat.toUInt8)) ∧ w' = w := by
 go_enter Tryz.func108, Tryz.ntmps108
 go_wp2
 rw [run_callFunc_extern Tryz.func123 (by kernel_rfl) (by kernel_rfl) (by kernel_rfl) (e := Extern.BytealgIndexByte.indexByte) (by kernel_rfl), Lib.run_indexByteString]
 simp only [Result.andThen]
 rw [Oper.upon_value]
 go_wp2
 go_ret
 exact ⟨rfl, rfl⟩
theorem VU : Vd Tryz.prog 108 CT := fun N h =>
 rC Tryz.func108 (T9 := 9) (T5 := 5) (T3 := 3) rfl rfl Tryz.underlying9 Tryz.underlying5 Tryz.underlying3 (by kernel_rfl) S5 h
theorem bM : Vd Tryz.prog 93 DV := vt mix Pn Fd [(108, CT)] (gs VU g0) rfl (fun _ _ => rfl) fun O x => by kernel_rfl
theorem oE : Vd Tryz.prog 94 Ft := vt mix Z4 ax [] g0 rfl (fun _ _ => rfl) fun O x => by kernel_rfl
theorem pQ : Vd Tryz.prog 66 KF := vt mix dk Og [(93, DV), (94, Ft)] (gs bM (gs oE g0)) rfl (fun _ _ => rfl) fun O x => by kernel_rfl
theorem cn : Vd Tryz.prog 95 Dv := vt mix RI J4 [] g0 rfl (fun _ _ => rfl) fun O x => by kernel_rfl
theorem iq : Vd Tryz.prog 67 FM := vt mix T4 H8 [(95, Dv)] (gs cn g0) rfl (fun _ _ => rfl) fun O x => by kernel_rfl
theorem aZ : Vd Tryz.prog 43 DL := vt mix aj Iu [(64, He), (65, GO), (66, KF), (67, FM)] (gs lQ (gs j9 (gs pQ (gs iq g0)))) rfl (fun _ _ => rfl) fun O x => by kernel_rfl
theorem R8 : Vd Tryz.prog 72 Bq := vt mix aS Md [] g0 rfl (fun _ _ => rfl) fun O x => by kernel_rfl
theorem RS : Vd Tryz.prog 99 Bh := vt mix Rq GG [] g0 rfl (fun _ _ => rfl) fun O x => by kernel_rfl
theorem kO : Vd Tryz.prog 73 Fy := vt mix WL JU [(42, DK), (68, BG), (72, Bq), (99, Bh)] (gs au (gs L6 (gs R8 (gs RS g0)))) rfl (fun _ _ => rfl) fun O x => by kernel_rfl
theorem km : Vd Tryz.prog 96 GW := vt mix V8 JQ [(35, AS), (89, Ak)] (gs Cu (gs Ea g0)) rfl (fun _ _ => rfl) fun O x => by kernel_rfl
theorem lG : Vd Tryz.prog 97 HG := vt mix Yc Kl [(68, BG), (72, Bq)] (gs L6 (gs R8 g0)) rfl (fun _ _ => rfl) fun O x => by kernel_rfl
theorem fD : Vd Tryz.prog 125 EX := vt mix So LL [] g0 rfl (fun _ _ => rfl) fun O x => by kernel_rfl
theorem jd : Vd Tryz.prog 109 GK := vt mix WS Jb [(125, EX)] (gs fD g0) rfl (fun _ _ => rfl) fun O x => by kernel_rfl
theorem Hb : Vd Tryz.prog 155 Ar := vt mix dK Nu [(58, AU), (59, Af), (60, Ab)] (gs EG (gs GN (gs Fa g0))) rfl (fun _ _ => rfl) fun O x => by kernel_rfl
theorem hC : Vd Tryz.prog 179 Cx := vt mix Uh M1 [] g0 rfl (fun _ _ => rfl) fun O x => by kernel_rfl
theorem Yf : Vd Tryz.prog 156 Bw := vt mix YN E1 [(179, Cx)] (gs hC g0) rfl (fun _ _ => rfl) fun O x => by kernel_rfl
theorem HE : Vd Tryz.prog 157 Au := vt mix Xq Kc [] g0 rfl (fun _ _ => rfl) fun O x => by kernel_rfl
theorem nS : Vd Tryz.prog 126 Is := vt mix az MY [(155, Ar), (156, Bw), (157, Au)] (gs Hb (gs Yf (gs HE g0))) rfl (fun _ _ => rfl) fun O x => by kernel_rfl
theorem XS : Vd Tryz.prog 158 Cl := vt mix gM Qj [(58, AU), (59, Af), (60, Ab)] (gs EG (gs GN (gs Fa g0))) rfl (fun _ _ => rfl) fun O x => by kernel_rfl
theorem SJ : Vd Tryz.prog 180 Bs := vt mix aK Mc [] g0 rfl (fun _ _ => rfl) fun O x => by kernel_rfl
theorem og : Vd Tryz.prog 181 KH := vt mix bX Pb [(35, AS), (180, Bs)] (gs Cu (gs SJ g0)) rfl (fun _ _ => rfl) fun O x => by kernel_rfl
theorem rZ : Vd Tryz.prog 159 Lp := vt mix fK RF [(35, AS), (105, Am), (180, Bs), (181, KH)] (gs Cu (gs G2 (gs SJ (gs og g0)))) rfl (fun _ _ => rfl) fun O x => by kernel_rfl
theorem qd : Vd Tryz.prog 127 J7 := vt mix dL O3 [(158, Cl), (159, Lp)] (gs XS (gs rZ g0)) rfl (fun _ _ => rfl) fun O x => by kernel_rfl
theorem bC : Vd Tryz.prog 153 DW := vt mix Pr Fb [] g0 rfl (fun _ _ => rfl) fun O x => by kernel_rfl
theorem UD : Vd Tryz.prog 119 CC := vt mix T6 IQ [(153, DW)] (gs bC g0) rfl (fun _ _ => rfl) fun O x => by kernel_rfl
theorem bI : Vd Tryz.prog 120 Db := vt mix P2 FZ [] g0 rfl (fun _ _ => rfl) fun O x => by kernel_rfl
theorem Sc : Vd Tryz.prog 104 B4 := vt mix Sn Gm [(119, CC), (120, Db)] (gs UD (gs bI g0)) rfl (fun _ _ => rfl) fun O x => by kernel_rfl
theorem Oq : Vd Tryz.prog 140 BH := vt mix WA EC [(156, Bw)] (gs Yf g0) rfl (fun _ _ => rfl) fun O x => by kernel_rfl
theorem It : Vd Tryz.prog 168 Az := vt mix Z6 MB [] g0 rfl (fun _ _ => rfl) fun O x => by kernel_rfl
theorem IA : Vd Tryz.prog 169 Ay := vt mix Up IV [(168, Az)] (gs It g0) rfl (fun _ _ => rfl) fun O x => by kernel_rfl
theorem kD : Vd Tryz.prog 191 F4 := vt mix WO Jc [] g0 rfl (fun _ _ => rfl) fun O x => by kernel_rfl
theorem nJ : Vd Tryz.prog 182 Il := vt mix aQ MC [(168, Az), (169, Ay), (191, F4)] (gs It (gs IA (gs kD g0))) rfl (fun _ _ => rfl) fun O x => by kernel_rfl
theorem Ss : Vd Tryz.prog 210 Bd := vt mix SY Sp [] g0 rfl (fun _ _ => rfl) fun O x => by kernel_rfl
theorem lZ : Vd Tryz.prog 192 HH := vt mix YK Kp [(210, Bd)] (gs Ss g0) rfl (fun _ _ => rfl) fun O x => by kernel_rfl
theorem cd : Vd Tryz.prog 211 D3 := vt mix Rx F6 [] g0 rfl (fun _ _ => rfl) fun O x => by kernel_rfl
theorem YV : Vd Tryz.prog 193 C1 := vt mix NL EA [(211, D3)] (gs cd g0) rfl (fun _ _ => rfl) fun O x => by kernel_rfl
theorem bc : Vd Tryz.prog 212 Dz := vt mix Rv GF [] g0 rfl (fun _ _ => rfl) fun O x => by kernel_rfl
theorem ii : Vd Tryz.prog 194 FW := vt mix Tv IE [(210, Bd), (212, Dz)] (gs Ss (gs bc g0)) rfl (fun _ _ => rfl) fun O x => by kernel_rfl
theorem XH : Vd Tryz.prog 213 Cf := vt mix Li Dm [] g0 rfl (fun _ _ => rfl) fun O x => by kernel_rfl
theorem ZC : Vd Tryz.prog 195 DE := vt mix OU Ee [(213, Cf)] (gs XH g0) rfl (fun _ _ => rfl) fun O x => by kernel_rfl
theorem Yu : Vd Tryz.prog 183 DF := vt mix N0 El [(192, HH), (193, C1), (194, FW), (195, DE)] (gs lZ (gs YV (gs ii (gs ZC g0)))) rfl (fun _ _ => rfl) fun O x => by kernel_rfl
theorem nI : Vd Tryz.prog 184 Ic := vt mix aA L8 [(168, Az), (169, Ay)] (gs It (gs IA g0)) rfl (fun _ _ => rfl) fun O x => by kernel_rfl
theorem fF : Vd Tryz.prog 160 ET := vt mix Sf Gr [(119, CC), (140, BH), (182, Il), (183, DF), (184, Ic)] (gs UD (gs Oq (gs nJ (gs Yu (gs nI g0))))) rfl (fun _ _ => rfl) fun O x => by kernel_rfl
theorem oi : Vd Tryz.prog 161 Jt := vt mix dT Nj [(155, Ar), (157, Au)] (gs Hb (gs HE g0)) rfl (fun _ _ => rfl) fun O x => by kernel_rfl
theorem iP : Vd Tryz.prog 162 E9 := vt mix UF VF [] g0 rfl (fun _ _ => rfl) fun O x => by kernel_rfl
theorem pU : Vd Tryz.prog 163 KI := vt mix ce PF [(35, AS), (105, Am), (158, Cl), (180, Bs)] (gs Cu (gs G2 (gs XS (gs SJ g0)))) rfl (fun _ _ => rfl) fun O x => by kernel_rfl
theorem jO : Vd Tryz.prog 164 GR := vt mix Vi Jf [(155, Ar)] (gs Hb g0) rfl (fun _ _ => rfl) fun O x => by kernel_rfl
theorem lH : Vd Tryz.prog 128 G6 := vt mix YW Ks [(41, AR), (104, B4), (160, ET), (161, Jt), (162, E9), (163, KI), (164, GR)] (gs Ca (gs Sc (gs fF (gs oi (gs iP (gs pU (gs jO g0))))))) rfl (fun _ _ => rfl) fun O x => by kernel_rfl
theorem cQ : Vd Tryz.prog 165 D5 := vt mix dB PP [(140, BH), (157, Au)] (gs Oq (gs HE g0)) rfl (fun _ _ => rfl) fun O x => by kernel_rfl
theorem iQ : Vd Tryz.prog 129 FR := vt mix Uu ID [(155, Ar), (157, Au), (165, D5)] (gs Hb (gs HE (gs cQ g0))) rfl (fun _ _ => rfl) fun O x => by kernel_rfl
theorem lM : Vd Tryz.prog 130 HC := vt mix YL Kt [(155, Ar), (165, D5)] (gs Hb (gs cQ g0)) rfl (fun _ _ => rfl) fun O x => by kernel_rfl
theorem al : Vd Tryz.prog 141 Cs := vt mix Z3 Fp [] g0 rfl (fun _ _ => rfl) fun O x => by kernel_rfl
theorem kg : Vd Tryz.prog 131 GV := vt mix Vl Jd [(141, Cs), (155, Ar), (157, Au)] (gs al (gs Hb (gs HE g0))) rfl (fun _ _ => rfl) fun O x => by kernel_rfl
theorem XP : Vd Tryz.prog 167 Cp := vt mix gJ Qm [(58, AU), (59, Af), (60, Ab)] (gs EG (gs GN (gs Fa g0))) rfl (fun _ _ => rfl) fun O x => by kernel_rfl
theorem je : Vd Tryz.prog 132 F8 := vt mix WI Jg [(167, Cp)] (gs XP g0) rfl (fun _ _ => rfl) fun O x => by kernel_rfl
theorem lj : Vd Tryz.prog 133 HN := vt mix Xy Ka [(167, Cp), (168, Az), (169, Ay)] (gs XP (gs It (gs IA g0))) rfl (fun _ _ => rfl) fun O x => by kernel_rfl
theorem eJ : Vd Tryz.prog 134 D4 := vt mix RK GS [(167, Cp), (168, Az), (169, Ay)] (gs XP (gs It (gs IA g0))) rfl (fun _ _ => rfl) fun O x => by kernel_rfl
theorem jj : Vd Tryz.prog 135 Fx := vt mix V6 JX [(35, AS), (158, Cl)] (gs Cu (gs XS g0)) rfl (fun _ _ => rfl) fun O x => by kernel_rfl
theorem eh : Vd Tryz.prog 136 ES := vt mix SZ Gt [(41, AR)] (gs Ca g0) rfl (fun _ _ => rfl) fun O x => by kernel_rfl
theorem Sk : Vd Tryz.prog 112 B5 := vt mix SU Gy [(41, AR)] (gs Ca g0) rfl (fun _ _ => rfl) fun O x => by kernel_rfl
theorem ei : Vd Tryz.prog 137 ER := vt mix Sg Gv [(41, AR), (112, B5)] (gs Ca (gs Sk g0)) rfl (fun _ _ => rfl) fun O x => by kernel_rfl
theorem iE : Vd Tryz.prog 138 FL := vt mix Um FB [(41, AR)] (gs Ca g0) rfl (fun _ _ => rfl) fun O x => by kernel_rfl
theorem jR : Vd Tryz.prog 170 GA := vt mix Vg Vu [] g0 rfl (fun _ _ => rfl) fun O x => by kernel_rfl
theorem iV : Vd Tryz.prog 139 FO := vt mix VE II [(41, AR), (170, GA)] (gs Ca (gs jR g0)) rfl (fun _ _ => rfl) fun O x => by kernel_rfl
theorem fI : Vd Tryz.prog 110 Ec := vt mix Sd Eb [(126, Is), (127, J7), (128, G6), (129, FR), (130, HC), (131, GV), (132, F8), (133, HN), (134, D4), (135, Fx), (136, ES), (137, ER), (138, FL), (139, FO)] (gs nS (gs qd (gs lH (gs iQ (gs lM (gs kg (gs je (gs lj (gs eJ (gs jj (gs eh (gs ei (gs iE (gs iV g0)))))))))))))) rfl (fun _ _ => rfl) fun O x => by kernel_rfl
theorem iL : Vd Tryz.prog 111 Dd := vt mix Ud H5 [(61, BF), (140, BH), (141, Cs)] (gs OQ (gs Oq (gs al g0))) rfl (fun _ _ => rfl) fun O x => by kernel_rfl
theorem mE : Vd Tryz.prog 98 Hm := vt mix X0 Kj [(41, AR), (43, DL), (61, BF), (109, GK), (110, Ec), (111, Dd)] (gs Ca (gs aZ (gs OQ (gs jd (gs fI (gs iL g0)))))) rfl (fun _ _ => rfl) fun O x => by kernel_rfl
theorem br : Vd Tryz.prog 28 FG := vt mix bp OT [(27, DN), (42, DK), (43, DL), (62, DJ), (68, BG), (72, Bq), (73, Fy), (96, GW), (97, HG), (98, Hm), (99, Bh), (112, B5)] (gs aV (gs au (gs aZ (gs Z7 (gs L6 (gs R8 (gs kO (gs km (gs lG (gs mE (gs RS (gs Sk g0)))))))))))) rfl (fun _ _ => rfl) fun O x => by kernel_rfl
def jl : Cfg := { gam := [⟨28, [], true, true, []⟩], imm := false, old := false }
theorem rR (O : Alg) (x : Ags O) : XF (O := O) Tryz.prog jl false false [] 87 [] (xr x Z2 0) = PI O x := by kernel_rfl
theorem tD {E : Env} {M : Nat} (N : Nat) (h : ∀ ls, E 87 [] ls = PT N ls) : VV Tryz.prog E M ⟨87, [], false, false, []⟩ :=
 Ap mix (E := HA N) (N := N) (cfg := jl) (ci := ⟨87, [], false, false, []⟩) (ks := Z2) (AF (br N (fun _ => rfl)) A6) (c := PT N) (F := fun ls => PI (std (HA N) N) (xOf ls)) (fun ls => rfl) (fun ls => rR (std (HA N) N) (xOf ls)) h
theorem jW : Vd Tryz.prog 88 JZ := vt mix WC JO [(104, B4)] (gs Sc g0) rfl (fun _ _ => rfl) fun O x => by kernel_rfl
def iz : Cfg := { gam := [⟨26, [], true, true, []⟩, ⟨87, [], false, false, []⟩, ⟨88, [], true, true, []⟩], imm := false, old := true, ie := [102, 38, 85, 51, 25, 104, 3, 4, 112, 5, 139, 41, 34, 191] }
theorem qt (O : Alg) (x : Ags O) : XF (O := O) Tryz.prog iz false false [] 56 [] (xr x Zu 0) = Oc O x := by kernel_rfl
theorem tK {E : Env} {M : Nat} (N : Nat) (h : ∀ ls, E 56 [] ls = Ou N ls) : VV Tryz.prog E M ⟨56, [], false, false, []⟩ :=
 Ap mix (E := Dw N) (N := N) (cfg := iz) (ci := ⟨56, [], false, false, []⟩) (ks := Zu) (AF (gL N (fun _ => rfl)) (AF (tD N (fun _ => rfl)) (AF (jW N (fun _ => rfl)) A6))) (c := Ou N) (F := fun ls => Oc (std (Dw N) N) (xOf ls)) (fun ls => rfl) (fun ls => qt (std (Dw N) N) (xOf ls)) h
def dy : Cfg := { gam := [⟨56, [], false, false, []⟩], imm := false, old := false }
theorem nf (O : Alg) (x : Ags O) : XF (O := O) Tryz.prog dy false false [] 36 [] (xr x U0 0) = KJ O x := by kernel_rfl
theorem dn {E : Env} {M : Nat} (N : Nat) (h : ∀ ls, E 36 [] ls = FQ N ls) : VV Tryz.prog E M ⟨36, [], false, false, []⟩ :=
 Ap mix (E := E2 N) (N := N) (cfg := dy) (ci := ⟨36, [], false, false, []⟩) (ks := U0) (AF (tK N (fun _ => rfl)) A6) (c := FQ N) (F := fun ls => KJ (std (E2 N) N) (xOf ls)) (fun ls => rfl) (fun ls => nf (std (E2 N) N) (xOf ls)) h
def gk : Cfg := { gam := [⟨35, [], true, true, []⟩, ⟨36, [], false, false, []⟩], imm := false, old := false }
theorem qK (O : Alg) (x : Ags O) : XF (O := O) Tryz.prog gk true true [] 16 [] (xr x W0 0) = L5 O x := by kernel_rfl
theorem gb : Vd Tryz.prog 16 Ez := fun N h =>
 Ap mix (E := EM N) (N := N) (cfg := gk) (ci := ⟨16, [], true, true, []⟩) (ks := W0) (AF (Cu N (fun _ => rfl)) (AF (dn N (fun _ => rfl)) A6)) (c := Ez N) (F := fun ls => L5 (std (EM N) N) (xOf ls)) (fun ls => rfl) (fun ls => qK (std (EM N) N) (xOf ls)) h
theorem kF : Vd Tryz.prog 74 GM := vt mix WH JW [] g0 rfl (fun _ _ => rfl) fun O x => by kernel_rfl
theorem ZT : Vd Tryz.prog 75 C9 := vt mix Nh En [] g0 rfl (fun _ _ => rfl) fun O x => by kernel_rfl
theorem pm : Vd Tryz.prog 46 Oh := vt mix cN PZ [(74, GM), (75, C9)] (gs kF (gs ZT g0)) rfl (fun _ _ => rfl) fun O x => by kernel_rfl
theorem YS : Vd Tryz.prog 76 C2 := vt mix NC ED [] g0 rfl (fun _ _ => rfl) fun O x => by kernel_rfl
theorem de : Vd Tryz.prog 77 D2 := vt mix Rm F5 [] g0 rfl (fun _ _ => rfl) fun O x => by kernel_rfl
theorem bS : Vd Tryz.prog 78 DZ := vt mix Py FX [] g0 rfl (fun _ _ => rfl) fun O x => by kernel_rfl
theorem iW : Vd Tryz.prog 79 FT := vt mix U7 IW [] g0 rfl (fun _ _ => rfl) fun O x => by kernel_rfl
theorem lm : Vd Tryz.prog 48 K0 := vt mix YI Ku [(76, C2), (77, D2), (78, DZ), (79, FT)] (gs YS (gs de (gs bS (gs iW g0)))) rfl (fun _ _ => rfl) fun O x => by kernel_rfl
def Ie : Cfg := { gam := [⟨48, [], true, true, []⟩], imm := false, old := false }
theorem Rf (O : Alg) (x : Ags O) : XF (O := O) Tryz.prog Ie true true [] 47 [48] (xr x EI 0) = Bo O x := by kernel_rfl
theorem R2 {E : Env} {M : Nat} (N : Nat) (h : ∀ ls, E 47 [48] ls = Bp N ls) : VV Tryz.prog E M ⟨47, [48], true, true, []⟩ :=
 Ap mix (E := BE N) (N := N) (cfg := Ie) (ci := ⟨47, [48], true, true, []⟩) (ks := EI) (AF (lm N (fun _ => rfl)) A6) (c := Bp N) (F := fun ls => Bo (std (BE N) N) (xOf ls)) (fun ls => rfl) (fun ls => Rf (std (BE N) N) (xOf ls)) h
def cf : Cfg := { gam := [⟨46, [], true, true, []⟩, ⟨47, [48], true, true, []⟩], imm := false, old := false }
theorem nN (O : Alg) (x : Ags O) : XF (O := O) Tryz.prog cf true true [] 29 [] (xr x T0 0) = Jr O x := by kernel_rfl
theorem pI : Vd Tryz.prog 29 G8 := fun N h =>
 Ap mix (E := Df N) (N := N) (cfg := cf) (ci := ⟨29, [], true, true, []⟩) (ks := T0) (AF (pm N (fun _ => rfl)) (AF (R2 N (fun _ => rfl)) A6)) (c := G8 N) (F := fun ls => Jr (std (Df N) N) (xOf ls)) (fun ls => rfl) (fun ls => nN (std (Df N) N) (xOf ls)) h
theorem UZ : Vd Tryz.prog 9 CJ := vt mix UM IJ [(16, Ez), (26, Ge), (27, DN), (28, FG), (29, G8)] (gs gb (gs gL (gs aV (gs br (gs pI g0))))) rfl (fun _ _ => rfl) fun O x => by kernel_rfl
theorem Zl : Vd Tryz.prog 33 Ef := fun N h =>
 Lt mix (T := 25) (e := 38) (b := 136) Tryz.func33 Tryz.underlying25 (by kernel_rfl) (by decide) (fun O l => by kernel_rfl) (fun O l => by kernel_rfl) h
def Sm : Cfg := { gam := [⟨36, [], false, false, []⟩], imm := false, old := false }
theorem dq (O : Alg) (x : Ags O) : XF (O := O) Tryz.prog Sm false false [] 34 [] (xr x LR 0) = EY O x := by kernel_rfl
theorem ej {E : Env} {M : Nat} (N : Nat) (h : ∀ ls, E 34 [] ls = DH N ls) : VV Tryz.prog E M ⟨34, [], false, false, []⟩ :=
 Ap mix (E := Ce N) (N := N) (cfg := Sm) (ci := ⟨34, [], false, false, []⟩) (ks := LR) (AF (dn N (fun _ => rfl)) A6) (c := DH N) (F := fun ls => EY (std (Ce N) N) (xOf ls)) (fun ls => rfl) (fun ls => dq (std (Ce N) N) (xOf ls)) h
def Sl : Cfg := { gam := [⟨16, [], true, true, []⟩, ⟨33, [], true, true, []⟩, ⟨34, [], false, false, []⟩], imm := false, old := false }
theorem cP (O : Alg) (x : Ags O) : XF (O := O) Tryz.prog Sl false false [] 11 [] (xr x LG 0) = EP O x := by kernel_rfl
theorem ek {E : Env} {M : Nat} (N : Nat) (h : ∀ ls, E 11 [] ls = CV N ls) : VV Tryz.prog E M ⟨11, [], false, false, []⟩ :=
 Ap mix (E := Bc N) (N := N) (cfg := Sl) (ci := ⟨11, [], false, false, []⟩) (ks := LG) (AF (gb N (fun _ => rfl)) (AF (Zl N (fun _ => rfl)) (AF (ej N (fun _ => rfl)) A6))) (c := CV N) (F := fun ls => EP (std (Bc N) N) (xOf ls)) (fun ls => rfl) (fun ls => cP (std (Bc N) N) (xOf ls)) h
theorem rJ : Vd Tryz.prog 39 W8 := vt mix ga fU [] g0 rfl (fun _ _ => rfl) fun O x => by kernel_rfl
theorem u7 : Vd Tryz.prog 23 We := vt mix mc mU [(39, W8)] (gs rJ g0) rfl (fun _ _ => rfl) fun O x => by kernel_rfl
theorem q0 : Vd Tryz.prog 24 Qc := vt mix fa f8 [] g0 rfl (fun _ _ => rfl) fun O x => by kernel_rfl
theorem uC : Vd Tryz.prog 25 TU := vt mix kY jY [] g0 rfl (fun _ _ => rfl) fun O x => by kernel_rfl
def gp : Cfg := { gam := [⟨9, [], true, true, []⟩, ⟨11, [], false, false, []⟩, ⟨23, [], true, true, []⟩, ⟨24, [], true, true, []⟩, ⟨25, [], true, true, []⟩], imm := false, old := false }
theorem qB (O : Alg) (x : Ags O) : XF (O := O) Tryz.prog gp true true [] 8 [] (xr x W3 0) = LS O x := by kernel_rfl
theorem sC : Vd Tryz.prog 8 Gi := fun N h =>
 Ap mix (E := CN N) (N := N) (cfg := gp) (ci := ⟨8, [], true, true, []⟩) (ks := W3) (AF (UZ N (fun _ => rfl)) (AF (ek N (fun _ => rfl)) (AF (u7 N (fun _ => rfl)) (AF (q0 N (fun _ => rfl)) (AF (uC N (fun _ => rfl)) A6))))) (c := Gi N) (F := fun ls => LS (std (CN N) N) (xOf ls)) (fun ls => rfl) (fun ls => qB (std (CN N) N) (xOf ls)) h
theorem sw : Vd Tryz.prog 80 Nw := vt mix kh S0 [] g0 rfl (fun _ _ => rfl) fun O x => by kernel_rfl
theorem wY : Vd Tryz.prog 81 U1 := vt mix pt py [] g0 rfl (fun _ _ => rfl) fun O x => by kernel_rfl
theorem C5 : Vd Tryz.prog 49 AY := vt mix go Qp [(80, Nw), (81, U1)] (gs sw (gs wY g0)) rfl (fun _ _ => rfl) fun O x => by kernel_rfl
theorem fM : Vd Tryz.prog 101 Er := vt mix gf Q9 [] g0 rfl (fun _ _ => rfl) fun O x => by kernel_rfl
theorem vw : Vd Tryz.prog 82 WK := vt mix mb Vx [(49, AY), (101, Er)] (gs C5 (gs fM g0)) rfl (fun _ _ => rfl) fun O x => by kernel_rfl
theorem B1 : Vd Tryz.prog 171 AO := vt mix fY Qs [] g0 rfl (fun _ _ => rfl) fun O x => by kernel_rfl
theorem W6 : Vd Tryz.prog 142 C6 := vt mix f5 Qr [(171, AO)] (gs B1 g0) rfl (fun _ _ => rfl) fun O x => by kernel_rfl
theorem rp : Vd Tryz.prog 113 Qy := vt mix fm RA [(101, Er), (142, C6)] (gs fM (gs W6 g0)) rfl (fun _ _ => rfl) fun O x => by kernel_rfl
theorem iM : Vd Tryz.prog 185 FU := vt mix ql pN [] g0 rfl (fun _ _ => rfl) fun O x => by kernel_rfl
theorem vF : Vd Tryz.prog 186 RZ := vt mix nF V9 [(185, FU)] (gs iM g0) rfl (fun _ _ => rfl) fun O x => by kernel_rfl
theorem RH : Vd Tryz.prog 188 BX := vt mix gP JA [] g0 rfl (fun _ _ => rfl) fun O x => by kernel_rfl
theorem oA : Vd Tryz.prog 187 Iq := vt mix ai MV [(188, BX)] (gs RH g0) rfl (fun _ _ => rfl) fun O x => by kernel_rfl
theorem W4 : Vd Tryz.prog 172 Co := vt mix fu Qk [(49, AY), (185, FU), (186, RZ), (187, Iq)] (gs C5 (gs iM (gs vF (gs oA g0)))) rfl (fun _ _ => rfl) fun O x => by kernel_rfl
theorem Lh : Vd Tryz.prog 148 B2 := vt mix gV Q3 [] g0 rfl (fun _ _ => rfl) fun O x => by kernel_rfl
theorem dh : Vd Tryz.prog 173 FF := vt mix dP Nm [(148, B2)] (gs Lh g0) rfl (fun _ _ => rfl) fun O x => by kernel_rfl
theorem jT : Vd Tryz.prog 143 GP := vt mix WG JS [(172, Co), (173, FF)] (gs W4 (gs dh g0)) rfl (fun _ _ => rfl) fun O x => by kernel_rfl
theorem Wg : Vd Tryz.prog 114 Eu := vt mix gQ Qg [(49, AY), (143, GP)] (gs C5 (gs jT g0)) rfl (fun _ _ => rfl) fun O x => by kernel_rfl
theorem qQ : Vd Tryz.prog 144 KM := vt mix cC PC [] g0 rfl (fun _ _ => rfl) fun O x => by kernel_rfl
theorem ua : Vd Tryz.prog 145 Oj := vt mix jc Sw [] g0 rfl (fun _ _ => rfl) fun O x => by kernel_rfl
theorem w6 : Vd Tryz.prog 146 UN := vt mix qk ip [] g0 rfl (fun _ _ => rfl) fun O x => by kernel_rfl
theorem wh : Vd Tryz.prog 174 UG := vt mix pH im [] g0 rfl (fun _ _ => rfl) fun O x => by kernel_rfl
theorem ry : Vd Tryz.prog 147 Lo := vt mix gI Qo [(174, UG)] (gs wh g0) rfl (fun _ _ => rfl) fun O x => by kernel_rfl
theorem gG : Vd Tryz.prog 115 JB := vt mix fo Qf [(144, KM), (145, Oj), (146, UN), (147, Lo)] (gs qQ (gs ua (gs w6 (gs ry g0)))) rfl (fun _ _ => rfl) fun O x => by kernel_rfl
theorem Wj : Vd Tryz.prog 151 Es := vt mix gS Qx [] g0 rfl (fun _ _ => rfl) fun O x => by kernel_rfl
def jP : Cfg := { gam := [], imm := false, old := false }
theorem ro (O : Alg) (x : Ags O) : XF (O := O) Tryz.prog jP false false [] 117 [] (xr x ZO 0) = PN O x := by kernel_rfl
theorem S4 {E : Env} {M : Nat} (N : Nat) (h : ∀ ls, E 117 [] ls = DD N ls) : VV Tryz.prog E M ⟨117, [], false, false, []⟩ :=
 Ap mix (E := Js N) (N := N) (cfg := jP) (ci := ⟨117, [], false, false, []⟩) (ks := ZO) A6 (c := DD N) (F := fun ls => PN (std (Js N) N) (xOf ls)) (fun ls => rfl) (fun ls => ro (std (Js N) N) (xOf ls)) h
def ao : Cfg := { gam := [⟨114, [], true, true, []⟩, ⟨117, [], false, false, []⟩, ⟨173, [], true, true, []⟩], imm := false, old := false }
theorem mF (O : Alg) (x : Ags O) : XF (O := O) Tryz.prog ao true true [] 175 [] (xr x Rz 0) = I1 O x := by kernel_rfl
theorem nv : Vd Tryz.prog 175 Ih := fun N h =>
 Ap mix (E := Cb N) (N := N) (cfg := ao) (ci := ⟨175, [], true, true, []⟩) (ks := Rz) (AF (Wg N (fun _ => rfl)) (AF (S4 N (fun _ => rfl)) (AF (dh N (fun _ => rfl)) A6))) (c := Ih N) (F := fun ls => I1 (std (Cb N) N) (xOf ls)) (fun ls => rfl) (fun ls => mF (std (Cb N) N) (xOf ls)) h
theorem rb : Vd Tryz.prog 176 Qw := vt mix fZ Q8 [(49, AY), (185, FU)] (gs C5 (gs iM g0)) rfl (fun _ _ => rfl) fun O x => by kernel_rfl
theorem aU : Vd Tryz.prog 178 Fr := vt mix aI MD [(142, C6)] (gs W6 g0) rfl (fun _ _ => rfl) fun O x => by kernel_rfl
theorem OK : Vd Tryz.prog 214 BV := vt mix du PA [] g0 rfl (fun _ _ => rfl) fun O x => by kernel_rfl
theorem tc : Vd Tryz.prog 196 TP := vt mix jD TB [(171, AO), (188, BX), (214, BV)] (gs B1 (gs RH (gs OK g0))) rfl (fun _ _ => rfl) fun O x => by kernel_rfl
theorem Hf : Vd Tryz.prog 227 Aw := vt mix Xm Kd [] g0 rfl (fun _ _ => rfl) fun O x => by kernel_rfl
theorem Tz : Vd Tryz.prog 229 CG := vt mix dY OH [] g0 rfl (fun _ _ => rfl) fun O x => by kernel_rfl
theorem ug : Vd Tryz.prog 230 N3 := vt mix kX Tm [(49, AY), (229, CG)] (gs C5 (gs Tz g0)) rfl (fun _ _ => rfl) fun O x => by kernel_rfl
theorem mS : Vd Tryz.prog 231 Ht := vt mix mX Vk [] g0 rfl (fun _ _ => rfl) fun O x => by kernel_rfl
theorem u5 : Vd Tryz.prog 215 RQ := vt mix mR Vt [(49, AY), (227, Aw), (229, CG), (230, N3), (231, Ht)] (gs C5 (gs Hf (gs Tz (gs ug (gs mS g0))))) rfl (fun _ _ => rfl) fun O x => by kernel_rfl
theorem tX : Vd Tryz.prog 197 TC := vt mix jk TS [(171, AO), (215, RQ)] (gs B1 (gs u5 g0)) rfl (fun _ _ => rfl) fun O x => by kernel_rfl
theorem Us : Vd Tryz.prog 208 CE := vt mix dV Hg [(188, BX)] (gs RH g0) rfl (fun _ _ => rfl) fun O x => by kernel_rfl
theorem Nv : Vd Tryz.prog 226 BT := vt mix cG Oy [] g0 rfl (fun _ _ => rfl) fun O x => by kernel_rfl
theorem nR : Vd Tryz.prog 232 Ig := vt mix Z8 L9 [] g0 rfl (fun _ _ => rfl) fun O x => by kernel_rfl
theorem rY : Vd Tryz.prog 216 Qe := vt mix f9 Qu [(226, BT), (227, Aw), (232, Ig)] (gs Nv (gs Hf (gs nR g0))) rfl (fun _ _ => rfl) fun O x => by kernel_rfl
theorem w9 : Vd Tryz.prog 233 VD := vt mix qj ig [] g0 rfl (fun _ _ => rfl) fun O x => by kernel_rfl
theorem l7 : Vd Tryz.prog 234 Hi := vt mix YG Kx [] g0 rfl (fun _ _ => rfl) fun O x => by kernel_rfl
theorem gO : Vd Tryz.prog 217 Gb := vt mix gj RD [(233, VD), (234, Hi)] (gs w9 (gs l7 g0)) rfl (fun _ _ => rfl) fun O x => by kernel_rfl
theorem lw : Vd Tryz.prog 235 HX := vt mix YJ Kw [] g0 rfl (fun _ _ => rfl) fun O x => by kernel_rfl
theorem wv : Vd Tryz.prog 236 T1 := vt mix o4 Y3 [] g0 rfl (fun _ _ => rfl) fun O x => by kernel_rfl
theorem oc : Vd Tryz.prog 237 Jj := vt mix dz PY [] g0 rfl (fun _ _ => rfl) fun O x => by kernel_rfl
theorem lK : Vd Tryz.prog 218 Kq := vt mix YU Ky [(235, HX), (236, T1), (237, Jj)] (gs lw (gs wv (gs oc g0))) rfl (fun _ _ => rfl) fun O x => by kernel_rfl
theorem rH : Vd Tryz.prog 219 Qi := vt mix fg Q7 [(226, BT), (227, Aw)] (gs Nv (gs Hf g0)) rfl (fun _ _ => rfl) fun O x => by kernel_rfl
theorem mI : Vd Tryz.prog 238 HR := vt mix Xg K3 [] g0 rfl (fun _ _ => rfl) fun O x => by kernel_rfl
theorem rO : Vd Tryz.prog 239 Le := vt mix fL Q0 [] g0 rfl (fun _ _ => rfl) fun O x => by kernel_rfl
theorem pB : Vd Tryz.prog 220 Ny := vt mix cj N6 [(217, Gb), (238, HR), (239, Le)] (gs gO (gs mI (gs rO g0))) rfl (fun _ _ => rfl) fun O x => by kernel_rfl
theorem db : Vd Tryz.prog 223 FJ := vt mix cV PM [(171, AO)] (gs B1 g0) rfl (fun _ _ => rfl) fun O x => by kernel_rfl
theorem vJ : Vd Tryz.prog 221 Wa := vt mix mq WU [(171, AO), (214, BV), (223, FJ)] (gs B1 (gs OK (gs db g0))) rfl (fun _ _ => rfl) fun O x => by kernel_rfl
theorem sg : Vd Tryz.prog 222 Sy := vt mix jC TQ [(49, AY), (171, AO), (229, CG), (231, Ht)] (gs C5 (gs B1 (gs Tz (gs mS g0)))) rfl (fun _ _ => rfl) fun O x => by kernel_rfl
theorem rQ : Vd Tryz.prog 224 Q4 := vt mix gE fj [] g0 rfl (fun _ _ => rfl) fun O x => by kernel_rfl
def jq : Cfg := { gam := [⟨208, [], true, true, []⟩, ⟨216, [], true, true, []⟩, ⟨217, [], true, true, []⟩, ⟨218, [], true, true, []⟩, ⟨219, [], true, true, []⟩, ⟨220, [], true, true, []⟩, ⟨221, [], true, true, []⟩, ⟨222, [], true, true, []⟩, ⟨223, [], true, true, []⟩, ⟨224, [], true, true, []⟩], imm := false, old := false }
theorem qy (O : Alg) (x : Ags O) : XF (O := O) Tryz.prog jq false false [] 198 [] (xr x Zx 0) = O4 O x := by kernel_rfl
theorem ss {E : Env} {M : Nat} (N : Nat) (h : ∀ ls, E 198 [] ls = O1 N ls) : VV Tryz.prog E M ⟨198, [], false, false, []⟩ :=
 Ap mix (E := BJ N) (N := N) (cfg := jq) (ci := ⟨198, [], false, false, []⟩) (ks := Zx) (AF (Us N (fun _ => rfl)) (AF (rY N (fun _ => rfl)) (AF (gO N (fun _ => rfl)) (AF (lK N (fun _ => rfl)) (AF (rH N (fun _ => rfl)) (AF (pB N (fun _ => rfl)) (AF (vJ N (fun _ => rfl)) (AF (sg N (fun _ => rfl)) (AF (db N (fun _ => rfl)) (AF (rQ N (fun _ => rfl)) A6)))))))))) (c := O1 N) (F := fun ls => O4 (std (BJ N) N) (xOf ls)) (fun ls => rfl) (fun ls => qy (std (BJ N) N) (xOf ls)) h
theorem f6 : Vd Tryz.prog 225 Et := vt mix fc Qn [(208, CE), (214, BV)] (gs Us (gs OK g0)) rfl (fun _ _ => rfl) fun O x => by kernel_rfl
theorem nP : Vd Tryz.prog 199 Mh := vt mix aF L7 [(171, AO), (225, Et)] (gs B1 (gs f6 g0)) rfl (fun _ _ => rfl) fun O x => by kernel_rfl
theorem qu : Vd Tryz.prog 200 RC := vt mix gZ RG [(171, AO), (225, Et)] (gs B1 (gs f6 g0)) rfl (fun _ _ => rfl) fun O x => by kernel_rfl
theorem jB : Vd Tryz.prog 209 Eh := vt mix jA LA [] g0 rfl (fun _ _ => rfl) fun O x => by kernel_rfl
theorem qJ : Vd Tryz.prog 201 PG := vt mix dR Ox [(171, AO), (209, Eh), (214, BV)] (gs B1 (gs jB (gs OK g0))) rfl (fun _ _ => rfl) fun O x => by kernel_rfl
theorem nY : Vd Tryz.prog 202 MK := vt mix aR MI [(171, AO)] (gs B1 g0) rfl (fun _ _ => rfl) fun O x => by kernel_rfl
theorem qo : Vd Tryz.prog 203 N9 := vt mix cz O5 [(171, AO), (226, BT), (227, Aw)] (gs B1 (gs Nv (gs Hf g0))) rfl (fun _ _ => rfl) fun O x => by kernel_rfl
theorem iu : Vd Tryz.prog 204 IY := vt mix Ul IC [(171, AO), (226, BT), (227, Aw)] (gs B1 (gs Nv (gs Hf g0))) rfl (fun _ _ => rfl) fun O x => by kernel_rfl
theorem np : Vd Tryz.prog 205 Mg := vt mix ar MM [(49, AY), (171, AO)] (gs C5 (gs B1 g0)) rfl (fun _ _ => rfl) fun O x => by kernel_rfl
def cl : Cfg := { gam := [], imm := false, old := false }
theorem nj (O : Alg) (x : Ags O) : XF (O := O) Tryz.prog cl false false [] 206 [] (xr x U4 0) = HU O x := by kernel_rfl
theorem om {E : Env} {M : Nat} (N : Nat) (h : ∀ ls, E 206 [] ls = J9 N ls) : VV Tryz.prog E M ⟨206, [], false, false, []⟩ :=
 Ap mix (E := HW N) (N := N) (cfg := cl) (ci := ⟨206, [], false, false, []⟩) (ks := U4) A6 (c := J9 N) (F := fun ls => HU (std (HW N) N) (xOf ls)) (fun ls => rfl) (fun ls => nj (std (HW N) N) (xOf ls)) h
theorem rt : Vd Tryz.prog 228 RE := vt mix gn gK [] g0 rfl (fun _ _ => rfl) fun O x => by kernel_rfl
def dD : Cfg := { gam := [⟨228, [], true, true, []⟩], imm := false, old := false }
theorem nU (O : Alg) (x : Ags O) : XF (O := O) Tryz.prog dD false false [] 207 [] (xr x UK 0) = Jz O x := by kernel_rfl
theorem ox {E : Env} {M : Nat} (N : Nat) (h : ∀ ls, E 207 [] ls = KB N ls) : VV Tryz.prog E M ⟨207, [], false, false, []⟩ :=
 Ap mix (E := E0 N) (N := N) (cfg := dD) (ci := ⟨207, [], false, false, []⟩) (ks := UK) (AF (rt N (fun _ => rfl)) A6) (c := KB N) (F := fun ls => Jz (std (E0 N) N) (xOf ls)) (fun ls => rfl) (fun ls => nU (std (E0 N) N) (xOf ls)) h
def mz : Cfg := { gam := [⟨178, [], true, true, []⟩, ⟨196, [], true, true, []⟩, ⟨197, [], true, true, []⟩, ⟨198, [], false, false, []⟩, ⟨199, [], true, true, []⟩, ⟨200, [], true, true, []⟩, ⟨201, [], true, true, []⟩, ⟨202, [], true, true, []⟩, ⟨203, [], true, true, []⟩, ⟨204, [], true, true, []⟩, ⟨205, [], true, true, []⟩, ⟨206, [], false, false, []⟩, ⟨207, [], false, false, []⟩], imm := false, old := false }
theorem tR (O : Alg) (x : Ags O) : XF (O := O) Tryz.prog mz false false [] 189 [] (xr x cW 0) = M7 O x := by kernel_rfl
theorem vh {E : Env} {M : Nat} (N : Nat) (h : ∀ ls, E 189 [] ls = Ro N ls) : VV Tryz.prog E M ⟨189, [], false, false, []⟩ :=
 Ap mix (E := A4 N) (N := N) (cfg := mz) (ci := ⟨189, [], false, false, []⟩) (ks := cW) (AF (aU N (fun _ => rfl)) (AF (tc N (fun _ => rfl)) (AF (tX N (fun _ => rfl)) (AF (ss N (fun _ => rfl)) (AF (nP N (fun _ => rfl)) (AF (qu N (fun _ => rfl)) (AF (qJ N (fun _ => rfl)) (AF (nY N (fun _ => rfl)) (AF (qo N (fun _ => rfl)) (AF (iu N (fun _ => rfl)) (AF (np N (fun _ => rfl)) (AF (om N (fun _ => rfl)) (AF (ox N (fun _ => rfl)) A6))))))))))))) (c := Ro N) (F := fun ls => M7 (std (A4 N) N) (xOf ls)) (fun ls => rfl) (fun ls => tR (std (A4 N) N) (xOf ls)) h
theorem qU : Vd Tryz.prog 190 KA := vt mix bo Nl [(172, Co), (208, CE), (209, Eh)] (gs W4 (gs Us (gs jB g0))) rfl (fun _ _ => rfl) fun O x => by kernel_rfl
def kA : Cfg := { gam := [⟨115, [], true, true, []⟩, ⟨142, [], true, true, []⟩, ⟨172, [], true, true, []⟩, ⟨188, [], true, true, []⟩, ⟨189, [], false, false, []⟩, ⟨190, [], true, true, []⟩], imm := false, old := false }
theorem rG (O : Alg) (x : Ags O) : XF (O := O) Tryz.prog kA false false [] 177 [] (xr x Y1 0) = Ns O x := by kernel_rfl
theorem i6 {E : Env} {M : Nat} (N : Nat) (h : ∀ ls, E 177 [] ls = IM N ls) : VV Tryz.prog E M ⟨177, [], false, false, []⟩ :=
 Ap mix (E := CD N) (N := N) (cfg := kA) (ci := ⟨177, [], false, false, []⟩) (ks := Y1) (AF (gG N (fun _ => rfl)) (AF (W6 N (fun _ => rfl)) (AF (W4 N (fun _ => rfl)) (AF (RH N (fun _ => rfl)) (AF (vh N (fun _ => rfl)) (AF (qU N (fun _ => rfl)) A6)))))) (c := IM N) (F := fun ls => Ns (std (CD N) N) (xOf ls)) (fun ls => rfl) (fun ls => rG (std (CD N) N) (xOf ls)) h
def kL : Cfg := { gam := [⟨148, [], true, true, []⟩, ⟨151, [], true, true, []⟩, ⟨175, [], true, true, []⟩, ⟨176, [], true, true, []⟩, ⟨177, [], false, false, []⟩], imm := false, old := false }
theorem sA (O : Alg) (x : Ags O) : XF (O := O) Tryz.prog kL false false [true, false] 149 [] (xr x ZA 0) = PQ O x := by kernel_rfl
theorem sv {E : Env} {M : Nat} (N : Nat) (h : ∀ ls, E 149 [] ls = OJ N ls) : VV Tryz.prog E M ⟨149, [], false, false, [true, false]⟩ :=
 Ap mix (E := Cg N) (N := N) (cfg := kL) (ci := ⟨149, [], false, false, [true, false]⟩) (ks := ZA) (AF (Lh N (fun _ => rfl)) (AF (Wj N (fun _ => rfl)) (AF (nv N (fun _ => rfl)) (AF (rb N (fun _ => rfl)) (AF (i6 N (fun _ => rfl)) A6))))) (c := OJ N) (F := fun ls => PQ (std (Cg N) N) (xOf ls)) (fun ls => rfl) (fun ls => sA (std (Cg N) N) (xOf ls)) h
def jG : Cfg := { gam := [⟨177, [], false, false, []⟩, ⟨178, [], true, true, []⟩], imm := true, old := true }
theorem rT (O : Alg) (x : Ags O) : XF (O := O) Tryz.prog jG false false [true, false] 150 [] (xr x Zj 0) = Oz O x := by kernel_rfl
theorem uj {E : Env} {M : Nat} (N : Nat) (h : ∀ ls, E 150 [] ls = PX N ls) : VV Tryz.prog E M ⟨150, [], false, false, [true, false]⟩ :=
 Ap mix (E := FN N) (N := N) (cfg := jG) (ci := ⟨150, [], false, false, [true, false]⟩) (ks := Zj) (AF (i6 N (fun _ => rfl)) (AF (aU N (fun _ => rfl)) A6)) (c := PX N) (F := fun ls => Oz (std (FN N) N) (xOf ls)) (fun ls => rfl) (fun ls => rT (std (FN N) N) (xOf ls)) h
def mY : Cfg := { gam := [⟨148, [], true, true, []⟩, ⟨149, [], false, false, [true, false]⟩, ⟨150, [], false, false, [true, false]⟩], imm := false, old := false }
theorem tG (O : Alg) (x : Ags O) : XF (O := O) Tryz.prog mY false false [true, false] 116 [] (xr x dH 0) = RX O x := by kernel_rfl
theorem vU {E : Env} {M : Nat} (N : Nat) (h : ∀ ls, E 116 [] ls = RT N ls) : VV Tryz.prog E M ⟨116, [], false, false, [true, false]⟩ :=
 Ap mix (E := Ey N) (N := N) (cfg := mY) (ci := ⟨116, [], false, false, [true, false]⟩) (ks := dH) (AF (Lh N (fun _ => rfl)) (AF (sv N (fun _ => rfl)) (AF (uj N (fun _ => rfl)) A6))) (c := RT N) (F := fun ls => RX (std (Ey N) N) (xOf ls)) (fun ls => rfl) (fun ls => tG (std (Ey N) N) (xOf ls)) h
def aE : Cfg := { gam := [⟨114, [], true, true, []⟩, ⟨117, [], false, false, []⟩, ⟨148, [], true, true, []⟩, ⟨151, [], true, true, []⟩], imm := false, old := false }
theorem mN (O : Alg) (x : Ags O) : XF (O := O) Tryz.prog aE true true [] 152 [] (xr x SC 0) = Im O x := by kernel_rfl
theorem nG : Vd Tryz.prog 152 Ii := fun N h =>
 Ap mix (E := B7 N) (N := N) (cfg := aE) (ci := ⟨152, [], true, true, []⟩) (ks := SC) (AF (Wg N (fun _ => rfl)) (AF (S4 N (fun _ => rfl)) (AF (Lh N (fun _ => rfl)) (AF (Wj N (fun _ => rfl)) A6)))) (c := Ii N) (F := fun ls => Im (std (B7 N) N) (xOf ls)) (fun ls => rfl) (fun ls => mN (std (B7 N) N) (xOf ls)) h
def dJ : Cfg := { gam := [⟨117, [], false, false, []⟩, ⟨148, [], true, true, []⟩, ⟨151, [], true, true, []⟩, ⟨152, [], true, true, []⟩], imm := false, old := false }
theorem nr (O : Alg) (x : Ags O) : XF (O := O) Tryz.prog dJ false false [] 118 [] (xr x Uq 0) = Jy O x := by kernel_rfl
theorem pY {E : Env} {M : Nat} (N : Nat) (h : ∀ ls, E 118 [] ls = KS N ls) : VV Tryz.prog E M ⟨118, [], false, false, []⟩ :=
 Ap mix (E := CO N) (N := N) (cfg := dJ) (ci := ⟨118, [], false, false, []⟩) (ks := Uq) (AF (S4 N (fun _ => rfl)) (AF (Lh N (fun _ => rfl)) (AF (Wj N (fun _ => rfl)) (AF (nG N (fun _ => rfl)) A6)))) (c := KS N) (F := fun ls => Jy (std (CO N) N) (xOf ls)) (fun ls => rfl) (fun ls => nr (std (CO N) N) (xOf ls)) h
def jm : Cfg := { gam := [⟨113, [], true, true, []⟩, ⟨114, [], true, true, []⟩, ⟨115, [], true, true, []⟩, ⟨116, [], false, false, [true, false]⟩, ⟨117, [], false, false, []⟩, ⟨118, [], false, false, []⟩], imm := false, old := false }
theorem qx (O : Alg) (x : Ags O) : XF (O := O) Tryz.prog jm false false [] 102 [] (xr x Yj 0) = OA O x := by kernel_rfl
theorem sa {E : Env} {M : Nat} (N : Nat) (h : ∀ ls, E 102 [] ls = OS N ls) : VV Tryz.prog E M ⟨102, [], false, false, []⟩ :=
 Ap mix (E := CF N) (N := N) (cfg := jm) (ci := ⟨102, [], false, false, []⟩) (ks := Yj) (AF (rp N (fun _ => rfl)) (AF (Wg N (fun _ => rfl)) (AF (gG N (fun _ => rfl)) (AF (vU N (fun _ => rfl)) (AF (S4 N (fun _ => rfl)) (AF (pY N (fun _ => rfl)) A6)))))) (c := OS N) (F := fun ls => OA (std (CF N) N) (xOf ls)) (fun ls => rfl) (fun ls => qx (std (CF N) N) (xOf ls)) h
def kS : Cfg := { gam := [⟨102, [], false, false, []⟩], imm := true, old := true }
theorem ri (O : Alg) (x : Ags O) : XF (O := O) Tryz.prog kS false false [] 83 [] (xr x Zy 0) = Of O x := by kernel_rfl
theorem th {E : Env} {M : Nat} (N : Nat) (h : ∀ ls, E 83 [] ls = N5 N ls) : VV Tryz.prog E M ⟨83, [], false, false, []⟩ :=
 Ap mix (E := Ha N) (N := N) (cfg := kS) (ci := ⟨83, [], false, false, []⟩) (ks := Zy) (AF (sa N (fun _ => rfl)) A6) (c := N5 N) (F := fun ls => Of (std (Ha N) N) (xOf ls)) (fun ls => rfl) (fun ls => ri (std (Ha N) N) (xOf ls)) h
def bg : Cfg := { gam := [⟨82, [], true, true, []⟩, ⟨83, [], false, false, []⟩], imm := false, old := false }
theorem oB (O : Alg) (x : Ags O) : XF (O := O) Tryz.prog bg false false [] 50 [] (xr x Tw 0) = KP O x := by kernel_rfl
theorem cM {E : Env} {M : Nat} (N : Nat) (h : ∀ ls, E 50 [] ls = Du N ls) : VV Tryz.prog E M ⟨50, [], false, false, []⟩ :=
 Ap mix (E := Dh N) (N := N) (cfg := bg) (ci := ⟨50, [], false, false, []⟩) (ks := Tw) (AF (vw N (fun _ => rfl)) (AF (th N (fun _ => rfl)) A6)) (c := Du N) (F := fun ls => KP (std (Dh N) N) (xOf ls)) (fun ls => rfl) (fun ls => oB (std (Dh N) N) (xOf ls)) h
def fT : Cfg := { gam := [⟨49, [], true, true, []⟩, ⟨50, [], false, false, []⟩], imm := false, old := false }
theorem pw (O : Alg) (x : Ags O) : XF (O := O) Tryz.prog fT true true [] 30 [] (xr x XA 0) = LU O x := by kernel_rfl
theorem rN : Vd Tryz.prog 30 Lj := fun N h =>
 Ap mix (E := EK N) (N := N) (cfg := fT) (ci := ⟨30, [], true, true, []⟩) (ks := XA) (AF (C5 N (fun _ => rfl)) (AF (cM N (fun _ => rfl)) A6)) (c := Lj N) (F := fun ls => LU (std (EK N) N) (xOf ls)) (fun ls => rfl) (fun ls => pw (std (EK N) N) (xOf ls)) h
def oz : Cfg := { gam := [⟨49, [], true, true, []⟩, ⟨50, [], false, false, []⟩], imm := false, old := false }
theorem vo (O : Alg) (x : Ags O) : XF (O := O) Tryz.prog oz false false [] 51 [] (xr x g9 0) = UP O x := by kernel_rfl
theorem wq {E : Env} {M : Nat} (N : Nat) (h : ∀ ls, E 51 [] ls = UO N ls) : VV Tryz.prog E M ⟨51, [], false, false, []⟩ :=
 Ap mix (E := IL N) (N := N) (cfg := oz) (ci := ⟨51, [], false, false, []⟩) (ks := g9) (AF (C5 N (fun _ => rfl)) (AF (cM N (fun _ => rfl)) A6)) (c := UO N) (F := fun ls => UP (std (IL N) N) (xOf ls)) (fun ls => rfl) (fun ls => vo (std (IL N) N) (xOf ls)) h
def dr : Cfg := { gam := [⟨51, [], false, false, []⟩], imm := false, old := true }
theorem oG (O : Alg) (x : Ags O) : XF (O := O) Tryz.prog dr false false [] 31 [] (xr x UC 0) = J2 O x := by kernel_rfl
theorem ob {E : Env} {M : Nat} (N : Nat) (h : ∀ ls, E 31 [] ls = J3 N ls) : VV Tryz.prog E M ⟨31, [], false, false, []⟩ :=
 Ap mix (E := E3 N) (N := N) (cfg := dr) (ci := ⟨31, [], false, false, []⟩) (ks := UC) (AF (wq N (fun _ => rfl)) A6) (c := J3 N) (F := fun ls => J2 (std (E3 N) N) (xOf ls)) (fun ls => rfl) (fun ls => oG (std (E3 N) N) (xOf ls)) h
theorem tu : Vd Tryz.prog 84 OC := vt mix i3 Td [] g0 rfl (fun _ _ => rfl) fun O x => by kernel_rfl
theorem tn : Vd Tryz.prog 103 Oa := vt mix jo TT [] g0 rfl (fun _ _ => rfl) fun O x => by kernel_rfl
theorem sy : Vd Tryz.prog 85 O6 := vt mix js TA [(103, Oa)] (gs tn g0) rfl (fun _ _ => rfl) fun O x => by kernel_rfl
theorem tg : Vd Tryz.prog 52 PD := vt mix kG TX [(84, OC), (85, O6)] (gs tu (gs sy g0)) rfl (fun _ _ => rfl) fun O x => by kernel_rfl
theorem tE : Vd Tryz.prog 32 OE := vt mix kV S9 [(52, PD)] (gs tg g0) rfl (fun _ _ => rfl) fun O x => by kernel_rfl
def bv : Cfg := { gam := [⟨30, [], true, true, []⟩, ⟨31, [], false, false, []⟩, ⟨32, [], true, true, []⟩], imm := false, old := false }
theorem nn (O : Alg) (x : Ags O) : XF (O := O) Tryz.prog bv true true [] 10 [] (xr x Ut 0) = KN O x := by kernel_rfl
theorem qO : Vd Tryz.prog 10 Hl := fun N h =>
 Ap mix (E := C0 N) (N := N) (cfg := bv) (ci := ⟨10, [], true, true, []⟩) (ks := Ut) (AF (rN N (fun _ => rfl)) (AF (ob N (fun _ => rfl)) (AF (tE N (fun _ => rfl)) A6))) (c := Hl N) (F := fun ls => KN (std (C0 N) N) (xOf ls)) (fun ls => rfl) (fun ls => nn (std (C0 N) N) (xOf ls)) h
theorem ZZ : Vd Tryz.prog 3 Eg := vt mix Nk Ek [(8, Gi), (9, CJ), (10, Hl)] (gs sC (gs UZ (gs qO g0))) rfl (fun _ _ => rfl) fun O x => by kernel_rfl
end Go.Px
