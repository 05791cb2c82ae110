/- Part 14. -/
import Derived.Test.YtopmcbahdgfleaaGreatPart06
import Derived.Test.YtopmcbahdgfleaaGreatProg
import Derived.Test.YtopmcbahdgfleaaGreatPart09
import Derived.KernelRfl
import Derived.WalkKit
import Derived.Lib.Walk
import Derived.BigCall
import Derived.BigGuard
set_option linter.unusedVariables false
set_option linter.unusedSimpArgs false
namespace Go.Px
open Go.Proofs
set_option maxRecDepth 100000
theorem mix : Tryz.prog.follows .mixedOrders = true := by kernel_rfl
theorem oF : Vd Tryz.prog 95 K1 := vt mix dS PO [] g0 rfl (fun _ _ => rfl) fun O x => by kernel_rfl
theorem UK : Vd Tryz.prog 162 CQ := vt mix UP U1 [] g0 rfl (fun _ _ => rfl) fun O x => by kernel_rfl
theorem hY : Vd Tryz.prog 96 Fq := vt mix Ub Ig [(162, CQ)] (gs UK g0) rfl (fun _ _ => rfl) fun O x => by kernel_rfl
theorem iR : Vd Tryz.prog 97 GT := vt mix Wa J7 [(162, CQ)] (gs UK g0) rfl (fun _ _ => rfl) fun O x => by kernel_rfl
theorem C2 : Vd Tryz.prog 52 AU := vt mix Ym LP [(95, K1), (96, Fq), (97, GT)] (gs oF (gs hY (gs iR g0))) rfl (fun _ _ => rfl) fun O x => by kernel_rfl
theorem Xk : Vd Tryz.prog 196 Cr := fun N h =>
 PS mix (T := 22) (e := 122) (b := 24) Tryz.func196 Tryz.underlying22 (by kernel_rfl) (by decide) (fun O l => by kernel_rfl) (fun O l => by kernel_rfl) h
theorem YL : Vd Tryz.prog 141 C5 := vt mix Y2 Ll [(196, Cr)] (gs Xk g0) rfl (fun _ _ => rfl) fun O x => by kernel_rfl
theorem oh : Vd Tryz.prog 81 Pe := vt mix cn Pz [(52, AU), (141, C5)] (gs C2 (gs YL g0)) rfl (fun _ _ => rfl) fun O x => by kernel_rfl
theorem Dw : Vd Tryz.prog 53 Ah := vt mix RS RN [] g0 rfl (fun _ _ => rfl) fun O x => by kernel_rfl
theorem bz : Vd Tryz.prog 54 D1 := vt mix RL GK [(53, Ah)] (gs Dw g0) rfl (fun _ _ => rfl) fun O x => by kernel_rfl
theorem bG : Vd Tryz.prog 163 DY := vt mix Qh FT [] g0 rfl (fun _ _ => rfl) fun O x => by kernel_rfl
theorem Gp : Vd Tryz.prog 98 Ao := vt mix MU Dr [(163, DY)] (gs bG g0) rfl (fun _ _ => rfl) fun O x => by kernel_rfl
theorem ZF : Vd Tryz.prog 55 DF := vt mix Oj Es [(53, Ah), (98, Ao)] (gs Dw (gs Gp g0)) rfl (fun _ _ => rfl) fun O x => by kernel_rfl
theorem ZI : Vd Tryz.prog 100 DG := vt mix OY Er [(53, Ah)] (gs Dw g0) rfl (fun _ _ => rfl) fun O x => by kernel_rfl
theorem bm : Vd Tryz.prog 56 D0 := vt mix RW GD [(100, DG)] (gs ZI g0) rfl (fun _ _ => rfl) fun O x => by kernel_rfl
theorem NL : Vd Tryz.prog 16 BD := vt mix US It [(52, AU), (53, Ah), (54, D1), (55, DF), (56, D0)] (gs C2 (gs Dw (gs bz (gs ZF (gs bm g0))))) rfl (fun _ _ => rfl) fun O x => by kernel_rfl
theorem eD : Vd Tryz.prog 165 Ci := vt mix TF L6 [] g0 rfl (fun _ _ => rfl) fun O x => by kernel_rfl
theorem V3 : Vd Tryz.prog 103 Bs := vt mix Vw ER [(165, Ci)] (gs eD g0) rfl (fun _ _ => rfl) fun O x => by kernel_rfl
theorem Mw : Vd Tryz.prog 61 BC := vt mix UM Dn [(103, Bs)] (gs V3 g0) rfl (fun _ _ => rfl) fun O x => by kernel_rfl
theorem YS : Vd Tryz.prog 62 Ce := vt mix Yf FG [] g0 rfl (fun _ _ => rfl) fun O x => by kernel_rfl
theorem di : Vd Tryz.prog 18 DK := vt mix TY HV [(16, BD), (61, BC), (62, Ce)] (gs NL (gs Mw (gs YS g0))) rfl (fun _ _ => rfl) fun O x => by kernel_rfl
theorem Dq : Vd Tryz.prog 77 AS := fun N h =>
 PS mix (T := 27) (e := 97) (b := 1) Tryz.func77 Tryz.underlying27 (by kernel_rfl) (by decide) (fun O l => by kernel_rfl) (fun O l => by kernel_rfl) h
theorem Fk : Vd Tryz.prog 78 Ad := fun N h =>
 PS mix (T := 28) (e := 3) (b := 8) Tryz.func78 Tryz.underlying28 (by kernel_rfl) (by decide) (fun O l => by kernel_rfl) (fun O l => by kernel_rfl) h
theorem Eu : Vd Tryz.prog 79 Aa := fun N h =>
 PS mix (T := 29) (e := 4) (b := 1) Tryz.func79 Tryz.underlying29 (by kernel_rfl) (by decide) (fun O l => by kernel_rfl) (fun O l => by kernel_rfl) h
theorem CS : Vd Tryz.prog 30 AR := vt mix UL I1 [(77, AS), (78, Ad), (79, Aa)] (gs Dq (gs Fk (gs Eu g0))) rfl (fun _ _ => rfl) fun O x => by kernel_rfl
theorem iY : Vd Tryz.prog 104 GV := vt mix WO Jr [] g0 rfl (fun _ _ => rfl) fun O x => by kernel_rfl
theorem fO : Vd Tryz.prog 105 Fi := vt mix Uf NC [] g0 rfl (fun _ _ => rfl) fun O x => by kernel_rfl
open Go.RowKit Go.Lib in
set_option maxHeartbeats 1000000 in
theorem SM (s : ByteArray) (c : Int) (w : World) : Calls Tryz.prog 210 #[.string s, .int .u8 c] w fun e w' => e = .returned (.int .i64 (Lib.indexByte s.data.toList c.toNat.toUInt8)) ∧ w' = w := by
 go_enter Tryz.func210, Tryz.ntmps210
 go_wp2
 rw [run_callFunc_extern Tryz.func226 (by kernel_rfl) (by kernel_rfl) (by kernel_rfl) (e := Extern.BytealgIndexByte.indexByte) (by kernel_rfl), Lib.run_indexByteString]
 simp only [Result.andThen]
 rw [Oper.upon_value]
 go_wp2
 go_ret
 exact ⟨rfl, rfl⟩
theorem Tu : Vd Tryz.prog 210 CK := fun N h =>
 oO Tryz.func210 (T9 := 9) (T5 := 5) (T3 := 3) rfl rfl Tryz.underlying9 Tryz.underlying5 Tryz.underlying3 (by kernel_rfl) SM h
theorem ZJ : Vd Tryz.prog 166 DH := vt mix Oi E0 [(210, CK)] (gs Tu g0) rfl (fun _ _ => rfl) fun O x => by kernel_rfl
theorem kN : Vd Tryz.prog 167 E8 := vt mix Yn Yu [] g0 rfl (fun _ _ => rfl) fun O x => by kernel_rfl
theorem lj : Vd Tryz.prog 106 JY := vt mix ZN ND [(166, DH), (167, E8)] (gs ZJ (gs kN g0)) rfl (fun _ _ => rfl) fun O x => by kernel_rfl
theorem Zz : Vd Tryz.prog 168 DX := vt mix QS I6 [] g0 rfl (fun _ _ => rfl) fun O x => by kernel_rfl
theorem eC : Vd Tryz.prog 107 Ek := vt mix Sd Hl [(168, DX)] (gs Zz g0) rfl (fun _ _ => rfl) fun O x => by kernel_rfl
theorem YX : Vd Tryz.prog 65 C6 := vt mix Ya II [(104, GV), (105, Fi), (106, JY), (107, Ek)] (gs iY (gs fO (gs lj (gs eC g0)))) rfl (fun _ _ => rfl) fun O x => by kernel_rfl
theorem bv : Vd Tryz.prog 109 D5 := vt mix RT KU [] g0 rfl (fun _ _ => rfl) fun O x => by kernel_rfl
theorem fX : Vd Tryz.prog 66 FV := vt mix Uw Ip [(109, D5)] (gs bv g0) rfl (fun _ _ => rfl) fun O x => by kernel_rfl
theorem Gd : Vd Tryz.prog 170 Av := vt mix ZW OK [(77, AS), (78, Ad), (79, Aa)] (gs Dq (gs Fk (gs Eu g0))) rfl (fun _ _ => rfl) fun O x => by kernel_rfl
theorem Gf : Vd Tryz.prog 171 Ar := vt mix V1 Jz [] g0 rfl (fun _ _ => rfl) fun O x => by kernel_rfl
theorem ke : Vd Tryz.prog 110 Hs := vt mix Yd Lj [(103, Bs), (170, Av), (171, Ar)] (gs V3 (gs Gd (gs Gf g0))) rfl (fun _ _ => rfl) fun O x => by kernel_rfl
theorem Va : Vd Tryz.prog 172 CY := vt mix cQ P2 [(77, AS), (78, Ad), (79, Aa)] (gs Dq (gs Fk (gs Eu g0))) rfl (fun _ _ => rfl) fun O x => by kernel_rfl
theorem Qo : Vd Tryz.prog 211 Bl := vt mix YK LQ [] g0 rfl (fun _ _ => rfl) fun O x => by kernel_rfl
theorem l7 : Vd Tryz.prog 212 JU := vt mix ZS OH [(52, AU), (211, Bl)] (gs C2 (gs Qo g0)) rfl (fun _ _ => rfl) fun O x => by kernel_rfl
theorem ob : Vd Tryz.prog 173 K5 := vt mix dT Pl [(52, AU), (98, Ao), (211, Bl), (212, JU)] (gs C2 (gs Gp (gs Qo (gs l7 g0)))) rfl (fun _ _ => rfl) fun O x => by kernel_rfl
theorem mF : Vd Tryz.prog 111 JE := vt mix Zc Mf [(172, CY), (173, K5)] (gs Va (gs ob g0)) rfl (fun _ _ => rfl) fun O x => by kernel_rfl
theorem eN : Vd Tryz.prog 37 EV := vt mix TH Tg [] g0 rfl (fun _ _ => rfl) fun O x => by kernel_rfl
theorem Y7 : Vd Tryz.prog 223 DI := vt mix OX E1 [] g0 rfl (fun _ _ => rfl) fun O x => by kernel_rfl
theorem S9 : Vd Tryz.prog 197 CE := vt mix TT HU [(223, DI)] (gs Y7 g0) rfl (fun _ _ => rfl) fun O x => by kernel_rfl
theorem ZD : Vd Tryz.prog 198 DJ := vt mix Og Ew [] g0 rfl (fun _ _ => rfl) fun O x => by kernel_rfl
theorem RI : Vd Tryz.prog 142 Bx := vt mix RJ GB [(197, CE), (198, DJ)] (gs S9 (gs ZD g0)) rfl (fun _ _ => rfl) fun O x => by kernel_rfl
theorem IH : Vd Tryz.prog 181 Ay := vt mix Yb Le [] g0 rfl (fun _ _ => rfl) fun O x => by kernel_rfl
theorem HW : Vd Tryz.prog 182 Ax := vt mix TX Hf [(181, Ay)] (gs IH g0) rfl (fun _ _ => rfl) fun O x => by kernel_rfl
theorem fW : Vd Tryz.prog 227 Ff := vt mix Uv Il [] g0 rfl (fun _ _ => rfl) fun O x => by kernel_rfl
theorem kh : Vd Tryz.prog 213 IA := vt mix Y1 LC [(181, Ay), (182, Ax), (227, Ff)] (gs IH (gs HW (gs fW g0))) rfl (fun _ _ => rfl) fun O x => by kernel_rfl
theorem RD : Vd Tryz.prog 232 Ba := vt mix Q9 RU [] g0 rfl (fun _ _ => rfl) fun O x => by kernel_rfl
theorem ig : Vd Tryz.prog 228 GW := vt mix V2 J5 [(232, Ba)] (gs RD g0) rfl (fun _ _ => rfl) fun O x => by kernel_rfl
theorem aw : Vd Tryz.prog 233 DV := vt mix QZ Fg [] g0 rfl (fun _ _ => rfl) fun O x => by kernel_rfl
theorem WK : Vd Tryz.prog 229 Ck := vt mix MI Dl [(233, DV)] (gs aw g0) rfl (fun _ _ => rfl) fun O x => by kernel_rfl
theorem aF : Vd Tryz.prog 234 DZ := vt mix QJ FU [] g0 rfl (fun _ _ => rfl) fun O x => by kernel_rfl
theorem eX : Vd Tryz.prog 230 Eb := vt mix TS Hb [(232, Ba), (234, DZ)] (gs RD (gs aF g0)) rfl (fun _ _ => rfl) fun O x => by kernel_rfl
theorem VE : Vd Tryz.prog 235 CW := vt mix Ko DQ [] g0 rfl (fun _ _ => rfl) fun O x => by kernel_rfl
theorem Xx : Vd Tryz.prog 231 Cx := vt mix Nv EB [(235, CW)] (gs VE g0) rfl (fun _ _ => rfl) fun O x => by kernel_rfl
theorem XR : Vd Tryz.prog 214 Cy := vt mix Nl D9 [(228, GW), (229, Ck), (230, Eb), (231, Cx)] (gs ig (gs WK (gs eX (gs Xx g0)))) rfl (fun _ _ => rfl) fun O x => by kernel_rfl
theorem j8 : Vd Tryz.prog 215 IC := vt mix Yg LJ [(181, Ay), (182, Ax)] (gs IH (gs HW g0)) rfl (fun _ _ => rfl) fun O x => by kernel_rfl
theorem cC : Vd Tryz.prog 174 D2 := vt mix RE GL [(61, BC), (197, CE), (213, IA), (214, Cy), (215, IC)] (gs Mw (gs S9 (gs kh (gs XR (gs j8 g0))))) rfl (fun _ _ => rfl) fun O x => by kernel_rfl
theorem lN : Vd Tryz.prog 175 JN := vt mix ZR Mv [(170, Av), (171, Ar)] (gs Gd (gs Gf g0)) rfl (fun _ _ => rfl) fun O x => by kernel_rfl
theorem mQ : Vd Tryz.prog 176 JD := vt mix aj M5 [(52, AU), (98, Ao), (172, CY), (211, Bl)] (gs C2 (gs Gp (gs Va (gs Qo g0)))) rfl (fun _ _ => rfl) fun O x => by kernel_rfl
theorem fw : Vd Tryz.prog 177 FK := vt mix Un I0 [(170, Av)] (gs Gd g0) rfl (fun _ _ => rfl) fun O x => by kernel_rfl
theorem jA : Vd Tryz.prog 112 HA := vt mix Vz Jn [(30, AR), (37, EV), (142, Bx), (174, D2), (175, JN), (176, JD), (177, FK)] (gs CS (gs eN (gs RI (gs cC (gs lN (gs mQ (gs fw g0))))))) rfl (fun _ _ => rfl) fun O x => by kernel_rfl
theorem aV : Vd Tryz.prog 178 DW := vt mix bF Mn [(61, BC), (171, Ar)] (gs Mw (gs Gf g0)) rfl (fun _ _ => rfl) fun O x => by kernel_rfl
theorem dp : Vd Tryz.prog 113 ES := vt mix SW He [(170, Av), (171, Ar), (178, DW)] (gs Gd (gs Gf (gs aV g0))) rfl (fun _ _ => rfl) fun O x => by kernel_rfl
theorem iZ : Vd Tryz.prog 114 Gg := vt mix Wt Jx [(170, Av), (178, DW)] (gs Gd (gs aV g0)) rfl (fun _ _ => rfl) fun O x => by kernel_rfl
theorem fH : Vd Tryz.prog 115 FQ := vt mix UY Ik [(62, Ce), (170, Av), (171, Ar)] (gs YS (gs Gd (gs Gf g0))) rfl (fun _ _ => rfl) fun O x => by kernel_rfl
theorem Vk : Vd Tryz.prog 180 Cc := vt mix cw Pj [(77, AS), (78, Ad), (79, Aa)] (gs Dq (gs Fk (gs Eu g0))) rfl (fun _ _ => rfl) fun O x => by kernel_rfl
theorem hC : Vd Tryz.prog 116 FX := vt mix T7 Iu [(180, Cc)] (gs Vk g0) rfl (fun _ _ => rfl) fun O x => by kernel_rfl
theorem jH : Vd Tryz.prog 117 Gn := vt mix Ww KL [(180, Cc), (181, Ay), (182, Ax)] (gs Vk (gs IH (gs HW g0))) rfl (fun _ _ => rfl) fun O x => by kernel_rfl
theorem Z8 : Vd Tryz.prog 118 DT := vt mix QT Fc [(180, Cc), (181, Ay), (182, Ax)] (gs Vk (gs IH (gs HW g0))) rfl (fun _ _ => rfl) fun O x => by kernel_rfl
theorem gJ : Vd Tryz.prog 119 FY := vt mix U0 Iy [(52, AU), (172, CY)] (gs C2 (gs Va g0)) rfl (fun _ _ => rfl) fun O x => by kernel_rfl
theorem cG : Vd Tryz.prog 120 Dz := vt mix RK F9 [(30, AR)] (gs CS g0) rfl (fun _ _ => rfl) fun O x => by kernel_rfl
theorem RV : Vd Tryz.prog 28 Bz := vt mix RC GC [(30, AR)] (gs CS g0) rfl (fun _ _ => rfl) fun O x => by kernel_rfl
theorem cF : Vd Tryz.prog 121 Dy := vt mix RB GJ [(28, Bz), (30, AR)] (gs RV (gs CS g0)) rfl (fun _ _ => rfl) fun O x => by kernel_rfl
theorem eJ : Vd Tryz.prog 122 EX := vt mix S5 Ef [(30, AR)] (gs CS g0) rfl (fun _ _ => rfl) fun O x => by kernel_rfl
theorem gV : Vd Tryz.prog 20 Fw := vt mix Uh Ud [] g0 rfl (fun _ _ => rfl) fun O x => by kernel_rfl
theorem dk : Vd Tryz.prog 123 Ei := vt mix TA Hc [(20, Fw), (30, AR)] (gs gV (gs CS g0)) rfl (fun _ _ => rfl) fun O x => by kernel_rfl
theorem bq : Vd Tryz.prog 67 D4 := vt mix RH D3 [(110, Hs), (111, JE), (112, HA), (113, ES), (114, Gg), (115, FQ), (116, FX), (117, Gn), (118, DT), (119, FY), (120, Dz), (121, Dy), (122, EX), (123, Ei)] (gs ke (gs mF (gs jA (gs dp (gs iZ (gs fH (gs hC (gs jH (gs Z8 (gs gJ (gs cG (gs cF (gs eJ (gs dk g0)))))))))))))) rfl (fun _ _ => rfl) fun O x => by kernel_rfl
theorem iW : Vd Tryz.prog 22 Gt := vt mix WV Jo [(16, BD), (18, DK), (30, AR), (65, C6), (66, FV), (67, D4)] (gs NL (gs di (gs CS (gs YX (gs fX (gs bq g0)))))) rfl (fun _ _ => rfl) fun O x => by kernel_rfl
theorem fc : Vd Tryz.prog 25 FO := vt mix Uc I2 [(52, AU), (53, Ah)] (gs C2 (gs Dw g0)) rfl (fun _ _ => rfl) fun O x => by kernel_rfl
theorem LM : Vd Tryz.prog 156 BE := vt mix YN Li [] g0 rfl (fun _ _ => rfl) fun O x => by kernel_rfl
theorem Y3 : Vd Tryz.prog 154 C3 := vt mix Yp LA [(156, BE)] (gs LM g0) rfl (fun _ _ => rfl) fun O x => by kernel_rfl
theorem j9 : Vd Tryz.prog 155 H9 := vt mix Yx LE [] g0 rfl (fun _ _ => rfl) fun O x => by kernel_rfl
theorem Yr : Vd Tryz.prog 91 C4 := vt mix YO LG [(16, BD), (52, AU), (154, C3), (155, H9)] (gs NL (gs C2 (gs Y3 (gs j9 g0)))) rfl (fun _ _ => rfl) fun O x => by kernel_rfl
theorem kS : Vd Tryz.prog 92 Hr := vt mix Yi LL [(30, AR), (141, C5)] (gs CS (gs YL g0)) rfl (fun _ _ => rfl) fun O x => by kernel_rfl
theorem Q6 : Vd Tryz.prog 160 Bm := vt mix Yo Lb [] g0 rfl (fun _ _ => rfl) fun O x => by kernel_rfl
theorem QI : Vd Tryz.prog 208 Bd := vt mix Qd FR [] g0 rfl (fun _ _ => rfl) fun O x => by kernel_rfl
theorem fB : Vd Tryz.prog 161 Fd := vt mix Ut Ij [(91, C4), (156, BE), (160, Bm), (208, Bd)] (gs Yr (gs LM (gs Q6 (gs QI g0)))) rfl (fun _ _ => rfl) fun O x => by kernel_rfl
theorem iT : Vd Tryz.prog 207 G9 := vt mix WC Ju [(156, BE), (160, Bm)] (gs LM (gs Q6 g0)) rfl (fun _ _ => rfl) fun O x => by kernel_rfl
theorem lP : Vd Tryz.prog 49 Ml := vt mix ab Nt [(22, Gt), (25, FO), (28, Bz), (65, C6), (91, C4), (92, Hr), (154, C3), (156, BE), (160, Bm), (161, Fd), (207, G9), (208, Bd)] (gs iW (gs fc (gs RV (gs YX (gs Yr (gs kS (gs Y3 (gs LM (gs Q6 (gs fB (gs iT (gs QI g0)))))))))))) rfl (fun _ _ => rfl) fun O x => by kernel_rfl
def gw : Cfg := { gam := [⟨49, [], true, true, []⟩], imm := false, old := false }
theorem np (O : Alg) (x : Ags O) : XF (O := O) Tryz.prog gw false false [] 82 [] (xr x X0 0) = M6 O x := by kernel_rfl
theorem qN {E : Env} {M : Nat} (N : Nat) (h : ∀ ls, E 82 [] ls = NV N ls) : VV Tryz.prog E M ⟨82, [], false, false, []⟩ :=
 Aw mix (E := G3 N) (N := N) (cfg := gw) (ci := ⟨82, [], false, false, []⟩) (ks := X0) (AF (lP N (fun _ => rfl)) BO) (c := NV N) (F := fun ls => M6 (std (G3 N) N) (xOf ls)) (fun ls => rfl) (fun ls => np (std (G3 N) N) (xOf ls)) h
theorem gf : Vd Tryz.prog 83 Iz := vt mix UX Iv [(142, Bx)] (gs RI g0) rfl (fun _ _ => rfl) fun O x => by kernel_rfl
def ga : Cfg := { gam := [⟨81, [], true, true, []⟩, ⟨82, [], false, false, []⟩, ⟨83, [], true, true, []⟩], imm := false, old := true, ie := [122, 97, 3, 4, 47, 33, 45, 125, 5, 159, 48, 43, 185] }
theorem o7 (O : Alg) (x : Ags O) : XF (O := O) Tryz.prog ga false false [] 36 [] (xr x X9 0) = Nd O x := by kernel_rfl
theorem Rv {E : Env} {M : Nat} (N : Nat) (h : ∀ ls, E 36 [] ls = ED N ls) : VV Tryz.prog E M ⟨36, [], false, false, []⟩ :=
 Aw mix (E := Dc N) (N := N) (cfg := ga) (ci := ⟨36, [], false, false, []⟩) (ks := X9) (AF (oh N (fun _ => rfl)) (AF (qN N (fun _ => rfl)) (AF (gf N (fun _ => rfl)) BO))) (c := ED N) (F := fun ls => Nd (std (Dc N) N) (xOf ls)) (fun ls => rfl) (fun ls => o7 (std (Dc N) N) (xOf ls)) h
def aH : Cfg := { gam := [⟨36, [], false, false, []⟩], imm := false, old := false }
theorem kV (O : Alg) (x : Ags O) : XF (O := O) Tryz.prog aH false false [] 42 [] (xr x TJ 0) = TQ O x := by kernel_rfl
theorem lQ {E : Env} {M : Nat} (N : Nat) (h : ∀ ls, E 42 [] ls = TZ N ls) : VV Tryz.prog E M ⟨42, [], false, false, []⟩ :=
 Aw mix (E := Jl N) (N := N) (cfg := aH) (ci := ⟨42, [], false, false, []⟩) (ks := TJ) (AF (Rv N (fun _ => rfl)) BO) (c := TZ N) (F := fun ls => TQ (std (Jl N) N) (xOf ls)) (fun ls => rfl) (fun ls => kV (std (Jl N) N) (xOf ls)) h
theorem rT : Vd Tryz.prog 80 jv := vt mix jV jk [] g0 rfl (fun _ _ => rfl) fun O x => by kernel_rfl
def cZ : Cfg := { gam := [⟨36, [], false, false, []⟩, ⟨42, [], false, false, []⟩, ⟨80, [], true, true, []⟩], imm := false, old := false }
theorem nC (O : Alg) (x : Ags O) : XF (O := O) Tryz.prog cZ true true [] 33 [] (xr x Vo 0) = VD O x := by kernel_rfl
theorem ny : Vd Tryz.prog 33 IK := fun N h =>
 Aw mix (E := LY N) (N := N) (cfg := cZ) (ci := ⟨33, [], true, true, []⟩) (ks := Vo) (AF (Rv N (fun _ => rfl)) (AF (lQ N (fun _ => rfl)) (AF (rT N (fun _ => rfl)) BO))) (c := IK N) (F := fun ls => VD (std (LY N) N) (xOf ls)) (fun ls => rfl) (fun ls => nC (std (LY N) N) (xOf ls)) h
def Yc : Cfg := { gam := [], imm := false, old := false }
theorem im (O : Alg) (x : Ags O) : XF (O := O) Tryz.prog Yc false false [] 34 [] (xr x Qw 0) = H1 O x := by kernel_rfl
theorem kK {E : Env} {M : Nat} (N : Nat) (h : ∀ ls, E 34 [] ls = Ht N ls) : VV Tryz.prog E M ⟨34, [], false, false, []⟩ :=
 Aw mix (E := Fp N) (N := N) (cfg := Yc) (ci := ⟨34, [], false, false, []⟩) (ks := Qw) BO (c := Ht N) (F := fun ls => H1 (std (Fp N) N) (xOf ls)) (fun ls => rfl) (fun ls => im (std (Fp N) N) (xOf ls)) h
def jr : Cfg := { gam := [], imm := false, old := false }
theorem qs (O : Alg) (x : Ags O) : XF (O := O) Tryz.prog jr false false [] 35 [] (xr x bC 0) = QM O x := by kernel_rfl
theorem rA {E : Env} {M : Nat} (N : Nat) (h : ∀ ls, E 35 [] ls = Qb N ls) : VV Tryz.prog E M ⟨35, [], false, false, []⟩ :=
 Aw mix (E := Kz N) (N := N) (cfg := jr) (ci := ⟨35, [], false, false, []⟩) (ks := bC) BO (c := Qb N) (F := fun ls => QM (std (Kz N) N) (xOf ls)) (fun ls => rfl) (fun ls => qs (std (Kz N) N) (xOf ls)) h
theorem pW : Vd Tryz.prog 101 Ng := vt mix fi SK [] g0 rfl (fun _ _ => rfl) fun O x => by kernel_rfl
theorem so : Vd Tryz.prog 102 Ti := vt mix lK lZ [] g0 rfl (fun _ _ => rfl) fun O x => by kernel_rfl
theorem EM : Vd Tryz.prog 57 Ag := vt mix dL Pd [(101, Ng), (102, Ti)] (gs pW (gs so g0)) rfl (fun _ _ => rfl) fun O x => by kernel_rfl
theorem cX : Vd Tryz.prog 143 EF := vt mix cP PT [] g0 rfl (fun _ _ => rfl) fun O x => by kernel_rfl
theorem jW : Vd Tryz.prog 84 MD := vt mix jU UW [(57, Ag), (143, EF)] (gs EM (gs cX g0)) rfl (fun _ _ => rfl) fun O x => by kernel_rfl
theorem lr : Vd Tryz.prog 125 JL := vt mix aK N2 [] g0 rfl (fun _ _ => rfl) fun O x => by kernel_rfl
theorem pw : Vd Tryz.prog 126 M0 := vt mix hG Rl [] g0 rfl (fun _ _ => rfl) fun O x => by kernel_rfl
theorem tK : Vd Tryz.prog 127 ST := vt mix mz dx [] g0 rfl (fun _ _ => rfl) fun O x => by kernel_rfl
theorem tD : Vd Tryz.prog 183 Tf := vt mix l6 dr [] g0 rfl (fun _ _ => rfl) fun O x => by kernel_rfl
theorem oj : Vd Tryz.prog 128 Ks := vt mix dc Pf [(183, Tf)] (gs tD g0) rfl (fun _ _ => rfl) fun O x => by kernel_rfl
theorem cW : Vd Tryz.prog 69 IQ := vt mix ct Pg [(125, JL), (126, M0), (127, ST), (128, Ks)] (gs lr (gs pw (gs tK (gs oj g0)))) rfl (fun _ _ => rfl) fun O x => by kernel_rfl
theorem Bq : Vd Tryz.prog 124 AN := vt mix dX P4 [] g0 rfl (fun _ _ => rfl) fun O x => by kernel_rfl
theorem VL : Vd Tryz.prog 68 Cq := vt mix dQ P0 [(124, AN)] (gs Bq g0) rfl (fun _ _ => rfl) fun O x => by kernel_rfl
theorem o4 : Vd Tryz.prog 144 Pa := vt mix dM P1 [(68, Cq), (143, EF)] (gs VL (gs cX g0)) rfl (fun _ _ => rfl) fun O x => by kernel_rfl
theorem ee : Vd Tryz.prog 58 Ej := vt mix mH nY [] g0 rfl (fun _ _ => rfl) fun O x => by kernel_rfl
theorem ra : Vd Tryz.prog 59 Qe := vt mix jc U2 [(58, Ej)] (gs ee g0) rfl (fun _ _ => rfl) fun O x => by kernel_rfl
theorem Pr : Vd Tryz.prog 70 BU := vt mix dN IM [] g0 rfl (fun _ _ => rfl) fun O x => by kernel_rfl
theorem kd : Vd Tryz.prog 60 Hy := vt mix YZ Ld [(70, BU)] (gs Pr g0) rfl (fun _ _ => rfl) fun O x => by kernel_rfl
theorem VX : Vd Tryz.prog 17 CZ := vt mix dG P3 [(57, Ag), (58, Ej), (59, Qe), (60, Hy)] (gs EM (gs ee (gs ra (gs kd g0)))) rfl (fun _ _ => rfl) fun O x => by kernel_rfl
theorem KZ : Vd Tryz.prog 200 Bt := vt mix cM PN [] g0 rfl (fun _ _ => rfl) fun O x => by kernel_rfl
theorem aR : Vd Tryz.prog 224 ET := vt mix ZM NM [(200, Bt)] (gs KZ g0) rfl (fun _ _ => rfl) fun O x => by kernel_rfl
theorem f7 : Vd Tryz.prog 199 Fj := vt mix Us Ii [(17, CZ), (224, ET)] (gs VX (gs aR g0)) rfl (fun _ _ => rfl) fun O x => by kernel_rfl
theorem Vf : Vd Tryz.prog 145 EI := vt mix dU Pq [(57, Ag), (199, Fj)] (gs EM (gs f7 g0)) rfl (fun _ _ => rfl) fun O x => by kernel_rfl
theorem SX : Vd Tryz.prog 63 CC := vt mix Z5 Gr [(70, BU)] (gs Pr g0) rfl (fun _ _ => rfl) fun O x => by kernel_rfl
theorem fD : Vd Tryz.prog 64 EE := vt mix gI Jm [] g0 rfl (fun _ _ => rfl) fun O x => by kernel_rfl
theorem l4 : Vd Tryz.prog 19 I9 := vt mix ZV Na [(17, CZ), (63, CC), (64, EE)] (gs VX (gs SX (gs fD g0))) rfl (fun _ _ => rfl) fun O x => by kernel_rfl
theorem Y0 : Vd Tryz.prog 29 FC := vt mix Yv Lm [(68, Cq)] (gs VL g0) rfl (fun _ _ => rfl) fun O x => by kernel_rfl
theorem M9 : Vd Tryz.prog 184 BP := vt mix aI NW [] g0 rfl (fun _ _ => rfl) fun O x => by kernel_rfl
theorem pq : Vd Tryz.prog 129 Rx := vt mix gF Rh [(70, BU), (124, AN), (184, BP)] (gs Pr (gs Bq (gs M9 g0))) rfl (fun _ _ => rfl) fun O x => by kernel_rfl
theorem GX : Vd Tryz.prog 195 As := vt mix WB Jq [] g0 rfl (fun _ _ => rfl) fun O x => by kernel_rfl
theorem TC : Vd Tryz.prog 216 CA := vt mix aa Nu [] g0 rfl (fun _ _ => rfl) fun O x => by kernel_rfl
theorem pX : Vd Tryz.prog 217 Mj := vt mix fk R2 [(57, Ag), (216, CA)] (gs EM (gs TC g0)) rfl (fun _ _ => rfl) fun O x => by kernel_rfl
theorem jh : Vd Tryz.prog 218 HI := vt mix ji UZ [] g0 rfl (fun _ _ => rfl) fun O x => by kernel_rfl
theorem rG : Vd Tryz.prog 185 QD := vt mix jx Up [(57, Ag), (195, As), (216, CA), (217, Mj), (218, HI)] (gs EM (gs GX (gs TC (gs pX (gs jh g0))))) rfl (fun _ _ => rfl) fun O x => by kernel_rfl
theorem po : Vd Tryz.prog 130 Rz := vt mix fo SB [(124, AN), (185, QD)] (gs Bq (gs rG g0)) rfl (fun _ _ => rfl) fun O x => by kernel_rfl
theorem tG : Vd Tryz.prog 205 Tc := vt mix nH du [] g0 rfl (fun _ _ => rfl) fun O x => by kernel_rfl
theorem jG : Vd Tryz.prog 206 GR := vt mix WT Jv [] g0 rfl (fun _ _ => rfl) fun O x => by kernel_rfl
theorem dC : Vd Tryz.prog 149 F2 := vt mix dP PU [(205, Tc), (206, GR)] (gs tG (gs jG g0)) rfl (fun _ _ => rfl) fun O x => by kernel_rfl
theorem ij : Vd Tryz.prog 150 Gj := vt mix V4 KB [] g0 rfl (fun _ _ => rfl) fun O x => by kernel_rfl
theorem oC : Vd Tryz.prog 151 Kb := vt mix dV Pm [] g0 rfl (fun _ _ => rfl) fun O x => by kernel_rfl
theorem aC : Vd Tryz.prog 86 Ge := vt mix aQ Ni [(149, F2), (150, Gj), (151, Kb)] (gs dC (gs ij (gs oC g0))) rfl (fun _ _ => rfl) fun O x => by kernel_rfl
theorem Nh : Vd Tryz.prog 194 BQ := vt mix Zs Mm [] g0 rfl (fun _ _ => rfl) fun O x => by kernel_rfl
theorem ka : Vd Tryz.prog 219 H6 := vt mix YW LW [] g0 rfl (fun _ _ => rfl) fun O x => by kernel_rfl
theorem oX : Vd Tryz.prog 186 Ph := vt mix cq PP [(194, BQ), (195, As), (219, H6)] (gs Nh (gs GX (gs ka g0))) rfl (fun _ _ => rfl) fun O x => by kernel_rfl
theorem iM : Vd Tryz.prog 220 G7 := vt mix Wu Jw [] g0 rfl (fun _ _ => rfl) fun O x => by kernel_rfl
theorem tY : Vd Tryz.prog 221 TW := vt mix lY Xv [] g0 rfl (fun _ _ => rfl) fun O x => by kernel_rfl
theorem lm : Vd Tryz.prog 222 JK := vt mix aq Ny [] g0 rfl (fun _ _ => rfl) fun O x => by kernel_rfl
theorem i3 : Vd Tryz.prog 187 KJ := vt mix Wd J0 [(220, G7), (221, TW), (222, JK)] (gs iM (gs tY (gs lm g0))) rfl (fun _ _ => rfl) fun O x => by kernel_rfl
theorem ow : Vd Tryz.prog 188 Pk := vt mix cf Pb [(194, BQ), (195, As)] (gs Nh (gs GX g0)) rfl (fun _ _ => rfl) fun O x => by kernel_rfl
theorem Zh : Vd Tryz.prog 191 Ee := vt mix aZ NB [(124, AN)] (gs Bq g0) rfl (fun _ _ => rfl) fun O x => by kernel_rfl
theorem rz : Vd Tryz.prog 189 UG := vt mix jn Uj [(124, AN), (184, BP), (191, Ee)] (gs Bq (gs M9 (gs Zh g0))) rfl (fun _ _ => rfl) fun O x => by kernel_rfl
theorem qE : Vd Tryz.prog 190 RZ := vt mix gD R9 [(57, Ag), (124, AN), (216, CA), (218, HI)] (gs EM (gs Bq (gs TC (gs jh g0)))) rfl (fun _ _ => rfl) fun O x => by kernel_rfl
theorem oY : Vd Tryz.prog 192 PY := vt mix ce cx [] g0 rfl (fun _ _ => rfl) fun O x => by kernel_rfl
def fR : Cfg := { gam := [⟨63, [], true, true, []⟩, ⟨86, [], true, true, []⟩, ⟨149, [], true, true, []⟩, ⟨186, [], true, true, []⟩, ⟨187, [], true, true, []⟩, ⟨188, [], true, true, []⟩, ⟨189, [], true, true, []⟩, ⟨190, [], true, true, []⟩, ⟨191, [], true, true, []⟩, ⟨192, [], true, true, []⟩], imm := false, old := false }
theorem oe (O : Alg) (x : Ags O) : XF (O := O) Tryz.prog fR false false [] 131 [] (xr x YE 0) = N0 O x := by kernel_rfl
theorem qQ {E : Env} {M : Nat} (N : Nat) (h : ∀ ls, E 131 [] ls = NT N ls) : VV Tryz.prog E M ⟨131, [], false, false, []⟩ :=
 Aw mix (E := BG N) (N := N) (cfg := fR) (ci := ⟨131, [], false, false, []⟩) (ks := YE) (AF (SX N (fun _ => rfl)) (AF (aC N (fun _ => rfl)) (AF (dC N (fun _ => rfl)) (AF (oX N (fun _ => rfl)) (AF (i3 N (fun _ => rfl)) (AF (ow N (fun _ => rfl)) (AF (rz N (fun _ => rfl)) (AF (qE N (fun _ => rfl)) (AF (Zh N (fun _ => rfl)) (AF (oY N (fun _ => rfl)) BO)))))))))) (c := NT N) (F := fun ls => N0 (std (BG N) N) (xOf ls)) (fun ls => rfl) (fun ls => oe (std (BG N) N) (xOf ls)) h
theorem dK : Vd Tryz.prog 193 EH := vt mix cY PQ [(63, CC), (184, BP)] (gs SX (gs M9 g0)) rfl (fun _ _ => rfl) fun O x => by kernel_rfl
theorem kX : Vd Tryz.prog 132 LX := vt mix YM LB [(124, AN), (193, EH)] (gs Bq (gs dK g0)) rfl (fun _ _ => rfl) fun O x => by kernel_rfl
theorem nv : Vd Tryz.prog 133 Pt := vt mix db Py [(124, AN), (193, EH)] (gs Bq (gs dK g0)) rfl (fun _ _ => rfl) fun O x => by kernel_rfl
theorem lH : Vd Tryz.prog 134 NO := vt mix Zn NZ [(64, EE), (124, AN), (184, BP)] (gs fD (gs Bq (gs M9 g0))) rfl (fun _ _ => rfl) fun O x => by kernel_rfl
theorem ki : Vd Tryz.prog 135 Lh := vt mix Yl LR [(124, AN)] (gs Bq g0) rfl (fun _ _ => rfl) fun O x => by kernel_rfl
theorem lw : Vd Tryz.prog 136 Nk := vt mix aU OJ [(124, AN), (194, BQ), (195, As)] (gs Bq (gs Nh (gs GX g0))) rfl (fun _ _ => rfl) fun O x => by kernel_rfl
theorem eY : Vd Tryz.prog 137 Hd := vt mix TI HL [(124, AN), (194, BQ), (195, As)] (gs Bq (gs Nh (gs GX g0))) rfl (fun _ _ => rfl) fun O x => by kernel_rfl
theorem kj : Vd Tryz.prog 138 LZ := vt mix YY LT [(57, Ag), (124, AN)] (gs EM (gs Bq g0)) rfl (fun _ _ => rfl) fun O x => by kernel_rfl
def Zj : Cfg := { gam := [], imm := false, old := false }
theorem kZ (O : Alg) (x : Ags O) : XF (O := O) Tryz.prog Zj false false [] 139 [] (xr x TE 0) = GQ O x := by kernel_rfl
theorem mc {E : Env} {M : Nat} (N : Nat) (h : ∀ ls, E 139 [] ls = JV N ls) : VV Tryz.prog E M ⟨139, [], false, false, []⟩ :=
 Aw mix (E := Gu N) (N := N) (cfg := Zj) (ci := ⟨139, [], false, false, []⟩) (ks := TE) BO (c := JV N) (F := fun ls => GQ (std (Gu N) N) (xOf ls)) (fun ls => rfl) (fun ls => kZ (std (Gu N) N) (xOf ls)) h
theorem oN : Vd Tryz.prog 21 Pv := vt mix cl cu [] g0 rfl (fun _ _ => rfl) fun O x => by kernel_rfl
def aL : Cfg := { gam := [⟨21, [], true, true, []⟩], imm := false, old := false }
theorem kA (O : Alg) (x : Ags O) : XF (O := O) Tryz.prog aL false false [] 140 [] (xr x Sg 0) = JH O x := by kernel_rfl
theorem lc {E : Env} {M : Nat} (N : Nat) (h : ∀ ls, E 140 [] ls = Jc N ls) : VV Tryz.prog E M ⟨140, [], false, false, []⟩ :=
 Aw mix (E := EO N) (N := N) (cfg := aL) (ci := ⟨140, [], false, false, []⟩) (ks := Sg) (AF (oN N (fun _ => rfl)) BO) (c := Jc N) (F := fun ls => JH (std (EO N) N) (xOf ls)) (fun ls => rfl) (fun ls => kA (std (EO N) N) (xOf ls)) h
def js : Cfg := { gam := [⟨29, [], true, true, []⟩, ⟨129, [], true, true, []⟩, ⟨130, [], true, true, []⟩, ⟨131, [], false, false, []⟩, ⟨132, [], true, true, []⟩, ⟨133, [], true, true, []⟩, ⟨134, [], true, true, []⟩, ⟨135, [], true, true, []⟩, ⟨136, [], true, true, []⟩, ⟨137, [], true, true, []⟩, ⟨138, [], true, true, []⟩, ⟨139, [], false, false, []⟩, ⟨140, [], false, false, []⟩], imm := false, old := false }
theorem pn (O : Alg) (x : Ags O) : XF (O := O) Tryz.prog js false false [] 71 [] (xr x Z2 0) = ML O x := by kernel_rfl
theorem sD {E : Env} {M : Nat} (N : Nat) (h : ∀ ls, E 71 [] ls = QN N ls) : VV Tryz.prog E M ⟨71, [], false, false, []⟩ :=
 Aw mix (E := A3 N) (N := N) (cfg := js) (ci := ⟨71, [], false, false, []⟩) (ks := Z2) (AF (Y0 N (fun _ => rfl)) (AF (pq N (fun _ => rfl)) (AF (po N (fun _ => rfl)) (AF (qQ N (fun _ => rfl)) (AF (kX N (fun _ => rfl)) (AF (nv N (fun _ => rfl)) (AF (lH N (fun _ => rfl)) (AF (ki N (fun _ => rfl)) (AF (lw N (fun _ => rfl)) (AF (eY N (fun _ => rfl)) (AF (kj N (fun _ => rfl)) (AF (mc N (fun _ => rfl)) (AF (lc N (fun _ => rfl)) BO))))))))))))) (c := QN N) (F := fun ls => ML (std (A3 N) N) (xOf ls)) (fun ls => rfl) (fun ls => pn (std (A3 N) N) (xOf ls)) h
def gx : Cfg := { gam := [⟨17, [], true, true, []⟩, ⟨19, [], true, true, []⟩, ⟨68, [], true, true, []⟩, ⟨69, [], true, true, []⟩, ⟨70, [], true, true, []⟩, ⟨71, [], false, false, []⟩], imm := false, old := false }
theorem oE (O : Alg) (x : Ags O) : XF (O := O) Tryz.prog gx false false [] 23 [] (xr x XU 0) = Mq O x := by kernel_rfl
theorem gE {E : Env} {M : Nat} (N : Nat) (h : ∀ ls, E 23 [] ls = HK N ls) : VV Tryz.prog E M ⟨23, [], false, false, []⟩ :=
 Aw mix (E := B8 N) (N := N) (cfg := gx) (ci := ⟨23, [], false, false, []⟩) (ks := XU) (AF (VX N (fun _ => rfl)) (AF (l4 N (fun _ => rfl)) (AF (VL N (fun _ => rfl)) (AF (cW N (fun _ => rfl)) (AF (Pr N (fun _ => rfl)) (AF (sD N (fun _ => rfl)) BO)))))) (c := HK N) (F := fun ls => Mq (std (B8 N) N) (xOf ls)) (fun ls => rfl) (fun ls => oE (std (B8 N) N) (xOf ls)) h
theorem oM : Vd Tryz.prog 26 PW := vt mix cN PR [(57, Ag), (58, Ej)] (gs EM (gs ee g0)) rfl (fun _ _ => rfl) fun O x => by kernel_rfl
theorem U9 : Vd Tryz.prog 203 EL := vt mix cy PZ [] g0 rfl (fun _ _ => rfl) fun O x => by kernel_rfl
def ez : Cfg := { gam := [], imm := false, old := false }
theorem ng (O : Alg) (x : Ags O) : XF (O := O) Tryz.prog ez false false [] 147 [] (xr x XW 0) = NF O x := by kernel_rfl
theorem Rq {E : Env} {M : Nat} (N : Nat) (h : ∀ ls, E 147 [] ls = Cz N ls) : VV Tryz.prog E M ⟨147, [], false, false, []⟩ :=
 Aw mix (E := JX N) (N := N) (cfg := ez) (ci := ⟨147, [], false, false, []⟩) (ks := XW) BO (c := Cz N) (F := fun ls => NF (std (JX N) N) (xOf ls)) (fun ls => rfl) (fun ls => ng (std (JX N) N) (xOf ls)) h
def Yh : Cfg := { gam := [⟨145, [], true, true, []⟩, ⟨147, [], false, false, []⟩, ⟨224, [], true, true, []⟩], imm := false, old := false }
theorem iz (O : Alg) (x : Ags O) : XF (O := O) Tryz.prog Yh true true [] 225 [] (xr x Qi 0) = H5 O x := by kernel_rfl
theorem kU : Vd Tryz.prog 225 IB := fun N h =>
 Aw mix (E := CT N) (N := N) (cfg := Yh) (ci := ⟨225, [], true, true, []⟩) (ks := Qi) (AF (Vf N (fun _ => rfl)) (AF (Rq N (fun _ => rfl)) (AF (aR N (fun _ => rfl)) BO))) (c := IB N) (F := fun ls => H5 (std (CT N) N) (xOf ls)) (fun ls => rfl) (fun ls => iz (std (CT N) N) (xOf ls)) h
def gr : Cfg := { gam := [⟨23, [], false, false, []⟩, ⟨26, [], true, true, []⟩, ⟨200, [], true, true, []⟩, ⟨203, [], true, true, []⟩, ⟨225, [], true, true, []⟩], imm := false, old := false }
theorem nz (O : Alg) (x : Ags O) : XF (O := O) Tryz.prog gr false false [true, false] 201 [] (xr x X8 0) = NU O x := by kernel_rfl
theorem pe {E : Env} {M : Nat} (N : Nat) (h : ∀ ls, E 201 [] ls = Nb N ls) : VV Tryz.prog E M ⟨201, [], false, false, [true, false]⟩ :=
 Aw mix (E := Cb N) (N := N) (cfg := gr) (ci := ⟨201, [], false, false, [true, false]⟩) (ks := X8) (AF (gE N (fun _ => rfl)) (AF (oM N (fun _ => rfl)) (AF (KZ N (fun _ => rfl)) (AF (U9 N (fun _ => rfl)) (AF (kU N (fun _ => rfl)) BO))))) (c := Nb N) (F := fun ls => NU (std (Cb N) N) (xOf ls)) (fun ls => rfl) (fun ls => nz (std (Cb N) N) (xOf ls)) h
def hP : Cfg := { gam := [⟨23, [], false, false, []⟩, ⟨29, [], true, true, []⟩], imm := true, old := true }
theorem oW (O : Alg) (x : Ags O) : XF (O := O) Tryz.prog hP false false [true, false] 202 [] (xr x XE 0) = Mi O x := by kernel_rfl
theorem qS {E : Env} {M : Nat} (N : Nat) (h : ∀ ls, E 202 [] ls = NP N ls) : VV Tryz.prog E M ⟨202, [], false, false, [true, false]⟩ :=
 Aw mix (E := Ep N) (N := N) (cfg := hP) (ci := ⟨202, [], false, false, [true, false]⟩) (ks := XE) (AF (gE N (fun _ => rfl)) (AF (Y0 N (fun _ => rfl)) BO)) (c := NP N) (F := fun ls => Mi (std (Ep N) N) (xOf ls)) (fun ls => rfl) (fun ls => oW (std (Ep N) N) (xOf ls)) h
def jd : Cfg := { gam := [⟨200, [], true, true, []⟩, ⟨201, [], false, false, [true, false]⟩, ⟨202, [], false, false, [true, false]⟩], imm := false, old := false }
theorem qM (O : Alg) (x : Ags O) : XF (O := O) Tryz.prog jd false false [true, false] 146 [] (xr x Zw 0) = QF O x := by kernel_rfl
theorem rO {E : Env} {M : Nat} (N : Nat) (h : ∀ ls, E 146 [] ls = QG N ls) : VV Tryz.prog E M ⟨146, [], false, false, [true, false]⟩ :=
 Aw mix (E := EN N) (N := N) (cfg := jd) (ci := ⟨146, [], false, false, [true, false]⟩) (ks := Zw) (AF (KZ N (fun _ => rfl)) (AF (pe N (fun _ => rfl)) (AF (qS N (fun _ => rfl)) BO))) (c := QG N) (F := fun ls => QF (std (EN N) N) (xOf ls)) (fun ls => rfl) (fun ls => qM (std (EN N) N) (xOf ls)) h
def Yy : Cfg := { gam := [⟨145, [], true, true, []⟩, ⟨147, [], false, false, []⟩, ⟨200, [], true, true, []⟩, ⟨203, [], true, true, []⟩], imm := false, old := false }
theorem i6 (O : Alg) (x : Ags O) : XF (O := O) Tryz.prog Yy true true [] 204 [] (xr x Qr 0) = Hv O x := by kernel_rfl
theorem kg : Vd Tryz.prog 204 H7 := fun N h =>
 Aw mix (E := B5 N) (N := N) (cfg := Yy) (ci := ⟨204, [], true, true, []⟩) (ks := Qr) (AF (Vf N (fun _ => rfl)) (AF (Rq N (fun _ => rfl)) (AF (KZ N (fun _ => rfl)) (AF (U9 N (fun _ => rfl)) BO)))) (c := H7 N) (F := fun ls => Hv (std (B5 N) N) (xOf ls)) (fun ls => rfl) (fun ls => i6 (std (B5 N) N) (xOf ls)) h
def bL : Cfg := { gam := [⟨147, [], false, false, []⟩, ⟨200, [], true, true, []⟩, ⟨203, [], true, true, []⟩, ⟨204, [], true, true, []⟩], imm := false, old := false }
theorem kl (O : Alg) (x : Ags O) : XF (O := O) Tryz.prog bL false false [] 148 [] (xr x SY 0) = Ja O x := by kernel_rfl
theorem mr {E : Env} {M : Nat} (N : Nat) (h : ∀ ls, E 148 [] ls = Jk N ls) : VV Tryz.prog E M ⟨148, [], false, false, []⟩ :=
 Aw mix (E := CH N) (N := N) (cfg := bL) (ci := ⟨148, [], false, false, []⟩) (ks := SY) (AF (Rq N (fun _ => rfl)) (AF (KZ N (fun _ => rfl)) (AF (U9 N (fun _ => rfl)) (AF (kg N (fun _ => rfl)) BO)))) (c := Jk N) (F := fun ls => Ja (std (CH N) N) (xOf ls)) (fun ls => rfl) (fun ls => kl (std (CH N) N) (xOf ls)) h
def hZ : Cfg := { gam := [⟨69, [], true, true, []⟩, ⟨144, [], true, true, []⟩, ⟨145, [], true, true, []⟩, ⟨146, [], false, false, [true, false]⟩, ⟨147, [], false, false, []⟩, ⟨148, [], false, false, []⟩], imm := false, old := false }
theorem oV (O : Alg) (x : Ags O) : XF (O := O) Tryz.prog hZ false false [] 85 [] (xr x Xu 0) = Mx O x := by kernel_rfl
theorem gq {E : Env} {M : Nat} (N : Nat) (h : ∀ ls, E 85 [] ls = Hh N ls) : VV Tryz.prog E M ⟨85, [], false, false, []⟩ :=
 Aw mix (E := B9 N) (N := N) (cfg := hZ) (ci := ⟨85, [], false, false, []⟩) (ks := Xu) (AF (cW N (fun _ => rfl)) (AF (o4 N (fun _ => rfl)) (AF (Vf N (fun _ => rfl)) (AF (rO N (fun _ => rfl)) (AF (Rq N (fun _ => rfl)) (AF (mr N (fun _ => rfl)) BO)))))) (c := Hh N) (F := fun ls => Mx (std (B9 N) N) (xOf ls)) (fun ls => rfl) (fun ls => oV (std (B9 N) N) (xOf ls)) h
def fp : Cfg := { gam := [⟨85, [], false, false, []⟩], imm := true, old := true }
theorem oA (O : Alg) (x : Ags O) : XF (O := O) Tryz.prog fp false false [] 88 [] (xr x W3 0) = Nj O x := by kernel_rfl
theorem qV {E : Env} {M : Nat} (N : Nat) (h : ∀ ls, E 88 [] ls = Nf N ls) : VV Tryz.prog E M ⟨88, [], false, false, []⟩ :=
 Aw mix (E := Gk N) (N := N) (cfg := fp) (ci := ⟨88, [], false, false, []⟩) (ks := W3) (AF (gq N (fun _ => rfl)) BO) (c := Nf N) (F := fun ls => Nj (std (Gk N) N) (xOf ls)) (fun ls => rfl) (fun ls => oA (std (Gk N) N) (xOf ls)) h
def Zb : Cfg := { gam := [⟨84, [], true, true, []⟩, ⟨88, [], false, false, []⟩], imm := false, old := false }
theorem kP (O : Alg) (x : Ags O) : XF (O := O) Tryz.prog Zb false false [] 43 [] (xr x Tj 0) = JJ O x := by kernel_rfl
theorem nW {E : Env} {M : Nat} (N : Nat) (h : ∀ ls, E 43 [] ls = Jd N ls) : VV Tryz.prog E M ⟨43, [], false, false, []⟩ :=
 Aw mix (E := DM N) (N := N) (cfg := Zb) (ci := ⟨43, [], false, false, []⟩) (ks := Tj) (AF (jW N (fun _ => rfl)) (AF (qV N (fun _ => rfl)) BO)) (c := Jd N) (F := fun ls => JJ (std (DM N) N) (xOf ls)) (fun ls => rfl) (fun ls => kP (std (DM N) N) (xOf ls)) h
def gO : Cfg := { gam := [⟨43, [], false, false, []⟩, ⟨84, [], true, true, []⟩, ⟨85, [], false, false, []⟩, ⟨86, [], true, true, []⟩], imm := false, old := true, ie := [122, 97, 3, 4, 47, 33, 45, 125, 5, 159, 48, 43, 185] }
theorem oo (O : Alg) (x : Ags O) : XF (O := O) Tryz.prog gO false false [] 38 [] (xr x YC 0) = NE O x := by kernel_rfl
theorem gp {E : Env} {M : Nat} (N : Nat) (h : ∀ ls, E 38 [] ls = Hk N ls) : VV Tryz.prog E M ⟨38, [], false, false, []⟩ :=
 Aw mix (E := Cv N) (N := N) (cfg := gO) (ci := ⟨38, [], false, false, []⟩) (ks := YC) (AF (nW N (fun _ => rfl)) (AF (jW N (fun _ => rfl)) (AF (gq N (fun _ => rfl)) (AF (aC N (fun _ => rfl)) BO)))) (c := Hk N) (F := fun ls => NE (std (Cv N) N) (xOf ls)) (fun ls => rfl) (fun ls => oo (std (Cv N) N) (xOf ls)) h
theorem pV : Vd Tryz.prog 72 M2 := vt mix fM SG [] g0 rfl (fun _ _ => rfl) fun O x => by kernel_rfl
theorem qn : Vd Tryz.prog 24 NR := vt mix fe Rg [(72, M2)] (gs pV g0) rfl (fun _ _ => rfl) fun O x => by kernel_rfl
theorem qu : Vd Tryz.prog 87 OD := vt mix fj Rt [] g0 rfl (fun _ _ => rfl) fun O x => by kernel_rfl
theorem qU : Vd Tryz.prog 39 SC := vt mix gj Rm [(24, NR), (87, OD)] (gs qn (gs qu g0)) rfl (fun _ _ => rfl) fun O x => by kernel_rfl
def dB : Cfg := { gam := [⟨36, [], false, false, []⟩], imm := false, old := false }
theorem mt (O : Alg) (x : Ags O) : XF (O := O) Tryz.prog dB true true [] 40 [] (xr x Vt 0) = Kp O x := by kernel_rfl
theorem oT : Vd Tryz.prog 40 K2 := fun N h =>
 Aw mix (E := FF N) (N := N) (cfg := dB) (ci := ⟨40, [], true, true, []⟩) (ks := Vt) (AF (Rv N (fun _ => rfl)) BO) (c := K2 N) (F := fun ls => Kp (std (FF N) N) (xOf ls)) (fun ls => rfl) (fun ls => mt (std (FF N) N) (xOf ls)) h
def dE : Cfg := { gam := [⟨38, [], false, false, []⟩], imm := false, old := false }
theorem mV (O : Alg) (x : Ags O) : XF (O := O) Tryz.prog dE true true [] 41 [] (xr x Vm 0) = Kg O x := by kernel_rfl
theorem ol : Vd Tryz.prog 41 Kd := fun N h =>
 Aw mix (E := FE N) (N := N) (cfg := dE) (ci := ⟨41, [], true, true, []⟩) (ks := Vm) (AF (gp N (fun _ => rfl)) BO) (c := Kd N) (F := fun ls => Kg (std (FE N) N) (xOf ls)) (fun ls => rfl) (fun ls => mV (std (FE N) N) (xOf ls)) h
def Wi : Cfg := { gam := [⟨33, [], true, true, []⟩, ⟨34, [], false, false, []⟩, ⟨35, [], false, false, []⟩, ⟨36, [], false, false, []⟩, ⟨38, [], false, false, []⟩, ⟨39, [], true, true, []⟩, ⟨40, [], true, true, []⟩, ⟨41, [], true, true, []⟩], imm := false, old := false }
theorem f5 (O : Alg) (x : Ags O) : XF (O := O) Tryz.prog Wi true true [] 8 [] (xr x PA 0) = GU O x := by kernel_rfl
theorem il : Vd Tryz.prog 8 Ga := fun N h =>
 Aw mix (E := A0 N) (N := N) (cfg := Wi) (ci := ⟨8, [], true, true, []⟩) (ks := PA) (AF (ny N (fun _ => rfl)) (AF (kK N (fun _ => rfl)) (AF (rA N (fun _ => rfl)) (AF (Rv N (fun _ => rfl)) (AF (gp N (fun _ => rfl)) (AF (qU N (fun _ => rfl)) (AF (oT N (fun _ => rfl)) (AF (ol N (fun _ => rfl)) BO)))))))) (c := Ga N) (F := fun ls => GU (std (A0 N) N) (xOf ls)) (fun ls => rfl) (fun ls => f5 (std (A0 N) N) (xOf ls)) h
end Go.Px
