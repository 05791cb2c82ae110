/- Part 14. -/
import Derived.Test.YtibhmjjjbblhmaaGreatPart06
import Derived.Test.YtibhmjjjbblhmaaGreatProg
import Derived.Test.YtibhmjjjbblhmaaGreatPart08
import Derived.KernelRfl
import Derived.WalkKit
import Derived.Lib.Walk
import Derived.BigCall
import Derived.BigGuard
import Derived.Test.YtibhmjjjbblhmaaGreatPart13
set_option linter.unusedVariables false
set_option linter.unusedSimpArgs false
namespace Go.Px
open Go.Proofs
set_option maxRecDepth 100000
theorem mix : Tryz.prog.follows .mixedOrders = true := by kernel_rfl
theorem cX : Vd Tryz.prog 53 Jf := vt mix V6 M0 [] g0 rfl (fun _ _ => rfl) fun O x => by kernel_rfl
theorem QQ : Vd Tryz.prog 86 CC := vt mix Qj Qa [] g0 rfl (fun _ _ => rfl) fun O x => by kernel_rfl
theorem YJ : Vd Tryz.prog 54 FL := vt mix Qk Ht [(86, CC)] (gs QQ g0) rfl (fun _ _ => rfl) fun O x => by kernel_rfl
theorem Yc : Vd Tryz.prog 55 F2 := vt mix Rf Id [(86, CC)] (gs QQ g0) rfl (fun _ _ => rfl) fun O x => by kernel_rfl
theorem CQ : Vd Tryz.prog 35 AM := vt mix Ss J4 [(53, Jf), (54, FL), (55, F2)] (gs cX (gs YJ (gs Yc g0))) rfl (fun _ _ => rfl) fun O x => by kernel_rfl
theorem Sq : Vd Tryz.prog 57 Cd := fun N h =>
 JS mix (T := 22) (e := 102) (b := 24) Tryz.func57 Tryz.underlying22 (by kernel_rfl) (by decide) (fun O l => by kernel_rfl) (fun O l => by kernel_rfl) h
theorem Su : Vd Tryz.prog 40 Cr := vt mix TA J7 [(57, Cd)] (gs Sq g0) rfl (fun _ _ => rfl) fun O x => by kernel_rfl
theorem Vx : Vd Tryz.prog 26 Fk := vt mix Vq Mz [(35, AM), (40, Cr)] (gs CQ (gs Su g0)) rfl (fun _ _ => rfl) fun O x => by kernel_rfl
theorem Da : Vd Tryz.prog 58 AN := fun N h =>
 JS mix (T := 80) (e := 104) (b := 1) Tryz.func58 Tryz.underlying80 (by kernel_rfl) (by decide) (fun O l => by kernel_rfl) (fun O l => by kernel_rfl) h
theorem Ff : Vd Tryz.prog 59 AX := fun N h =>
 JS mix (T := 81) (e := 3) (b := 8) Tryz.func59 Tryz.underlying81 (by kernel_rfl) (by decide) (fun O l => by kernel_rfl) (fun O l => by kernel_rfl) h
theorem Et : Vd Tryz.prog 60 AU := fun N h =>
 JS mix (T := 82) (e := 4) (b := 1) Tryz.func60 Tryz.underlying82 (by kernel_rfl) (by decide) (fun O l => by kernel_rfl) (fun O l => by kernel_rfl) h
theorem CD : Vd Tryz.prog 41 AK := vt mix QK Hc [(58, AN), (59, AX), (60, AU)] (gs Da (gs Ff (gs Et g0))) rfl (fun _ _ => rfl) fun O x => by kernel_rfl
theorem TC : Vd Tryz.prog 27 Cv := vt mix TB J8 [(40, Cr), (41, AK)] (gs Su (gs CD g0)) rfl (fun _ _ => rfl) fun O x => by kernel_rfl
theorem Dl : Vd Tryz.prog 89 Aa := vt mix ON N8 [] g0 rfl (fun _ _ => rfl) fun O x => by kernel_rfl
theorem VW : Vd Tryz.prog 90 Dx := vt mix OI Fw [(89, Aa)] (gs Dl g0) rfl (fun _ _ => rfl) fun O x => by kernel_rfl
theorem T6 : Vd Tryz.prog 121 DK := vt mix NS Fc [] g0 rfl (fun _ _ => rfl) fun O x => by kernel_rfl
theorem F7 : Vd Tryz.prog 105 Af := vt mix KV DX [(121, DK)] (gs T6 g0) rfl (fun _ _ => rfl) fun O x => by kernel_rfl
theorem TX : Vd Tryz.prog 91 C3 := vt mix L8 En [(89, Aa), (105, Af)] (gs Dl (gs F7 g0)) rfl (fun _ _ => rfl) fun O x => by kernel_rfl
theorem TY : Vd Tryz.prog 107 C2 := vt mix L7 Es [(89, Aa)] (gs Dl g0) rfl (fun _ _ => rfl) fun O x => by kernel_rfl
theorem Vc : Vd Tryz.prog 92 Dv := vt mix N4 Fp [(107, C2)] (gs TY g0) rfl (fun _ _ => rfl) fun O x => by kernel_rfl
theorem LY : Vd Tryz.prog 61 A8 := vt mix QJ Hq [(35, AM), (89, Aa), (90, Dx), (91, C3), (92, Dv)] (gs CQ (gs Dl (gs VW (gs TX (gs Vc g0))))) rfl (fun _ _ => rfl) fun O x => by kernel_rfl
theorem Jl : Vd Tryz.prog 68 BB := vt mix Sv Jv [] g0 rfl (fun _ _ => rfl) fun O x => by kernel_rfl
theorem TK : Vd Tryz.prog 62 Co := vt mix S5 Jm [(68, BB)] (gs Jl g0) rfl (fun _ _ => rfl) fun O x => by kernel_rfl
theorem Zl : Vd Tryz.prog 63 G1 := vt mix TI Jq [] g0 rfl (fun _ _ => rfl) fun O x => by kernel_rfl
theorem TL : Vd Tryz.prog 42 Ct := vt mix TN Jw [(35, AM), (61, A8), (62, Co), (63, G1)] (gs CQ (gs LY (gs TK (gs Zl g0)))) rfl (fun _ _ => rfl) fun O x => by kernel_rfl
theorem Y3 : Vd Tryz.prog 64 GH := vt mix Re Ip [] g0 rfl (fun _ _ => rfl) fun O x => by kernel_rfl
theorem Xx : Vd Tryz.prog 65 FC := vt mix P6 Ls [] g0 rfl (fun _ _ => rfl) fun O x => by kernel_rfl
open Go.RowKit Go.Lib in
set_option maxHeartbeats 1000000 in
theorem OW (s : ByteArray) (c : Int) (w : World) : Calls Tryz.prog 108 #[.string s, .int .u8 c] w fun e w' => e = .returned (.int .i64 (Lib.indexByte s.data.toList c.toNat.toUInt8)) ∧ w' = w := by
 go_enter Tryz.func108, Tryz.ntmps108
 go_wp2
 rw [run_callFunc_extern Tryz.func123 (by kernel_rfl) (by kernel_rfl) (by kernel_rfl) (e := Extern.BytealgIndexByte.indexByte) (by kernel_rfl), Lib.run_indexByteString]
 simp only [Result.andThen]
 rw [Oper.upon_value]
 go_wp2
 go_ret
 exact ⟨rfl, rfl⟩
theorem P3 : Vd Tryz.prog 108 B8 := fun N h =>
 ct Tryz.func108 (T9 := 9) (T5 := 5) (T3 := 3) rfl rfl Tryz.underlying9 Tryz.underlying5 Tryz.underlying3 (by kernel_rfl) OW h
theorem TT : Vd Tryz.prog 93 C4 := vt mix L5 Em [(108, B8)] (gs P3 g0) rfl (fun _ _ => rfl) fun O x => by kernel_rfl
theorem Za : Vd Tryz.prog 94 E3 := vt mix Sx TH [] g0 rfl (fun _ _ => rfl) fun O x => by kernel_rfl
theorem cF : Vd Tryz.prog 66 H1 := vt mix UA Ky [(93, C4), (94, E3)] (gs TT (gs Za g0)) rfl (fun _ _ => rfl) fun O x => by kernel_rfl
theorem Uc : Vd Tryz.prog 95 DS := vt mix NF IU [] g0 rfl (fun _ _ => rfl) fun O x => by kernel_rfl
theorem WU : Vd Tryz.prog 67 ES := vt mix Pv Gh [(95, DS)] (gs Uc g0) rfl (fun _ _ => rfl) fun O x => by kernel_rfl
theorem S1 : Vd Tryz.prog 43 Cs := vt mix S9 HE [(64, GH), (65, FC), (66, H1), (67, ES)] (gs Y3 (gs Xx (gs cF (gs WU g0)))) rfl (fun _ _ => rfl) fun O x => by kernel_rfl
theorem Nk : Vd Tryz.prog 72 Bg := vt mix Sz Jy [] g0 rfl (fun _ _ => rfl) fun O x => by kernel_rfl
theorem NV : Vd Tryz.prog 99 BV := vt mix NM FZ [] g0 rfl (fun _ _ => rfl) fun O x => by kernel_rfl
theorem YA : Vd Tryz.prog 73 FI := vt mix QD Hm [(42, Ct), (68, BB), (72, Bg), (99, BV)] (gs TL (gs Jl (gs Nk (gs NV g0)))) rfl (fun _ _ => rfl) fun O x => by kernel_rfl
theorem Xo : Vd Tryz.prog 96 FG := vt mix Qn Hd [(35, AM), (89, Aa)] (gs CQ (gs Dl g0)) rfl (fun _ _ => rfl) fun O x => by kernel_rfl
theorem YR : Vd Tryz.prog 97 GD := vt mix Ry Iu [(68, BB), (72, Bg)] (gs Jl (gs Nk g0)) rfl (fun _ _ => rfl) fun O x => by kernel_rfl
theorem Va : Vd Tryz.prog 125 Dn := vt mix OG I7 [] g0 rfl (fun _ _ => rfl) fun O x => by kernel_rfl
theorem X7 : Vd Tryz.prog 109 Fb := vt mix Qr Hp [(125, Dn)] (gs Va g0) rfl (fun _ _ => rfl) fun O x => by kernel_rfl
theorem F3 : Vd Tryz.prog 155 Aj := vt mix UU Lp [(58, AN), (59, AX), (60, AU)] (gs Da (gs Ff (gs Et g0))) rfl (fun _ _ => rfl) fun O x => by kernel_rfl
theorem W4 : Vd Tryz.prog 179 CU := vt mix Pu KP [] g0 rfl (fun _ _ => rfl) fun O x => by kernel_rfl
theorem RV : Vd Tryz.prog 156 Bl := vt mix Rg EC [(179, CU)] (gs W4 g0) rfl (fun _ _ => rfl) fun O x => by kernel_rfl
theorem GN : Vd Tryz.prog 157 Ak := vt mix Rj IZ [] g0 rfl (fun _ _ => rfl) fun O x => by kernel_rfl
theorem Zp : Vd Tryz.prog 126 HD := vt mix TG Jr [(155, Aj), (156, Bl), (157, Ak)] (gs F3 (gs RV (gs GN g0))) rfl (fun _ _ => rfl) fun O x => by kernel_rfl
theorem RE : Vd Tryz.prog 158 CO := vt mix Vh M1 [(58, AN), (59, AX), (60, AU)] (gs Da (gs Ff (gs Et g0))) rfl (fun _ _ => rfl) fun O x => by kernel_rfl
theorem Na : Vd Tryz.prog 180 Bf := vt mix TJ J1 [] g0 rfl (fun _ _ => rfl) fun O x => by kernel_rfl
theorem bX : Vd Tryz.prog 181 IB := vt mix UY LO [(35, AM), (180, Bf)] (gs CQ (gs Na g0)) rfl (fun _ _ => rfl) fun O x => by kernel_rfl
theorem cV : Vd Tryz.prog 159 Ji := vt mix V8 Mx [(35, AM), (105, Af), (180, Bf), (181, IB)] (gs CQ (gs F7 (gs Na (gs bX g0)))) rfl (fun _ _ => rfl) fun O x => by kernel_rfl
theorem au : Vd Tryz.prog 127 IJ := vt mix UH Li [(158, CO), (159, Ji)] (gs RE (gs cV g0)) rfl (fun _ _ => rfl) fun O x => by kernel_rfl
theorem TU : Vd Tryz.prog 153 Cz := vt mix L4 Ei [] g0 rfl (fun _ _ => rfl) fun O x => by kernel_rfl
theorem PM : Vd Tryz.prog 119 B3 := vt mix PR Gz [(153, Cz)] (gs TU g0) rfl (fun _ _ => rfl) fun O x => by kernel_rfl
theorem Tb : Vd Tryz.prog 120 C1 := vt mix L3 Ej [] g0 rfl (fun _ _ => rfl) fun O x => by kernel_rfl
theorem OS : Vd Tryz.prog 104 Bo := vt mix OP Fz [(119, B3), (120, C1)] (gs PM (gs Tb g0)) rfl (fun _ _ => rfl) fun O x => by kernel_rfl
theorem Kt : Vd Tryz.prog 140 A9 := vt mix QO DV [(156, Bl)] (gs RV g0) rfl (fun _ _ => rfl) fun O x => by kernel_rfl
theorem HH : Vd Tryz.prog 168 Ao := vt mix TQ Jn [] g0 rfl (fun _ _ => rfl) fun O x => by kernel_rfl
theorem Gx : Vd Tryz.prog 169 Am := vt mix PJ Gm [(168, Ao)] (gs HH g0) rfl (fun _ _ => rfl) fun O x => by kernel_rfl
theorem Xn : Vd Tryz.prog 191 FV := vt mix QG Ho [] g0 rfl (fun _ _ => rfl) fun O x => by kernel_rfl
theorem Ze : Vd Tryz.prog 182 HL := vt mix Sy Js [(168, Ao), (169, Am), (191, FV)] (gs HH (gs Gx (gs Xn g0))) rfl (fun _ _ => rfl) fun O x => by kernel_rfl
theorem OB : Vd Tryz.prog 210 BQ := vt mix OD OA [] g0 rfl (fun _ _ => rfl) fun O x => by kernel_rfl
theorem YO : Vd Tryz.prog 192 GJ := vt mix RK I1 [(210, BQ)] (gs OB g0) rfl (fun _ _ => rfl) fun O x => by kernel_rfl
theorem Un : Vd Tryz.prog 211 DH := vt mix NR FU [] g0 rfl (fun _ _ => rfl) fun O x => by kernel_rfl
theorem RU : Vd Tryz.prog 193 CZ := vt mix KX Dc [(211, DH)] (gs Un g0) rfl (fun _ _ => rfl) fun O x => by kernel_rfl
theorem UJ : Vd Tryz.prog 212 DJ := vt mix NP FJ [] g0 rfl (fun _ _ => rfl) fun O x => by kernel_rfl
theorem Wg : Vd Tryz.prog 194 EG := vt mix PW Gy [(210, BQ), (212, DJ)] (gs OB (gs UJ g0)) rfl (fun _ _ => rfl) fun O x => by kernel_rfl
theorem RF : Vd Tryz.prog 213 CP := vt mix JY DB [] g0 rfl (fun _ _ => rfl) fun O x => by kernel_rfl
theorem SA : Vd Tryz.prog 195 Cg := vt mix LB D5 [(213, CP)] (gs RF g0) rfl (fun _ _ => rfl) fun O x => by kernel_rfl
theorem SW : Vd Tryz.prog 183 Ck := vt mix Lj D4 [(192, GJ), (193, CZ), (194, EG), (195, Cg)] (gs YO (gs RU (gs Wg (gs SA g0)))) rfl (fun _ _ => rfl) fun O x => by kernel_rfl
theorem Zs : Vd Tryz.prog 184 G5 := vt mix TE Jz [(168, Ao), (169, Am)] (gs HH (gs Gx g0)) rfl (fun _ _ => rfl) fun O x => by kernel_rfl
theorem VM : Vd Tryz.prog 160 Dm := vt mix OL Fv [(119, B3), (140, A9), (182, HL), (183, Ck), (184, G5)] (gs PM (gs Kt (gs Ze (gs SW (gs Zs g0))))) rfl (fun _ _ => rfl) fun O x => by kernel_rfl
theorem cH : Vd Tryz.prog 161 II := vt mix Tx LW [(155, Aj), (157, Ak)] (gs F3 (gs GN g0)) rfl (fun _ _ => rfl) fun O x => by kernel_rfl
theorem Wm : Vd Tryz.prog 162 EK := vt mix PP PS [] g0 rfl (fun _ _ => rfl) fun O x => by kernel_rfl
theorem aU : Vd Tryz.prog 163 Hx := vt mix Ut Lr [(35, AM), (105, Af), (158, CO), (180, Bf)] (gs CQ (gs F7 (gs RE (gs Na g0)))) rfl (fun _ _ => rfl) fun O x => by kernel_rfl
theorem Xk : Vd Tryz.prog 164 Fd := vt mix Qd Hk [(155, Aj)] (gs F3 g0) rfl (fun _ _ => rfl) fun O x => by kernel_rfl
theorem Yl : Vd Tryz.prog 128 GO := vt mix Rx Ib [(41, AK), (104, Bo), (160, Dm), (161, II), (162, EK), (163, Hx), (164, Fd)] (gs CD (gs OS (gs VM (gs cH (gs Wm (gs aU (gs Xk g0))))))) rfl (fun _ _ => rfl) fun O x => by kernel_rfl
theorem To : Vd Tryz.prog 165 DN := vt mix Ty LT [(140, A9), (157, Ak)] (gs Kt (gs GN g0)) rfl (fun _ _ => rfl) fun O x => by kernel_rfl
theorem Wd : Vd Tryz.prog 129 EW := vt mix PI Gk [(155, Aj), (157, Ak), (165, DN)] (gs F3 (gs GN (gs To g0))) rfl (fun _ _ => rfl) fun O x => by kernel_rfl
theorem Yz : Vd Tryz.prog 130 F1 := vt mix RX Ii [(155, Aj), (165, DN)] (gs F3 (gs To g0)) rfl (fun _ _ => rfl) fun O x => by kernel_rfl
theorem S7 : Vd Tryz.prog 141 CT := vt mix S6 E6 [] g0 rfl (fun _ _ => rfl) fun O x => by kernel_rfl
theorem Xt : Vd Tryz.prog 131 FO := vt mix QB Hs [(141, CT), (155, Aj), (157, Ak)] (gs S7 (gs F3 (gs GN g0))) rfl (fun _ _ => rfl) fun O x => by kernel_rfl
theorem Q7 : Vd Tryz.prog 167 CL := vt mix WD Mm [(58, AN), (59, AX), (60, AU)] (gs Da (gs Ff (gs Et g0))) rfl (fun _ _ => rfl) fun O x => by kernel_rfl
theorem X2 : Vd Tryz.prog 132 FR := vt mix QV Hl [(167, CL)] (gs Q7 g0) rfl (fun _ _ => rfl) fun O x => by kernel_rfl
theorem Y2 : Vd Tryz.prog 133 GL := vt mix Rq Is [(167, CL), (168, Ao), (169, Am)] (gs Q7 (gs HH (gs Gx g0))) rfl (fun _ _ => rfl) fun O x => by kernel_rfl
theorem UN : Vd Tryz.prog 134 DT := vt mix NC FN [(167, CL), (168, Ao), (169, Am)] (gs Q7 (gs HH (gs Gx g0))) rfl (fun _ _ => rfl) fun O x => by kernel_rfl
theorem XY : Vd Tryz.prog 135 FP := vt mix QY Hh [(35, AM), (158, CO)] (gs CQ (gs RE g0)) rfl (fun _ _ => rfl) fun O x => by kernel_rfl
theorem VN : Vd Tryz.prog 136 Dz := vt mix OO Fq [(41, AK)] (gs CD g0) rfl (fun _ _ => rfl) fun O x => by kernel_rfl
theorem N9 : Vd Tryz.prog 112 Bm := vt mix N5 Fo [(41, AK)] (gs CD g0) rfl (fun _ _ => rfl) fun O x => by kernel_rfl
theorem VT : Vd Tryz.prog 137 Ds := vt mix OC Ft [(41, AK), (112, Bm)] (gs CD (gs N9 g0)) rfl (fun _ _ => rfl) fun O x => by kernel_rfl
theorem WZ : Vd Tryz.prog 138 Eg := vt mix Pl EI [(41, AK)] (gs CD g0) rfl (fun _ _ => rfl) fun O x => by kernel_rfl
theorem X9 : Vd Tryz.prog 170 FA := vt mix P9 Ql [] g0 rfl (fun _ _ => rfl) fun O x => by kernel_rfl
theorem Wp : Vd Tryz.prog 139 Ec := vt mix Pm Gw [(41, AK), (170, FA)] (gs CD (gs X9 g0)) rfl (fun _ _ => rfl) fun O x => by kernel_rfl
theorem Vf : Vd Tryz.prog 110 D0 := vt mix N0 Dq [(126, HD), (127, IJ), (128, GO), (129, EW), (130, F1), (131, FO), (132, FR), (133, GL), (134, DT), (135, FP), (136, Dz), (137, Ds), (138, Eg), (139, Ec)] (gs Zp (gs au (gs Yl (gs Wd (gs Yz (gs Xt (gs X2 (gs Y2 (gs UN (gs XY (gs VN (gs VT (gs WZ (gs Wp g0)))))))))))))) rfl (fun _ _ => rfl) fun O x => by kernel_rfl
theorem WJ : Vd Tryz.prog 111 C5 := vt mix PL G0 [(61, A8), (140, A9), (141, CT)] (gs LY (gs Kt (gs S7 g0))) rfl (fun _ _ => rfl) fun O x => by kernel_rfl
theorem Yh : Vd Tryz.prog 98 GA := vt mix RG Ij [(41, AK), (43, Cs), (61, A8), (109, Fb), (110, D0), (111, C5)] (gs CD (gs S1 (gs LY (gs X7 (gs Vf (gs WJ g0)))))) rfl (fun _ _ => rfl) fun O x => by kernel_rfl
theorem Ux : Vd Tryz.prog 28 EO := vt mix T4 Lg [(27, Cv), (42, Ct), (43, Cs), (62, Co), (68, BB), (72, Bg), (73, FI), (96, FG), (97, GD), (98, GA), (99, BV), (112, Bm)] (gs TC (gs TL (gs S1 (gs TK (gs Jl (gs Nk (gs YA (gs Xo (gs YR (gs Yh (gs NV (gs N9 g0)))))))))))) rfl (fun _ _ => rfl) fun O x => by kernel_rfl
def X5 : Cfg := { gam := [⟨28, [], true, true, []⟩], imm := false, old := false }
theorem cZ (O : Alg) (x : Ags O) : XF (O := O) Tryz.prog X5 false false [] 87 [] (xr x Sa 0) = Kv O x := by kernel_rfl
theorem ei {E : Env} {M : Nat} (N : Nat) (h : ∀ ls, E 87 [] ls = Lh N ls) : VV Tryz.prog E M ⟨87, [], false, false, []⟩ :=
 CF mix (E := GQ N) (N := N) (cfg := X5) (ci := ⟨87, [], false, false, []⟩) (ks := Sa) (Ap (Ux N (fun _ => rfl)) ED) (c := Lh N) (F := fun ls => Kv (std (GQ N) N) (xOf ls)) (fun ls => rfl) (fun ls => cZ (std (GQ N) N) (xOf ls)) h
theorem YI : Vd Tryz.prog 88 Hg := vt mix QE Hi [(104, Bo)] (gs OS g0) rfl (fun _ _ => rfl) fun O x => by kernel_rfl
def XP : Cfg := { gam := [⟨26, [], true, true, []⟩, ⟨87, [], false, false, []⟩, ⟨88, [], true, true, []⟩], imm := false, old := true, ie := [102, 38, 85, 51, 25, 104, 3, 4, 112, 5, 139, 41, 34, 191] }
theorem cq (O : Alg) (x : Ags O) : XF (O := O) Tryz.prog XP false false [] 56 [] (xr x R9 0) = LG O x := by kernel_rfl
theorem di {E : Env} {M : Nat} (N : Nat) (h : ∀ ls, E 56 [] ls = LV N ls) : VV Tryz.prog E M ⟨56, [], false, false, []⟩ :=
 CF mix (E := DI N) (N := N) (cfg := XP) (ci := ⟨56, [], false, false, []⟩) (ks := R9) (Ap (Vx N (fun _ => rfl)) (Ap (ei N (fun _ => rfl)) (Ap (YI N (fun _ => rfl)) ED))) (c := LV N) (F := fun ls => LG (std (DI N) N) (xOf ls)) (fun ls => rfl) (fun ls => cq (std (DI N) N) (xOf ls)) h
def UR : Cfg := { gam := [⟨56, [], false, false, []⟩], imm := false, old := false }
theorem Zk (O : Alg) (x : Ags O) : XF (O := O) Tryz.prog UR false false [] 36 [] (xr x PF 0) = H7 O x := by kernel_rfl
theorem Ub {E : Env} {M : Nat} (N : Nat) (h : ∀ ls, E 36 [] ls = ET N ls) : VV Tryz.prog E M ⟨36, [], false, false, []⟩ :=
 CF mix (E := EE N) (N := N) (cfg := UR) (ci := ⟨36, [], false, false, []⟩) (ks := PF) (Ap (di N (fun _ => rfl)) ED) (c := ET N) (F := fun ls => H7 (std (EE N) N) (xOf ls)) (fun ls => rfl) (fun ls => Zk (std (EE N) N) (xOf ls)) h
def V9 : Cfg := { gam := [⟨35, [], true, true, []⟩, ⟨36, [], false, false, []⟩], imm := false, old := false }
theorem bT (O : Alg) (x : Ags O) : XF (O := O) Tryz.prog V9 true true [] 16 [] (xr x Q6 0) = Je O x := by kernel_rfl
theorem Mu : Vd Tryz.prog 16 BS := fun N h =>
 CF mix (E := Df N) (N := N) (cfg := V9) (ci := ⟨16, [], true, true, []⟩) (ks := Q6) (Ap (CQ N (fun _ => rfl)) (Ap (Ub N (fun _ => rfl)) ED)) (c := BS N) (F := fun ls => Je (std (Df N) N) (xOf ls)) (fun ls => rfl) (fun ls => bT (std (Df N) N) (xOf ls)) h
theorem Xc : Vd Tryz.prog 74 FT := vt mix P8 Hu [] g0 rfl (fun _ _ => rfl) fun O x => by kernel_rfl
theorem SM : Vd Tryz.prog 75 Ce := vt mix K2 D1 [] g0 rfl (fun _ _ => rfl) fun O x => by kernel_rfl
theorem bo : Vd Tryz.prog 46 Ln := vt mix Tr LE [(74, FT), (75, Ce)] (gs Xc (gs SM g0)) rfl (fun _ _ => rfl) fun O x => by kernel_rfl
theorem RJ : Vd Tryz.prog 76 CY := vt mix Kg DU [] g0 rfl (fun _ _ => rfl) fun O x => by kernel_rfl
theorem Ue : Vd Tryz.prog 77 DF := vt mix NQ FX [] g0 rfl (fun _ _ => rfl) fun O x => by kernel_rfl
theorem Td : Vd Tryz.prog 78 C0 := vt mix L9 Ep [] g0 rfl (fun _ _ => rfl) fun O x => by kernel_rfl
theorem W1 : Vd Tryz.prog 79 EL := vt mix Pd Gr [] g0 rfl (fun _ _ => rfl) fun O x => by kernel_rfl
theorem Y5 : Vd Tryz.prog 48 Iv := vt mix RS I2 [(76, CY), (77, DF), (78, C0), (79, EL)] (gs RJ (gs Ue (gs Td (gs W1 g0)))) rfl (fun _ _ => rfl) fun O x => by kernel_rfl
def HC : Cfg := { gam := [⟨48, [], true, true, []⟩], imm := false, old := false }
theorem ND (O : Alg) (x : Ags O) : XF (O := O) Tryz.prog HC true true [] 47 [48] (xr x Dg 0) = Bd O x := by kernel_rfl
theorem Nb {E : Env} {M : Nat} (N : Nat) (h : ∀ ls, E 47 [48] ls = Be N ls) : VV Tryz.prog E M ⟨47, [48], true, true, []⟩ :=
 CF mix (E := A6 N) (N := N) (cfg := HC) (ci := ⟨47, [48], true, true, []⟩) (ks := Dg) (Ap (Y5 N (fun _ => rfl)) ED) (c := Be N) (F := fun ls => Bd (std (A6 N) N) (xOf ls)) (fun ls => rfl) (fun ls => ND (std (A6 N) N) (xOf ls)) h
def UX : Cfg := { gam := [⟨46, [], true, true, []⟩, ⟨47, [48], true, true, []⟩], imm := false, old := false }
theorem Zf (O : Alg) (x : Ags O) : XF (O := O) Tryz.prog UX true true [] 29 [] (xr x Pb 0) = IL O x := by kernel_rfl
theorem bn : Vd Tryz.prog 29 GT := fun N h =>
 CF mix (E := C8 N) (N := N) (cfg := UX) (ci := ⟨29, [], true, true, []⟩) (ks := Pb) (Ap (bo N (fun _ => rfl)) (Ap (Nb N (fun _ => rfl)) ED)) (c := GT N) (F := fun ls => IL (std (C8 N) N) (xOf ls)) (fun ls => rfl) (fun ls => Zf (std (C8 N) N) (xOf ls)) h
theorem Wc : Vd Tryz.prog 9 Ee := vt mix Pi Gi [(16, BS), (26, Fk), (27, Cv), (28, EO), (29, GT)] (gs Mu (gs Vx (gs TC (gs Ux (gs bn g0))))) rfl (fun _ _ => rfl) fun O x => by kernel_rfl
theorem R7 : Vd Tryz.prog 33 D6 := fun N h =>
 JS mix (T := 25) (e := 38) (b := 136) Tryz.func33 Tryz.underlying25 (by kernel_rfl) (by decide) (fun O l => by kernel_rfl) (fun O l => by kernel_rfl) h
def OQ : Cfg := { gam := [⟨36, [], false, false, []⟩], imm := false, old := false }
theorem T7 (O : Alg) (x : Ags O) : XF (O := O) Tryz.prog OQ false false [] 34 [] (xr x JH 0) = Dy O x := by kernel_rfl
theorem Ny {E : Env} {M : Nat} (N : Nat) (h : ∀ ls, E 34 [] ls = BR N ls) : VV Tryz.prog E M ⟨34, [], false, false, []⟩ :=
 CF mix (E := CG N) (N := N) (cfg := OQ) (ci := ⟨34, [], false, false, []⟩) (ks := JH) (Ap (Ub N (fun _ => rfl)) ED) (c := BR N) (F := fun ls => Dy (std (CG N) N) (xOf ls)) (fun ls => rfl) (fun ls => T7 (std (CG N) N) (xOf ls)) h
def OE : Cfg := { gam := [⟨16, [], true, true, []⟩, ⟨33, [], true, true, []⟩, ⟨34, [], false, false, []⟩], imm := false, old := false }
theorem UQ (O : Alg) (x : Ags O) : XF (O := O) Tryz.prog OE false false [] 11 [] (xr x I8 0) = Dr O x := by kernel_rfl
theorem VU {E : Env} {M : Nat} (N : Nat) (h : ∀ ls, E 11 [] ls = CA N ls) : VV Tryz.prog E M ⟨11, [], false, false, []⟩ :=
 CF mix (E := BN N) (N := N) (cfg := OE) (ci := ⟨11, [], false, false, []⟩) (ks := I8) (Ap (Mu N (fun _ => rfl)) (Ap (R7 N (fun _ => rfl)) (Ap (Ny N (fun _ => rfl)) ED))) (c := CA N) (F := fun ls => Dr (std (BN N) N) (xOf ls)) (fun ls => rfl) (fun ls => UQ (std (BN N) N) (xOf ls)) h
theorem cg : Vd Tryz.prog 39 Qv := vt mix Vt WA [] g0 rfl (fun _ _ => rfl) fun O x => by kernel_rfl
theorem fT : Vd Tryz.prog 23 QT := vt mix ZM ZD [(39, Qv)] (gs cg g0) rfl (fun _ _ => rfl) fun O x => by kernel_rfl
theorem cf : Vd Tryz.prog 24 Mw := vt mix Vi Vo [] g0 rfl (fun _ _ => rfl) fun O x => by kernel_rfl
theorem eI : Vd Tryz.prog 25 Ou := vt mix Xw X8 [] g0 rfl (fun _ _ => rfl) fun O x => by kernel_rfl
def Vp : Cfg := { gam := [⟨9, [], true, true, []⟩, ⟨11, [], false, false, []⟩, ⟨23, [], true, true, []⟩, ⟨24, [], true, true, []⟩, ⟨25, [], true, true, []⟩], imm := false, old := false }
theorem aA (O : Alg) (x : Ags O) : XF (O := O) Tryz.prog Vp true true [] 8 [] (xr x Qu 0) = JP O x := by kernel_rfl
theorem cU : Vd Tryz.prog 8 HQ := fun N h =>
 CF mix (E := B4 N) (N := N) (cfg := Vp) (ci := ⟨8, [], true, true, []⟩) (ks := Qu) (Ap (Wc N (fun _ => rfl)) (Ap (VU N (fun _ => rfl)) (Ap (fT N (fun _ => rfl)) (Ap (cf N (fun _ => rfl)) (Ap (eI N (fun _ => rfl)) ED))))) (c := HQ N) (F := fun ls => JP (std (B4 N) N) (xOf ls)) (fun ls => rfl) (fun ls => aA (std (B4 N) N) (xOf ls)) h
def ZT : Cfg := { gam := [], imm := false, old := false }
theorem dq (O : Alg) (x : Ags O) : XF (O := O) Tryz.prog ZT false false [] 14 [] (xr x Uj 0) = NO O x := by kernel_rfl
theorem fD {E : Env} {M : Nat} (N : Nat) (h : ∀ ls, E 14 [] ls = M9 N ls) : VV Tryz.prog E M ⟨14, [], false, false, []⟩ :=
 CF mix (E := JT N) (N := N) (cfg := ZT) (ci := ⟨14, [], false, false, []⟩) (ks := Uj) ED (c := M9 N) (F := fun ls => NO (std (JT N) N) (xOf ls)) (fun ls => rfl) (fun ls => dq (std (JT N) N) (xOf ls)) h
theorem Ta {E : Env} {M : Nat} (N : Nat) (h : ∀ ls, E 37 [] ls = Er N ls) : VV Tryz.prog E M ⟨37, [], true, true, [true, false, false, false, false, false, false, false, false]⟩ :=
 cQ Tryz.lays4 rfl rfl (by kernel_rfl) Tryz.func37 (T := 25) (I := 3) rfl rfl Tryz.underlying25 Tryz.underlying3 (by kernel_rfl) h
def Kh : Cfg := { gam := [⟨37, [], true, true, [true, false, false, false, false, false, false, false, false]⟩], imm := false, old := false }
theorem Q3 (O : Alg) (x : Ags O) : XF (O := O) Tryz.prog Kh true true [] 17 [] (xr x GE 0) = CW O x := by kernel_rfl
theorem KZ : Vd Tryz.prog 17 As := fun N h =>
 CF mix (E := BZ N) (N := N) (cfg := Kh) (ci := ⟨17, [], true, true, []⟩) (ks := GE) (Ap (Ta N (fun _ => rfl)) ED) (c := As N) (F := fun ls => CW (std (BZ N) N) (xOf ls)) (fun ls => rfl) (fun ls => Q3 (std (BZ N) N) (xOf ls)) h
def Pj : Cfg := { gam := [⟨16, [], true, true, []⟩, ⟨17, [], true, true, []⟩, ⟨34, [], false, false, []⟩], imm := false, old := false }
theorem VS (O : Alg) (x : Ags O) : XF (O := O) Tryz.prog Pj false false [] 15 [] (xr x KK 0) = ER O x := by kernel_rfl
theorem WW {E : Env} {M : Nat} (N : Nat) (h : ∀ ls, E 15 [] ls = EZ N ls) : VV Tryz.prog E M ⟨15, [], false, false, []⟩ :=
 CF mix (E := BW N) (N := N) (cfg := Pj) (ci := ⟨15, [], false, false, []⟩) (ks := KK) (Ap (Mu N (fun _ => rfl)) (Ap (KZ N (fun _ => rfl)) (Ap (Ny N (fun _ => rfl)) ED))) (c := EZ N) (F := fun ls => ER (std (BW N) N) (xOf ls)) (fun ls => rfl) (fun ls => VS (std (BW N) N) (xOf ls)) h
def LP : Cfg := { gam := [⟨8, [], true, true, []⟩, ⟨14, [], false, false, []⟩, ⟨15, [], false, false, []⟩, ⟨16, [], true, true, []⟩, ⟨17, [], true, true, []⟩], imm := false, old := false }
theorem Ri (O : Alg) (x : Ags O) : XF (O := O) Tryz.prog LP true true [] 5 [] (xr x Gf 0) = Cl O x := by kernel_rfl
theorem Sk : Vd Tryz.prog 5 Cf := fun N h =>
 CF mix (E := Al N) (N := N) (cfg := LP) (ci := ⟨5, [], true, true, []⟩) (ks := Gf) (Ap (cU N (fun _ => rfl)) (Ap (fD N (fun _ => rfl)) (Ap (WW N (fun _ => rfl)) (Ap (Mu N (fun _ => rfl)) (Ap (KZ N (fun _ => rfl)) ED))))) (c := Cf N) (F := fun ls => Cl (std (Al N) N) (xOf ls)) (fun ls => rfl) (fun ls => Ri (std (Al N) N) (xOf ls)) h
end Go.Px
