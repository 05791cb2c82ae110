/- Part 13. -/
import Derived.Test.YtapipgdcgmmkaaaGreatPart06
import Derived.Test.YtapipgdcgmmkaaaGreatProg
import Derived.Test.YtapipgdcgmmkaaaGreatPart08
import Derived.KernelRfl
import Derived.WalkKit
import Derived.Lib.Walk
import Derived.BigCall
import Derived.BigGuard
set_option linter.unusedVariables false
set_option linter.unusedSimpArgs false
namespace Go.Px
open Go.Proofs
set_option maxRecDepth 100000
theorem mix : Tryz.prog.follows .mixedOrders = true := by kernel_rfl
theorem Zf : Vd Tryz.prog 31 I2 := vt mix UJ L1 [] g0 rfl (fun _ _ => rfl) fun O x => by kernel_rfl
theorem PO : Vd Tryz.prog 47 CC := vt mix PX PP [] g0 rfl (fun _ _ => rfl) fun O x => by kernel_rfl
theorem VH : Vd Tryz.prog 32 FJ := vt mix Pd Hb [(47, CC)] (gs PO g0) rfl (fun _ _ => rfl) fun O x => by kernel_rfl
theorem WD : Vd Tryz.prog 33 F1 := vt mix P9 IG [(47, CC)] (gs PO g0) rfl (fun _ _ => rfl) fun O x => by kernel_rfl
theorem B4 : Vd Tryz.prog 17 AK := vt mix RT JJ [(31, I2), (32, FJ), (33, F1)] (gs Zf (gs VH (gs WD g0))) rfl (fun _ _ => rfl) fun O x => by kernel_rfl
theorem NA : Vd Tryz.prog 19 Bp := vt mix NG Fg [(17, AK)] (gs B4 g0) rfl (fun _ _ => rfl) fun O x => by kernel_rfl
theorem Qp : Vd Tryz.prog 81 Cc := fun N h =>
 L5 mix (T := 22) (e := 88) (b := 24) Tryz.func81 Tryz.underlying22 (by kernel_rfl) (by decide) (fun O l => by kernel_rfl) (fun O l => by kernel_rfl) h
theorem Rh : Vd Tryz.prog 59 Cm := vt mix Rp JX [(81, Cc)] (gs Qp g0) rfl (fun _ _ => rfl) fun O x => by kernel_rfl
theorem Zq : Vd Tryz.prog 42 Iq := vt mix T1 Lq [(17, AK), (59, Cm)] (gs B4 (gs Rh g0)) rfl (fun _ _ => rfl) fun O x => by kernel_rfl
theorem VN : Vd Tryz.prog 29 E9 := vt mix PF HQ [(42, Iq)] (gs Zq g0) rfl (fun _ _ => rfl) fun O x => by kernel_rfl
theorem DZ : Vd Tryz.prog 48 AX := vt mix M0 M8 [] g0 rfl (fun _ _ => rfl) fun O x => by kernel_rfl
theorem Tk : Vd Tryz.prog 49 Db := vt mix M9 FZ [(48, AX)] (gs DZ g0) rfl (fun _ _ => rfl) fun O x => by kernel_rfl
theorem Sv : Vd Tryz.prog 93 DG := vt mix MD E4 [] g0 rfl (fun _ _ => rfl) fun O x => by kernel_rfl
theorem Fw : Vd Tryz.prog 70 Ag := vt mix Jy DK [(93, DG)] (gs Sv g0) rfl (fun _ _ => rfl) fun O x => by kernel_rfl
theorem R1 : Vd Tryz.prog 50 Cv := vt mix K9 EV [(48, AX), (70, Ag)] (gs DZ (gs Fw g0)) rfl (fun _ _ => rfl) fun O x => by kernel_rfl
theorem Ry : Vd Tryz.prog 72 Cu := vt mix LD EP [(48, AX)] (gs DZ g0) rfl (fun _ _ => rfl) fun O x => by kernel_rfl
theorem TW : Vd Tryz.prog 51 Df := vt mix ND Fj [(72, Cu)] (gs Ry g0) rfl (fun _ _ => rfl) fun O x => by kernel_rfl
theorem KL : Vd Tryz.prog 34 A9 := vt mix PH Hd [(17, AK), (48, AX), (49, Db), (50, Cv), (51, Df)] (gs B4 (gs DZ (gs Tk (gs R1 (gs TW g0))))) rfl (fun _ _ => rfl) fun O x => by kernel_rfl
theorem JW : Vd Tryz.prog 52 A6 := vt mix Rq JV [] g0 rfl (fun _ _ => rfl) fun O x => by kernel_rfl
theorem RP : Vd Tryz.prog 35 Cl := vt mix Rr JR [(52, A6)] (gs JW g0) rfl (fun _ _ => rfl) fun O x => by kernel_rfl
theorem Xh : Vd Tryz.prog 36 Gi := vt mix Rj JT [] g0 rfl (fun _ _ => rfl) fun O x => by kernel_rfl
theorem Mv : Vd Tryz.prog 18 B5 := vt mix Rl JD [(17, AK), (34, A9), (35, Cl), (36, Gi)] (gs B4 (gs KL (gs RP (gs Xh g0)))) rfl (fun _ _ => rfl) fun O x => by kernel_rfl
theorem WR : Vd Tryz.prog 60 Fv := vt mix P6 H8 [] g0 rfl (fun _ _ => rfl) fun O x => by kernel_rfl
theorem VT : Vd Tryz.prog 61 Ez := vt mix Oz KZ [] g0 rfl (fun _ _ => rfl) fun O x => by kernel_rfl
open Go.RowKit Go.Lib in
set_option maxHeartbeats 1000000 in
theorem Nn (s : ByteArray) (c : Int) (w : World) : Calls Tryz.prog 108 #[.string s, .int .u8 c] w fun e w' => e = .returned (.int .i64 (Lib.indexByte s.data.toList c.toNat.toUInt8)) ∧ w' = w := by
 go_enter Tryz.func108, Tryz.ntmps108
 go_wp2
 rw [run_callFunc_extern Tryz.func120 (by kernel_rfl) (by kernel_rfl) (by kernel_rfl) (e := Extern.BytealgIndexByte.indexByte) (by kernel_rfl), Lib.run_indexByteString]
 simp only [Result.andThen]
 rw [Oper.upon_value]
 go_wp2
 go_ret
 exact ⟨rfl, rfl⟩
theorem Om : Vd Tryz.prog 108 B9 := fun N h =>
 Zt Tryz.func108 (T9 := 9) (T5 := 5) (T3 := 3) rfl rfl Tryz.underlying9 Tryz.underlying5 Tryz.underlying3 (by kernel_rfl) Nn h
theorem Ru : Vd Tryz.prog 82 Cs := vt mix K8 ER [(108, B9)] (gs Om g0) rfl (fun _ _ => rfl) fun O x => by kernel_rfl
theorem Xd : Vd Tryz.prog 83 Ee := vt mix Rg Rk [] g0 rfl (fun _ _ => rfl) fun O x => by kernel_rfl
theorem YE : Vd Tryz.prog 62 Hr := vt mix SW KY [(82, Cs), (83, Ee)] (gs Ru (gs Xd g0)) rfl (fun _ _ => rfl) fun O x => by kernel_rfl
theorem S4 : Vd Tryz.prog 84 C9 := vt mix MN Ho [] g0 rfl (fun _ _ => rfl) fun O x => by kernel_rfl
theorem Uz : Vd Tryz.prog 63 EH := vt mix OG GT [(84, C9)] (gs S4 g0) rfl (fun _ _ => rfl) fun O x => by kernel_rfl
theorem Rs : Vd Tryz.prog 43 Cj := vt mix RW G1 [(60, Fv), (61, Ez), (62, Hr), (63, EH)] (gs WR (gs VT (gs YE (gs Uz g0)))) rfl (fun _ _ => rfl) fun O x => by kernel_rfl
theorem DI : Vd Tryz.prog 85 AM := fun N h =>
 L5 mix (T := 65) (e := 103) (b := 1) Tryz.func85 Tryz.underlying65 (by kernel_rfl) (by decide) (fun O l => by kernel_rfl) (fun O l => by kernel_rfl) h
theorem FN : Vd Tryz.prog 86 AU := fun N h =>
 L5 mix (T := 66) (e := 3) (b := 8) Tryz.func86 Tryz.underlying66 (by kernel_rfl) (by decide) (fun O l => by kernel_rfl) (fun O l => by kernel_rfl) h
theorem EO : Vd Tryz.prog 87 AQ := fun N h =>
 L5 mix (T := 67) (e := 4) (b := 1) Tryz.func87 Tryz.underlying67 (by kernel_rfl) (by decide) (fun O l => by kernel_rfl) (fun O l => by kernel_rfl) h
theorem CB : Vd Tryz.prog 64 AL := vt mix Ou HV [(85, AM), (86, AU), (87, AQ)] (gs DI (gs FN (gs EO g0))) rfl (fun _ _ => rfl) fun O x => by kernel_rfl
theorem XN : Vd Tryz.prog 44 Gr := vt mix Rf JM [(59, Cm), (64, AL)] (gs Rh (gs CB g0)) rfl (fun _ _ => rfl) fun O x => by kernel_rfl
theorem Ml : Vd Tryz.prog 68 Bg := vt mix RU JL [] g0 rfl (fun _ _ => rfl) fun O x => by kernel_rfl
theorem MP : Vd Tryz.prog 91 BW := vt mix MX Em [] g0 rfl (fun _ _ => rfl) fun O x => by kernel_rfl
theorem U3 : Vd Tryz.prog 69 Eo := vt mix Pg Hc [(18, B5), (52, A6), (68, Bg), (91, BW)] (gs Mv (gs JW (gs Ml (gs MP g0)))) rfl (fun _ _ => rfl) fun O x => by kernel_rfl
theorem V0 : Vd Tryz.prog 88 E3 := vt mix PI HO [(17, AK), (48, AX)] (gs B4 (gs DZ g0)) rfl (fun _ _ => rfl) fun O x => by kernel_rfl
theorem WH : Vd Tryz.prog 89 Fr := vt mix QL IW [(52, A6), (68, Bg)] (gs JW (gs Ml g0)) rfl (fun _ _ => rfl) fun O x => by kernel_rfl
theorem Tb : Vd Tryz.prog 122 Dd := vt mix NK Ii [] g0 rfl (fun _ _ => rfl) fun O x => by kernel_rfl
theorem Vc : Vd Tryz.prog 109 FO := vt mix O1 He [(122, Dd)] (gs Tb g0) rfl (fun _ _ => rfl) fun O x => by kernel_rfl
theorem Fx : Vd Tryz.prog 142 Al := vt mix Sp KJ [(85, AM), (86, AU), (87, AQ)] (gs DI (gs FN (gs EO g0))) rfl (fun _ _ => rfl) fun O x => by kernel_rfl
theorem Ux : Vd Tryz.prog 173 CQ := vt mix Oj Jj [] g0 rfl (fun _ _ => rfl) fun O x => by kernel_rfl
theorem QC : Vd Tryz.prog 143 Bj := vt mix QK Dy [(173, CQ)] (gs Ux g0) rfl (fun _ _ => rfl) fun O x => by kernel_rfl
theorem F7 : Vd Tryz.prog 144 Aj := vt mix QG Id [] g0 rfl (fun _ _ => rfl) fun O x => by kernel_rfl
theorem Xg : Vd Tryz.prog 123 Gg := vt mix RX JN [(142, Al), (143, Bj), (144, Aj)] (gs Fx (gs QC (gs F7 g0))) rfl (fun _ _ => rfl) fun O x => by kernel_rfl
theorem Pm : Vd Tryz.prog 145 CE := vt mix Tq L0 [(85, AM), (86, AU), (87, AQ)] (gs DI (gs FN (gs EO g0))) rfl (fun _ _ => rfl) fun O x => by kernel_rfl
theorem Mm : Vd Tryz.prog 174 Bh := vt mix Ro JP [] g0 rfl (fun _ _ => rfl) fun O x => by kernel_rfl
theorem YY : Vd Tryz.prog 175 H6 := vt mix S6 KO [(17, AK), (174, Bh)] (gs B4 (gs Mm g0)) rfl (fun _ _ => rfl) fun O x => by kernel_rfl
theorem Zs : Vd Tryz.prog 146 I0 := vt mix UB Lw [(17, AK), (70, Ag), (174, Bh), (175, H6)] (gs B4 (gs Fw (gs Mm (gs YY g0)))) rfl (fun _ _ => rfl) fun O x => by kernel_rfl
theorem YK : Vd Tryz.prog 124 Hn := vt mix Sz Kg [(145, CE), (146, I0)] (gs Pm (gs Zs g0)) rfl (fun _ _ => rfl) fun O x => by kernel_rfl
theorem KG : Vd Tryz.prog 137 A7 := vt mix O9 DT [(143, Bj)] (gs QC g0) rfl (fun _ _ => rfl) fun O x => by kernel_rfl
theorem Gj : Vd Tryz.prog 156 As := vt mix Rd JF [] g0 rfl (fun _ _ => rfl) fun O x => by kernel_rfl
theorem GR : Vd Tryz.prog 157 Aq := vt mix Ok GS [(156, As)] (gs Gj g0) rfl (fun _ _ => rfl) fun O x => by kernel_rfl
theorem VQ : Vd Tryz.prog 196 FB := vt mix O7 HT [] g0 rfl (fun _ _ => rfl) fun O x => by kernel_rfl
theorem XQ : Vd Tryz.prog 176 Gw := vt mix RY JI [(156, As), (157, Aq), (196, FB)] (gs Gj (gs GR (gs VQ g0))) rfl (fun _ _ => rfl) fun O x => by kernel_rfl
theorem Rv : Vd Tryz.prog 197 Ct := vt mix LA ET [] g0 rfl (fun _ _ => rfl) fun O x => by kernel_rfl
theorem N0 : Vd Tryz.prog 177 Bz := vt mix Ny Gb [(197, Ct)] (gs Rv g0) rfl (fun _ _ => rfl) fun O x => by kernel_rfl
theorem Mz : Vd Tryz.prog 213 BS := vt mix NE NI [] g0 rfl (fun _ _ => rfl) fun O x => by kernel_rfl
theorem Wg : Vd Tryz.prog 198 F2 := vt mix Qc Ic [(213, BS)] (gs Mz g0) rfl (fun _ _ => rfl) fun O x => by kernel_rfl
theorem Sa : Vd Tryz.prog 214 DA := vt mix MG Ey [] g0 rfl (fun _ _ => rfl) fun O x => by kernel_rfl
theorem QH : Vd Tryz.prog 199 CT := vt mix Jq DU [(214, DA)] (gs Sa g0) rfl (fun _ _ => rfl) fun O x => by kernel_rfl
theorem Sf : Vd Tryz.prog 215 DB := vt mix L8 Ek [] g0 rfl (fun _ _ => rfl) fun O x => by kernel_rfl
theorem UR : Vd Tryz.prog 200 D0 := vt mix OK Ge [(213, BS), (215, DB)] (gs Mz (gs Sf g0)) rfl (fun _ _ => rfl) fun O x => by kernel_rfl
theorem Py : Vd Tryz.prog 216 CK := vt mix I9 C3 [] g0 rfl (fun _ _ => rfl) fun O x => by kernel_rfl
theorem RE : Vd Tryz.prog 201 Cf := vt mix KI Ds [(216, CK)] (gs Py g0) rfl (fun _ _ => rfl) fun O x => by kernel_rfl
theorem Qk : Vd Tryz.prog 178 Cg := vt mix KU Dr [(198, F2), (199, CT), (200, D0), (201, Cf)] (gs Wg (gs QH (gs UR (gs RE g0)))) rfl (fun _ _ => rfl) fun O x => by kernel_rfl
theorem XT : Vd Tryz.prog 179 G0 := vt mix RS JG [(156, As), (157, Aq)] (gs Gj (gs GR g0)) rfl (fun _ _ => rfl) fun O x => by kernel_rfl
theorem TY : Vd Tryz.prog 147 Dm := vt mix M4 Fk [(137, A7), (176, Gw), (177, Bz), (178, Cg), (179, G0)] (gs KG (gs XQ (gs N0 (gs Qk (gs XT g0))))) rfl (fun _ _ => rfl) fun O x => by kernel_rfl
theorem R0 : Vd Tryz.prog 180 Cw := vt mix LC EU [] g0 rfl (fun _ _ => rfl) fun O x => by kernel_rfl
theorem Tc : Vd Tryz.prog 148 Dl := vt mix M7 Fi [(177, Bz), (180, Cw)] (gs N0 (gs R0 g0)) rfl (fun _ _ => rfl) fun O x => by kernel_rfl
theorem YA : Vd Tryz.prog 149 H2 := vt mix SC KR [(142, Al), (144, Aj)] (gs Fx (gs F7 g0)) rfl (fun _ _ => rfl) fun O x => by kernel_rfl
theorem UO : Vd Tryz.prog 150 EC := vt mix Nv OB [] g0 rfl (fun _ _ => rfl) fun O x => by kernel_rfl
theorem ZP : Vd Tryz.prog 151 Hy := vt mix SY Km [(17, AK), (70, Ag), (145, CE), (174, Bh)] (gs B4 (gs Fw (gs Pm (gs Mm g0)))) rfl (fun _ _ => rfl) fun O x => by kernel_rfl
theorem Vz : Vd Tryz.prog 152 FE := vt mix Pb HX [(142, Al)] (gs Fx g0) rfl (fun _ _ => rfl) fun O x => by kernel_rfl
theorem We : Vd Tryz.prog 125 F3 := vt mix QJ IZ [(64, AL), (147, Dm), (148, Dl), (149, H2), (150, EC), (151, Hy), (152, FE)] (gs CB (gs TY (gs Tc (gs YA (gs UO (gs ZP (gs Vz g0))))))) rfl (fun _ _ => rfl) fun O x => by kernel_rfl
theorem Su : Vd Tryz.prog 153 C8 := vt mix SR Ko [(137, A7), (144, Aj)] (gs KG (gs F7 g0)) rfl (fun _ _ => rfl) fun O x => by kernel_rfl
theorem UK : Vd Tryz.prog 126 D3 := vt mix OA GY [(142, Al), (144, Aj), (153, C8)] (gs Fx (gs F7 (gs Su g0))) rfl (fun _ _ => rfl) fun O x => by kernel_rfl
theorem WP : Vd Tryz.prog 127 GF := vt mix Qf Ia [(142, Al), (153, C8)] (gs Fx (gs Su g0)) rfl (fun _ _ => rfl) fun O x => by kernel_rfl
theorem RO : Vd Tryz.prog 138 CO := vt mix Re Ed [] g0 rfl (fun _ _ => rfl) fun O x => by kernel_rfl
theorem U6 : Vd Tryz.prog 128 FC := vt mix PA Ha [(138, CO), (142, Al), (144, Aj)] (gs RO (gs Fx (gs F7 g0))) rfl (fun _ _ => rfl) fun O x => by kernel_rfl
theorem P3 : Vd Tryz.prog 155 CL := vt mix T4 Lx [(85, AM), (86, AU), (87, AQ)] (gs DI (gs FN (gs EO g0))) rfl (fun _ _ => rfl) fun O x => by kernel_rfl
theorem U9 : Vd Tryz.prog 129 FM := vt mix Pf HR [(155, CL)] (gs P3 g0) rfl (fun _ _ => rfl) fun O x => by kernel_rfl
theorem Wc : Vd Tryz.prog 130 F0 := vt mix QS IC [(155, CL), (156, As), (157, Aq)] (gs P3 (gs Gj (gs GR g0))) rfl (fun _ _ => rfl) fun O x => by kernel_rfl
theorem S7 : Vd Tryz.prog 131 DF := vt mix MJ FG [(155, CL), (156, As), (157, Aq)] (gs P3 (gs Gj (gs GR g0))) rfl (fun _ _ => rfl) fun O x => by kernel_rfl
theorem Vq : Vd Tryz.prog 132 FD := vt mix O4 HU [(17, AK), (145, CE)] (gs B4 (gs Pm g0)) rfl (fun _ _ => rfl) fun O x => by kernel_rfl
theorem Te : Vd Tryz.prog 133 Da := vt mix M6 Fh [(64, AL)] (gs CB g0) rfl (fun _ _ => rfl) fun O x => by kernel_rfl
theorem NJ : Vd Tryz.prog 112 Bq := vt mix NL Fd [(64, AL)] (gs CB g0) rfl (fun _ _ => rfl) fun O x => by kernel_rfl
theorem Tg : Vd Tryz.prog 134 Dg := vt mix NF Fa [(64, AL), (112, Bq)] (gs CB (gs NJ g0)) rfl (fun _ _ => rfl) fun O x => by kernel_rfl
theorem UP : Vd Tryz.prog 135 Dz := vt mix Of EF [(64, AL)] (gs CB g0) rfl (fun _ _ => rfl) fun O x => by kernel_rfl
theorem VZ : Vd Tryz.prog 158 Ep := vt mix PD PT [] g0 rfl (fun _ _ => rfl) fun O x => by kernel_rfl
theorem UW : Vd Tryz.prog 136 D4 := vt mix N4 GX [(64, AL), (158, Ep)] (gs CB (gs VZ g0)) rfl (fun _ _ => rfl) fun O x => by kernel_rfl
theorem Ta : Vd Tryz.prog 110 Dk := vt mix M2 De [(123, Gg), (124, Hn), (125, F3), (126, D3), (127, GF), (128, FC), (129, FM), (130, F0), (131, DF), (132, FD), (133, Da), (134, Dg), (135, Dz), (136, D4)] (gs Xg (gs YK (gs We (gs UK (gs WP (gs U6 (gs U9 (gs Wc (gs S7 (gs Vq (gs Te (gs Tg (gs UP (gs UW g0)))))))))))))) rfl (fun _ _ => rfl) fun O x => by kernel_rfl
theorem U0 : Vd Tryz.prog 111 Cy := vt mix Nx Gc [(34, A9), (137, A7), (138, CO)] (gs KL (gs KG (gs RO g0))) rfl (fun _ _ => rfl) fun O x => by kernel_rfl
theorem WY : Vd Tryz.prog 90 GC := vt mix QZ IK [(34, A9), (43, Cj), (64, AL), (109, FO), (110, Dk), (111, Cy)] (gs KL (gs Rs (gs CB (gs Vc (gs Ta (gs U0 g0)))))) rfl (fun _ _ => rfl) fun O x => by kernel_rfl
theorem YC : Vd Tryz.prog 30 Hg := vt mix SE Kj [(18, B5), (35, Cl), (43, Cj), (44, Gr), (52, A6), (68, Bg), (69, Eo), (88, E3), (89, Fr), (90, GC), (91, BW), (112, Bq)] (gs Mv (gs RP (gs Rs (gs XN (gs JW (gs Ml (gs U3 (gs V0 (gs WH (gs WY (gs MP (gs NJ g0)))))))))))) rfl (fun _ _ => rfl) fun O x => by kernel_rfl
theorem MA : Vd Tryz.prog 16 B0 := vt mix MU Ew [(19, Bp), (29, E9), (30, Hg)] (gs NA (gs VN (gs YC g0))) rfl (fun _ _ => rfl) fun O x => by kernel_rfl
theorem MK : Vd Tryz.prog 12 CY := vt mix ME FL [(16, B0), (19, Bp)] (gs MA (gs NA g0)) rfl (fun _ _ => rfl) fun O x => by kernel_rfl
theorem bA : Vd Tryz.prog 14 RG := vt mix VX VB [] g0 rfl (fun _ _ => rfl) fun O x => by kernel_rfl
theorem cM : Vd Tryz.prog 15 Sg := vt mix Wq XC [] g0 rfl (fun _ _ => rfl) fun O x => by kernel_rfl
theorem Zx : Vd Tryz.prog 9 I7 := vt mix T7 UC [(12, CY), (14, RG), (15, Sg)] (gs MK (gs bA (gs cM g0))) rfl (fun _ _ => rfl) fun O x => by kernel_rfl
def Ri : Cfg := { gam := [], imm := false, old := false }
theorem WS (O : Alg) (x : Ags O) : XF (O := O) Tryz.prog Ri false false [] 10 [] (xr x Mo 0) = Gy O x := by kernel_rfl
theorem XO {E : Env} {M : Nat} (N : Nat) (h : ∀ ls, E 10 [] ls = Gt N ls) : VV Tryz.prog E M ⟨10, [], false, false, []⟩ :=
 SK mix (E := E5 N) (N := N) (cfg := Ri) (ci := ⟨10, [], false, false, []⟩) (ks := Mo) Z6 (c := Gt N) (F := fun ls => Gy (std (E5 N) N) (xOf ls)) (fun ls => rfl) (fun ls => WS (std (E5 N) N) (xOf ls)) h
def Jr : Cfg := { gam := [⟨9, [], true, true, []⟩, ⟨10, [], false, false, []⟩, ⟨12, [], true, true, []⟩, ⟨16, [], true, true, []⟩, ⟨17, [], true, true, []⟩, ⟨18, [], true, true, []⟩], imm := false, old := false }
theorem Pq (O : Alg) (x : Ags O) : XF (O := O) Tryz.prog Jr true true [] 5 [] (xr x Ft 0) = CZ O x := by kernel_rfl
theorem QV : Vd Tryz.prog 5 CU := fun N h =>
 SK mix (E := Af N) (N := N) (cfg := Jr) (ci := ⟨5, [], true, true, []⟩) (ks := Ft) (Ln (Zx N (fun _ => rfl)) (Ln (XO N (fun _ => rfl)) (Ln (MK N (fun _ => rfl)) (Ln (MA N (fun _ => rfl)) (Ln (B4 N (fun _ => rfl)) (Ln (Mv N (fun _ => rfl)) Z6)))))) (c := CU N) (F := fun ls => CZ (std (Af N) N) (xOf ls)) (fun ls => rfl) (fun ls => Pq (std (Af N) N) (xOf ls)) h
end Go.Px
