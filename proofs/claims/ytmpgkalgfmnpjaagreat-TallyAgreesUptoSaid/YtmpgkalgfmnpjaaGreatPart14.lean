/- Part 14. -/
import Derived.Test.YtmpgkalgfmnpjaaGreatPart07
import Derived.Test.YtmpgkalgfmnpjaaGreatProg
import Derived.Test.YtmpgkalgfmnpjaaGreatPart08
import Derived.KernelRfl
import Derived.WalkKit
import Derived.Lib.Walk
import Derived.BigCall
import Derived.BigGuard
set_option linter.unusedVariables false
set_option linter.unusedSimpArgs false
namespace Go.Px
open Go.Proofs
set_option maxRecDepth 100000
theorem mix : Tryz.prog.follows .mixedOrders = true := by kernel_rfl
theorem UM : Vd Tryz.prog 11 DC := vt mix MO Et [] g0 rfl (fun _ _ => rfl) fun O x => by kernel_rfl
theorem JD : Vd Tryz.prog 12 A8 := vt mix SH JC [] g0 rfl (fun _ _ => rfl) fun O x => by kernel_rfl
theorem aP : Vd Tryz.prog 27 HM := vt mix Ty KI [] g0 rfl (fun _ _ => rfl) fun O x => by kernel_rfl
theorem aW : Vd Tryz.prog 15 HE := vt mix T8 KO [(12, A8), (27, HM)] (gs JD (gs aP g0)) rfl (fun _ _ => rfl) fun O x => by kernel_rfl
theorem eK : Vd Tryz.prog 51 Jq := vt mix Wm NJ [] g0 rfl (fun _ _ => rfl) fun O x => by kernel_rfl
theorem Qf : Vd Tryz.prog 65 CM := vt mix Qj Q6 [] g0 rfl (fun _ _ => rfl) fun O x => by kernel_rfl
theorem X4 : Vd Tryz.prog 52 FD := vt mix Q8 H2 [(65, CM)] (gs Qf g0) rfl (fun _ _ => rfl) fun O x => by kernel_rfl
theorem ZL : Vd Tryz.prog 53 GZ := vt mix SG It [(65, CM)] (gs Qf g0) rfl (fun _ _ => rfl) fun O x => by kernel_rfl
theorem Cc : Vd Tryz.prog 39 AN := vt mix Te J9 [(51, Jq), (52, FD), (53, GZ)] (gs eK (gs X4 (gs ZL g0))) rfl (fun _ _ => rfl) fun O x => by kernel_rfl
theorem Sq : Vd Tryz.prog 70 Cv := fun N h =>
 NR mix (T := 33) (e := 107) (b := 24) Tryz.func70 Tryz.underlying33 (by kernel_rfl) (by decide) (fun O l => by kernel_rfl) (fun O l => by kernel_rfl) h
theorem Tf : Vd Tryz.prog 63 C0 := vt mix T4 J4 [(70, Cv)] (gs Sq g0) rfl (fun _ _ => rfl) fun O x => by kernel_rfl
theorem eD : Vd Tryz.prog 48 NT := vt mix WV NW [(39, AN), (63, C0)] (gs Cc (gs Tf g0)) rfl (fun _ _ => rfl) fun O x => by kernel_rfl
theorem Dt : Vd Tryz.prog 107 Af := vt mix OZ OX [] g0 rfl (fun _ _ => rfl) fun O x => by kernel_rfl
theorem V7 : Vd Tryz.prog 108 Dx := vt mix Oa Fw [(107, Af)] (gs Dt g0) rfl (fun _ _ => rfl) fun O x => by kernel_rfl
theorem Uz : Vd Tryz.prog 144 DS := vt mix Ne FE [] g0 rfl (fun _ _ => rfl) fun O x => by kernel_rfl
theorem GP : Vd Tryz.prog 130 Aj := vt mix Kv Df [(144, DS)] (gs Uz g0) rfl (fun _ _ => rfl) fun O x => by kernel_rfl
theorem UJ : Vd Tryz.prog 109 DD := vt mix MT En [(107, Af), (130, Aj)] (gs Dt (gs GP g0)) rfl (fun _ _ => rfl) fun O x => by kernel_rfl
theorem UF : Vd Tryz.prog 132 DE := vt mix MP Er [(107, Af)] (gs Dt g0) rfl (fun _ _ => rfl) fun O x => by kernel_rfl
theorem Vx : Vd Tryz.prog 110 D6 := vt mix Oh F2 [(132, DE)] (gs UF g0) rfl (fun _ _ => rfl) fun O x => by kernel_rfl
theorem LC : Vd Tryz.prog 82 BM := vt mix Qp Hx [(39, AN), (107, Af), (108, Dx), (109, DD), (110, D6)] (gs Cc (gs Dt (gs V7 (gs UJ (gs Vx g0))))) rfl (fun _ _ => rfl) fun O x => by kernel_rfl
theorem KB : Vd Tryz.prog 90 BJ := vt mix Tw KF [] g0 rfl (fun _ _ => rfl) fun O x => by kernel_rfl
theorem T7 : Vd Tryz.prog 83 C2 := vt mix Ta J7 [(90, BJ)] (gs KB g0) rfl (fun _ _ => rfl) fun O x => by kernel_rfl
theorem aJ : Vd Tryz.prog 84 HO := vt mix To KP [] g0 rfl (fun _ _ => rfl) fun O x => by kernel_rfl
theorem Tc : Vd Tryz.prog 71 C3 := vt mix Tk KJ [(39, AN), (82, BM), (83, C2), (84, HO)] (gs Cc (gs LC (gs T7 (gs aJ g0)))) rfl (fun _ _ => rfl) fun O x => by kernel_rfl
theorem ZK : Vd Tryz.prog 85 GL := vt mix SZ I6 [] g0 rfl (fun _ _ => rfl) fun O x => by kernel_rfl
theorem Xj : Vd Tryz.prog 86 FJ := vt mix Qm LO [] g0 rfl (fun _ _ => rfl) fun O x => by kernel_rfl
open Go.RowKit Go.Lib in
set_option maxHeartbeats 1000000 in
theorem O3 (s : ByteArray) (c : Int) (w : World) : Calls Tryz.prog 133 #[.string s, .int .u8 c] w fun e w' => e = .returned (.int .i64 (Lib.indexByte s.data.toList c.toNat.toUInt8)) ∧ w' = w := by
 go_enter Tryz.func133, Tryz.ntmps133
 go_wp2
 rw [run_callFunc_extern Tryz.func146 (by kernel_rfl) (by kernel_rfl) (by kernel_rfl) (e := Extern.BytealgIndexByte.indexByte) (by kernel_rfl), Lib.run_indexByteString]
 simp only [Result.andThen]
 rw [Oper.upon_value]
 go_wp2
 go_ret
 exact ⟨rfl, rfl⟩
theorem QY : Vd Tryz.prog 133 CH := fun N h =>
 eM Tryz.func133 (T9 := 9) (T5 := 5) (T3 := 3) rfl rfl Tryz.underlying9 Tryz.underlying5 Tryz.underlying3 (by kernel_rfl) O3 h
theorem UL : Vd Tryz.prog 111 DB := vt mix MU Em [(133, CH)] (gs QY g0) rfl (fun _ _ => rfl) fun O x => by kernel_rfl
theorem aY : Vd Tryz.prog 112 FB := vt mix Tb Tz [] g0 rfl (fun _ _ => rfl) fun O x => by kernel_rfl
theorem dF : Vd Tryz.prog 87 IH := vt mix Um Lq [(111, DB), (112, FB)] (gs UL (gs aY g0)) rfl (fun _ _ => rfl) fun O x => by kernel_rfl
theorem UV : Vd Tryz.prog 113 DV := vt mix N4 Im [] g0 rfl (fun _ _ => rfl) fun O x => by kernel_rfl
theorem Xa : Vd Tryz.prog 88 Ec := vt mix QD Gz [(113, DV)] (gs UV g0) rfl (fun _ _ => rfl) fun O x => by kernel_rfl
theorem TX : Vd Tryz.prog 72 C1 := vt mix T6 HC [(85, GL), (86, FJ), (87, IH), (88, Ec)] (gs ZK (gs Xj (gs dF (gs Xa g0)))) rfl (fun _ _ => rfl) fun O x => by kernel_rfl
theorem Dg : Vd Tryz.prog 114 AO := fun N h =>
 NR mix (T := 64) (e := 144) (b := 1) Tryz.func114 Tryz.underlying64 (by kernel_rfl) (by decide) (fun O l => by kernel_rfl) (fun O l => by kernel_rfl) h
theorem Fg : Vd Tryz.prog 115 Ab := fun N h =>
 NR mix (T := 30) (e := 3) (b := 8) Tryz.func115 Tryz.underlying30 (by kernel_rfl) (by decide) (fun O l => by kernel_rfl) (fun O l => by kernel_rfl) h
theorem Ej : Vd Tryz.prog 116 AW := fun N h =>
 NR mix (T := 65) (e := 4) (b := 1) Tryz.func116 Tryz.underlying65 (by kernel_rfl) (by decide) (fun O l => by kernel_rfl) (fun O l => by kernel_rfl) h
theorem CN : Vd Tryz.prog 89 AM := vt mix RH IA [(114, AO), (115, Ab), (116, AW)] (gs Dg (gs Fg (gs Ej g0))) rfl (fun _ _ => rfl) fun O x => by kernel_rfl
theorem aL : Vd Tryz.prog 73 HT := vt mix Tx J3 [(63, C0), (89, AM)] (gs Tf (gs CN g0)) rfl (fun _ _ => rfl) fun O x => by kernel_rfl
theorem OW : Vd Tryz.prog 94 Bp := vt mix Tg KE [] g0 rfl (fun _ _ => rfl) fun O x => by kernel_rfl
theorem Nu : Vd Tryz.prog 120 Bg := vt mix Ni FR [] g0 rfl (fun _ _ => rfl) fun O x => by kernel_rfl
theorem YA : Vd Tryz.prog 95 Fb := vt mix Qo Ht [(71, C3), (90, BJ), (94, Bp), (120, Bg)] (gs Tc (gs KB (gs OW (gs Nu g0)))) rfl (fun _ _ => rfl) fun O x => by kernel_rfl
theorem Xc : Vd Tryz.prog 117 Fa := vt mix Qv Hr [(39, AN), (107, Af)] (gs Cc (gs Dt g0)) rfl (fun _ _ => rfl) fun O x => by kernel_rfl
theorem ZF : Vd Tryz.prog 118 Gh := vt mix SJ Ix [(90, BJ), (94, Bp)] (gs KB (gs OW g0)) rfl (fun _ _ => rfl) fun O x => by kernel_rfl
theorem WA : Vd Tryz.prog 148 D1 := vt mix Od JW [] g0 rfl (fun _ _ => rfl) fun O x => by kernel_rfl
theorem YP : Vd Tryz.prog 134 FZ := vt mix RS H9 [(148, D1)] (gs WA g0) rfl (fun _ _ => rfl) fun O x => by kernel_rfl
theorem GD : Vd Tryz.prog 180 Au := vt mix VQ MC [(114, AO), (115, Ab), (116, AW)] (gs Dg (gs Fg (gs Ej g0))) rfl (fun _ _ => rfl) fun O x => by kernel_rfl
theorem XV : Vd Tryz.prog 206 Cf := vt mix QQ KU [] g0 rfl (fun _ _ => rfl) fun O x => by kernel_rfl
theorem R7 : Vd Tryz.prog 181 Bs := vt mix Sf EO [(206, Cf)] (gs XV g0) rfl (fun _ _ => rfl) fun O x => by kernel_rfl
theorem F9 : Vd Tryz.prog 182 Av := vt mix Rz JA [] g0 rfl (fun _ _ => rfl) fun O x => by kernel_rfl
theorem aQ : Vd Tryz.prog 149 HV := vt mix TY KK [(180, Au), (181, Bs), (182, Av)] (gs GD (gs R7 (gs F9 g0))) rfl (fun _ _ => rfl) fun O x => by kernel_rfl
theorem Rr : Vd Tryz.prog 183 CT := vt mix WL NP [(114, AO), (115, Ab), (116, AW)] (gs Dg (gs Fg (gs Ej g0))) rfl (fun _ _ => rfl) fun O x => by kernel_rfl
theorem N9 : Vd Tryz.prog 207 Bq := vt mix TZ KH [] g0 rfl (fun _ _ => rfl) fun O x => by kernel_rfl
theorem cC : Vd Tryz.prog 208 IQ := vt mix UX Lt [(39, AN), (207, Bq)] (gs Cc (gs N9 g0)) rfl (fun _ _ => rfl) fun O x => by kernel_rfl
theorem ec : Vd Tryz.prog 184 Jy := vt mix Wf NQ [(39, AN), (130, Aj), (207, Bq), (208, IQ)] (gs Cc (gs GP (gs N9 (gs cC g0)))) rfl (fun _ _ => rfl) fun O x => by kernel_rfl
theorem cA : Vd Tryz.prog 150 IG := vt mix VW Ll [(183, CT), (184, Jy)] (gs Rr (gs ec g0)) rfl (fun _ _ => rfl) fun O x => by kernel_rfl
theorem UN : Vd Tryz.prog 55 DA := vt mix MV Ep [] g0 rfl (fun _ _ => rfl) fun O x => by kernel_rfl
theorem Pn : Vd Tryz.prog 42 B9 := vt mix QS G5 [(55, DA)] (gs UN g0) rfl (fun _ _ => rfl) fun O x => by kernel_rfl
theorem UK : Vd Tryz.prog 43 C8 := vt mix MQ Ek [] g0 rfl (fun _ _ => rfl) fun O x => by kernel_rfl
theorem Fy : Vd Tryz.prog 30 As := vt mix Og F3 [(42, B9), (43, C8)] (gs Pn (gs UK g0)) rfl (fun _ _ => rfl) fun O x => by kernel_rfl
theorem Pd : Vd Tryz.prog 31 CC := vt mix QL QG [] g0 rfl (fun _ _ => rfl) fun O x => by kernel_rfl
theorem Ls : Vd Tryz.prog 163 BL := vt mix Q7 Dk [(181, Bs)] (gs R7 g0) rfl (fun _ _ => rfl) fun O x => by kernel_rfl
theorem HH : Vd Tryz.prog 192 Ay := vt mix Ti J5 [] g0 rfl (fun _ _ => rfl) fun O x => by kernel_rfl
theorem Gt : Vd Tryz.prog 193 Ax := vt mix PZ G8 [(192, Ay)] (gs HH g0) rfl (fun _ _ => rfl) fun O x => by kernel_rfl
theorem YE : Vd Tryz.prog 219 FP := vt mix Q4 H6 [] g0 rfl (fun _ _ => rfl) fun O x => by kernel_rfl
theorem aZ : Vd Tryz.prog 209 HF := vt mix Tp J6 [(192, Ay), (193, Ax), (219, FP)] (gs HH (gs Gt (gs YE g0))) rfl (fun _ _ => rfl) fun O x => by kernel_rfl
theorem Oc : Vd Tryz.prog 224 Bb := vt mix Of Om [] g0 rfl (fun _ _ => rfl) fun O x => by kernel_rfl
theorem Yt : Vd Tryz.prog 220 GQ := vt mix Sg JG [(224, Bb)] (gs Oc g0) rfl (fun _ _ => rfl) fun O x => by kernel_rfl
theorem VB : Vd Tryz.prog 225 DU := vt mix Nd FL [] g0 rfl (fun _ _ => rfl) fun O x => by kernel_rfl
theorem Sc : Vd Tryz.prog 221 Cl := vt mix Kn Dj [(225, DU)] (gs VB g0) rfl (fun _ _ => rfl) fun O x => by kernel_rfl
theorem Ue : Vd Tryz.prog 226 DX := vt mix Nt Fc [] g0 rfl (fun _ _ => rfl) fun O x => by kernel_rfl
theorem W1 : Vd Tryz.prog 222 Ed := vt mix P8 Gv [(224, Bb), (226, DX)] (gs Oc (gs Ue g0)) rfl (fun _ _ => rfl) fun O x => by kernel_rfl
theorem Rg : Vd Tryz.prog 227 CZ := vt mix Jz DJ [] g0 rfl (fun _ _ => rfl) fun O x => by kernel_rfl
theorem TG : Vd Tryz.prog 223 Ct := vt mix LX D9 [(227, CZ)] (gs Rg g0) rfl (fun _ _ => rfl) fun O x => by kernel_rfl
theorem TQ : Vd Tryz.prog 210 Cr := vt mix Lw EB [(220, GQ), (221, Cl), (222, Ed), (223, Ct)] (gs Yt (gs Sc (gs W1 (gs TG g0)))) rfl (fun _ _ => rfl) fun O x => by kernel_rfl
theorem aV : Vd Tryz.prog 211 HP := vt mix Tt KN [(192, Ay), (193, Ax)] (gs HH (gs Gt g0)) rfl (fun _ _ => rfl) fun O x => by kernel_rfl
theorem V6 : Vd Tryz.prog 185 Dv := vt mix On Fx [(42, B9), (163, BL), (209, HF), (210, Cr), (211, HP)] (gs Pn (gs Ls (gs aZ (gs TQ (gs aV g0))))) rfl (fun _ _ => rfl) fun O x => by kernel_rfl
theorem bP : Vd Tryz.prog 186 IB := vt mix U7 Lz [(180, Au), (182, Av)] (gs GD (gs F9 g0)) rfl (fun _ _ => rfl) fun O x => by kernel_rfl
theorem bZ : Vd Tryz.prog 187 Ie := vt mix VU Lo [(39, AN), (130, Aj), (183, CT), (207, Bq)] (gs Cc (gs GP (gs Rr (gs N9 g0)))) rfl (fun _ _ => rfl) fun O x => by kernel_rfl
theorem YG : Vd Tryz.prog 188 FG := vt mix Qi Hy [(180, Au)] (gs GD g0) rfl (fun _ _ => rfl) fun O x => by kernel_rfl
theorem ZG : Vd Tryz.prog 151 GY := vt mix SP I5 [(30, As), (31, CC), (89, AM), (185, Dv), (186, IB), (187, Ie), (188, FG)] (gs Fy (gs Pd (gs CN (gs V6 (gs bP (gs bZ (gs YG g0))))))) rfl (fun _ _ => rfl) fun O x => by kernel_rfl
theorem Ub : Vd Tryz.prog 189 DR := vt mix Uo LH [(163, BL), (182, Av)] (gs Ls (gs F9 g0)) rfl (fun _ _ => rfl) fun O x => by kernel_rfl
theorem W8 : Vd Tryz.prog 152 Eg := vt mix QA HA [(180, Au), (182, Av), (189, DR)] (gs GD (gs F9 (gs Ub g0))) rfl (fun _ _ => rfl) fun O x => by kernel_rfl
theorem ZE : Vd Tryz.prog 153 GC := vt mix SO JB [(180, Au), (189, DR)] (gs GD (gs Ub g0)) rfl (fun _ _ => rfl) fun O x => by kernel_rfl
theorem T0 : Vd Tryz.prog 164 Cd := vt mix Td E7 [] g0 rfl (fun _ _ => rfl) fun O x => by kernel_rfl
theorem YO : Vd Tryz.prog 154 FO := vt mix Qt Hw [(164, Cd), (180, Au), (182, Av)] (gs T0 (gs GD (gs F9 g0))) rfl (fun _ _ => rfl) fun O x => by kernel_rfl
theorem Rh : Vd Tryz.prog 191 CY := vt mix WS NM [(114, AO), (115, Ab), (116, AW)] (gs Dg (gs Fg (gs Ej g0))) rfl (fun _ _ => rfl) fun O x => by kernel_rfl
theorem X1 : Vd Tryz.prog 155 FW := vt mix RC Hz [(191, CY)] (gs Rh g0) rfl (fun _ _ => rfl) fun O x => by kernel_rfl
theorem Y0 : Vd Tryz.prog 156 GF := vt mix SV I4 [(191, CY), (192, Ay), (193, Ax)] (gs Rh (gs HH (gs Gt g0))) rfl (fun _ _ => rfl) fun O x => by kernel_rfl
theorem UQ : Vd Tryz.prog 157 DQ := vt mix Nh Fj [(191, CY), (192, Ay), (193, Ax)] (gs Rh (gs HH (gs Gt g0))) rfl (fun _ _ => rfl) fun O x => by kernel_rfl
theorem YI : Vd Tryz.prog 158 Fh := vt mix RN Hp [(39, AN), (183, CT)] (gs Cc (gs Rr g0)) rfl (fun _ _ => rfl) fun O x => by kernel_rfl
theorem V8 : Vd Tryz.prog 159 D5 := vt mix Oi F4 [(89, AM)] (gs CN g0) rfl (fun _ _ => rfl) fun O x => by kernel_rfl
theorem Oj : Vd Tryz.prog 137 B0 := vt mix Oq F1 [(89, AM)] (gs CN g0) rfl (fun _ _ => rfl) fun O x => by kernel_rfl
theorem Vy : Vd Tryz.prog 160 Dw := vt mix Oo Fz [(89, AM), (137, B0)] (gs CN (gs Oj g0)) rfl (fun _ _ => rfl) fun O x => by kernel_rfl
theorem XG : Vd Tryz.prog 161 EW := vt mix QN EY [(89, AM)] (gs CN g0) rfl (fun _ _ => rfl) fun O x => by kernel_rfl
theorem Ql : Vd Tryz.prog 54 CO := vt mix Qn Qr [] g0 rfl (fun _ _ => rfl) fun O x => by kernel_rfl
theorem Wu : Vd Tryz.prog 162 EU := vt mix Pp G4 [(54, CO), (89, AM)] (gs Ql (gs CN g0)) rfl (fun _ _ => rfl) fun O x => by kernel_rfl
theorem V9 : Vd Tryz.prog 135 Du := vt mix Ou D4 [(149, HV), (150, IG), (151, GY), (152, Eg), (153, GC), (154, FO), (155, FW), (156, GF), (157, DQ), (158, Fh), (159, D5), (160, Dw), (161, EW), (162, EU)] (gs aQ (gs cA (gs ZG (gs W8 (gs ZE (gs YO (gs X1 (gs Y0 (gs UQ (gs YI (gs V8 (gs Vy (gs XG (gs Wu g0)))))))))))))) rfl (fun _ _ => rfl) fun O x => by kernel_rfl
theorem XR : Vd Tryz.prog 136 DI := vt mix Pu G7 [(82, BM), (163, BL), (164, Cd)] (gs LC (gs Ls (gs T0 g0))) rfl (fun _ _ => rfl) fun O x => by kernel_rfl
theorem Y7 : Vd Tryz.prog 119 GG := vt mix SX JM [(72, C1), (82, BM), (89, AM), (134, FZ), (135, Du), (136, DI)] (gs TX (gs LC (gs CN (gs YP (gs V9 (gs XR g0)))))) rfl (fun _ _ => rfl) fun O x => by kernel_rfl
theorem cg : Vd Tryz.prog 64 L3 := vt mix U8 Le [(71, C3), (72, C1), (73, HT), (83, C2), (90, BJ), (94, Bp), (95, Fb), (117, Fa), (118, Gh), (119, GG), (120, Bg), (137, B0)] (gs Tc (gs TX (gs aL (gs T7 (gs KB (gs OW (gs YA (gs Xc (gs ZF (gs Y7 (gs Nu (gs Oj g0)))))))))))) rfl (fun _ _ => rfl) fun O x => by kernel_rfl
def X9 : Cfg := { gam := [⟨64, [], true, true, []⟩], imm := false, old := false }
theorem eO (O : Alg) (x : Ags O) : XF (O := O) Tryz.prog X9 false false [] 49 [] (xr x Sh 0) = MA O x := by kernel_rfl
theorem fq {E : Env} {M : Nat} (N : Nat) (h : ∀ ls, E 49 [] ls = L8 N ls) : VV Tryz.prog E M ⟨49, [], false, false, []⟩ :=
 IC mix (E := Gg N) (N := N) (cfg := X9) (ci := ⟨49, [], false, false, []⟩) (ks := Sh) (Cp (cg N (fun _ => rfl)) PQ) (c := L8 N) (F := fun ls => MA (std (Gg N) N) (xOf ls)) (fun ls => rfl) (fun ls => eO (std (Gg N) N) (xOf ls)) h
theorem Xe : Vd Tryz.prog 50 Hu := vt mix Qx H1 [(30, As)] (gs Fy g0) rfl (fun _ _ => rfl) fun O x => by kernel_rfl
def Xu : Cfg := { gam := [⟨48, [], true, true, []⟩, ⟨49, [], false, false, []⟩, ⟨50, [], true, true, []⟩], imm := false, old := true, ie := [77, 27, 3, 107, 45, 67, 144, 4, 5, 124, 140, 59, 73, 190] }
theorem dz (O : Alg) (x : Ags O) : XF (O := O) Tryz.prog Xu false false [] 38 [] (xr x TB 0) = Ld O x := by kernel_rfl
theorem fN {E : Env} {M : Nat} (N : Nat) (h : ∀ ls, E 38 [] ls = LP N ls) : VV Tryz.prog E M ⟨38, [], false, false, []⟩ :=
 IC mix (E := Dd N) (N := N) (cfg := Xu) (ci := ⟨38, [], false, false, []⟩) (ks := TB) (Cp (eD N (fun _ => rfl)) (Cp (fq N (fun _ => rfl)) (Cp (Xe N (fun _ => rfl)) PQ))) (c := LP N) (F := fun ls => Ld (std (Dd N) N) (xOf ls)) (fun ls => rfl) (fun ls => dz (std (Dd N) N) (xOf ls)) h
def VG : Cfg := { gam := [⟨38, [], false, false, []⟩], imm := false, old := false }
theorem aD (O : Alg) (x : Ags O) : XF (O := O) Tryz.prog VG false false [] 22 [] (xr x Pb 0) = Ib O x := by kernel_rfl
theorem Uc {E : Env} {M : Nat} (N : Nat) (h : ∀ ls, E 22 [] ls = EX N ls) : VV Tryz.prog E M ⟨22, [], false, false, []⟩ :=
 IC mix (E := EN N) (N := N) (cfg := VG) (ci := ⟨22, [], false, false, []⟩) (ks := Pb) (Cp (fN N (fun _ => rfl)) PQ) (c := EX N) (F := fun ls => Ib (std (EN N) N) (xOf ls)) (fun ls => rfl) (fun ls => aD (std (EN N) N) (xOf ls)) h
def WX : Cfg := { gam := [⟨22, [], false, false, []⟩, ⟨39, [], true, true, []⟩], imm := false, old := false }
theorem bM (O : Alg) (x : Ags O) : XF (O := O) Tryz.prog WX true true [] 23 [] (xr x Rk 0) = Ji O x := by kernel_rfl
theorem RZ : Vd Tryz.prog 23 CR := fun N h =>
 IC mix (E := Dr N) (N := N) (cfg := WX) (ci := ⟨23, [], true, true, []⟩) (ks := Rk) (Cp (Uc N (fun _ => rfl)) (Cp (Cc N (fun _ => rfl)) PQ)) (c := CR N) (F := fun ls => Ji (std (Dr N) N) (xOf ls)) (fun ls => rfl) (fun ls => bM (std (Dr N) N) (xOf ls)) h
theorem dr : Vd Tryz.prog 29 Jr := vt mix WK NS [] g0 rfl (fun _ _ => rfl) fun O x => by kernel_rfl
theorem eA : Vd Tryz.prog 32 He := vt mix WP NX [] g0 rfl (fun _ _ => rfl) fun O x => by kernel_rfl
theorem SW : Vd Tryz.prog 17 Cj := vt mix SF Iv [(12, A8), (15, HE), (23, CR), (29, Jr), (30, As), (31, CC), (32, He)] (gs JD (gs aW (gs RZ (gs dr (gs Fy (gs Pd (gs eA g0))))))) rfl (fun _ _ => rfl) fun O x => by kernel_rfl
theorem L1 : Vd Tryz.prog 19 Bn := vt mix Lx EE [] g0 rfl (fun _ _ => rfl) fun O x => by kernel_rfl
theorem YN : Vd Tryz.prog 20 Di := vt mix RB H5 [(12, A8), (23, CR), (30, As)] (gs JD (gs RZ (gs Fy g0))) rfl (fun _ _ => rfl) fun O x => by kernel_rfl
theorem dn : Vd Tryz.prog 25 Ja := vt mix Wc Wk [] g0 rfl (fun _ _ => rfl) fun O x => by kernel_rfl
theorem dv : Vd Tryz.prog 41 Rl := vt mix WZ WN [] g0 rfl (fun _ _ => rfl) fun O x => by kernel_rfl
theorem ge : Vd Tryz.prog 26 N5 := vt mix Zx Zc [(41, Rl)] (gs dv g0) rfl (fun _ _ => rfl) fun O x => by kernel_rfl
theorem dj : Vd Tryz.prog 9 Jh := vt mix WT NI [(11, DC), (12, A8), (17, Cj), (19, Bn), (20, Di), (25, Ja), (26, N5)] (gs UM (gs JD (gs SW (gs L1 (gs YN (gs dn (gs ge g0))))))) rfl (fun _ _ => rfl) fun O x => by kernel_rfl
def Zg : Cfg := { gam := [], imm := false, old := false }
theorem gM (O : Alg) (x : Ags O) : XF (O := O) Tryz.prog Zg false false [] 10 [] (xr x Ua 0) = Na O x := by kernel_rfl
theorem jC {E : Env} {M : Nat} (N : Nat) (h : ∀ ls, E 10 [] ls = Nb N ls) : VV Tryz.prog E M ⟨10, [], false, false, []⟩ :=
 IC mix (E := Jl N) (N := N) (cfg := Zg) (ci := ⟨10, [], false, false, []⟩) (ks := Ua) PQ (c := Nb N) (F := fun ls => Na (std (Jl N) N) (xOf ls)) (fun ls => rfl) (fun ls => gM (std (Jl N) N) (xOf ls)) h
theorem Y8 : Vd Tryz.prog 40 Ga := vt mix SA Iw [(54, CO)] (gs Ql g0) rfl (fun _ _ => rfl) fun O x => by kernel_rfl
theorem Y9 : Vd Tryz.prog 24 I8 := vt mix SE I0 [(40, Ga)] (gs Y8 g0) rfl (fun _ _ => rfl) fun O x => by kernel_rfl
def Ok : Cfg := { gam := [⟨9, [], true, true, []⟩, ⟨10, [], false, false, []⟩, ⟨17, [], true, true, []⟩, ⟨19, [], true, true, []⟩, ⟨22, [], false, false, []⟩, ⟨23, [], true, true, []⟩, ⟨24, [], true, true, []⟩], imm := false, old := false }
theorem Ut (O : Alg) (x : Ags O) : XF (O := O) Tryz.prog Ok true true [] 8 [] (xr x JR 0) = Dz O x := by kernel_rfl
theorem WB : Vd Tryz.prog 8 D8 := fun N h =>
 IC mix (E := Aw N) (N := N) (cfg := Ok) (ci := ⟨8, [], true, true, []⟩) (ks := JR) (Cp (dj N (fun _ => rfl)) (Cp (jC N (fun _ => rfl)) (Cp (SW N (fun _ => rfl)) (Cp (L1 N (fun _ => rfl)) (Cp (Uc N (fun _ => rfl)) (Cp (RZ N (fun _ => rfl)) (Cp (Y9 N (fun _ => rfl)) PQ))))))) (c := D8 N) (F := fun ls => Dz (std (Aw N) N) (xOf ls)) (fun ls => rfl) (fun ls => Ut (std (Aw N) N) (xOf ls)) h
end Go.Px
