/- Part 13. -/
import Derived.Test.YtopmcbahdgfleaaGreatPart06
import Derived.Test.YtopmcbahdgfleaaGreatProg
import Derived.Test.YtopmcbahdgfleaaGreatPart08
import Derived.KernelRfl
import Derived.WalkKit
import Derived.Lib.Walk
import Derived.BigCall
import Derived.BigGuard
set_option linter.unusedVariables false
set_option linter.unusedSimpArgs false
namespace Go.Px
open Go.Proofs
set_option maxRecDepth 100000
theorem mix : Tryz.prog.follows .mixedOrders = true := by kernel_rfl
theorem Za : Vd Tryz.prog 95 Ie := vt mix Tj Lb [] g0 rfl (fun _ _ => rfl) fun O x => by kernel_rfl
theorem PK : Vd Tryz.prog 162 Bz := vt mix O7 O6 [] g0 rfl (fun _ _ => rfl) fun O x => by kernel_rfl
theorem U6 : Vd Tryz.prog 96 EU := vt mix O3 HA [(162, Bz)] (gs PK g0) rfl (fun _ _ => rfl) fun O x => by kernel_rfl
theorem V1 : Vd Tryz.prog 97 Fl := vt mix P8 Hv [(162, Bz)] (gs PK g0) rfl (fun _ _ => rfl) fun O x => by kernel_rfl
theorem CU : Vd Tryz.prog 52 AN := vt mix RC JA [(95, Ie), (96, EU), (97, Fl)] (gs Za (gs U6 (gs V1 g0))) rfl (fun _ _ => rfl) fun O x => by kernel_rfl
theorem QR : Vd Tryz.prog 196 CO := fun N h =>
 Lu mix (T := 22) (e := 122) (b := 24) Tryz.func196 Tryz.underlying22 (by kernel_rfl) (by decide) (fun O l => by kernel_rfl) (fun O l => by kernel_rfl) h
theorem Rh : Vd Tryz.prog 141 CV := vt mix RV Iw [(196, CO)] (gs QR g0) rfl (fun _ _ => rfl) fun O x => by kernel_rfl
theorem ZW : Vd Tryz.prog 81 Li := vt mix Te Lj [(52, AN), (141, CV)] (gs CU (gs Rh g0)) rfl (fun _ _ => rfl) fun O x => by kernel_rfl
theorem DW : Vd Tryz.prog 53 AZ := vt mix My Mx [] g0 rfl (fun _ _ => rfl) fun O x => by kernel_rfl
theorem TR : Vd Tryz.prog 54 DY := vt mix M3 FE [(53, AZ)] (gs DW g0) rfl (fun _ _ => rfl) fun O x => by kernel_rfl
theorem Sb : Vd Tryz.prog 163 C6 := vt mix MD Ee [] g0 rfl (fun _ _ => rfl) fun O x => by kernel_rfl
theorem Fc : Vd Tryz.prog 98 Ac := vt mix Ji DC [(163, C6)] (gs Sb g0) rfl (fun _ _ => rfl) fun O x => by kernel_rfl
theorem Rr : Vd Tryz.prog 55 Ch := vt mix Kt D9 [(53, AZ), (98, Ac)] (gs DW (gs Fc g0)) rfl (fun _ _ => rfl) fun O x => by kernel_rfl
theorem Ro : Vd Tryz.prog 100 Ce := vt mix Ks D4 [(53, AZ)] (gs DW g0) rfl (fun _ _ => rfl) fun O x => by kernel_rfl
theorem TU : Vd Tryz.prog 56 DS := vt mix M4 FD [(100, Ce)] (gs Ro g0) rfl (fun _ _ => rfl) fun O x => by kernel_rfl
theorem J1 : Vd Tryz.prog 16 A3 := vt mix O9 G8 [(52, AN), (53, AZ), (54, DY), (55, Ch), (56, DS)] (gs CU (gs DW (gs TR (gs Rr (gs TU g0))))) rfl (fun _ _ => rfl) fun O x => by kernel_rfl
theorem UT : Vd Tryz.prog 165 CD := vt mix Nu JL [] g0 rfl (fun _ _ => rfl) fun O x => by kernel_rfl
theorem QI : Vd Tryz.prog 103 Ba := vt mix Pv Di [(165, CD)] (gs UT g0) rfl (fun _ _ => rfl) fun O x => by kernel_rfl
theorem KH : Vd Tryz.prog 61 A5 := vt mix Oe C9 [(103, Ba)] (gs QI g0) rfl (fun _ _ => rfl) fun O x => by kernel_rfl
theorem RW : Vd Tryz.prog 62 B9 := vt mix RD EM [] g0 rfl (fun _ _ => rfl) fun O x => by kernel_rfl
theorem UA : Vd Tryz.prog 18 Cl := vt mix Nt GA [(16, A3), (61, A5), (62, B9)] (gs J1 (gs KH (gs RW g0))) rfl (fun _ _ => rfl) fun O x => by kernel_rfl
theorem DA : Vd Tryz.prog 77 AM := fun N h =>
 Lu mix (T := 27) (e := 97) (b := 1) Tryz.func77 Tryz.underlying27 (by kernel_rfl) (by decide) (fun O l => by kernel_rfl) (fun O l => by kernel_rfl) h
theorem Eb : Vd Tryz.prog 78 AW := fun N h =>
 Lu mix (T := 28) (e := 3) (b := 8) Tryz.func78 Tryz.underlying28 (by kernel_rfl) (by decide) (fun O l => by kernel_rfl) (fun O l => by kernel_rfl) h
theorem D8 : Vd Tryz.prog 79 AR := fun N h =>
 Lu mix (T := 29) (e := 4) (b := 1) Tryz.func79 Tryz.underlying29 (by kernel_rfl) (by decide) (fun O l => by kernel_rfl) (fun O l => by kernel_rfl) h
theorem Bx : Vd Tryz.prog 30 AL := vt mix Om G4 [(77, AM), (78, AW), (79, AR)] (gs DA (gs Eb (gs D8 g0))) rfl (fun _ _ => rfl) fun O x => by kernel_rfl
theorem Vy : Vd Tryz.prog 104 Fb := vt mix Ps H7 [] g0 rfl (fun _ _ => rfl) fun O x => by kernel_rfl
theorem VD : Vd Tryz.prog 105 En := vt mix Oo KX [] g0 rfl (fun _ _ => rfl) fun O x => by kernel_rfl
open Go.RowKit Go.Lib in
set_option maxHeartbeats 1000000 in
theorem NN (s : ByteArray) (c : Int) (w : World) : Calls Tryz.prog 210 #[.string s, .int .u8 c] w fun e w' => e = .returned (.int .i64 (Lib.indexByte s.data.toList c.toNat.toUInt8)) ∧ w' = w := by
 go_enter Tryz.func210, Tryz.ntmps210
 go_wp2
 rw [run_callFunc_extern Tryz.func226 (by kernel_rfl) (by kernel_rfl) (by kernel_rfl) (e := Extern.BytealgIndexByte.indexByte) (by kernel_rfl), Lib.run_indexByteString]
 simp only [Result.andThen]
 rw [Oper.upon_value]
 go_wp2
 go_ret
 exact ⟨rfl, rfl⟩
theorem OX : Vd Tryz.prog 210 Bu := fun N h =>
 Ze Tryz.func210 (T9 := 9) (T5 := 5) (T3 := 3) rfl rfl Tryz.underlying9 Tryz.underlying5 Tryz.underlying3 (by kernel_rfl) NN h
theorem Rp : Vd Tryz.prog 166 Cg := vt mix Kq D2 [(210, Bu)] (gs OX g0) rfl (fun _ _ => rfl) fun O x => by kernel_rfl
theorem XD : Vd Tryz.prog 167 EJ := vt mix RY RJ [] g0 rfl (fun _ _ => rfl) fun O x => by kernel_rfl
theorem Yq : Vd Tryz.prog 106 HW := vt mix Rw KK [(166, Cg), (167, EJ)] (gs Rp (gs XD g0)) rfl (fun _ _ => rfl) fun O x => by kernel_rfl
theorem SD : Vd Tryz.prog 168 Cu := vt mix Lw Hb [] g0 rfl (fun _ _ => rfl) fun O x => by kernel_rfl
theorem UK : Vd Tryz.prog 107 Dr := vt mix N8 F3 [(168, Cu)] (gs SD g0) rfl (fun _ _ => rfl) fun O x => by kernel_rfl
theorem RL : Vd Tryz.prog 65 CY := vt mix RU GH [(104, Fb), (105, En), (106, HW), (107, Dr)] (gs Vy (gs VD (gs Yq (gs UK g0)))) rfl (fun _ _ => rfl) fun O x => by kernel_rfl
theorem TI : Vd Tryz.prog 109 DV := vt mix Mz IB [] g0 rfl (fun _ _ => rfl) fun O x => by kernel_rfl
theorem VC : Vd Tryz.prog 66 EP := vt mix O4 Gy [(109, DV)] (gs TI g0) rfl (fun _ _ => rfl) fun O x => by kernel_rfl
theorem Fh : Vd Tryz.prog 170 Ai := vt mix SH Ka [(77, AM), (78, AW), (79, AR)] (gs DA (gs Eb (gs D8 g0))) rfl (fun _ _ => rfl) fun O x => by kernel_rfl
theorem Fa : Vd Tryz.prog 171 Ag := vt mix P9 Hy [] g0 rfl (fun _ _ => rfl) fun O x => by kernel_rfl
theorem XG : Vd Tryz.prog 110 Gc := vt mix Rd Iv [(103, Ba), (170, Ai), (171, Ag)] (gs QI (gs Fh (gs Fa g0))) rfl (fun _ _ => rfl) fun O x => by kernel_rfl
theorem Pj : Vd Tryz.prog 172 B2 := vt mix Tr Ld [(77, AM), (78, AW), (79, AR)] (gs DA (gs Eb (gs D8 g0))) rfl (fun _ _ => rfl) fun O x => by kernel_rfl
theorem Mi : Vd Tryz.prog 211 BU := vt mix RN Iq [] g0 rfl (fun _ _ => rfl) fun O x => by kernel_rfl
theorem YV : Vd Tryz.prog 212 HM := vt mix SO KM [(52, AN), (211, BU)] (gs CU (gs Mi g0)) rfl (fun _ _ => rfl) fun O x => by kernel_rfl
theorem Zf : Vd Tryz.prog 173 IR := vt mix Tk Ls [(52, AN), (98, Ac), (211, BU), (212, HM)] (gs CU (gs Fc (gs Mi (gs YV g0)))) rfl (fun _ _ => rfl) fun O x => by kernel_rfl
theorem Y2 : Vd Tryz.prog 111 HN := vt mix R6 J5 [(172, B2), (173, IR)] (gs Pj (gs Zf g0)) rfl (fun _ _ => rfl) fun O x => by kernel_rfl
theorem Nq : Vd Tryz.prog 37 CB := vt mix Nn Nv [] g0 rfl (fun _ _ => rfl) fun O x => by kernel_rfl
theorem Rl : Vd Tryz.prog 223 Cf := vt mix Kn D3 [] g0 rfl (fun _ _ => rfl) fun O x => by kernel_rfl
theorem N2 : Vd Tryz.prog 197 Bq := vt mix N4 F2 [(223, Cf)] (gs Rl g0) rfl (fun _ _ => rfl) fun O x => by kernel_rfl
theorem Rt : Vd Tryz.prog 198 Ci := vt mix Kr D5 [] g0 rfl (fun _ _ => rfl) fun O x => by kernel_rfl
theorem Mp : Vd Tryz.prog 142 Bd := vt mix Mq E9 [(197, Bq), (198, Ci)] (gs N2 (gs Rt g0)) rfl (fun _ _ => rfl) fun O x => by kernel_rfl
theorem GT : Vd Tryz.prog 181 Ao := vt mix RQ Im [] g0 rfl (fun _ _ => rfl) fun O x => by kernel_rfl
theorem F9 : Vd Tryz.prog 182 Am := vt mix OU GB [(181, Ao)] (gs GT g0) rfl (fun _ _ => rfl) fun O x => by kernel_rfl
theorem Uz : Vd Tryz.prog 227 EV := vt mix O2 G6 [] g0 rfl (fun _ _ => rfl) fun O x => by kernel_rfl
theorem XW : Vd Tryz.prog 213 GM := vt mix RH I7 [(181, Ao), (182, Am), (227, EV)] (gs GT (gs F9 (gs Uz g0))) rfl (fun _ _ => rfl) fun O x => by kernel_rfl
theorem M6 : Vd Tryz.prog 232 BJ := vt mix Mn M0 [] g0 rfl (fun _ _ => rfl) fun O x => by kernel_rfl
theorem V2 : Vd Tryz.prog 228 FX := vt mix QB Hk [(232, BJ)] (gs M6 g0) rfl (fun _ _ => rfl) fun O x => by kernel_rfl
theorem SI : Vd Tryz.prog 233 C2 := vt mix L1 Eo [] g0 rfl (fun _ _ => rfl) fun O x => by kernel_rfl
theorem QC : Vd Tryz.prog 229 CH := vt mix Je C7 [(233, C2)] (gs SI g0) rfl (fun _ _ => rfl) fun O x => by kernel_rfl
theorem R5 : Vd Tryz.prog 234 Cy := vt mix L3 Er [] g0 rfl (fun _ _ => rfl) fun O x => by kernel_rfl
theorem Uk : Vd Tryz.prog 230 Dx := vt mix N7 Fx [(232, BJ), (234, Cy)] (gs M6 (gs R5 g0)) rfl (fun _ _ => rfl) fun O x => by kernel_rfl
theorem Pk : Vd Tryz.prog 235 B4 := vt mix IZ Ct [] g0 rfl (fun _ _ => rfl) fun O x => by kernel_rfl
theorem Qt : Vd Tryz.prog 231 CN := vt mix KN Dc [(235, B4)] (gs Pk g0) rfl (fun _ _ => rfl) fun O x => by kernel_rfl
theorem QQ : Vd Tryz.prog 214 CR := vt mix Ke Db [(228, FX), (229, CH), (230, Dx), (231, CN)] (gs V2 (gs QC (gs Uk (gs Qt g0)))) rfl (fun _ _ => rfl) fun O x => by kernel_rfl
theorem XC : Vd Tryz.prog 215 Ge := vt mix Ra I3 [(181, Ao), (182, Am)] (gs GT (gs F9 g0)) rfl (fun _ _ => rfl) fun O x => by kernel_rfl
theorem TL : Vd Tryz.prog 174 DT := vt mix Mm FB [(61, A5), (197, Bq), (213, GM), (214, CR), (215, Ge)] (gs KH (gs N2 (gs XW (gs QQ (gs XC g0))))) rfl (fun _ _ => rfl) fun O x => by kernel_rfl
theorem Y8 : Vd Tryz.prog 175 Hd := vt mix SL KW [(170, Ai), (171, Ag)] (gs Fh (gs Fa g0)) rfl (fun _ _ => rfl) fun O x => by kernel_rfl
theorem ZE : Vd Tryz.prog 176 HD := vt mix Rz KV [(52, AN), (98, Ac), (172, B2), (211, BU)] (gs CU (gs Fc (gs Pj (gs Mi g0)))) rfl (fun _ _ => rfl) fun O x => by kernel_rfl
theorem Uq : Vd Tryz.prog 177 EO := vt mix O5 Gx [(170, Ai)] (gs Fh g0) rfl (fun _ _ => rfl) fun O x => by kernel_rfl
theorem WP : Vd Tryz.prog 112 FN := vt mix P2 Hx [(30, AL), (37, CB), (142, Bd), (174, DT), (175, Hd), (176, HD), (177, EO)] (gs Bx (gs Nq (gs Mp (gs TL (gs Y8 (gs ZE (gs Uq g0))))))) rfl (fun _ _ => rfl) fun O x => by kernel_rfl
theorem Sc : Vd Tryz.prog 178 Cz := vt mix SY Kb [(61, A5), (171, Ag)] (gs KH (gs Fa g0)) rfl (fun _ _ => rfl) fun O x => by kernel_rfl
theorem Ui : Vd Tryz.prog 113 D0 := vt mix Nl F8 [(170, Ai), (171, Ag), (178, Cz)] (gs Fh (gs Fa (gs Sc g0))) rfl (fun _ _ => rfl) fun O x => by kernel_rfl
theorem V3 : Vd Tryz.prog 114 Fj := vt mix Pl Hj [(170, Ai), (178, Cz)] (gs Fh (gs Sc g0)) rfl (fun _ _ => rfl) fun O x => by kernel_rfl
theorem Vq : Vd Tryz.prog 115 ET := vt mix Ov G3 [(62, B9), (170, Ai), (171, Ag)] (gs RW (gs Fh (gs Fa g0))) rfl (fun _ _ => rfl) fun O x => by kernel_rfl
theorem PW : Vd Tryz.prog 180 B7 := vt mix Tm Lr [(77, AM), (78, AW), (79, AR)] (gs DA (gs Eb (gs D8 g0))) rfl (fun _ _ => rfl) fun O x => by kernel_rfl
theorem VE : Vd Tryz.prog 116 ER := vt mix Oh HB [(180, B7)] (gs PW g0) rfl (fun _ _ => rfl) fun O x => by kernel_rfl
theorem WY : Vd Tryz.prog 117 Ff := vt mix QL Hi [(180, B7), (181, Ao), (182, Am)] (gs PW (gs GT (gs F9 g0))) rfl (fun _ _ => rfl) fun O x => by kernel_rfl
theorem R8 : Vd Tryz.prog 118 C0 := vt mix L9 Ed [(180, B7), (181, Ao), (182, Am)] (gs PW (gs GT (gs F9 g0))) rfl (fun _ _ => rfl) fun O x => by kernel_rfl
theorem VI : Vd Tryz.prog 119 Es := vt mix Od Gv [(52, AN), (172, B2)] (gs CU (gs Pj g0)) rfl (fun _ _ => rfl) fun O x => by kernel_rfl
theorem TJ : Vd Tryz.prog 120 DM := vt mix Mu FA [(30, AL)] (gs Bx g0) rfl (fun _ _ => rfl) fun O x => by kernel_rfl
theorem M7 : Vd Tryz.prog 28 Be := vt mix Ml E8 [(30, AL)] (gs Bx g0) rfl (fun _ _ => rfl) fun O x => by kernel_rfl
theorem TP : Vd Tryz.prog 121 DK := vt mix Mo E6 [(28, Be), (30, AL)] (gs M7 (gs Bx g0)) rfl (fun _ _ => rfl) fun O x => by kernel_rfl
theorem Ud : Vd Tryz.prog 122 Dz := vt mix N3 Dv [(30, AL)] (gs Bx g0) rfl (fun _ _ => rfl) fun O x => by kernel_rfl
theorem Uv : Vd Tryz.prog 20 Eu := vt mix Oj PG [] g0 rfl (fun _ _ => rfl) fun O x => by kernel_rfl
theorem UC : Vd Tryz.prog 123 Dl := vt mix OT GC [(20, Eu), (30, AL)] (gs Uv (gs Bx g0)) rfl (fun _ _ => rfl) fun O x => by kernel_rfl
theorem TN : Vd Tryz.prog 67 DN := vt mix M1 DX [(110, Gc), (111, HN), (112, FN), (113, D0), (114, Fj), (115, ET), (116, ER), (117, Ff), (118, C0), (119, Es), (120, DM), (121, DK), (122, Dz), (123, Dl)] (gs XG (gs Y2 (gs WP (gs Ui (gs V3 (gs Vq (gs VE (gs WY (gs R8 (gs VI (gs TJ (gs TP (gs Ud (gs UC g0)))))))))))))) rfl (fun _ _ => rfl) fun O x => by kernel_rfl
theorem V6 : Vd Tryz.prog 22 FZ := vt mix Pq Ho [(16, A3), (18, Cl), (30, AL), (65, CY), (66, EP), (67, DN)] (gs J1 (gs UA (gs Bx (gs RL (gs VC (gs TN g0)))))) rfl (fun _ _ => rfl) fun O x => by kernel_rfl
theorem U2 : Vd Tryz.prog 25 Em := vt mix Oi Gz [(52, AN), (53, AZ)] (gs CU (gs DW g0)) rfl (fun _ _ => rfl) fun O x => by kernel_rfl
theorem Ir : Vd Tryz.prog 156 A4 := vt mix RB I2 [] g0 rfl (fun _ _ => rfl) fun O x => by kernel_rfl
theorem RZ : Vd Tryz.prog 154 CX := vt mix RX I6 [(156, A4)] (gs Ir g0) rfl (fun _ _ => rfl) fun O x => by kernel_rfl
theorem XE : Vd Tryz.prog 155 GY := vt mix RI I1 [] g0 rfl (fun _ _ => rfl) fun O x => by kernel_rfl
theorem RP : Vd Tryz.prog 91 CZ := vt mix RE I0 [(16, A3), (52, AN), (154, CX), (155, GY)] (gs J1 (gs CU (gs RZ (gs XE g0)))) rfl (fun _ _ => rfl) fun O x => by kernel_rfl
theorem XI : Vd Tryz.prog 92 GQ := vt mix RF Il [(30, AL), (141, CV)] (gs Bx (gs Rh g0)) rfl (fun _ _ => rfl) fun O x => by kernel_rfl
theorem Mh : Vd Tryz.prog 160 BV := vt mix RS It [] g0 rfl (fun _ _ => rfl) fun O x => by kernel_rfl
theorem Lz : Vd Tryz.prog 208 BP := vt mix ME Ej [] g0 rfl (fun _ _ => rfl) fun O x => by kernel_rfl
theorem VW : Vd Tryz.prog 161 Eg := vt mix O0 G5 [(91, CZ), (156, A4), (160, BV), (208, BP)] (gs RP (gs Ir (gs Mh (gs Lz g0)))) rfl (fun _ _ => rfl) fun O x => by kernel_rfl
theorem WX : Vd Tryz.prog 207 FQ := vt mix P6 Hp [(156, A4), (160, BV)] (gs Ir (gs Mh g0)) rfl (fun _ _ => rfl) fun O x => by kernel_rfl
theorem YN : Vd Tryz.prog 49 KA := vt mix Sl KC [(22, FZ), (25, Em), (28, Be), (65, CY), (91, CZ), (92, GQ), (154, CX), (156, A4), (160, BV), (161, Eg), (207, FQ), (208, BP)] (gs V6 (gs U2 (gs M7 (gs RL (gs RP (gs XI (gs RZ (gs Ir (gs Mh (gs VW (gs WX (gs Lz g0)))))))))))) rfl (fun _ _ => rfl) fun O x => by kernel_rfl
def Ux : Cfg := { gam := [⟨49, [], true, true, []⟩], imm := false, old := false }
theorem ZZ (O : Alg) (x : Ags O) : XF (O := O) Tryz.prog Ux false false [] 82 [] (xr x Qo 0) = KO O x := by kernel_rfl
theorem aa {E : Env} {M : Nat} (N : Nat) (h : ∀ ls, E 82 [] ls = J6 N ls) : VV Tryz.prog E M ⟨82, [], false, false, []⟩ :=
 Fu mix (E := FJ N) (N := N) (cfg := Ux) (ci := ⟨82, [], false, false, []⟩) (ks := Qo) (Co (YN N (fun _ => rfl)) LP) (c := J6 N) (F := fun ls => KO (std (FJ N) N) (xOf ls)) (fun ls => rfl) (fun ls => ZZ (std (FJ N) N) (xOf ls)) h
theorem U8 : Vd Tryz.prog 83 G0 := vt mix PJ Gw [(142, Bd)] (gs Mp g0) rfl (fun _ _ => rfl) fun O x => by kernel_rfl
def Um : Cfg := { gam := [⟨81, [], true, true, []⟩, ⟨82, [], false, false, []⟩, ⟨83, [], true, true, []⟩], imm := false, old := true, ie := [122, 97, 3, 4, 47, 33, 45, 125, 5, 159, 48, 43, 185] }
theorem ZN (O : Alg) (x : Ags O) : XF (O := O) Tryz.prog Um false false [] 36 [] (xr x Q7 0) = KB O x := by kernel_rfl
theorem Q1 {E : Env} {M : Nat} (N : Nat) (h : ∀ ls, E 36 [] ls = F0 N ls) : VV Tryz.prog E M ⟨36, [], false, false, []⟩ :=
 Fu mix (E := C1 N) (N := N) (cfg := Um) (ci := ⟨36, [], false, false, []⟩) (ks := Q7) (Co (ZW N (fun _ => rfl)) (Co (aa N (fun _ => rfl)) (Co (U8 N (fun _ => rfl)) LP))) (c := F0 N) (F := fun ls => KB (std (C1 N) N) (xOf ls)) (fun ls => rfl) (fun ls => ZN (std (C1 N) N) (xOf ls)) h
def Rx : Cfg := { gam := [⟨36, [], false, false, []⟩], imm := false, old := false }
theorem XU (O : Alg) (x : Ags O) : XF (O := O) Tryz.prog Rx false false [] 42 [] (xr x OI 0) = N1 O x := by kernel_rfl
theorem Yu {E : Env} {M : Nat} (N : Nat) (h : ∀ ls, E 42 [] ls = OG N ls) : VV Tryz.prog E M ⟨42, [], false, false, []⟩ :=
 Fu mix (E := H8 N) (N := N) (cfg := Rx) (ci := ⟨42, [], false, false, []⟩) (ks := OI) (Co (Q1 N (fun _ => rfl)) LP) (c := OG N) (F := fun ls => N1 (std (H8 N) N) (xOf ls)) (fun ls => rfl) (fun ls => XU (std (H8 N) N) (xOf ls)) h
theorem ay : Vd Tryz.prog 80 Wf := vt mix Wh Wu [] g0 rfl (fun _ _ => rfl) fun O x => by kernel_rfl
def Tw : Cfg := { gam := [⟨36, [], false, false, []⟩, ⟨42, [], false, false, []⟩, ⟨80, [], true, true, []⟩], imm := false, old := false }
theorem YS (O : Alg) (x : Ags O) : XF (O := O) Tryz.prog Tw true true [] 33 [] (xr x PX 0) = PY O x := by kernel_rfl
theorem ZR : Vd Tryz.prog 33 Gg := fun N h =>
 Fu mix (E := Ix N) (N := N) (cfg := Tw) (ci := ⟨33, [], true, true, []⟩) (ks := PX) (Co (Q1 N (fun _ => rfl)) (Co (Yu N (fun _ => rfl)) (Co (ay N (fun _ => rfl)) LP))) (c := Gg N) (F := fun ls => PY (std (Ix N) N) (xOf ls)) (fun ls => rfl) (fun ls => YS (std (Ix N) N) (xOf ls)) h
def RO : Cfg := { gam := [], imm := false, old := false }
theorem WA (O : Alg) (x : Ags O) : XF (O := O) Tryz.prog RO false false [] 34 [] (xr x Me 0) = GK O x := by kernel_rfl
theorem XP {E : Env} {M : Nat} (N : Nat) (h : ∀ ls, E 34 [] ls = GO N ls) : VV Tryz.prog E M ⟨34, [], false, false, []⟩ :=
 Fu mix (E := Ec N) (N := N) (cfg := RO) (ci := ⟨34, [], false, false, []⟩) (ks := Me) LP (c := GO N) (F := fun ls => GK (std (Ec N) N) (xOf ls)) (fun ls => rfl) (fun ls => WA (std (Ec N) N) (xOf ls)) h
def W3 : Cfg := { gam := [], imm := false, old := false }
theorem Z6 (O : Alg) (x : Ags O) : XF (O := O) Tryz.prog W3 false false [] 35 [] (xr x R2 0) = L8 O x := by kernel_rfl
theorem cE {E : Env} {M : Nat} (N : Nat) (h : ∀ ls, E 35 [] ls = ML N ls) : VV Tryz.prog E M ⟨35, [], false, false, []⟩ :=
 Fu mix (E := IM N) (N := N) (cfg := W3) (ci := ⟨35, [], false, false, []⟩) (ks := R2) LP (c := ML N) (F := fun ls => L8 (std (IM N) N) (xOf ls)) (fun ls => rfl) (fun ls => Z6 (std (IM N) N) (xOf ls)) h
def Rf : Cfg := { gam := [⟨33, [], true, true, []⟩, ⟨34, [], false, false, []⟩, ⟨35, [], false, false, []⟩, ⟨36, [], false, false, []⟩, ⟨37, [], true, true, []⟩], imm := false, old := false }
theorem WW (O : Alg) (x : Ags O) : XF (O := O) Tryz.prog Rf true true [] 7 [] (xr x MO 0) = GZ O x := by kernel_rfl
theorem XV : Vd Tryz.prog 7 GG := fun N h =>
 Fu mix (E := BN N) (N := N) (cfg := Rf) (ci := ⟨7, [], true, true, []⟩) (ks := MO) (Co (ZR N (fun _ => rfl)) (Co (XP N (fun _ => rfl)) (Co (cE N (fun _ => rfl)) (Co (Q1 N (fun _ => rfl)) (Co (Nq N (fun _ => rfl)) LP))))) (c := GG N) (F := fun ls => GZ (std (BN N) N) (xOf ls)) (fun ls => rfl) (fun ls => WW (std (BN N) N) (xOf ls)) h
end Go.Px
