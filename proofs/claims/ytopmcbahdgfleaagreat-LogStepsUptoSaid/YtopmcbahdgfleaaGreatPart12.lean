/- Part 12. -/
import Derived.Test.YtopmcbahdgfleaaGreatPart06
import Derived.Test.YtopmcbahdgfleaaGreatProg
import Derived.Test.YtopmcbahdgfleaaGreatPart08
import Derived.KernelRfl
import Derived.WalkKit
import Derived.Lib.Walk
import Derived.BigCall
import Derived.BigGuard
set_option linter.unusedVariables false
set_option linter.unusedSimpArgs false
namespace Go.Px
open Go.Proofs
set_option maxRecDepth 100000
theorem mix : Tryz.prog.follows .mixedOrders = true := by kernel_rfl
theorem aX : Vd Tryz.prog 95 Il := vt mix UP MB [] g0 rfl (fun _ _ => rfl) fun O x => by kernel_rfl
theorem Pw : Vd Tryz.prog 162 Bx := vt mix Pl Py [] g0 rfl (fun _ _ => rfl) fun O x => by kernel_rfl
theorem Wj : Vd Tryz.prog 96 El := vt mix Pg HI [(162, Bx)] (gs Pw g0) rfl (fun _ _ => rfl) fun O x => by kernel_rfl
theorem XJ : Vd Tryz.prog 97 Fw := vt mix Qt H5 [(162, Bx)] (gs Pw g0) rfl (fun _ _ => rfl) fun O x => by kernel_rfl
theorem Br : Vd Tryz.prog 52 AK := vt mix SL JP [(95, Il), (96, El), (97, Fw)] (gs aX (gs Wj (gs XJ g0))) rfl (fun _ _ => rfl) fun O x => by kernel_rfl
theorem Rn : Vd Tryz.prog 196 CO := fun N h =>
 MF mix (T := 22) (e := 122) (b := 24) Tryz.func196 Tryz.underlying22 (by kernel_rfl) (by decide) (fun O l => by kernel_rfl) (fun O l => by kernel_rfl) h
theorem R6 : Vd Tryz.prog 141 Ca := vt mix Rw JC [(196, CO)] (gs Rn g0) rfl (fun _ _ => rfl) fun O x => by kernel_rfl
theorem aV : Vd Tryz.prog 81 L7 := vt mix Um MD [(52, AK), (141, Ca)] (gs Br (gs R6 g0)) rfl (fun _ _ => rfl) fun O x => by kernel_rfl
theorem DY : Vd Tryz.prog 53 AZ := vt mix NL NP [] g0 rfl (fun _ _ => rfl) fun O x => by kernel_rfl
theorem UB : Vd Tryz.prog 54 DX := vt mix NC FL [(53, AZ)] (gs DY g0) rfl (fun _ _ => rfl) fun O x => by kernel_rfl
theorem Si : Vd Tryz.prog 163 Cz := vt mix MN Ew [] g0 rfl (fun _ _ => rfl) fun O x => by kernel_rfl
theorem Fp : Vd Tryz.prog 98 Ad := vt mix Jr DG [(163, Cz)] (gs Si g0) rfl (fun _ _ => rfl) fun O x => by kernel_rfl
theorem SN : Vd Tryz.prog 55 Cf := vt mix LG EH [(53, AZ), (98, Ad)] (gs DY (gs Fp g0)) rfl (fun _ _ => rfl) fun O x => by kernel_rfl
theorem SR : Vd Tryz.prog 100 Cg := vt mix LO ED [(53, AZ)] (gs DY g0) rfl (fun _ _ => rfl) fun O x => by kernel_rfl
theorem UE : Vd Tryz.prog 56 DS := vt mix NA FN [(100, Cg)] (gs SR g0) rfl (fun _ _ => rfl) fun O x => by kernel_rfl
theorem Kf : Vd Tryz.prog 16 A1 := vt mix PG HP [(52, AK), (53, AZ), (54, DX), (55, Cf), (56, DS)] (gs Br (gs DY (gs UB (gs SN (gs UE g0))))) rfl (fun _ _ => rfl) fun O x => by kernel_rfl
theorem VT : Vd Tryz.prog 165 CE := vt mix OO JW [] g0 rfl (fun _ _ => rfl) fun O x => by kernel_rfl
theorem Qv : Vd Tryz.prog 103 Bb := vt mix Qw Dp [(165, CE)] (gs VT g0) rfl (fun _ _ => rfl) fun O x => by kernel_rfl
theorem Kd : Vd Tryz.prog 61 A2 := vt mix PK DC [(103, Bb)] (gs Qv g0) rfl (fun _ _ => rfl) fun O x => by kernel_rfl
theorem SD : Vd Tryz.prog 62 CC := vt mix Rz EU [] g0 rfl (fun _ _ => rfl) fun O x => by kernel_rfl
theorem VP : Vd Tryz.prog 18 Cm := vt mix OU GF [(16, A1), (61, A2), (62, CC)] (gs Kf (gs Kd (gs SD g0))) rfl (fun _ _ => rfl) fun O x => by kernel_rfl
theorem DD : Vd Tryz.prog 77 AM := fun N h =>
 MF mix (T := 27) (e := 97) (b := 1) Tryz.func77 Tryz.underlying27 (by kernel_rfl) (by decide) (fun O l => by kernel_rfl) (fun O l => by kernel_rfl) h
theorem Ej : Vd Tryz.prog 78 AW := fun N h =>
 MF mix (T := 28) (e := 3) (b := 8) Tryz.func78 Tryz.underlying28 (by kernel_rfl) (by decide) (fun O l => by kernel_rfl) (fun O l => by kernel_rfl) h
theorem EG : Vd Tryz.prog 79 AQ := fun N h =>
 MF mix (T := 29) (e := 4) (b := 1) Tryz.func79 Tryz.underlying29 (by kernel_rfl) (by decide) (fun O l => by kernel_rfl) (fun O l => by kernel_rfl) h
theorem Bz : Vd Tryz.prog 30 AL := vt mix Pj HA [(77, AM), (78, AW), (79, AQ)] (gs DD (gs Ej (gs EG g0))) rfl (fun _ _ => rfl) fun O x => by kernel_rfl
theorem XA : Vd Tryz.prog 104 F1 := vt mix QR H1 [] g0 rfl (fun _ _ => rfl) fun O x => by kernel_rfl
theorem Vi : Vd Tryz.prog 105 Er := vt mix Pc KG [] g0 rfl (fun _ _ => rfl) fun O x => by kernel_rfl
open Go.RowKit Go.Lib in
set_option maxHeartbeats 1000000 in
theorem Nu (s : ByteArray) (c : Int) (w : World) : Calls Tryz.prog 210 #[.string s, .int .u8 c] w fun e w' => e = .returned (.int .i64 (Lib.indexByte s.data.toList c.toNat.toUInt8)) ∧ w' = w := by
 go_enter Tryz.func210, Tryz.ntmps210
 go_wp2
 rw [run_callFunc_extern Tryz.func226 (by kernel_rfl) (by kernel_rfl) (by kernel_rfl) (e := Extern.BytealgIndexByte.indexByte) (by kernel_rfl), Lib.run_indexByteString]
 simp only [Result.andThen]
 rw [Oper.upon_value]
 go_wp2
 go_ret
 exact ⟨rfl, rfl⟩
theorem PC : Vd Tryz.prog 210 Bv := fun N h =>
 ab Tryz.func210 (T9 := 9) (T5 := 5) (T3 := 3) rfl rfl Tryz.underlying9 Tryz.underlying5 Tryz.underlying3 (by kernel_rfl) Nu h
theorem SX : Vd Tryz.prog 166 Ck := vt mix LM EM [(210, Bv)] (gs PC g0) rfl (fun _ _ => rfl) fun O x => by kernel_rfl
theorem YC : Vd Tryz.prog 167 EW := vt mix Ry SA [] g0 rfl (fun _ _ => rfl) fun O x => by kernel_rfl
theorem Zf : Vd Tryz.prog 106 Ha := vt mix S7 K1 [(166, Ck), (167, EW)] (gs SX (gs YC g0)) rfl (fun _ _ => rfl) fun O x => by kernel_rfl
theorem Tc : Vd Tryz.prog 168 Cv := vt mix MV HX [] g0 rfl (fun _ _ => rfl) fun O x => by kernel_rfl
theorem VE : Vd Tryz.prog 107 D0 := vt mix OK GO [(168, Cv)] (gs Tc g0) rfl (fun _ _ => rfl) fun O x => by kernel_rfl
theorem Rs : Vd Tryz.prog 65 CY := vt mix R8 Gb [(104, F1), (105, Er), (106, Ha), (107, D0)] (gs XA (gs Vi (gs Zf (gs VE g0)))) rfl (fun _ _ => rfl) fun O x => by kernel_rfl
theorem UJ : Vd Tryz.prog 109 DT := vt mix NB Ie [] g0 rfl (fun _ _ => rfl) fun O x => by kernel_rfl
theorem V4 : Vd Tryz.prog 66 E1 := vt mix Pf HF [(109, DT)] (gs UJ g0) rfl (fun _ _ => rfl) fun O x => by kernel_rfl
theorem Fu : Vd Tryz.prog 170 Ai := vt mix TO Kh [(77, AM), (78, AW), (79, AQ)] (gs DD (gs Ej (gs EG g0))) rfl (fun _ _ => rfl) fun O x => by kernel_rfl
theorem Fh : Vd Tryz.prog 171 Ah := vt mix Qd IB [] g0 rfl (fun _ _ => rfl) fun O x => by kernel_rfl
theorem YJ : Vd Tryz.prog 110 Gm := vt mix R2 JA [(103, Bb), (170, Ai), (171, Ah)] (gs Qv (gs Fu (gs Fh g0))) rfl (fun _ _ => rfl) fun O x => by kernel_rfl
theorem P8 : Vd Tryz.prog 172 B5 := vt mix UO L6 [(77, AM), (78, AW), (79, AQ)] (gs DD (gs Ej (gs EG g0))) rfl (fun _ _ => rfl) fun O x => by kernel_rfl
theorem Mt : Vd Tryz.prog 211 BT := vt mix R4 JU [] g0 rfl (fun _ _ => rfl) fun O x => by kernel_rfl
theorem Yw : Vd Tryz.prog 212 Hh := vt mix TW Ks [(52, AK), (211, BT)] (gs Br (gs Mt g0)) rfl (fun _ _ => rfl) fun O x => by kernel_rfl
theorem aK : Vd Tryz.prog 173 Ii := vt mix Ue L8 [(52, AK), (98, Ad), (211, BT), (212, Hh)] (gs Br (gs Fp (gs Mt (gs Yw g0)))) rfl (fun _ _ => rfl) fun O x => by kernel_rfl
theorem Zu : Vd Tryz.prog 111 Hb := vt mix TN Ko [(172, B5), (173, Ii)] (gs P8 (gs aK g0)) rfl (fun _ _ => rfl) fun O x => by kernel_rfl
theorem U7 : Vd Tryz.prog 37 D6 := vt mix Oq O0 [] g0 rfl (fun _ _ => rfl) fun O x => by kernel_rfl
theorem ST : Vd Tryz.prog 223 Cj := vt mix LJ EF [] g0 rfl (fun _ _ => rfl) fun O x => by kernel_rfl
theorem OJ : Vd Tryz.prog 197 Bp := vt mix OT GL [(223, Cj)] (gs ST g0) rfl (fun _ _ => rfl) fun O x => by kernel_rfl
theorem SW : Vd Tryz.prog 198 Ci := vt mix LN EK [] g0 rfl (fun _ _ => rfl) fun O x => by kernel_rfl
theorem NF : Vd Tryz.prog 142 Bg := vt mix NI FT [(197, Bp), (198, Ci)] (gs OJ (gs SW g0)) rfl (fun _ _ => rfl) fun O x => by kernel_rfl
theorem GT : Vd Tryz.prog 181 Ao := vt mix SH JH [] g0 rfl (fun _ _ => rfl) fun O x => by kernel_rfl
theorem GA : Vd Tryz.prog 182 Am := vt mix OV GS [(181, Ao)] (gs GT g0) rfl (fun _ _ => rfl) fun O x => by kernel_rfl
theorem WL : Vd Tryz.prog 227 Et := vt mix PU G9 [] g0 rfl (fun _ _ => rfl) fun O x => by kernel_rfl
theorem YB : Vd Tryz.prog 213 GZ := vt mix SM JG [(181, Ao), (182, Am), (227, Et)] (gs GT (gs GA (gs WL g0))) rfl (fun _ _ => rfl) fun O x => by kernel_rfl
theorem NR : Vd Tryz.prog 232 BK := vt mix ND NQ [] g0 rfl (fun _ _ => rfl) fun O x => by kernel_rfl
theorem XE : Vd Tryz.prog 228 FX := vt mix Qx IG [(232, BK)] (gs NR g0) rfl (fun _ _ => rfl) fun O x => by kernel_rfl
theorem Sg : Vd Tryz.prog 233 C0 := vt mix MQ E9 [] g0 rfl (fun _ _ => rfl) fun O x => by kernel_rfl
theorem Ql : Vd Tryz.prog 229 CK := vt mix Jt DA [(233, C0)] (gs Sg g0) rfl (fun _ _ => rfl) fun O x => by kernel_rfl
theorem Sp : Vd Tryz.prog 234 C2 := vt mix MY E7 [] g0 rfl (fun _ _ => rfl) fun O x => by kernel_rfl
theorem U6 : Vd Tryz.prog 230 Dv := vt mix O3 GR [(232, BK), (234, C2)] (gs NR (gs Sp g0)) rfl (fun _ _ => rfl) fun O x => by kernel_rfl
theorem P6 : Vd Tryz.prog 235 B3 := vt mix Iz Cr [] g0 rfl (fun _ _ => rfl) fun O x => by kernel_rfl
theorem RL : Vd Tryz.prog 231 CR := vt mix KR Df [(235, B3)] (gs P6 g0) rfl (fun _ _ => rfl) fun O x => by kernel_rfl
theorem Rf : Vd Tryz.prog 214 CS := vt mix K0 Dk [(228, FX), (229, CK), (230, Dv), (231, CR)] (gs XE (gs Ql (gs U6 (gs RL g0)))) rfl (fun _ _ => rfl) fun O x => by kernel_rfl
theorem YQ : Vd Tryz.prog 215 Gf := vt mix SK JO [(181, Ao), (182, Am)] (gs GT (gs GA g0)) rfl (fun _ _ => rfl) fun O x => by kernel_rfl
theorem UN : Vd Tryz.prog 174 DZ := vt mix NT FM [(61, A2), (197, Bp), (213, GZ), (214, CS), (215, Gf)] (gs Kd (gs OJ (gs YB (gs Rf (gs YQ g0))))) rfl (fun _ _ => rfl) fun O x => by kernel_rfl
theorem Yq : Vd Tryz.prog 175 Hk := vt mix Sc K4 [(170, Ai), (171, Ah)] (gs Fu (gs Fh g0)) rfl (fun _ _ => rfl) fun O x => by kernel_rfl
theorem ZT : Vd Tryz.prog 176 Hg := vt mix S8 Km [(52, AK), (98, Ad), (172, B5), (211, BT)] (gs Br (gs Fp (gs P8 (gs Mt g0)))) rfl (fun _ _ => rfl) fun O x => by kernel_rfl
theorem Wi : Vd Tryz.prog 177 Es := vt mix PX HK [(170, Ai)] (gs Fu g0) rfl (fun _ _ => rfl) fun O x => by kernel_rfl
theorem Wz : Vd Tryz.prog 112 Fn := vt mix QS IP [(30, AL), (37, D6), (142, Bg), (174, DZ), (175, Hk), (176, Hg), (177, Es)] (gs Bz (gs U7 (gs NF (gs UN (gs Yq (gs ZT (gs Wi g0))))))) rfl (fun _ _ => rfl) fun O x => by kernel_rfl
theorem TC : Vd Tryz.prog 178 C4 := vt mix S0 KF [(61, A2), (171, Ah)] (gs Kd (gs Fh g0)) rfl (fun _ _ => rfl) fun O x => by kernel_rfl
theorem Ux : Vd Tryz.prog 113 D8 := vt mix O5 GH [(170, Ai), (171, Ah), (178, C4)] (gs Fu (gs Fh (gs TC g0))) rfl (fun _ _ => rfl) fun O x => by kernel_rfl
theorem XB : Vd Tryz.prog 114 Fv := vt mix Q0 IH [(170, Ai), (178, C4)] (gs Fu (gs TC g0)) rfl (fun _ _ => rfl) fun O x => by kernel_rfl
theorem Vs : Vd Tryz.prog 115 FC := vt mix Pm HH [(62, CC), (170, Ai), (171, Ah)] (gs SD (gs Fu (gs Fh g0))) rfl (fun _ _ => rfl) fun O x => by kernel_rfl
theorem QL : Vd Tryz.prog 180 B6 := vt mix Uj L5 [(77, AM), (78, AW), (79, AQ)] (gs DD (gs Ej (gs EG g0))) rfl (fun _ _ => rfl) fun O x => by kernel_rfl
theorem Wm : Vd Tryz.prog 116 Ec := vt mix PZ HQ [(180, B6)] (gs QL g0) rfl (fun _ _ => rfl) fun O x => by kernel_rfl
theorem XK : Vd Tryz.prog 117 Ff := vt mix Q6 IM [(180, B6), (181, Ao), (182, Am)] (gs QL (gs GT (gs GA g0))) rfl (fun _ _ => rfl) fun O x => by kernel_rfl
theorem Tf : Vd Tryz.prog 118 C3 := vt mix MP E4 [(180, B6), (181, Ao), (182, Am)] (gs QL (gs GT (gs GA g0))) rfl (fun _ _ => rfl) fun O x => by kernel_rfl
theorem V6 : Vd Tryz.prog 119 Ep := vt mix Pn HB [(52, AK), (172, B5)] (gs Br (gs P8 g0)) rfl (fun _ _ => rfl) fun O x => by kernel_rfl
theorem UM : Vd Tryz.prog 120 DR := vt mix NJ FR [(30, AL)] (gs Bz g0) rfl (fun _ _ => rfl) fun O x => by kernel_rfl
theorem NO : Vd Tryz.prog 28 Be := vt mix NK FO [(30, AL)] (gs Bz g0) rfl (fun _ _ => rfl) fun O x => by kernel_rfl
theorem UC : Vd Tryz.prog 121 Da := vt mix NM FQ [(28, Be), (30, AL)] (gs NO (gs Bz g0)) rfl (fun _ _ => rfl) fun O x => by kernel_rfl
theorem U3 : Vd Tryz.prog 122 Dy := vt mix Ot D3 [(30, AL)] (gs Bz g0) rfl (fun _ _ => rfl) fun O x => by kernel_rfl
theorem Vr : Vd Tryz.prog 20 E3 := vt mix PT PE [] g0 rfl (fun _ _ => rfl) fun O x => by kernel_rfl
theorem U9 : Vd Tryz.prog 123 D5 := vt mix Om GE [(20, E3), (30, AL)] (gs Vr (gs Bz g0)) rfl (fun _ _ => rfl) fun O x => by kernel_rfl
theorem UG : Vd Tryz.prog 67 DU := vt mix NN Dc [(110, Gm), (111, Hb), (112, Fn), (113, D8), (114, Fv), (115, FC), (116, Ec), (117, Ff), (118, C3), (119, Ep), (120, DR), (121, Da), (122, Dy), (123, D5)] (gs YJ (gs Zu (gs Wz (gs Ux (gs XB (gs Vs (gs Wm (gs XK (gs Tf (gs V6 (gs UM (gs UC (gs U3 (gs U9 g0)))))))))))))) rfl (fun _ _ => rfl) fun O x => by kernel_rfl
theorem W0 : Vd Tryz.prog 22 Fz := vt mix QV IE [(16, A1), (18, Cm), (30, AL), (65, CY), (66, E1), (67, DU)] (gs Kf (gs VP (gs Bz (gs Rs (gs V4 (gs UG g0)))))) rfl (fun _ _ => rfl) fun O x => by kernel_rfl
theorem Wu : Vd Tryz.prog 25 Em := vt mix Pa HM [(52, AK), (53, AZ)] (gs Br (gs DY g0)) rfl (fun _ _ => rfl) fun O x => by kernel_rfl
theorem JE : Vd Tryz.prog 156 A0 := vt mix SB JF [] g0 rfl (fun _ _ => rfl) fun O x => by kernel_rfl
theorem R9 : Vd Tryz.prog 154 CV := vt mix R0 JJ [(156, A0)] (gs JE g0) rfl (fun _ _ => rfl) fun O x => by kernel_rfl
theorem YA : Vd Tryz.prog 155 Gk := vt mix SJ JS [] g0 rfl (fun _ _ => rfl) fun O x => by kernel_rfl
theorem SE : Vd Tryz.prog 91 CZ := vt mix R5 I8 [(16, A1), (52, AK), (154, CV), (155, Gk)] (gs Kf (gs Br (gs R9 (gs YA g0)))) rfl (fun _ _ => rfl) fun O x => by kernel_rfl
theorem YW : Vd Tryz.prog 92 Gd := vt mix R1 JN [(30, AL), (141, Ca)] (gs Bz (gs R6 g0)) rfl (fun _ _ => rfl) fun O x => by kernel_rfl
theorem Mo : Vd Tryz.prog 160 BU := vt mix SC JD [] g0 rfl (fun _ _ => rfl) fun O x => by kernel_rfl
theorem MW : Vd Tryz.prog 208 BM := vt mix Mh Eg [] g0 rfl (fun _ _ => rfl) fun O x => by kernel_rfl
theorem WG : Vd Tryz.prog 161 Ek := vt mix PN G8 [(91, CZ), (156, A0), (160, BU), (208, BM)] (gs SE (gs JE (gs Mo (gs MW g0)))) rfl (fun _ _ => rfl) fun O x => by kernel_rfl
theorem Xc : Vd Tryz.prog 207 FV := vt mix Qf H2 [(156, A0), (160, BU)] (gs JE (gs Mo g0)) rfl (fun _ _ => rfl) fun O x => by kernel_rfl
theorem Sv : Vd Tryz.prog 49 Fc := vt mix Sj KX [(22, Fz), (25, Em), (28, Be), (65, CY), (91, CZ), (92, Gd), (154, CV), (156, A0), (160, BU), (161, Ek), (207, FV), (208, BM)] (gs W0 (gs Wu (gs NO (gs Rs (gs SE (gs YW (gs R9 (gs JE (gs Mo (gs WG (gs Xc (gs MW g0)))))))))))) rfl (fun _ _ => rfl) fun O x => by kernel_rfl
def Vx : Cfg := { gam := [⟨49, [], true, true, []⟩], imm := false, old := false }
theorem aQ (O : Alg) (x : Ags O) : XF (O := O) Tryz.prog Vx false false [] 82 [] (xr x RA 0) = K5 O x := by kernel_rfl
theorem br {E : Env} {M : Nat} (N : Nat) (h : ∀ ls, E 82 [] ls = Ka N ls) : VV Tryz.prog E M ⟨82, [], false, false, []⟩ :=
 Cb mix (E := F0 N) (N := N) (cfg := Vx) (ci := ⟨82, [], false, false, []⟩) (ks := RA) (A4 (Sv N (fun _ => rfl)) Fd) (c := Ka N) (F := fun ls => K5 (std (F0 N) N) (xOf ls)) (fun ls => rfl) (fun ls => aQ (std (F0 N) N) (xOf ls)) h
theorem We : Vd Tryz.prog 83 HL := vt mix Pz HG [(142, Bg)] (gs NF g0) rfl (fun _ _ => rfl) fun O x => by kernel_rfl
def WU : Cfg := { gam := [⟨81, [], true, true, []⟩, ⟨82, [], false, false, []⟩, ⟨83, [], true, true, []⟩], imm := false, old := true, ie := [122, 97, 3, 4, 47, 33, 45, 125, 5, 159, 48, 43, 185] }
theorem aW (O : Alg) (x : Ags O) : XF (O := O) Tryz.prog WU false false [] 36 [] (xr x RT 0) = Ky O x := by kernel_rfl
theorem Vu {E : Env} {M : Nat} (N : Nat) (h : ∀ ls, E 36 [] ls = IR N ls) : VV Tryz.prog E M ⟨36, [], false, false, []⟩ :=
 Cb mix (E := Cy N) (N := N) (cfg := WU) (ci := ⟨36, [], false, false, []⟩) (ks := RT) (A4 (aV N (fun _ => rfl)) (A4 (br N (fun _ => rfl)) (A4 (We N (fun _ => rfl)) Fd))) (c := IR N) (F := fun ls => Ky (std (Cy N) N) (xOf ls)) (fun ls => rfl) (fun ls => aW (std (Cy N) N) (xOf ls)) h
def So : Cfg := { gam := [⟨36, [], false, false, []⟩], imm := false, old := false }
theorem YN (O : Alg) (x : Ags O) : XF (O := O) Tryz.prog So false false [] 42 [] (xr x Oz 0) = Ho O x := by kernel_rfl
theorem Kj {E : Env} {M : Nat} (N : Nat) (h : ∀ ls, E 42 [] ls = Bo N ls) : VV Tryz.prog E M ⟨42, [], false, false, []⟩ :=
 Cb mix (E := Dq N) (N := N) (cfg := So) (ci := ⟨42, [], false, false, []⟩) (ks := Oz) (A4 (Vu N (fun _ => rfl)) Fd) (c := Bo N) (F := fun ls => Ho (std (Dq N) N) (xOf ls)) (fun ls => rfl) (fun ls => YN (std (Dq N) N) (xOf ls)) h
theorem dD : Vd Tryz.prog 80 X7 := vt mix Xr Xz [] g0 rfl (fun _ _ => rfl) fun O x => by kernel_rfl
def Uh : Cfg := { gam := [⟨36, [], false, false, []⟩, ⟨42, [], false, false, []⟩, ⟨80, [], true, true, []⟩], imm := false, old := false }
theorem Zx (O : Alg) (x : Ags O) : XF (O := O) Tryz.prog Uh true true [] 33 [] (xr x P2 0) = QK O x := by kernel_rfl
theorem aU : Vd Tryz.prog 33 Gw := fun N h =>
 Cb mix (E := JM N) (N := N) (cfg := Uh) (ci := ⟨33, [], true, true, []⟩) (ks := P2) (A4 (Vu N (fun _ => rfl)) (A4 (Kj N (fun _ => rfl)) (A4 (dD N (fun _ => rfl)) Fd))) (c := Gw N) (F := fun ls => QK (std (JM N) N) (xOf ls)) (fun ls => rfl) (fun ls => Zx (std (JM N) N) (xOf ls)) h
def Rt : Cfg := { gam := [], imm := false, old := false }
theorem Xb (O : Alg) (x : Ags O) : XF (O := O) Tryz.prog Rt false false [] 34 [] (xr x M0 0) = Gn O x := by kernel_rfl
theorem YF {E : Env} {M : Nat} (N : Nat) (h : ∀ ls, E 34 [] ls = GW N ls) : VV Tryz.prog E M ⟨34, [], false, false, []⟩ :=
 Cb mix (E := En N) (N := N) (cfg := Rt) (ci := ⟨34, [], false, false, []⟩) (ks := M0) Fd (c := GW N) (F := fun ls => Gn (std (En N) N) (xOf ls)) (fun ls => rfl) (fun ls => Xb (std (En N) N) (xOf ls)) h
def X8 : Cfg := { gam := [], imm := false, old := false }
theorem cA (O : Alg) (x : Ags O) : XF (O := O) Tryz.prog X8 false false [] 35 [] (xr x TD 0) = ML O x := by kernel_rfl
theorem cf {E : Env} {M : Nat} (N : Nat) (h : ∀ ls, E 35 [] ls = Mj N ls) : VV Tryz.prog E M ⟨35, [], false, false, []⟩ :=
 Cb mix (E := Iv N) (N := N) (cfg := X8) (ci := ⟨35, [], false, false, []⟩) (ks := TD) Fd (c := Mj N) (F := fun ls => ML (std (Iv N) N) (xOf ls)) (fun ls => rfl) (fun ls => cA (std (Iv N) N) (xOf ls)) h
def Uo : Cfg := { gam := [⟨42, [], false, false, []⟩, ⟨52, [], true, true, []⟩], imm := false, old := false }
theorem Yl (O : Alg) (x : Ags O) : XF (O := O) Tryz.prog Uo true true [] 44 [] (xr x QI 0) = I0 O x := by kernel_rfl
theorem ah : Vd Tryz.prog 44 Iu := fun N h =>
 Cb mix (E := DN N) (N := N) (cfg := Uo) (ci := ⟨44, [], true, true, []⟩) (ks := QI) (A4 (Kj N (fun _ => rfl)) (A4 (Br N (fun _ => rfl)) Fd)) (c := Iu N) (F := fun ls => I0 (std (DN N) N) (xOf ls)) (fun ls => rfl) (fun ls => Yl (std (DN N) N) (xOf ls)) h
def ZB : Cfg := { gam := [⟨42, [], false, false, []⟩, ⟨52, [], true, true, []⟩], imm := false, old := false }
theorem cx (O : Alg) (x : Ags O) : XF (O := O) Tryz.prog ZB false false [] 46 [] (xr x U0 0) = OL O x := by kernel_rfl
theorem eD {E : Env} {M : Nat} (N : Nat) (h : ∀ ls, E 46 [] ls = OI N ls) : VV Tryz.prog E M ⟨46, [], false, false, []⟩ :=
 Cb mix (E := GQ N) (N := N) (cfg := ZB) (ci := ⟨46, [], false, false, []⟩) (ks := U0) (A4 (Kj N (fun _ => rfl)) (A4 (Br N (fun _ => rfl)) Fd)) (c := OI N) (F := fun ls => OL (std (GQ N) N) (xOf ls)) (fun ls => rfl) (fun ls => cx (std (GQ N) N) (xOf ls)) h
theorem WZ : Vd Tryz.prog 152 E0 := vt mix Pv HD [] g0 rfl (fun _ _ => rfl) fun O x => by kernel_rfl
theorem RZ : Vd Tryz.prog 153 CP := vt mix KL Di [] g0 rfl (fun _ _ => rfl) fun O x => by kernel_rfl
theorem Y1 : Vd Tryz.prog 89 KO := vt mix Tk KY [(152, E0), (153, CP)] (gs WZ (gs RZ g0)) rfl (fun _ _ => rfl) fun O x => by kernel_rfl
theorem Q7 : Vd Tryz.prog 73 CM := vt mix Ju DE [] g0 rfl (fun _ _ => rfl) fun O x => by kernel_rfl
theorem Sf : Vd Tryz.prog 74 Cx := vt mix MT Ez [] g0 rfl (fun _ _ => rfl) fun O x => by kernel_rfl
theorem SU : Vd Tryz.prog 75 Ch := vt mix LP EL [] g0 rfl (fun _ _ => rfl) fun O x => by kernel_rfl
theorem Ut : Vd Tryz.prog 76 D7 := vt mix Ok GC [] g0 rfl (fun _ _ => rfl) fun O x => by kernel_rfl
theorem XP : Vd Tryz.prog 27 IL := vt mix QZ H3 [(73, CM), (74, Cx), (75, Ch), (76, D7)] (gs Q7 (gs Sf (gs SU (gs Ut g0)))) rfl (fun _ _ => rfl) fun O x => by kernel_rfl
def Gt : Cfg := { gam := [⟨27, [], true, true, []⟩], imm := false, old := false }
theorem Mc (O : Alg) (x : Ags O) : XF (O := O) Tryz.prog Gt true true [] 90 [27] (xr x DQ 0) = BS O x := by kernel_rfl
theorem Mu {E : Env} {M : Nat} (N : Nat) (h : ∀ ls, E 90 [27] ls = BW N ls) : VV Tryz.prog E M ⟨90, [27], true, true, []⟩ :=
 Cb mix (E := Ax N) (N := N) (cfg := Gt) (ci := ⟨90, [27], true, true, []⟩) (ks := DQ) (A4 (XP N (fun _ => rfl)) Fd) (c := BW N) (F := fun ls => BS (std (Ax N) N) (xOf ls)) (fun ls => rfl) (fun ls => Mc (std (Ax N) N) (xOf ls)) h
def TS : Cfg := { gam := [⟨89, [], true, true, []⟩, ⟨90, [27], true, true, []⟩], imm := false, old := false }
theorem YR (O : Alg) (x : Ags O) : XF (O := O) Tryz.prog TS true true [] 48 [] (xr x Oy 0) = HZ O x := by kernel_rfl
theorem Yr : Vd Tryz.prog 48 Ht := fun N h =>
 Cb mix (E := Co N) (N := N) (cfg := TS) (ci := ⟨48, [], true, true, []⟩) (ks := Oy) (A4 (Y1 N (fun _ => rfl)) (A4 (Mu N (fun _ => rfl)) Fd)) (c := Ht N) (F := fun ls => HZ (std (Co N) N) (xOf ls)) (fun ls => rfl) (fun ls => YR (std (Co N) N) (xOf ls)) h
def Qc : Cfg := { gam := [⟨33, [], true, true, []⟩, ⟨34, [], false, false, []⟩, ⟨35, [], false, false, []⟩, ⟨42, [], false, false, []⟩, ⟨44, [], true, true, []⟩, ⟨46, [], false, false, []⟩, ⟨48, [], true, true, []⟩, ⟨49, [], true, true, []⟩], imm := false, old := false }
theorem Vl (O : Alg) (x : Ags O) : XF (O := O) Tryz.prog Qc true true [] 12 [] (xr x Lz 0) = Fk O x := by kernel_rfl
theorem XD : Vd Tryz.prog 12 Fb := fun N h =>
 Cb mix (E := Aq N) (N := N) (cfg := Qc) (ci := ⟨12, [], true, true, []⟩) (ks := Lz) (A4 (aU N (fun _ => rfl)) (A4 (YF N (fun _ => rfl)) (A4 (cf N (fun _ => rfl)) (A4 (Kj N (fun _ => rfl)) (A4 (ah N (fun _ => rfl)) (A4 (eD N (fun _ => rfl)) (A4 (Yr N (fun _ => rfl)) (A4 (Sv N (fun _ => rfl)) Fd)))))))) (c := Fb N) (F := fun ls => Fk (std (Aq N) N) (xOf ls)) (fun ls => rfl) (fun ls => Vl (std (Aq N) N) (xOf ls)) h
end Go.Px
