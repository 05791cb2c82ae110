/- Part 14. -/
import Derived.Test.YtibhmjjjbblhmaaGreatPart06
import Derived.Test.YtibhmjjjbblhmaaGreatProg
import Derived.Test.YtibhmjjjbblhmaaGreatPart08
import Derived.KernelRfl
import Derived.WalkKit
import Derived.Lib.Walk
import Derived.BigCall
import Derived.BigGuard
import Derived.Test.YtibhmjjjbblhmaaGreatPart13
set_option linter.unusedVariables false
set_option linter.unusedSimpArgs false
namespace Go.Px
open Go.Proofs
set_option maxRecDepth 100000
theorem mix : Tryz.prog.follows .mixedOrders = true := by kernel_rfl
theorem ct : Vd Tryz.prog 53 Je := vt mix WN M6 [] g0 rfl (fun _ _ => rfl) fun O x => by kernel_rfl
theorem QR : Vd Tryz.prog 86 CD := vt mix QW Qx [] g0 rfl (fun _ _ => rfl) fun O x => by kernel_rfl
theorem YC : Vd Tryz.prog 54 FR := vt mix Q6 Hz [(86, CD)] (gs QR g0) rfl (fun _ _ => rfl) fun O x => by kernel_rfl
theorem Y6 : Vd Tryz.prog 55 GF := vt mix SD Ip [(86, CD)] (gs QR g0) rfl (fun _ _ => rfl) fun O x => by kernel_rfl
theorem CP : Vd Tryz.prog 35 AN := vt mix TI J2 [(53, Je), (54, FR), (55, GF)] (gs ct (gs YC (gs Y6 g0))) rfl (fun _ _ => rfl) fun O x => by kernel_rfl
theorem Sa : Vd Tryz.prog 57 Cd := fun N h =>
 Jk mix (T := 22) (e := 102) (b := 24) Tryz.func57 Tryz.underlying22 (by kernel_rfl) (by decide) (fun O l => by kernel_rfl) (fun O l => by kernel_rfl) h
theorem TP : Vd Tryz.prog 40 Cj := vt mix Te KH [(57, Cd)] (gs Sa g0) rfl (fun _ _ => rfl) fun O x => by kernel_rfl
theorem Vz : Vd Tryz.prog 26 Fl := vt mix WH M9 [(35, AN), (40, Cj)] (gs CP (gs TP g0)) rfl (fun _ _ => rfl) fun O x => by kernel_rfl
theorem Dc : Vd Tryz.prog 58 AO := fun N h =>
 Jk mix (T := 80) (e := 104) (b := 1) Tryz.func58 Tryz.underlying80 (by kernel_rfl) (by decide) (fun O l => by kernel_rfl) (fun O l => by kernel_rfl) h
theorem FF : Vd Tryz.prog 59 AX := fun N h =>
 Jk mix (T := 81) (e := 3) (b := 8) Tryz.func59 Tryz.underlying81 (by kernel_rfl) (by decide) (fun O l => by kernel_rfl) (fun O l => by kernel_rfl) h
theorem Ez : Vd Tryz.prog 60 AU := fun N h =>
 Jk mix (T := 82) (e := 4) (b := 1) Tryz.func60 Tryz.underlying82 (by kernel_rfl) (by decide) (fun O l => by kernel_rfl) (fun O l => by kernel_rfl) h
theorem CE : Vd Tryz.prog 41 AL := vt mix Qu Hk [(58, AO), (59, AX), (60, AU)] (gs Dc (gs FF (gs Ez g0))) rfl (fun _ _ => rfl) fun O x => by kernel_rfl
theorem TG : Vd Tryz.prog 27 Cl := vt mix TD J0 [(40, Cj), (41, AL)] (gs TP (gs CE g0)) rfl (fun _ _ => rfl) fun O x => by kernel_rfl
theorem Dl : Vd Tryz.prog 89 Aa := vt mix OE OW [] g0 rfl (fun _ _ => rfl) fun O x => by kernel_rfl
theorem Vo : Vd Tryz.prog 90 Dm := vt mix Oe Fu [(89, Aa)] (gs Dl g0) rfl (fun _ _ => rfl) fun O x => by kernel_rfl
theorem Ub : Vd Tryz.prog 121 DH := vt mix NS FY [] g0 rfl (fun _ _ => rfl) fun O x => by kernel_rfl
theorem GO : Vd Tryz.prog 105 Af := vt mix Kl Dd [(121, DH)] (gs Ub g0) rfl (fun _ _ => rfl) fun O x => by kernel_rfl
theorem Tp : Vd Tryz.prog 91 Cx := vt mix MF Et [(89, Aa), (105, Af)] (gs Dl (gs GO g0)) rfl (fun _ _ => rfl) fun O x => by kernel_rfl
theorem Tr : Vd Tryz.prog 107 C1 := vt mix MJ En [(89, Aa)] (gs Dl g0) rfl (fun _ _ => rfl) fun O x => by kernel_rfl
theorem Vn : Vd Tryz.prog 92 Dy := vt mix Ob Ft [(107, C1)] (gs Tr g0) rfl (fun _ _ => rfl) fun O x => by kernel_rfl
theorem Lj : Vd Tryz.prog 61 BC := vt mix Qa Ho [(35, AN), (89, Aa), (90, Dm), (91, Cx), (92, Dy)] (gs CP (gs Dl (gs Vo (gs Tp (gs Vn g0))))) rfl (fun _ _ => rfl) fun O x => by kernel_rfl
theorem KB : Vd Tryz.prog 68 A9 := vt mix Tf J9 [] g0 rfl (fun _ _ => rfl) fun O x => by kernel_rfl
theorem TN : Vd Tryz.prog 62 Cr := vt mix TB KI [(68, A9)] (gs KB g0) rfl (fun _ _ => rfl) fun O x => by kernel_rfl
theorem Z9 : Vd Tryz.prog 63 HB := vt mix TE Jv [] g0 rfl (fun _ _ => rfl) fun O x => by kernel_rfl
theorem TF : Vd Tryz.prog 42 Cm := vt mix Tb KA [(35, AN), (61, BC), (62, Cr), (63, HB)] (gs CP (gs Lj (gs TN (gs Z9 g0)))) rfl (fun _ _ => rfl) fun O x => by kernel_rfl
theorem ZL : Vd Tryz.prog 64 GJ := vt mix Rv Ix [] g0 rfl (fun _ _ => rfl) fun O x => by kernel_rfl
theorem XP : Vd Tryz.prog 65 Fh := vt mix Q4 LP [] g0 rfl (fun _ _ => rfl) fun O x => by kernel_rfl
open Go.RowKit Go.Lib in
set_option maxHeartbeats 1000000 in
theorem Ow (s : ByteArray) (c : Int) (w : World) : Calls Tryz.prog 108 #[.string s, .int .u8 c] w fun e w' => e = .returned (.int .i64 (Lib.indexByte s.data.toList c.toNat.toUInt8)) ∧ w' = w := by
 go_enter Tryz.func108, Tryz.ntmps108
 go_wp2
 rw [run_callFunc_extern Tryz.func123 (by kernel_rfl) (by kernel_rfl) (by kernel_rfl) (e := Extern.BytealgIndexByte.indexByte) (by kernel_rfl), Lib.run_indexByteString]
 simp only [Result.andThen]
 rw [Oper.upon_value]
 go_wp2
 go_ret
 exact ⟨rfl, rfl⟩
theorem QF : Vd Tryz.prog 108 CA := fun N h =>
 dJ Tryz.func108 (T9 := 9) (T5 := 5) (T3 := 3) rfl rfl Tryz.underlying9 Tryz.underlying5 Tryz.underlying3 (by kernel_rfl) Ow h
theorem Tv : Vd Tryz.prog 93 Cz := vt mix ML Ew [(108, CA)] (gs QF g0) rfl (fun _ _ => rfl) fun O x => by kernel_rfl
theorem Zs : Vd Tryz.prog 94 FC := vt mix TX TU [] g0 rfl (fun _ _ => rfl) fun O x => by kernel_rfl
theorem bv : Vd Tryz.prog 66 H2 := vt mix U5 LW [(93, Cz), (94, FC)] (gs Tv (gs Zs g0)) rfl (fun _ _ => rfl) fun O x => by kernel_rfl
theorem VE : Vd Tryz.prog 95 DM := vt mix NO IZ [] g0 rfl (fun _ _ => rfl) fun O x => by kernel_rfl
theorem XE : Vd Tryz.prog 67 Ed := vt mix Pf G3 [(95, DM)] (gs VE g0) rfl (fun _ _ => rfl) fun O x => by kernel_rfl
theorem Td : Vd Tryz.prog 43 Co := vt mix S9 HC [(64, GJ), (65, Fh), (66, H2), (67, Ed)] (gs ZL (gs XP (gs bv (gs XE g0)))) rfl (fun _ _ => rfl) fun O x => by kernel_rfl
theorem N2 : Vd Tryz.prog 72 Bj := vt mix Tg KE [] g0 rfl (fun _ _ => rfl) fun O x => by kernel_rfl
theorem Nk : Vd Tryz.prog 99 BW := vt mix NX FP [] g0 rfl (fun _ _ => rfl) fun O x => by kernel_rfl
theorem YF : Vd Tryz.prog 73 FI := vt mix Qv Ht [(42, Cm), (68, A9), (72, Bj), (99, BW)] (gs TF (gs KB (gs N2 (gs Nk g0)))) rfl (fun _ _ => rfl) fun O x => by kernel_rfl
theorem Xn : Vd Tryz.prog 96 Fk := vt mix Qk Hp [(35, AN), (89, Aa)] (gs CP (gs Dl g0)) rfl (fun _ _ => rfl) fun O x => by kernel_rfl
theorem ZM : Vd Tryz.prog 97 GU := vt mix Rd Ij [(68, A9), (72, Bj)] (gs KB (gs N2 g0)) rfl (fun _ _ => rfl) fun O x => by kernel_rfl
theorem Vt : Vd Tryz.prog 125 Dw := vt mix OS JQ [] g0 rfl (fun _ _ => rfl) fun O x => by kernel_rfl
theorem XS : Vd Tryz.prog 109 Fg := vt mix QV Hx [(125, Dw)] (gs Vt g0) rfl (fun _ _ => rfl) fun O x => by kernel_rfl
theorem F7 : Vd Tryz.prog 155 Ak := vt mix Ux LR [(58, AO), (59, AX), (60, AU)] (gs Dc (gs FF (gs Ez g0))) rfl (fun _ _ => rfl) fun O x => by kernel_rfl
theorem Wz : Vd Tryz.prog 179 CU := vt mix P6 KZ [] g0 rfl (fun _ _ => rfl) fun O x => by kernel_rfl
theorem Rs : Vd Tryz.prog 156 Bk := vt mix SI EG [(179, CU)] (gs Wz g0) rfl (fun _ _ => rfl) fun O x => by kernel_rfl
theorem F8 : Vd Tryz.prog 157 Am := vt mix Re Ik [] g0 rfl (fun _ _ => rfl) fun O x => by kernel_rfl
theorem Z7 : Vd Tryz.prog 126 HA := vt mix TK J8 [(155, Ak), (156, Bk), (157, Am)] (gs F7 (gs Rs (gs F8 g0))) rfl (fun _ _ => rfl) fun O x => by kernel_rfl
theorem RV : Vd Tryz.prog 158 CL := vt mix V4 M2 [(58, AO), (59, AX), (60, AU)] (gs Dc (gs FF (gs Ez g0))) rfl (fun _ _ => rfl) fun O x => by kernel_rfl
theorem N7 : Vd Tryz.prog 180 Bg := vt mix TQ KG [] g0 rfl (fun _ _ => rfl) fun O x => by kernel_rfl
theorem cV : Vd Tryz.prog 181 IE := vt mix Uz Lt [(35, AN), (180, Bg)] (gs CP (gs N7 g0)) rfl (fun _ _ => rfl) fun O x => by kernel_rfl
theorem cz : Vd Tryz.prog 159 JZ := vt mix V0 ND [(35, AN), (105, Af), (180, Bg), (181, IE)] (gs CP (gs GO (gs N7 (gs cV g0)))) rfl (fun _ _ => rfl) fun O x => by kernel_rfl
theorem ai : Vd Tryz.prog 127 ID := vt mix U4 Li [(158, CL), (159, JZ)] (gs RV (gs cz g0)) rfl (fun _ _ => rfl) fun O x => by kernel_rfl
theorem To : Vd Tryz.prog 153 C0 := vt mix MG Eo [] g0 rfl (fun _ _ => rfl) fun O x => by kernel_rfl
theorem P1 : Vd Tryz.prog 119 B2 := vt mix Pw Gj [(153, C0)] (gs To g0) rfl (fun _ _ => rfl) fun O x => by kernel_rfl
theorem Tk : Vd Tryz.prog 120 Cw := vt mix MI Em [] g0 rfl (fun _ _ => rfl) fun O x => by kernel_rfl
theorem OY : Vd Tryz.prog 104 Br := vt mix OK Fv [(119, B2), (120, Cw)] (gs P1 (gs Tk g0)) rfl (fun _ _ => rfl) fun O x => by kernel_rfl
theorem Lz : Vd Tryz.prog 140 BA := vt mix Q8 DS [(156, Bk)] (gs Rs g0) rfl (fun _ _ => rfl) fun O x => by kernel_rfl
theorem HM : Vd Tryz.prog 168 Aq := vt mix TW Jx [] g0 rfl (fun _ _ => rfl) fun O x => by kernel_rfl
theorem Gq : Vd Tryz.prog 169 Ap := vt mix Pi Gk [(168, Aq)] (gs HM g0) rfl (fun _ _ => rfl) fun O x => by kernel_rfl
theorem YL : Vd Tryz.prog 191 FH := vt mix QU Hy [] g0 rfl (fun _ _ => rfl) fun O x => by kernel_rfl
theorem Z8 : Vd Tryz.prog 182 HP := vt mix TO J5 [(168, Aq), (169, Ap), (191, FH)] (gs HM (gs Gq (gs YL g0))) rfl (fun _ _ => rfl) fun O x => by kernel_rfl
theorem OJ : Vd Tryz.prog 210 BR := vt mix ON Od [] g0 rfl (fun _ _ => rfl) fun O x => by kernel_rfl
theorem Y9 : Vd Tryz.prog 192 F5 := vt mix R2 Il [(210, BR)] (gs OJ g0) rfl (fun _ _ => rfl) fun O x => by kernel_rfl
theorem UK : Vd Tryz.prog 211 DK := vt mix Nf Fb [] g0 rfl (fun _ _ => rfl) fun O x => by kernel_rfl
theorem R3 : Vd Tryz.prog 193 CZ := vt mix Kk DT [(211, DK)] (gs UK g0) rfl (fun _ _ => rfl) fun O x => by kernel_rfl
theorem Ut : Vd Tryz.prog 212 DE := vt mix Nb Fd [] g0 rfl (fun _ _ => rfl) fun O x => by kernel_rfl
theorem XM : Vd Tryz.prog 194 EY := vt mix Po Gx [(210, BR), (212, DE)] (gs OJ (gs Ut g0)) rfl (fun _ _ => rfl) fun O x => by kernel_rfl
theorem RU : Vd Tryz.prog 213 CK := vt mix JY DB [] g0 rfl (fun _ _ => rfl) fun O x => by kernel_rfl
theorem Sn : Vd Tryz.prog 195 Ce := vt mix LJ D9 [(213, CK)] (gs RU g0) rfl (fun _ _ => rfl) fun O x => by kernel_rfl
theorem Sx : Vd Tryz.prog 183 Cc := vt mix LE D4 [(192, F5), (193, CZ), (194, EY), (195, Ce)] (gs Y9 (gs R3 (gs XM (gs Sn g0)))) rfl (fun _ _ => rfl) fun O x => by kernel_rfl
theorem Zu : Vd Tryz.prog 184 HQ := vt mix TH J7 [(168, Aq), (169, Ap)] (gs HM (gs Gq g0)) rfl (fun _ _ => rfl) fun O x => by kernel_rfl
theorem Vq : Vd Tryz.prog 160 Dk := vt mix OZ F2 [(119, B2), (140, BA), (182, HP), (183, Cc), (184, HQ)] (gs P1 (gs Lz (gs Z8 (gs Sx (gs Zu g0))))) rfl (fun _ _ => rfl) fun O x => by kernel_rfl
theorem bV : Vd Tryz.prog 161 IH := vt mix Uo LH [(155, Ak), (157, Am)] (gs F7 (gs F8 g0)) rfl (fun _ _ => rfl) fun O x => by kernel_rfl
theorem Wi : Vd Tryz.prog 162 EL := vt mix Pm Pd [] g0 rfl (fun _ _ => rfl) fun O x => by kernel_rfl
theorem bS : Vd Tryz.prog 163 IC := vt mix Ur LF [(35, AN), (105, Af), (158, CL), (180, Bg)] (gs CP (gs GO (gs RV (gs N7 g0)))) rfl (fun _ _ => rfl) fun O x => by kernel_rfl
theorem Xc : Vd Tryz.prog 164 FK := vt mix Qo H0 [(155, Ak)] (gs F7 g0) rfl (fun _ _ => rfl) fun O x => by kernel_rfl
theorem ZG : Vd Tryz.prog 128 GL := vt mix Rh I8 [(41, AL), (104, Br), (160, Dk), (161, IH), (162, EL), (163, IC), (164, FK)] (gs CE (gs OY (gs Vq (gs bV (gs Wi (gs bS (gs Xc g0))))))) rfl (fun _ _ => rfl) fun O x => by kernel_rfl
theorem T4 : Vd Tryz.prog 165 DQ := vt mix U3 L4 [(140, BA), (157, Am)] (gs Lz (gs F8 g0)) rfl (fun _ _ => rfl) fun O x => by kernel_rfl
theorem Wy : Vd Tryz.prog 129 Ef := vt mix Pq Gi [(155, Ak), (157, Am), (165, DQ)] (gs F7 (gs F8 (gs T4 g0))) rfl (fun _ _ => rfl) fun O x => by kernel_rfl
theorem Yo : Vd Tryz.prog 130 GK := vt mix R0 I7 [(155, Ak), (165, DQ)] (gs F7 (gs T4 g0)) rfl (fun _ _ => rfl) fun O x => by kernel_rfl
theorem TC : Vd Tryz.prog 141 CS := vt mix TR E6 [] g0 rfl (fun _ _ => rfl) fun O x => by kernel_rfl
theorem X4 : Vd Tryz.prog 131 FE := vt mix Qs Hl [(141, CS), (155, Ak), (157, Am)] (gs TC (gs F7 (gs F8 g0))) rfl (fun _ _ => rfl) fun O x => by kernel_rfl
theorem RN : Vd Tryz.prog 167 CO := vt mix WJ M3 [(58, AO), (59, AX), (60, AU)] (gs Dc (gs FF (gs Ez g0))) rfl (fun _ _ => rfl) fun O x => by kernel_rfl
theorem YI : Vd Tryz.prog 132 FN := vt mix Qp Hr [(167, CO)] (gs RN g0) rfl (fun _ _ => rfl) fun O x => by kernel_rfl
theorem ZA : Vd Tryz.prog 133 GN := vt mix SH Ih [(167, CO), (168, Aq), (169, Ap)] (gs RN (gs HM (gs Gq g0))) rfl (fun _ _ => rfl) fun O x => by kernel_rfl
theorem UN : Vd Tryz.prog 134 DI := vt mix NF FT [(167, CO), (168, Aq), (169, Ap)] (gs RN (gs HM (gs Gq g0))) rfl (fun _ _ => rfl) fun O x => by kernel_rfl
theorem YS : Vd Tryz.prog 135 Fj := vt mix Q7 Hn [(35, AN), (158, CL)] (gs CP (gs RV g0)) rfl (fun _ _ => rfl) fun O x => by kernel_rfl
theorem Vf : Vd Tryz.prog 136 Dt := vt mix OI F3 [(41, AL)] (gs CE g0) rfl (fun _ _ => rfl) fun O x => by kernel_rfl
theorem Oa : Vd Tryz.prog 112 Bq := vt mix OU F1 [(41, AL)] (gs CE g0) rfl (fun _ _ => rfl) fun O x => by kernel_rfl
theorem Vk : Vd Tryz.prog 137 Du := vt mix OV F0 [(41, AL), (112, Bq)] (gs CE (gs Oa g0)) rfl (fun _ _ => rfl) fun O x => by kernel_rfl
theorem Wc : Vd Tryz.prog 138 Ea := vt mix PS EV [(41, AL)] (gs CE g0) rfl (fun _ _ => rfl) fun O x => by kernel_rfl
theorem YW : Vd Tryz.prog 170 FX := vt mix QT Qb [] g0 rfl (fun _ _ => rfl) fun O x => by kernel_rfl
theorem Wu : Vd Tryz.prog 139 EI := vt mix PU Gw [(41, AL), (170, FX)] (gs CE (gs YW g0)) rfl (fun _ _ => rfl) fun O x => by kernel_rfl
theorem Vr : Vd Tryz.prog 110 Dr := vt mix OP D1 [(126, HA), (127, ID), (128, GL), (129, Ef), (130, GK), (131, FE), (132, FN), (133, GN), (134, DI), (135, Fj), (136, Dt), (137, Du), (138, Ea), (139, EI)] (gs Z7 (gs ai (gs ZG (gs Wy (gs Yo (gs X4 (gs YI (gs ZA (gs UN (gs YS (gs Vf (gs Vk (gs Wc (gs Wu g0)))))))))))))) rfl (fun _ _ => rfl) fun O x => by kernel_rfl
theorem XA : Vd Tryz.prog 111 C7 := vt mix P8 Gu [(61, BC), (140, BA), (141, CS)] (gs Lj (gs Lz (gs TC g0))) rfl (fun _ _ => rfl) fun O x => by kernel_rfl
theorem Y7 : Vd Tryz.prog 98 F6 := vt mix Rg Ir [(41, AL), (43, Co), (61, BC), (109, Fg), (110, Dr), (111, C7)] (gs CE (gs Td (gs Lj (gs XS (gs Vr (gs XA g0)))))) rfl (fun _ _ => rfl) fun O x => by kernel_rfl
theorem U9 : Vd Tryz.prog 28 EZ := vt mix UU Ll [(27, Cl), (42, Cm), (43, Co), (62, Cr), (68, A9), (72, Bj), (73, FI), (96, Fk), (97, GU), (98, F6), (99, BW), (112, Bq)] (gs TG (gs TF (gs Td (gs TN (gs KB (gs N2 (gs YF (gs Xn (gs ZM (gs Y7 (gs Nk (gs Oa g0)))))))))))) rfl (fun _ _ => rfl) fun O x => by kernel_rfl
def Yc : Cfg := { gam := [⟨28, [], true, true, []⟩], imm := false, old := false }
theorem dA (O : Alg) (x : Ags O) : XF (O := O) Tryz.prog Yc false false [] 87 [] (xr x SS 0) = L3 O x := by kernel_rfl
theorem ep {E : Env} {M : Nat} (N : Nat) (h : ∀ ls, E 87 [] ls = Lg N ls) : VV Tryz.prog E M ⟨87, [], false, false, []⟩ :=
 B3 mix (E := GY N) (N := N) (cfg := Yc) (ci := ⟨87, [], false, false, []⟩) (ks := SS) (Ag (U9 N (fun _ => rfl)) DV) (c := Lg N) (F := fun ls => L3 (std (GY N) N) (xOf ls)) (fun ls => rfl) (fun ls => dA (std (GY N) N) (xOf ls)) h
theorem Xl : Vd Tryz.prog 88 Hm := vt mix Qy Hq [(104, Br)] (gs OY g0) rfl (fun _ _ => rfl) fun O x => by kernel_rfl
def Yd : Cfg := { gam := [⟨26, [], true, true, []⟩, ⟨87, [], false, false, []⟩, ⟨88, [], true, true, []⟩], imm := false, old := true, ie := [102, 38, 85, 51, 25, 104, 3, 4, 112, 5, 139, 41, 34, 191] }
theorem co (O : Alg) (x : Ags O) : XF (O := O) Tryz.prog Yd false false [] 56 [] (xr x Su 0) = Lu O x := by kernel_rfl
theorem ee {E : Env} {M : Nat} (N : Nat) (h : ∀ ls, E 56 [] ls = Lh N ls) : VV Tryz.prog E M ⟨56, [], false, false, []⟩ :=
 B3 mix (E := DL N) (N := N) (cfg := Yd) (ci := ⟨56, [], false, false, []⟩) (ks := Su) (Ag (Vz N (fun _ => rfl)) (Ag (ep N (fun _ => rfl)) (Ag (Xl N (fun _ => rfl)) DV))) (c := Lh N) (F := fun ls => Lu (std (DL N) N) (xOf ls)) (fun ls => rfl) (fun ls => co (std (DL N) N) (xOf ls)) h
def U2 : Cfg := { gam := [⟨56, [], false, false, []⟩], imm := false, old := false }
theorem Zv (O : Alg) (x : Ags O) : XF (O := O) Tryz.prog U2 false false [] 36 [] (xr x Pk 0) = H8 O x := by kernel_rfl
theorem Uv {E : Env} {M : Nat} (N : Nat) (h : ∀ ls, E 36 [] ls = ET N ls) : VV Tryz.prog E M ⟨36, [], false, false, []⟩ :=
 B3 mix (E := EF N) (N := N) (cfg := U2) (ci := ⟨36, [], false, false, []⟩) (ks := Pk) (Ag (ee N (fun _ => rfl)) DV) (c := ET N) (F := fun ls => H8 (std (EF N) N) (xOf ls)) (fun ls => rfl) (fun ls => Zv (std (EF N) N) (xOf ls)) h
def WP : Cfg := { gam := [⟨35, [], true, true, []⟩, ⟨36, [], false, false, []⟩], imm := false, old := false }
theorem cd (O : Alg) (x : Ags O) : XF (O := O) Tryz.prog WP true true [] 16 [] (xr x RQ 0) = JT O x := by kernel_rfl
theorem Jc : Vd Tryz.prog 16 BU := fun N h =>
 B3 mix (E := Dh N) (N := N) (cfg := WP) (ci := ⟨16, [], true, true, []⟩) (ks := RQ) (Ag (CP N (fun _ => rfl)) (Ag (Uv N (fun _ => rfl)) DV)) (c := BU N) (F := fun ls => JT (std (Dh N) N) (xOf ls)) (fun ls => rfl) (fun ls => cd (std (Dh N) N) (xOf ls)) h
theorem YU : Vd Tryz.prog 74 FQ := vt mix QY Hj [] g0 rfl (fun _ _ => rfl) fun O x => by kernel_rfl
theorem Sy : Vd Tryz.prog 75 Cg := vt mix L0 D7 [] g0 rfl (fun _ _ => rfl) fun O x => by kernel_rfl
theorem ah : Vd Tryz.prog 46 Lx := vt mix Tz Le [(74, FQ), (75, Cg)] (gs YU (gs Sy g0)) rfl (fun _ _ => rfl) fun O x => by kernel_rfl
theorem R1 : Vd Tryz.prog 76 CV := vt mix Ks DY [] g0 rfl (fun _ _ => rfl) fun O x => by kernel_rfl
theorem VD : Vd Tryz.prog 77 DF := vt mix Nd FG [] g0 rfl (fun _ _ => rfl) fun O x => by kernel_rfl
theorem Tq : Vd Tryz.prog 78 Cy := vt mix MK Er [] g0 rfl (fun _ _ => rfl) fun O x => by kernel_rfl
theorem XG : Vd Tryz.prog 79 Ej := vt mix P5 Gp [] g0 rfl (fun _ _ => rfl) fun O x => by kernel_rfl
theorem Ym : Vd Tryz.prog 48 Iv := vt mix SJ I6 [(76, CV), (77, DF), (78, Cy), (79, Ej)] (gs R1 (gs VD (gs Tq (gs XG g0)))) rfl (fun _ _ => rfl) fun O x => by kernel_rfl
def HJ : Cfg := { gam := [⟨48, [], true, true, []⟩], imm := false, old := false }
theorem NJ (O : Alg) (x : Ags O) : XF (O := O) Tryz.prog HJ true true [] 47 [48] (xr x Df 0) = Bi O x := by kernel_rfl
theorem N5 {E : Env} {M : Nat} (N : Nat) (h : ∀ ls, E 47 [48] ls = Bh N ls) : VV Tryz.prog E M ⟨47, [48], true, true, []⟩ :=
 B3 mix (E := A8 N) (N := N) (cfg := HJ) (ci := ⟨47, [48], true, true, []⟩) (ks := Df) (Ag (Ym N (fun _ => rfl)) DV) (c := Bh N) (F := fun ls => Bi (std (A8 N) N) (xOf ls)) (fun ls => rfl) (fun ls => NJ (std (A8 N) N) (xOf ls)) h
def UM : Cfg := { gam := [⟨46, [], true, true, []⟩, ⟨47, [48], true, true, []⟩], imm := false, old := false }
theorem Zz (O : Alg) (x : Ags O) : XF (O := O) Tryz.prog UM true true [] 29 [] (xr x Pr 0) = IP O x := by kernel_rfl
theorem bN : Vd Tryz.prog 29 GE := fun N h =>
 B3 mix (E := C4 N) (N := N) (cfg := UM) (ci := ⟨29, [], true, true, []⟩) (ks := Pr) (Ag (ah N (fun _ => rfl)) (Ag (N5 N (fun _ => rfl)) DV)) (c := GE N) (F := fun ls => IP (std (C4 N) N) (xOf ls)) (fun ls => rfl) (fun ls => Zz (std (C4 N) N) (xOf ls)) h
theorem Ws : Vd Tryz.prog 9 EO := vt mix P7 G1 [(16, BU), (26, Fl), (27, Cl), (28, EZ), (29, GE)] (gs Jc (gs Vz (gs TG (gs U9 (gs bN g0))))) rfl (fun _ _ => rfl) fun O x => by kernel_rfl
theorem SO : Vd Tryz.prog 33 D2 := fun N h =>
 Jk mix (T := 25) (e := 38) (b := 136) Tryz.func33 Tryz.underlying25 (by kernel_rfl) (by decide) (fun O l => by kernel_rfl) (fun O l => by kernel_rfl) h
def Oc : Cfg := { gam := [⟨36, [], false, false, []⟩], imm := false, old := false }
theorem Uh (O : Alg) (x : Ags O) : XF (O := O) Tryz.prog Oc false false [] 34 [] (xr x JJ 0) = Dz O x := by kernel_rfl
theorem JM {E : Env} {M : Nat} (N : Nat) (h : ∀ ls, E 34 [] ls = Av N ls) : VV Tryz.prog E M ⟨34, [], false, false, []⟩ :=
 B3 mix (E := CH N) (N := N) (cfg := Oc) (ci := ⟨34, [], false, false, []⟩) (ks := JJ) (Ag (Uv N (fun _ => rfl)) DV) (c := Av N) (F := fun ls => Dz (std (CH N) N) (xOf ls)) (fun ls => rfl) (fun ls => Uh (std (CH N) N) (xOf ls)) h
def OX : Cfg := { gam := [⟨16, [], true, true, []⟩, ⟨33, [], true, true, []⟩, ⟨34, [], false, false, []⟩], imm := false, old := false }
theorem UR (O : Alg) (x : Ags O) : XF (O := O) Tryz.prog OX false false [] 11 [] (xr x JB 0) = Ds O x := by kernel_rfl
theorem OO {E : Env} {M : Nat} (N : Nat) (h : ∀ ls, E 11 [] ls = BQ N ls) : VV Tryz.prog E M ⟨11, [], false, false, []⟩ :=
 B3 mix (E := BP N) (N := N) (cfg := OX) (ci := ⟨11, [], false, false, []⟩) (ks := JB) (Ag (Jc N (fun _ => rfl)) (Ag (SO N (fun _ => rfl)) (Ag (JM N (fun _ => rfl)) DV))) (c := BQ N) (F := fun ls => Ds (std (BP N) N) (xOf ls)) (fun ls => rfl) (fun ls => UR (std (BP N) N) (xOf ls)) h
theorem dT : Vd Tryz.prog 39 RT := vt mix WR WB [] g0 rfl (fun _ _ => rfl) fun O x => by kernel_rfl
theorem fk : Vd Tryz.prog 23 Qc := vt mix ZX Zd [(39, RT)] (gs dT g0) rfl (fun _ _ => rfl) fun O x => by kernel_rfl
theorem dE : Vd Tryz.prog 24 NC := vt mix V9 WE [] g0 rfl (fun _ _ => rfl) fun O x => by kernel_rfl
theorem eo : Vd Tryz.prog 25 O8 := vt mix YP XQ [] g0 rfl (fun _ _ => rfl) fun O x => by kernel_rfl
def Vx : Cfg := { gam := [⟨9, [], true, true, []⟩, ⟨11, [], false, false, []⟩, ⟨23, [], true, true, []⟩, ⟨24, [], true, true, []⟩, ⟨25, [], true, true, []⟩], imm := false, old := false }
theorem bW (O : Alg) (x : Ags O) : XF (O := O) Tryz.prog Vx true true [] 8 [] (xr x RS 0) = Jt O x := by kernel_rfl
theorem dM : Vd Tryz.prog 8 HU := fun N h =>
 B3 mix (E := B6 N) (N := N) (cfg := Vx) (ci := ⟨8, [], true, true, []⟩) (ks := RS) (Ag (Ws N (fun _ => rfl)) (Ag (OO N (fun _ => rfl)) (Ag (fk N (fun _ => rfl)) (Ag (dE N (fun _ => rfl)) (Ag (eo N (fun _ => rfl)) DV))))) (c := HU N) (F := fun ls => Jt (std (B6 N) N) (xOf ls)) (fun ls => rfl) (fun ls => bW (std (B6 N) N) (xOf ls)) h
def ZO : Cfg := { gam := [], imm := false, old := false }
theorem eM (O : Alg) (x : Ags O) : XF (O := O) Tryz.prog ZO false false [] 14 [] (xr x Uc 0) = Ni O x := by kernel_rfl
theorem fY {E : Env} {M : Nat} (N : Nat) (h : ∀ ls, E 14 [] ls = NZ N ls) : VV Tryz.prog E M ⟨14, [], false, false, []⟩ :=
 B3 mix (E := JS N) (N := N) (cfg := ZO) (ci := ⟨14, [], false, false, []⟩) (ks := Uc) DV (c := NZ N) (F := fun ls => Ni (std (JS N) N) (xOf ls)) (fun ls => rfl) (fun ls => eM (std (JS N) N) (xOf ls)) h
theorem Th {E : Env} {M : Nat} (N : Nat) (h : ∀ ls, E 37 [] ls = Eu N ls) : VV Tryz.prog E M ⟨37, [], true, true, [true, false, false, false, false, false, false, false, false]⟩ :=
 dS Tryz.lays4 rfl rfl (by kernel_rfl) Tryz.func37 (T := 25) (I := 3) rfl rfl Tryz.underlying25 Tryz.underlying3 (by kernel_rfl) h
def Kp : Cfg := { gam := [⟨37, [], true, true, [true, false, false, false, false, false, false, false, false]⟩], imm := false, old := false }
theorem RE (O : Alg) (x : Ags O) : XF (O := O) Tryz.prog Kp true true [] 17 [] (xr x GB 0) = CY O x := by kernel_rfl
theorem Kh : Vd Tryz.prog 17 Al := fun N h =>
 B3 mix (E := Bb N) (N := N) (cfg := Kp) (ci := ⟨17, [], true, true, []⟩) (ks := GB) (Ag (Th N (fun _ => rfl)) DV) (c := Al N) (F := fun ls => CY (std (Bb N) N) (xOf ls)) (fun ls => rfl) (fun ls => RE (std (Bb N) N) (xOf ls)) h
def Pe : Cfg := { gam := [⟨16, [], true, true, []⟩, ⟨17, [], true, true, []⟩, ⟨34, [], false, false, []⟩], imm := false, old := false }
theorem Vl (O : Alg) (x : Ags O) : XF (O := O) Tryz.prog Pe false false [] 15 [] (xr x KY 0) = Ek O x := by kernel_rfl
theorem Wv {E : Env} {M : Nat} (N : Nat) (h : ∀ ls, E 15 [] ls = C3 N ls) : VV Tryz.prog E M ⟨15, [], false, false, []⟩ :=
 B3 mix (E := BX N) (N := N) (cfg := Pe) (ci := ⟨15, [], false, false, []⟩) (ks := KY) (Ag (Jc N (fun _ => rfl)) (Ag (Kh N (fun _ => rfl)) (Ag (JM N (fun _ => rfl)) DV))) (c := C3 N) (F := fun ls => Ek (std (BX N) N) (xOf ls)) (fun ls => rfl) (fun ls => Vl (std (BX N) N) (xOf ls)) h
theorem Sj : Vd Tryz.prog 19 D3 := vt mix LQ EB [] g0 rfl (fun _ _ => rfl) fun O x => by kernel_rfl
def Pc : Cfg := { gam := [⟨16, [], true, true, []⟩, ⟨17, [], true, true, []⟩, ⟨34, [], false, false, []⟩], imm := false, old := false }
theorem Vu (O : Alg) (x : Ags O) : XF (O := O) Tryz.prog Pc false false [] 20 [] (xr x KP 0) = Ei O x := by kernel_rfl
theorem W5 {E : Env} {M : Nat} (N : Nat) (h : ∀ ls, E 20 [] ls = Eh N ls) : VV Tryz.prog E M ⟨20, [], false, false, []⟩ :=
 B3 mix (E := BZ N) (N := N) (cfg := Pc) (ci := ⟨20, [], false, false, []⟩) (ks := KP) (Ag (Jc N (fun _ => rfl)) (Ag (Kh N (fun _ => rfl)) (Ag (JM N (fun _ => rfl)) DV))) (c := Eh N) (F := fun ls => Ei (std (BZ N) N) (xOf ls)) (fun ls => rfl) (fun ls => Vu (std (BZ N) N) (xOf ls)) h
def OL : Cfg := { gam := [⟨8, [], true, true, []⟩, ⟨11, [], false, false, []⟩, ⟨14, [], false, false, []⟩, ⟨15, [], false, false, []⟩, ⟨16, [], true, true, []⟩, ⟨19, [], true, true, []⟩, ⟨20, [], false, false, []⟩], imm := false, old := false }
theorem U0 (O : Alg) (x : Ags O) : XF (O := O) Tryz.prog OL true true [] 7 [] (xr x JK 0) = Dj O x := by kernel_rfl
theorem Vg : Vd Tryz.prog 7 Dx := fun N h =>
 B3 mix (E := Ao N) (N := N) (cfg := OL) (ci := ⟨7, [], true, true, []⟩) (ks := JK) (Ag (dM N (fun _ => rfl)) (Ag (OO N (fun _ => rfl)) (Ag (fY N (fun _ => rfl)) (Ag (Wv N (fun _ => rfl)) (Ag (Jc N (fun _ => rfl)) (Ag (Sj N (fun _ => rfl)) (Ag (W5 N (fun _ => rfl)) DV))))))) (c := Dx N) (F := fun ls => Dj (std (Ao N) N) (xOf ls)) (fun ls => rfl) (fun ls => U0 (std (Ao N) N) (xOf ls)) h
end Go.Px
