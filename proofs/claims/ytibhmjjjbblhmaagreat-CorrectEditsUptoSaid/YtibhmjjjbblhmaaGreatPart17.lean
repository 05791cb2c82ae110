/- Part 17. -/
import Derived.Test.YtibhmjjjbblhmaaGreatPart06
import Derived.Test.YtibhmjjjbblhmaaGreatProg
import Derived.Test.YtibhmjjjbblhmaaGreatPart09
import Derived.KernelRfl
import Derived.WalkKit
import Derived.Lib.Walk
import Derived.BigCall
import Derived.BigGuard
import Derived.Test.YtibhmjjjbblhmaaGreatPart16
set_option linter.unusedVariables false
set_option linter.unusedSimpArgs false
namespace Go.Px
open Go.Proofs
set_option maxRecDepth 100000
theorem mix : Tryz.prog.follows .mixedOrders = true := by kernel_rfl
theorem sq : Vd Tryz.prog 53 MD := vt mix gp Ra [] g0 rfl (fun _ _ => rfl) fun O x => by kernel_rfl
theorem WN : Vd Tryz.prog 86 Cl := vt mix WJ XG [] g0 rfl (fun _ _ => rfl) fun O x => by kernel_rfl
theorem lU : Vd Tryz.prog 54 Gf := vt mix Wp Jp [(86, Cl)] (gs WN g0) rfl (fun _ _ => rfl) fun O x => by kernel_rfl
theorem my : Vd Tryz.prog 55 HP := vt mix Y9 LT [(86, Cl)] (gs WN g0) rfl (fun _ _ => rfl) fun O x => by kernel_rfl
theorem C1 : Vd Tryz.prog 35 AU := vt mix az M1 [(53, MD), (54, Gf), (55, HP)] (gs sq (gs lU (gs my g0))) rfl (fun _ _ => rfl) fun O x => by kernel_rfl
theorem Zi : Vd Tryz.prog 57 DF := fun N h =>
 MW mix (T := 22) (e := 102) (b := 24) Tryz.func57 Tryz.underlying22 (by kernel_rfl) (by decide) (fun O l => by kernel_rfl) (fun O l => by kernel_rfl) h
theorem bO : Vd Tryz.prog 40 DY := vt mix br ND [(57, DF)] (gs Zi g0) rfl (fun _ _ => rfl) fun O x => by kernel_rfl
theorem gu : Vd Tryz.prog 26 Gt := vt mix iU Q9 [(35, AU), (40, DY)] (gs C1 (gs bO g0)) rfl (fun _ _ => rfl) fun O x => by kernel_rfl
theorem EL : Vd Tryz.prog 58 AW := fun N h =>
 MW mix (T := 80) (e := 104) (b := 1) Tryz.func58 Tryz.underlying80 (by kernel_rfl) (by decide) (fun O l => by kernel_rfl) (fun O l => by kernel_rfl) h
theorem Gn : Vd Tryz.prog 59 Af := fun N h =>
 MW mix (T := 81) (e := 3) (b := 8) Tryz.func59 Tryz.underlying81 (by kernel_rfl) (by decide) (fun O l => by kernel_rfl) (fun O l => by kernel_rfl) h
theorem Fz : Vd Tryz.prog 60 Ab := fun N h =>
 MW mix (T := 82) (e := 4) (b := 1) Tryz.func60 Tryz.underlying82 (by kernel_rfl) (by decide) (fun O l => by kernel_rfl) (fun O l => by kernel_rfl) h
theorem Ck : Vd Tryz.prog 41 AS := vt mix Wo Jz [(58, AW), (59, Af), (60, Ab)] (gs EL (gs Gn (gs Fz g0))) rfl (fun _ _ => rfl) fun O x => by kernel_rfl
theorem bR : Vd Tryz.prog 27 DV := vt mix bh Mr [(40, DY), (41, AS)] (gs bO (gs Ck g0)) rfl (fun _ _ => rfl) fun O x => by kernel_rfl
theorem El : Vd Tryz.prog 89 Ai := vt mix TT TH [] g0 rfl (fun _ _ => rfl) fun O x => by kernel_rfl
theorem f8 : Vd Tryz.prog 90 Ee := vt mix TG HA [(89, Ai)] (gs El g0) rfl (fun _ _ => rfl) fun O x => by kernel_rfl
theorem fL : Vd Tryz.prog 121 EJ := vt mix Rp GL [] g0 rfl (fun _ _ => rfl) fun O x => by kernel_rfl
theorem Hm : Vd Tryz.prog 105 Aq := vt mix Nw ES [(121, EJ)] (gs fL g0) rfl (fun _ _ => rfl) fun O x => by kernel_rfl
theorem cP : Vd Tryz.prog 91 Dk := vt mix QN Fu [(89, Ai), (105, Aq)] (gs El (gs Hm g0)) rfl (fun _ _ => rfl) fun O x => by kernel_rfl
theorem cT : Vd Tryz.prog 107 Dh := vt mix QR Fr [(89, Ai)] (gs El g0) rfl (fun _ _ => rfl) fun O x => by kernel_rfl
theorem fw : Vd Tryz.prog 92 En := vt mix TK HC [(107, Dh)] (gs cT g0) rfl (fun _ _ => rfl) fun O x => by kernel_rfl
theorem Pj : Vd Tryz.prog 61 BL := vt mix WK Js [(35, AU), (89, Ai), (90, Ee), (91, Dk), (92, En)] (gs C1 (gs El (gs f8 (gs cP (gs fw g0))))) rfl (fun _ _ => rfl) fun O x => by kernel_rfl
theorem NG : Vd Tryz.prog 68 BK := vt mix bi M4 [] g0 rfl (fun _ _ => rfl) fun O x => by kernel_rfl
theorem bo : Vd Tryz.prog 62 DU := vt mix bQ Mz [(68, BK)] (gs NG g0) rfl (fun _ _ => rfl) fun O x => by kernel_rfl
theorem pK : Vd Tryz.prog 63 I8 := vt mix aw NA [] g0 rfl (fun _ _ => rfl) fun O x => by kernel_rfl
theorem bg : Vd Tryz.prog 42 DW := vt mix bN My [(35, AU), (61, BL), (62, DU), (63, I8)] (gs C1 (gs Pj (gs bo (gs pK g0)))) rfl (fun _ _ => rfl) fun O x => by kernel_rfl
theorem mw : Vd Tryz.prog 64 Hh := vt mix Yv LQ [] g0 rfl (fun _ _ => rfl) fun O x => by kernel_rfl
theorem j5 : Vd Tryz.prog 65 GR := vt mix W7 Oc [] g0 rfl (fun _ _ => rfl) fun O x => by kernel_rfl
open Go.RowKit Go.Lib in
set_option maxHeartbeats 1000000 in
theorem UC (s : ByteArray) (c : Int) (w : World) : Calls Tryz.prog 108 #[.string s, .int .u8 c] w fun e w' => e = .returned (.int .i64 (Lib.indexByte s.data.toList c.toNat.toUInt8)) ∧ w' = w := by
 go_enter Tryz.func108, Tryz.ntmps108
 go_wp2
 rw [run_callFunc_extern Tryz.func123 (by kernel_rfl) (by kernel_rfl) (by kernel_rfl) (e := Extern.BytealgIndexByte.indexByte) (by kernel_rfl), Lib.run_indexByteString]
 simp only [Result.andThen]
 rw [Oper.upon_value]
 go_wp2
 go_ret
 exact ⟨rfl, rfl⟩
theorem V3 : Vd Tryz.prog 108 Cb := fun N h =>
 tG Tryz.func108 (T9 := 9) (T5 := 5) (T3 := 3) rfl rfl Tryz.underlying9 Tryz.underlying5 Tryz.underlying3 (by kernel_rfl) UC h
theorem cU : Vd Tryz.prog 93 Di := vt mix QU Fv [(108, Cb)] (gs V3 g0) rfl (fun _ _ => rfl) fun O x => by kernel_rfl
theorem pL : Vd Tryz.prog 94 GE := vt mix bu bS [] g0 rfl (fun _ _ => rfl) fun O x => by kernel_rfl
theorem ri : Vd Tryz.prog 66 Kc := vt mix eI O4 [(93, Di), (94, GE)] (gs cU (gs pL g0)) rfl (fun _ _ => rfl) fun O x => by kernel_rfl
theorem cp : Vd Tryz.prog 95 D6 := vt mix Ry KH [] g0 rfl (fun _ _ => rfl) fun O x => by kernel_rfl
theorem jL : Vd Tryz.prog 67 Fo := vt mix VS Ig [(95, D6)] (gs cp g0) rfl (fun _ _ => rfl) fun O x => by kernel_rfl
theorem bk : Vd Tryz.prog 43 DT := vt mix au Iv [(64, Hh), (65, GR), (66, Kc), (67, Fo)] (gs mw (gs j5 (gs ri (gs jL g0)))) rfl (fun _ _ => rfl) fun O x => by kernel_rfl
theorem TB : Vd Tryz.prog 72 Bx := vt mix bK Mw [] g0 rfl (fun _ _ => rfl) fun O x => by kernel_rfl
theorem R6 : Vd Tryz.prog 99 Bp := vt mix Ru GW [] g0 rfl (fun _ _ => rfl) fun O x => by kernel_rfl
theorem lg : Vd Tryz.prog 73 GK := vt mix Wn Jt [(42, DW), (68, BK), (72, Bx), (99, Bp)] (gs bg (gs NG (gs TB (gs R6 g0)))) rfl (fun _ _ => rfl) fun O x => by kernel_rfl
theorem mA : Vd Tryz.prog 96 Gr := vt mix Wy J1 [(35, AU), (89, Ai)] (gs C1 (gs El g0)) rfl (fun _ _ => rfl) fun O x => by kernel_rfl
theorem nP : Vd Tryz.prog 97 HR := vt mix YV LF [(68, BK), (72, Bx)] (gs NG (gs TB g0)) rfl (fun _ _ => rfl) fun O x => by kernel_rfl
theorem fx : Vd Tryz.prog 125 Eo := vt mix Tc Lq [] g0 rfl (fun _ _ => rfl) fun O x => by kernel_rfl
theorem lY : Vd Tryz.prog 109 Gd := vt mix WV Jk [(125, Eo)] (gs fx g0) rfl (fun _ _ => rfl) fun O x => by kernel_rfl
theorem HJ : Vd Tryz.prog 155 Ay := vt mix dF Oj [(58, AW), (59, Af), (60, Ab)] (gs EL (gs Gn (gs Fz g0))) rfl (fun _ _ => rfl) fun O x => by kernel_rfl
theorem jZ : Vd Tryz.prog 179 C5 := vt mix Uk NK [] g0 rfl (fun _ _ => rfl) fun O x => by kernel_rfl
theorem Yz : Vd Tryz.prog 156 B6 := vt mix Yo FF [(179, C5)] (gs jZ g0) rfl (fun _ _ => rfl) fun O x => by kernel_rfl
theorem Hp : Vd Tryz.prog 157 Au := vt mix YW Lb [] g0 rfl (fun _ _ => rfl) fun O x => by kernel_rfl
theorem og : Vd Tryz.prog 126 JN := vt mix be Mj [(155, Ay), (156, B6), (157, Au)] (gs HJ (gs Yz (gs Hp g0))) rfl (fun _ _ => rfl) fun O x => by kernel_rfl
theorem Xk : Vd Tryz.prog 158 Cv := vt mix iW RW [(58, AW), (59, Af), (60, Ab)] (gs EL (gs Gn (gs Fz g0))) rfl (fun _ _ => rfl) fun O x => by kernel_rfl
theorem SY : Vd Tryz.prog 180 B1 := vt mix bH Ml [] g0 rfl (fun _ _ => rfl) fun O x => by kernel_rfl
theorem sF : Vd Tryz.prog 181 KU := vt mix eW OM [(35, AU), (180, B1)] (gs C1 (gs SY g0)) rfl (fun _ _ => rfl) fun O x => by kernel_rfl
theorem sX : Vd Tryz.prog 159 Lz := vt mix gm RA [(35, AU), (105, Aq), (180, B1), (181, KU)] (gs C1 (gs Hm (gs SY (gs sF g0)))) rfl (fun _ _ => rfl) fun O x => by kernel_rfl
theorem qs : Vd Tryz.prog 127 KK := vt mix eS Po [(158, Cv), (159, Lz)] (gs Xk (gs sX g0)) rfl (fun _ _ => rfl) fun O x => by kernel_rfl
theorem cH : Vd Tryz.prog 153 Dj := vt mix QO Fq [] g0 rfl (fun _ _ => rfl) fun O x => by kernel_rfl
theorem VY : Vd Tryz.prog 119 CT := vt mix U8 IR [(153, Dj)] (gs cH g0) rfl (fun _ _ => rfl) fun O x => by kernel_rfl
theorem cQ : Vd Tryz.prog 120 Dg := vt mix QV Ft [] g0 rfl (fun _ _ => rfl) fun O x => by kernel_rfl
theorem TD : Vd Tryz.prog 104 CD := vt mix Td G8 [(119, CT), (120, Dg)] (gs VY (gs cQ g0)) rfl (fun _ _ => rfl) fun O x => by kernel_rfl
theorem PQ : Vd Tryz.prog 140 BJ := vt mix Wm ER [(156, B6)] (gs Yz g0) rfl (fun _ _ => rfl) fun O x => by kernel_rfl
theorem I7 : Vd Tryz.prog 168 A1 := vt mix bF M9 [] g0 rfl (fun _ _ => rfl) fun O x => by kernel_rfl
theorem Ic : Vd Tryz.prog 169 A0 := vt mix Vh Id [(168, A1)] (gs I7 g0) rfl (fun _ _ => rfl) fun O x => by kernel_rfl
theorem l4 : Vd Tryz.prog 191 Ge := vt mix WT Jm [] g0 rfl (fun _ _ => rfl) fun O x => by kernel_rfl
theorem pJ : Vd Tryz.prog 182 JG := vt mix bC M0 [(168, A1), (169, A0), (191, Ge)] (gs I7 (gs Ic (gs l4 g0))) rfl (fun _ _ => rfl) fun O x => by kernel_rfl
theorem TY : Vd Tryz.prog 210 Bg := vt mix TJ TS [] g0 rfl (fun _ _ => rfl) fun O x => by kernel_rfl
theorem mz : Vd Tryz.prog 192 Hv := vt mix YF LL [(210, Bg)] (gs TY g0) rfl (fun _ _ => rfl) fun O x => by kernel_rfl
theorem dh : Vd Tryz.prog 211 EE := vt mix SB Gk [] g0 rfl (fun _ _ => rfl) fun O x => by kernel_rfl
theorem Yq : Vd Tryz.prog 193 C7 := vt mix N2 EM [(211, EE)] (gs dh g0) rfl (fun _ _ => rfl) fun O x => by kernel_rfl
theorem ck : Vd Tryz.prog 212 EB := vt mix SR GU [] g0 rfl (fun _ _ => rfl) fun O x => by kernel_rfl
theorem jm : Vd Tryz.prog 194 FO := vt mix U1 IK [(210, Bg), (212, EB)] (gs TY (gs ck g0)) rfl (fun _ _ => rfl) fun O x => by kernel_rfl
theorem Xu : Vd Tryz.prog 213 Cx := vt mix MA Dx [] g0 rfl (fun _ _ => rfl) fun O x => by kernel_rfl
theorem Zw : Vd Tryz.prog 195 DL := vt mix Pb E0 [(213, Cx)] (gs Xu g0) rfl (fun _ _ => rfl) fun O x => by kernel_rfl
theorem Zp : Vd Tryz.prog 183 DJ := vt mix Pd Es [(192, Hv), (193, C7), (194, FO), (195, DL)] (gs mz (gs Yq (gs jm (gs Zw g0)))) rfl (fun _ _ => rfl) fun O x => by kernel_rfl
theorem oi : Vd Tryz.prog 184 JL := vt mix aq M6 [(168, A1), (169, A0)] (gs I7 (gs Ic g0)) rfl (fun _ _ => rfl) fun O x => by kernel_rfl
theorem fq : Vd Tryz.prog 160 Ep := vt mix TI G4 [(119, CT), (140, BJ), (182, JG), (183, DJ), (184, JL)] (gs VY (gs PQ (gs pJ (gs Zp (gs oi g0))))) rfl (fun _ _ => rfl) fun O x => by kernel_rfl
theorem sD : Vd Tryz.prog 161 KI := vt mix dH P5 [(155, Ay), (157, Au)] (gs HJ (gs Hp g0)) rfl (fun _ _ => rfl) fun O x => by kernel_rfl
theorem jI : Vd Tryz.prog 162 Fb := vt mix U5 Uq [] g0 rfl (fun _ _ => rfl) fun O x => by kernel_rfl
theorem qZ : Vd Tryz.prog 163 Kg := vt mix eo Pu [(35, AU), (105, Aq), (158, Cv), (180, B1)] (gs C1 (gs Hm (gs Xk (gs SY g0)))) rfl (fun _ _ => rfl) fun O x => by kernel_rfl
theorem lO : Vd Tryz.prog 164 GV := vt mix W9 Jn [(155, Ay)] (gs HJ g0) rfl (fun _ _ => rfl) fun O x => by kernel_rfl
theorem nF : Vd Tryz.prog 128 Hs := vt mix Y7 LE [(41, AS), (104, CD), (160, Ep), (161, KI), (162, Fb), (163, Kg), (164, GV)] (gs Ck (gs TD (gs fq (gs sD (gs jI (gs qZ (gs lO g0))))))) rfl (fun _ _ => rfl) fun O x => by kernel_rfl
theorem eM : Vd Tryz.prog 165 D8 := vt mix eE O2 [(140, BJ), (157, Au)] (gs PQ (gs Hp g0)) rfl (fun _ _ => rfl) fun O x => by kernel_rfl
theorem jh : Vd Tryz.prog 129 FU := vt mix Uu Im [(155, Ay), (157, Au), (165, D8)] (gs HJ (gs Hp (gs eM g0))) rfl (fun _ _ => rfl) fun O x => by kernel_rfl
theorem mK : Vd Tryz.prog 130 H4 := vt mix YU LO [(155, Ay), (165, D8)] (gs HJ (gs eM g0)) rfl (fun _ _ => rfl) fun O x => by kernel_rfl
theorem bD : Vd Tryz.prog 141 C4 := vt mix ao F6 [] g0 rfl (fun _ _ => rfl) fun O x => by kernel_rfl
theorem kY : Vd Tryz.prog 131 Gh := vt mix W6 Ju [(141, C4), (155, Ay), (157, Au)] (gs bD (gs HJ (gs Hp g0))) rfl (fun _ _ => rfl) fun O x => by kernel_rfl
theorem Xt : Vd Tryz.prog 167 Cy := vt mix iR RP [(58, AW), (59, Af), (60, Ab)] (gs EL (gs Gn (gs Fz g0))) rfl (fun _ _ => rfl) fun O x => by kernel_rfl
theorem lA : Vd Tryz.prog 132 GX := vt mix Wj Ji [(167, Cy)] (gs Xt g0) rfl (fun _ _ => rfl) fun O x => by kernel_rfl
theorem mj : Vd Tryz.prog 133 Hj := vt mix Yf LN [(167, Cy), (168, A1), (169, A0)] (gs Xt (gs I7 (gs Ic g0))) rfl (fun _ _ => rfl) fun O x => by kernel_rfl
theorem fG : Vd Tryz.prog 134 ED := vt mix Rx Gl [(167, Cy), (168, A1), (169, A0)] (gs Xt (gs I7 (gs Ic g0))) rfl (fun _ _ => rfl) fun O x => by kernel_rfl
theorem km : Vd Tryz.prog 135 Gc := vt mix Wx Jg [(35, AU), (158, Cv)] (gs C1 (gs Xk g0)) rfl (fun _ _ => rfl) fun O x => by kernel_rfl
theorem gA : Vd Tryz.prog 136 Ek := vt mix TC HG [(41, AS)] (gs Ck g0) rfl (fun _ _ => rfl) fun O x => by kernel_rfl
theorem TN : Vd Tryz.prog 112 CC := vt mix Tb G5 [(41, AS)] (gs Ck g0) rfl (fun _ _ => rfl) fun O x => by kernel_rfl
theorem gF : Vd Tryz.prog 137 Eh := vt mix TO HE [(41, AS), (112, CC)] (gs Ck (gs TN g0)) rfl (fun _ _ => rfl) fun O x => by kernel_rfl
theorem jW : Vd Tryz.prog 138 FR := vt mix Uh Fa [(41, AS)] (gs Ck g0) rfl (fun _ _ => rfl) fun O x => by kernel_rfl
theorem kK : Vd Tryz.prog 170 GJ := vt mix W4 WY [] g0 rfl (fun _ _ => rfl) fun O x => by kernel_rfl
theorem iy : Vd Tryz.prog 139 Fm := vt mix Uz IM [(41, AS), (170, GJ)] (gs Ck (gs kK g0)) rfl (fun _ _ => rfl) fun O x => by kernel_rfl
theorem f0 : Vd Tryz.prog 110 Ei := vt mix TZ Ej [(126, JN), (127, KK), (128, Hs), (129, FU), (130, H4), (131, Gh), (132, GX), (133, Hj), (134, ED), (135, Gc), (136, Ek), (137, Eh), (138, FR), (139, Fm)] (gs og (gs qs (gs nF (gs jh (gs mK (gs kY (gs lA (gs mj (gs fG (gs km (gs gA (gs gF (gs jW (gs iy g0)))))))))))))) rfl (fun _ _ => rfl) fun O x => by kernel_rfl
theorem iv : Vd Tryz.prog 111 Dp := vt mix VQ IV [(61, BL), (140, BJ), (141, C4)] (gs Pj (gs PQ (gs bD g0))) rfl (fun _ _ => rfl) fun O x => by kernel_rfl
theorem nI : Vd Tryz.prog 98 He := vt mix Yy K5 [(41, AS), (43, DT), (61, BL), (109, Gd), (110, Ei), (111, Dp)] (gs Ck (gs bk (gs Pj (gs lY (gs f0 (gs iv g0)))))) rfl (fun _ _ => rfl) fun O x => by kernel_rfl
theorem cg : Vd Tryz.prog 28 FN := vt mix eF Py [(27, DV), (42, DW), (43, DT), (62, DU), (68, BK), (72, Bx), (73, GK), (96, Gr), (97, HR), (98, He), (99, Bp), (112, CC)] (gs bR (gs bg (gs bk (gs bo (gs NG (gs TB (gs lg (gs mA (gs nP (gs nI (gs R6 (gs TN g0)))))))))))) rfl (fun _ _ => rfl) fun O x => by kernel_rfl
def kJ : Cfg := { gam := [⟨28, [], true, true, []⟩], imm := false, old := false }
theorem sI (O : Alg) (x : Ags O) : XF (O := O) Tryz.prog kJ false false [] 87 [] (xr x ZY 0) = Pr O x := by kernel_rfl
theorem vX {E : Env} {M : Nat} (N : Nat) (h : ∀ ls, E 87 [] ls = Pz N ls) : VV Tryz.prog E M ⟨87, [], false, false, []⟩ :=
 Ae mix (E := HN N) (N := N) (cfg := kJ) (ci := ⟨87, [], false, false, []⟩) (ks := ZY) (AD (cg N (fun _ => rfl)) Az) (c := Pz N) (F := fun ls => Pr (std (HN N) N) (xOf ls)) (fun ls => rfl) (fun ls => sI (std (HN N) N) (xOf ls)) h
theorem lu : Vd Tryz.prog 88 Jw := vt mix XD Je [(104, CD)] (gs TD g0) rfl (fun _ _ => rfl) fun O x => by kernel_rfl
def lM : Cfg := { gam := [⟨26, [], true, true, []⟩, ⟨87, [], false, false, []⟩, ⟨88, [], true, true, []⟩], imm := false, old := true, ie := [102, 38, 85, 51, 25, 104, 3, 4, 112, 5, 139, 41, 34, 191] }
theorem sN (O : Alg) (x : Ags O) : XF (O := O) Tryz.prog lM false false [] 56 [] (xr x ah 0) = PC O x := by kernel_rfl
theorem ug {E : Env} {M : Nat} (N : Nat) (h : ∀ ls, E 56 [] ls = Oe N ls) : VV Tryz.prog E M ⟨56, [], false, false, []⟩ :=
 Ae mix (E := EC N) (N := N) (cfg := lM) (ci := ⟨56, [], false, false, []⟩) (ks := ah) (AD (gu N (fun _ => rfl)) (AD (vX N (fun _ => rfl)) (AD (lu N (fun _ => rfl)) Az))) (c := Oe N) (F := fun ls => PC (std (EC N) N) (xOf ls)) (fun ls => rfl) (fun ls => sN (std (EC N) N) (xOf ls)) h
def dl : Cfg := { gam := [⟨56, [], false, false, []⟩], imm := false, old := false }
theorem o0 (O : Alg) (x : Ags O) : XF (O := O) Tryz.prog dl false false [] 36 [] (xr x VF 0) = KV O x := by kernel_rfl
theorem dP {E : Env} {M : Nat} (N : Nat) (h : ∀ ls, E 36 [] ls = FQ N ls) : VV Tryz.prog E M ⟨36, [], false, false, []⟩ :=
 Ae mix (E := FD N) (N := N) (cfg := dl) (ci := ⟨36, [], false, false, []⟩) (ks := VF) (AD (ug N (fun _ => rfl)) Az) (c := FQ N) (F := fun ls => KV (std (FD N) N) (xOf ls)) (fun ls => rfl) (fun ls => o0 (std (FD N) N) (xOf ls)) h
def gV : Cfg := { gam := [⟨35, [], true, true, []⟩, ⟨36, [], false, false, []⟩], imm := false, old := false }
theorem rn (O : Alg) (x : Ags O) : XF (O := O) Tryz.prog gV true true [] 16 [] (xr x XO 0) = MS O x := by kernel_rfl
theorem RY : Vd Tryz.prog 16 CW := fun N h =>
 Ae mix (E := EX N) (N := N) (cfg := gV) (ci := ⟨16, [], true, true, []⟩) (ks := XO) (AD (C1 N (fun _ => rfl)) (AD (dP N (fun _ => rfl)) Az)) (c := CW N) (F := fun ls => MS (std (EX N) N) (xOf ls)) (fun ls => rfl) (fun ls => rn (std (EX N) N) (xOf ls)) h
theorem j0 : Vd Tryz.prog 74 GO := vt mix WP Jf [] g0 rfl (fun _ _ => rfl) fun O x => by kernel_rfl
theorem Z1 : Vd Tryz.prog 75 DQ := vt mix PT Et [] g0 rfl (fun _ _ => rfl) fun O x => by kernel_rfl
theorem rl : Vd Tryz.prog 46 Og := vt mix eg PZ [(74, GO), (75, DQ)] (gs j0 (gs Z1 g0)) rfl (fun _ _ => rfl) fun O x => by kernel_rfl
theorem Yi : Vd Tryz.prog 76 C9 := vt mix Nl EU [] g0 rfl (fun _ _ => rfl) fun O x => by kernel_rfl
theorem fA : Vd Tryz.prog 77 EI := vt mix Rr Gm [] g0 rfl (fun _ _ => rfl) fun O x => by kernel_rfl
theorem cK : Vd Tryz.prog 78 Dl := vt mix QJ Fw [] g0 rfl (fun _ _ => rfl) fun O x => by kernel_rfl
theorem jK : Vd Tryz.prog 79 Fc := vt mix VH Ii [] g0 rfl (fun _ _ => rfl) fun O x => by kernel_rfl
theorem mh : Vd Tryz.prog 48 K2 := vt mix Yb LI [(76, C9), (77, EI), (78, Dl), (79, Fc)] (gs Yi (gs fA (gs cK (gs jK g0)))) rfl (fun _ _ => rfl) fun O x => by kernel_rfl
def JA : Cfg := { gam := [⟨48, [], true, true, []⟩], imm := false, old := false }
theorem SA (O : Alg) (x : Ags O) : XF (O := O) Tryz.prog JA true true [] 47 [48] (xr x EY 0) = Bv O x := by kernel_rfl
theorem Sw {E : Env} {M : Nat} (N : Nat) (h : ∀ ls, E 47 [48] ls = B0 N ls) : VV Tryz.prog E M ⟨47, [48], true, true, []⟩ :=
 Ae mix (E := BF N) (N := N) (cfg := JA) (ci := ⟨47, [48], true, true, []⟩) (ks := EY) (AD (mh N (fun _ => rfl)) Az) (c := B0 N) (F := fun ls => Bv (std (BF N) N) (xOf ls)) (fun ls => rfl) (fun ls => SA (std (BF N) N) (xOf ls)) h
def cj : Cfg := { gam := [⟨46, [], true, true, []⟩, ⟨47, [48], true, true, []⟩], imm := false, old := false }
theorem oh (O : Alg) (x : Ags O) : XF (O := O) Tryz.prog cj true true [] 29 [] (xr x Vm 0) = KQ O x := by kernel_rfl
theorem rC : Vd Tryz.prog 29 H0 := fun N h =>
 Ae mix (E := Ds N) (N := N) (cfg := cj) (ci := ⟨29, [], true, true, []⟩) (ks := Vm) (AD (rl N (fun _ => rfl)) (AD (Sw N (fun _ => rfl)) Az)) (c := H0 N) (F := fun ls => KQ (std (Ds N) N) (xOf ls)) (fun ls => rfl) (fun ls => oh (std (Ds N) N) (xOf ls)) h
theorem jA : Vd Tryz.prog 9 Ff := vt mix VL Iq [(16, CW), (26, Gt), (27, DV), (28, FN), (29, H0)] (gs RY (gs gu (gs bR (gs cg (gs rC g0))))) rfl (fun _ _ => rfl) fun O x => by kernel_rfl
theorem ZT : Vd Tryz.prog 33 Ey := fun N h =>
 MW mix (T := 25) (e := 38) (b := 136) Tryz.func33 Tryz.underlying25 (by kernel_rfl) (by decide) (fun O l => by kernel_rfl) (fun O l => by kernel_rfl) h
def TR : Cfg := { gam := [⟨36, [], false, false, []⟩], imm := false, old := false }
theorem cZ (O : Alg) (x : Ags O) : XF (O := O) Tryz.prog TR false false [] 34 [] (xr x Lm 0) = Ec O x := by kernel_rfl
theorem Lu {E : Env} {M : Nat} (N : Nat) (h : ∀ ls, E 34 [] ls = A5 N ls) : VV Tryz.prog E M ⟨34, [], false, false, []⟩ :=
 Ae mix (E := Cp N) (N := N) (cfg := TR) (ci := ⟨34, [], false, false, []⟩) (ks := Lm) (AD (dP N (fun _ => rfl)) Az) (c := A5 N) (F := fun ls => Ec (std (Cp N) N) (xOf ls)) (fun ls => rfl) (fun ls => cZ (std (Cp N) N) (xOf ls)) h
def Ta : Cfg := { gam := [⟨16, [], true, true, []⟩, ⟨33, [], true, true, []⟩, ⟨34, [], false, false, []⟩], imm := false, old := false }
theorem dT (O : Alg) (x : Ags O) : XF (O := O) Tryz.prog Ta false false [] 11 [] (xr x Ln 0) = Ef O x := by kernel_rfl
theorem TF {E : Env} {M : Nat} (N : Nat) (h : ∀ ls, E 11 [] ls = Bf N ls) : VV Tryz.prog E M ⟨11, [], false, false, []⟩ :=
 Ae mix (E := Bd N) (N := N) (cfg := Ta) (ci := ⟨11, [], false, false, []⟩) (ks := Ln) (AD (RY N (fun _ => rfl)) (AD (ZT N (fun _ => rfl)) (AD (Lu N (fun _ => rfl)) Az))) (c := Bf N) (F := fun ls => Ef (std (Bd N) N) (xOf ls)) (fun ls => rfl) (fun ls => dT (std (Bd N) N) (xOf ls)) h
theorem tJ : Vd Tryz.prog 39 Xy := vt mix hP iD [] g0 rfl (fun _ _ => rfl) fun O x => by kernel_rfl
theorem vp : Vd Tryz.prog 23 WS := vt mix nr nW [(39, Xy)] (gs tJ g0) rfl (fun _ _ => rfl) fun O x => by kernel_rfl
theorem tO : Vd Tryz.prog 24 RN := vt mix gl gY [] g0 rfl (fun _ _ => rfl) fun O x => by kernel_rfl
theorem vg : Vd Tryz.prog 25 T8 := vt mix lD kf [] g0 rfl (fun _ _ => rfl) fun O x => by kernel_rfl
def gS : Cfg := { gam := [⟨9, [], true, true, []⟩, ⟨11, [], false, false, []⟩, ⟨23, [], true, true, []⟩, ⟨24, [], true, true, []⟩, ⟨25, [], true, true, []⟩], imm := false, old := false }
theorem rM (O : Alg) (x : Ags O) : XF (O := O) Tryz.prog gS true true [] 8 [] (xr x YC 0) = MV O x := by kernel_rfl
theorem tS : Vd Tryz.prog 8 JP := fun N h =>
 Ae mix (E := CV N) (N := N) (cfg := gS) (ci := ⟨8, [], true, true, []⟩) (ks := YC) (AD (jA N (fun _ => rfl)) (AD (TF N (fun _ => rfl)) (AD (vp N (fun _ => rfl)) (AD (tO N (fun _ => rfl)) (AD (vg N (fun _ => rfl)) Az))))) (c := JP N) (F := fun ls => MV (std (CV N) N) (xOf ls)) (fun ls => rfl) (fun ls => rM (std (CV N) N) (xOf ls)) h
def oJ : Cfg := { gam := [], imm := false, old := false }
theorem uy (O : Alg) (x : Ags O) : XF (O := O) Tryz.prog oJ false false [] 14 [] (xr x eD 0) = Rt O x := by kernel_rfl
theorem wo {E : Env} {M : Nat} (N : Nat) (h : ∀ ls, E 14 [] ls = Rs N ls) : VV Tryz.prog E M ⟨14, [], false, false, []⟩ :=
 Ae mix (E := MX N) (N := N) (cfg := oJ) (ci := ⟨14, [], false, false, []⟩) (ks := eD) Az (c := Rs N) (F := fun ls => Rt (std (MX N) N) (xOf ls)) (fun ls => rfl) (fun ls => uy (std (MX N) N) (xOf ls)) h
theorem cD {E : Env} {M : Nat} (N : Nat) (h : ∀ ls, E 37 [] ls = Fy N ls) : VV Tryz.prog E M ⟨37, [], true, true, [true, false, false, false, false, false, false, false, false]⟩ :=
 tP Tryz.lays4 rfl rfl (by kernel_rfl) Tryz.func37 (T := 25) (I := 3) rfl rfl Tryz.underlying25 Tryz.underlying3 (by kernel_rfl) h
def Nh : Cfg := { gam := [⟨37, [], true, true, [true, false, false, false, false, false, false, false, false]⟩], imm := false, old := false }
theorem XT (O : Alg) (x : Ags O) : XF (O := O) Tryz.prog Nh true true [] 17 [] (xr x Ho 0) = C8 O x := by kernel_rfl
theorem N0 : Vd Tryz.prog 17 Ax := fun N h =>
 Ae mix (E := Bs N) (N := N) (cfg := Nh) (ci := ⟨17, [], true, true, []⟩) (ks := Ho) (AD (cD N (fun _ => rfl)) Az) (c := Ax N) (F := fun ls => C8 (std (Bs N) N) (xOf ls)) (fun ls => rfl) (fun ls => XT (std (Bs N) N) (xOf ls)) h
def Vi : Cfg := { gam := [⟨16, [], true, true, []⟩, ⟨17, [], true, true, []⟩, ⟨34, [], false, false, []⟩], imm := false, old := false }
theorem fu (O : Alg) (x : Ags O) : XF (O := O) Tryz.prog Vi false false [] 15 [] (xr x NI 0) = FM O x := by kernel_rfl
theorem iu {E : Env} {M : Nat} (N : Nat) (h : ∀ ls, E 15 [] ls = Fl N ls) : VV Tryz.prog E M ⟨15, [], false, false, []⟩ :=
 Ae mix (E := Bm N) (N := N) (cfg := Vi) (ci := ⟨15, [], false, false, []⟩) (ks := NI) (AD (RY N (fun _ => rfl)) (AD (N0 N (fun _ => rfl)) (AD (Lu N (fun _ => rfl)) Az))) (c := Fl N) (F := fun ls => FM (std (Bm N) N) (xOf ls)) (fun ls => rfl) (fun ls => fu (std (Bm N) N) (xOf ls)) h
theorem u5 : Vd Tryz.prog 80 ON := vt mix kr T7 [] g0 rfl (fun _ _ => rfl) fun O x => by kernel_rfl
theorem xG : Vd Tryz.prog 81 U6 := vt mix pu qI [] g0 rfl (fun _ _ => rfl) fun O x => by kernel_rfl
theorem D1 : Vd Tryz.prog 49 Ad := vt mix gh RU [(80, ON), (81, U6)] (gs u5 (gs xG g0)) rfl (fun _ _ => rfl) fun O x => by kernel_rfl
theorem ik : Vd Tryz.prog 101 E9 := vt mix gR RG [] g0 rfl (fun _ _ => rfl) fun O x => by kernel_rfl
theorem wc : Vd Tryz.prog 82 Ws := vt mix oO XB [(49, Ad), (101, E9)] (gs D1 (gs ik g0)) rfl (fun _ _ => rfl) fun O x => by kernel_rfl
theorem B4 : Vd Tryz.prog 171 AN := vt mix hC RS [] g0 rfl (fun _ _ => rfl) fun O x => by kernel_rfl
theorem Xj : Vd Tryz.prog 142 DD := vt mix iS Rj [(171, AN)] (gs B4 g0) rfl (fun _ _ => rfl) fun O x => by kernel_rfl
theorem tQ : Vd Tryz.prog 113 RB := vt mix iK Ri [(101, E9), (142, DD)] (gs ik (gs Xj g0)) rfl (fun _ _ => rfl) fun O x => by kernel_rfl
theorem jN : Vd Tryz.prog 185 Fn := vt mix pk rW [] g0 rfl (fun _ _ => rfl) fun O x => by kernel_rfl
theorem ww : Vd Tryz.prog 186 SK := vt mix oU XH [(185, Fn)] (gs jN g0) rfl (fun _ _ => rfl) fun O x => by kernel_rfl
theorem RJ : Vd Tryz.prog 188 Ba := vt mix ge JS [] g0 rfl (fun _ _ => rfl) fun O x => by kernel_rfl
theorem o4 : Vd Tryz.prog 187 I3 := vt mix bJ Mg [(188, Ba)] (gs RJ g0) rfl (fun _ _ => rfl) fun O x => by kernel_rfl
theorem XJ : Vd Tryz.prog 172 Cq := vt mix iH Rk [(49, Ad), (185, Fn), (186, SK), (187, I3)] (gs D1 (gs jN (gs ww (gs o4 g0)))) rfl (fun _ _ => rfl) fun O x => by kernel_rfl
theorem MI : Vd Tryz.prog 148 B7 := vt mix hY Rb [] g0 rfl (fun _ _ => rfl) fun O x => by kernel_rfl
theorem cy : Vd Tryz.prog 173 FK := vt mix cm Ps [(148, B7)] (gs MI g0) rfl (fun _ _ => rfl) fun O x => by kernel_rfl
theorem lG : Vd Tryz.prog 143 Gq := vt mix XC Jy [(172, Cq), (173, FK)] (gs XJ (gs cy g0)) rfl (fun _ _ => rfl) fun O x => by kernel_rfl
theorem X7 : Vd Tryz.prog 114 FB := vt mix hO RL [(49, Ad), (143, Gq)] (gs D1 (gs lG g0)) rfl (fun _ _ => rfl) fun O x => by kernel_rfl
theorem rh : Vd Tryz.prog 144 Km := vt mix ct Pw [] g0 rfl (fun _ _ => rfl) fun O x => by kernel_rfl
theorem vW : Vd Tryz.prog 145 OQ := vt mix ko UU [] g0 rfl (fun _ _ => rfl) fun O x => by kernel_rfl
theorem xD : Vd Tryz.prog 146 VG := vt mix qX jQ [] g0 rfl (fun _ _ => rfl) fun O x => by kernel_rfl
theorem w9 : Vd Tryz.prog 174 Um := vt mix rU ji [] g0 rfl (fun _ _ => rfl) fun O x => by kernel_rfl
theorem sQ : Vd Tryz.prog 147 Mb := vt mix go RF [(174, Um)] (gs w9 g0) rfl (fun _ _ => rfl) fun O x => by kernel_rfl
theorem gQ : Vd Tryz.prog 115 JQ := vt mix iM Rg [(144, Km), (145, OQ), (146, VG), (147, Mb)] (gs rh (gs vW (gs xD (gs sQ g0)))) rfl (fun _ _ => rfl) fun O x => by kernel_rfl
theorem XK : Vd Tryz.prog 151 E7 := vt mix gn RK [] g0 rfl (fun _ _ => rfl) fun O x => by kernel_rfl
def kv : Cfg := { gam := [], imm := false, old := false }
theorem sR (O : Alg) (x : Ags O) : XF (O := O) Tryz.prog kv false false [] 117 [] (xr x Zy 0) = Oa O x := by kernel_rfl
theorem Th {E : Env} {M : Nat} (N : Nat) (h : ∀ ls, E 117 [] ls = DN N ls) : VV Tryz.prog E M ⟨117, [], false, false, []⟩ :=
 Ae mix (E := KR N) (N := N) (cfg := kv) (ci := ⟨117, [], false, false, []⟩) (ks := Zy) Az (c := DN N) (F := fun ls => Oa (std (KR N) N) (xOf ls)) (fun ls => rfl) (fun ls => sR (std (KR N) N) (xOf ls)) h
def bv : Cfg := { gam := [⟨114, [], true, true, []⟩, ⟨117, [], false, false, []⟩, ⟨173, [], true, true, []⟩], imm := false, old := false }
theorem mR (O : Alg) (x : Ags O) : XF (O := O) Tryz.prog bv true true [] 175 [] (xr x Sy 0) = JI O x := by kernel_rfl
theorem pN : Vd Tryz.prog 175 JC := fun N h =>
 Ae mix (E := Ci N) (N := N) (cfg := bv) (ci := ⟨175, [], true, true, []⟩) (ks := Sy) (AD (X7 N (fun _ => rfl)) (AD (Th N (fun _ => rfl)) (AD (cy N (fun _ => rfl)) Az))) (c := JC N) (F := fun ls => JI (std (Ci N) N) (xOf ls)) (fun ls => rfl) (fun ls => mR (std (Ci N) N) (xOf ls)) h
theorem ss : Vd Tryz.prog 176 RH := vt mix ii Rn [(49, Ad), (185, Fn)] (gs D1 (gs jN g0)) rfl (fun _ _ => rfl) fun O x => by kernel_rfl
theorem bU : Vd Tryz.prog 178 GA := vt mix bE Mp [(142, DD)] (gs Xj g0) rfl (fun _ _ => rfl) fun O x => by kernel_rfl
theorem Pc : Vd Tryz.prog 214 BW := vt mix cd Pa [] g0 rfl (fun _ _ => rfl) fun O x => by kernel_rfl
theorem vF : Vd Tryz.prog 196 Tj := vt mix l8 UA [(171, AN), (188, Ba), (214, BW)] (gs B4 (gs RJ (gs Pc g0))) rfl (fun _ _ => rfl) fun O x => by kernel_rfl
theorem HY : Vd Tryz.prog 227 As := vt mix YK Ky [] g0 rfl (fun _ _ => rfl) fun O x => by kernel_rfl
theorem VI : Vd Tryz.prog 229 CO := vt mix dM Pm [] g0 rfl (fun _ _ => rfl) fun O x => by kernel_rfl
theorem uq : Vd Tryz.prog 230 OO := vt mix l7 Ts [(49, Ad), (229, CO)] (gs D1 (gs VI g0)) rfl (fun _ _ => rfl) fun O x => by kernel_rfl
theorem nl : Vd Tryz.prog 231 ID := vt mix ny WW [] g0 rfl (fun _ _ => rfl) fun O x => by kernel_rfl
theorem wY : Vd Tryz.prog 215 SV := vt mix nV WX [(49, Ad), (227, As), (229, CO), (230, OO), (231, ID)] (gs D1 (gs HY (gs VI (gs uq (gs nl g0))))) rfl (fun _ _ => rfl) fun O x => by kernel_rfl
theorem vB : Vd Tryz.prog 197 Tl := vt mix ll UN [(171, AN), (215, SV)] (gs B4 (gs wY g0)) rfl (fun _ _ => rfl) fun O x => by kernel_rfl
theorem Vo : Vd Tryz.prog 208 CU := vt mix fD HZ [(188, Ba)] (gs RJ g0) rfl (fun _ _ => rfl) fun O x => by kernel_rfl
theorem PW : Vd Tryz.prog 226 BV := vt mix dJ Pi [] g0 rfl (fun _ _ => rfl) fun O x => by kernel_rfl
theorem oc : Vd Tryz.prog 232 JJ := vt mix bp M5 [] g0 rfl (fun _ _ => rfl) fun O x => by kernel_rfl
theorem sJ : Vd Tryz.prog 216 RV := vt mix gf Rl [(226, BV), (227, As), (232, JJ)] (gs PW (gs HY (gs oc g0))) rfl (fun _ _ => rfl) fun O x => by kernel_rfl
theorem xE : Vd Tryz.prog 233 Ul := vt mix pq i6 [] g0 rfl (fun _ _ => rfl) fun O x => by kernel_rfl
theorem mt : Vd Tryz.prog 234 Hy := vt mix YM LP [] g0 rfl (fun _ _ => rfl) fun O x => by kernel_rfl
theorem iI : Vd Tryz.prog 217 Gy := vt mix ib RO [(233, Ul), (234, Hy)] (gs xE (gs mt g0)) rfl (fun _ _ => rfl) fun O x => by kernel_rfl
theorem nR : Vd Tryz.prog 235 HT := vt mix YP K8 [] g0 rfl (fun _ _ => rfl) fun O x => by kernel_rfl
theorem xt : Vd Tryz.prog 236 Ug := vt mix po Zc [] g0 rfl (fun _ _ => rfl) fun O x => by kernel_rfl
theorem qH : Vd Tryz.prog 237 KM := vt mix cf PF [] g0 rfl (fun _ _ => rfl) fun O x => by kernel_rfl
theorem nA : Vd Tryz.prog 218 Kz := vt mix Y5 K3 [(235, HT), (236, Ug), (237, KM)] (gs nR (gs xt (gs qH g0))) rfl (fun _ _ => rfl) fun O x => by kernel_rfl
theorem so : Vd Tryz.prog 219 Q7 := vt mix ga RQ [(226, BV), (227, As)] (gs PW (gs HY g0)) rfl (fun _ _ => rfl) fun O x => by kernel_rfl
theorem mi : Vd Tryz.prog 238 Hr := vt mix Yw LW [] g0 rfl (fun _ _ => rfl) fun O x => by kernel_rfl
theorem sj : Vd Tryz.prog 239 MP := vt mix gt Rm [] g0 rfl (fun _ _ => rfl) fun O x => by kernel_rfl
theorem rD : Vd Tryz.prog 220 PD := vt mix dz PN [(217, Gy), (238, Hr), (239, MP)] (gs iI (gs mi (gs sj g0))) rfl (fun _ _ => rfl) fun O x => by kernel_rfl
theorem cu : Vd Tryz.prog 223 Fj := vt mix dy Oi [(171, AN)] (gs B4 g0) rfl (fun _ _ => rfl) fun O x => by kernel_rfl
theorem w0 : Vd Tryz.prog 221 W3 := vt mix oM Wq [(171, AN), (214, BW), (223, Fj)] (gs B4 (gs Pc (gs cu g0))) rfl (fun _ _ => rfl) fun O x => by kernel_rfl
theorem ue : Vd Tryz.prog 222 Te := vt mix kL UT [(49, Ad), (171, AN), (229, CO), (231, ID)] (gs D1 (gs B4 (gs VI (gs nl g0)))) rfl (fun _ _ => rfl) fun O x => by kernel_rfl
theorem tL : Vd Tryz.prog 224 RT := vt mix gZ ic [] g0 rfl (fun _ _ => rfl) fun O x => by kernel_rfl
def mC : Cfg := { gam := [⟨208, [], true, true, []⟩, ⟨216, [], true, true, []⟩, ⟨217, [], true, true, []⟩, ⟨218, [], true, true, []⟩, ⟨219, [], true, true, []⟩, ⟨220, [], true, true, []⟩, ⟨221, [], true, true, []⟩, ⟨222, [], true, true, []⟩, ⟨223, [], true, true, []⟩, ⟨224, [], true, true, []⟩], imm := false, old := false }
theorem sm (O : Alg) (x : Ags O) : XF (O := O) Tryz.prog mC false false [] 198 [] (xr x aE 0) = PI O x := by kernel_rfl
theorem ut {E : Env} {M : Nat} (N : Nat) (h : ∀ ls, E 198 [] ls = P0 N ls) : VV Tryz.prog E M ⟨198, [], false, false, []⟩ :=
 Ae mix (E := BM N) (N := N) (cfg := mC) (ci := ⟨198, [], false, false, []⟩) (ks := aE) (AD (Vo N (fun _ => rfl)) (AD (sJ N (fun _ => rfl)) (AD (iI N (fun _ => rfl)) (AD (nA N (fun _ => rfl)) (AD (so N (fun _ => rfl)) (AD (rD N (fun _ => rfl)) (AD (w0 N (fun _ => rfl)) (AD (ue N (fun _ => rfl)) (AD (cu N (fun _ => rfl)) (AD (tL N (fun _ => rfl)) Az)))))))))) (c := P0 N) (F := fun ls => PI (std (BM N) N) (xOf ls)) (fun ls => rfl) (fun ls => sm (std (BM N) N) (xOf ls)) h
theorem g8 : Vd Tryz.prog 225 FC := vt mix gy RX [(208, CU), (214, BW)] (gs Vo (gs Pc g0)) rfl (fun _ _ => rfl) fun O x => by kernel_rfl
theorem oW : Vd Tryz.prog 199 Mh := vt mix bP NC [(171, AN), (225, FC)] (gs B4 (gs g8 g0)) rfl (fun _ _ => rfl) fun O x => by kernel_rfl
theorem tV : Vd Tryz.prog 200 RZ := vt mix gN Rd [(171, AN), (225, FC)] (gs B4 (gs g8 g0)) rfl (fun _ _ => rfl) fun O x => by kernel_rfl
theorem kA : Vd Tryz.prog 209 E1 := vt mix ke Lc [] g0 rfl (fun _ _ => rfl) fun O x => by kernel_rfl
theorem qS : Vd Tryz.prog 201 P3 := vt mix eV OK [(171, AN), (209, E1), (214, BW)] (gs B4 (gs kA (gs Pc g0))) rfl (fun _ _ => rfl) fun O x => by kernel_rfl
theorem o5 : Vd Tryz.prog 202 M3 := vt mix bl M7 [(171, AN)] (gs B4 g0) rfl (fun _ _ => rfl) fun O x => by kernel_rfl
theorem qO : Vd Tryz.prog 203 O1 := vt mix dp Ok [(171, AN), (226, BV), (227, As)] (gs B4 (gs PW (gs HY g0))) rfl (fun _ _ => rfl) fun O x => by kernel_rfl
theorem js : Vd Tryz.prog 204 IH := vt mix U7 IQ [(171, AN), (226, BV), (227, As)] (gs B4 (gs PW (gs HY g0))) rfl (fun _ _ => rfl) fun O x => by kernel_rfl
theorem pE : Vd Tryz.prog 205 Mo := vt mix bm Mi [(49, Ad), (171, AN)] (gs D1 (gs B4 g0)) rfl (fun _ _ => rfl) fun O x => by kernel_rfl
def eY : Cfg := { gam := [], imm := false, old := false }
theorem pO (O : Alg) (x : Ags O) : XF (O := O) Tryz.prog eY false false [] 206 [] (xr x VN 0) = Ht O x := by kernel_rfl
theorem rY {E : Env} {M : Nat} (N : Nat) (h : ∀ ls, E 206 [] ls = J4 N ls) : VV Tryz.prog E M ⟨206, [], false, false, []⟩ :=
 Ae mix (E := Hw N) (N := N) (cfg := eY) (ci := ⟨206, [], false, false, []⟩) (ks := VN) Az (c := J4 N) (F := fun ls => Ht (std (Hw N) N) (xOf ls)) (fun ls => rfl) (fun ls => pO (std (Hw N) N) (xOf ls)) h
theorem sV : Vd Tryz.prog 228 RC := vt mix iX gw [] g0 rfl (fun _ _ => rfl) fun O x => by kernel_rfl
def cw : Cfg := { gam := [⟨228, [], true, true, []⟩], imm := false, old := false }
theorem oy (O : Alg) (x : Ags O) : XF (O := O) Tryz.prog cw false false [] 207 [] (xr x VM 0) = Kx O x := by kernel_rfl
theorem qC {E : Env} {M : Nat} (N : Nat) (h : ∀ ls, E 207 [] ls = Kr N ls) : VV Tryz.prog E M ⟨207, [], false, false, []⟩ :=
 Ae mix (E := FE N) (N := N) (cfg := cw) (ci := ⟨207, [], false, false, []⟩) (ks := VM) (AD (sV N (fun _ => rfl)) Az) (c := Kr N) (F := fun ls => Kx (std (FE N) N) (xOf ls)) (fun ls => rfl) (fun ls => oy (std (FE N) N) (xOf ls)) h
def nn : Cfg := { gam := [⟨178, [], true, true, []⟩, ⟨196, [], true, true, []⟩, ⟨197, [], true, true, []⟩, ⟨198, [], false, false, []⟩, ⟨199, [], true, true, []⟩, ⟨200, [], true, true, []⟩, ⟨201, [], true, true, []⟩, ⟨202, [], true, true, []⟩, ⟨203, [], true, true, []⟩, ⟨204, [], true, true, []⟩, ⟨205, [], true, true, []⟩, ⟨206, [], false, false, []⟩, ⟨207, [], false, false, []⟩], imm := false, old := false }
theorem vd (O : Alg) (x : Ags O) : XF (O := O) Tryz.prog nn false false [] 189 [] (xr x di 0) = Nv O x := by kernel_rfl
theorem vy {E : Env} {M : Nat} (N : Nat) (h : ∀ ls, E 189 [] ls = SL N ls) : VV Tryz.prog E M ⟨189, [], false, false, []⟩ :=
 Ae mix (E := A8 N) (N := N) (cfg := nn) (ci := ⟨189, [], false, false, []⟩) (ks := di) (AD (bU N (fun _ => rfl)) (AD (vF N (fun _ => rfl)) (AD (vB N (fun _ => rfl)) (AD (ut N (fun _ => rfl)) (AD (oW N (fun _ => rfl)) (AD (tV N (fun _ => rfl)) (AD (qS N (fun _ => rfl)) (AD (o5 N (fun _ => rfl)) (AD (qO N (fun _ => rfl)) (AD (js N (fun _ => rfl)) (AD (pE N (fun _ => rfl)) (AD (rY N (fun _ => rfl)) (AD (qC N (fun _ => rfl)) Az))))))))))))) (c := SL N) (F := fun ls => Nv (std (A8 N) N) (xOf ls)) (fun ls => rfl) (fun ls => vd (std (A8 N) N) (xOf ls)) h
theorem rt : Vd Tryz.prog 190 Kl := vt mix et Oh [(172, Cq), (208, CU), (209, E1)] (gs XJ (gs Vo (gs kA g0))) rfl (fun _ _ => rfl) fun O x => by kernel_rfl
def kX : Cfg := { gam := [⟨115, [], true, true, []⟩, ⟨142, [], true, true, []⟩, ⟨172, [], true, true, []⟩, ⟨188, [], true, true, []⟩, ⟨189, [], false, false, []⟩, ⟨190, [], true, true, []⟩], imm := false, old := false }
theorem tD (O : Alg) (x : Ags O) : XF (O := O) Tryz.prog kX false false [] 177 [] (xr x aj 0) = Pn O x := by kernel_rfl
theorem mF {E : Env} {M : Nat} (N : Nat) (h : ∀ ls, E 177 [] ls = Ia N ls) : VV Tryz.prog E M ⟨177, [], false, false, []⟩ :=
 Ae mix (E := CR N) (N := N) (cfg := kX) (ci := ⟨177, [], false, false, []⟩) (ks := aj) (AD (gQ N (fun _ => rfl)) (AD (Xj N (fun _ => rfl)) (AD (XJ N (fun _ => rfl)) (AD (RJ N (fun _ => rfl)) (AD (vy N (fun _ => rfl)) (AD (rt N (fun _ => rfl)) Az)))))) (c := Ia N) (F := fun ls => Pn (std (CR N) N) (xOf ls)) (fun ls => rfl) (fun ls => tD (std (CR N) N) (xOf ls)) h
def lS : Cfg := { gam := [⟨148, [], true, true, []⟩, ⟨151, [], true, true, []⟩, ⟨175, [], true, true, []⟩, ⟨176, [], true, true, []⟩, ⟨177, [], false, false, []⟩], imm := false, old := false }
theorem se (O : Alg) (x : Ags O) : XF (O := O) Tryz.prog lS false false [true, false] 149 [] (xr x Zq 0) = Oq O x := by kernel_rfl
theorem uh {E : Env} {M : Nat} (N : Nat) (h : ∀ ls, E 149 [] ls = Oo N ls) : VV Tryz.prog E M ⟨149, [], false, false, [true, false]⟩ :=
 Ae mix (E := Cr N) (N := N) (cfg := lS) (ci := ⟨149, [], false, false, [true, false]⟩) (ks := Zq) (AD (MI N (fun _ => rfl)) (AD (XK N (fun _ => rfl)) (AD (pN N (fun _ => rfl)) (AD (ss N (fun _ => rfl)) (AD (mF N (fun _ => rfl)) Az))))) (c := Oo N) (F := fun ls => Oq (std (Cr N) N) (xOf ls)) (fun ls => rfl) (fun ls => se (std (Cr N) N) (xOf ls)) h
def kj : Cfg := { gam := [⟨177, [], false, false, []⟩, ⟨178, [], true, true, []⟩], imm := true, old := true }
theorem sM (O : Alg) (x : Ags O) : XF (O := O) Tryz.prog kj false false [true, false] 150 [] (xr x Zb 0) = P4 O x := by kernel_rfl
theorem vO {E : Env} {M : Nat} (N : Nat) (h : ∀ ls, E 150 [] ls = PL N ls) : VV Tryz.prog E M ⟨150, [], false, false, [true, false]⟩ :=
 Ae mix (E := FZ N) (N := N) (cfg := kj) (ci := ⟨150, [], false, false, [true, false]⟩) (ks := Zb) (AD (mF N (fun _ => rfl)) (AD (bU N (fun _ => rfl)) Az)) (c := PL N) (F := fun ls => P4 (std (FZ N) N) (xOf ls)) (fun ls => rfl) (fun ls => sM (std (FZ N) N) (xOf ls)) h
def oE : Cfg := { gam := [⟨148, [], true, true, []⟩, ⟨149, [], false, false, [true, false]⟩, ⟨150, [], false, false, [true, false]⟩], imm := false, old := false }
theorem uc (O : Alg) (x : Ags O) : XF (O := O) Tryz.prog oE false false [true, false] 116 [] (xr x ez 0) = SQ O x := by kernel_rfl
theorem wJ {E : Env} {M : Nat} (N : Nat) (h : ∀ ls, E 116 [] ls = ST N ls) : VV Tryz.prog E M ⟨116, [], false, false, [true, false]⟩ :=
 Ae mix (E := E6 N) (N := N) (cfg := oE) (ci := ⟨116, [], false, false, [true, false]⟩) (ks := ez) (AD (MI N (fun _ => rfl)) (AD (uh N (fun _ => rfl)) (AD (vO N (fun _ => rfl)) Az))) (c := ST N) (F := fun ls => SQ (std (E6 N) N) (xOf ls)) (fun ls => rfl) (fun ls => uc (std (E6 N) N) (xOf ls)) h
def bA : Cfg := { gam := [⟨114, [], true, true, []⟩, ⟨117, [], false, false, []⟩, ⟨148, [], true, true, []⟩, ⟨151, [], true, true, []⟩], imm := false, old := false }
theorem nH (O : Alg) (x : Ags O) : XF (O := O) Tryz.prog bA true true [] 152 [] (xr x Sh 0) = Ix O x := by kernel_rfl
theorem o9 : Vd Tryz.prog 152 Iy := fun N h =>
 Ae mix (E := CJ N) (N := N) (cfg := bA) (ci := ⟨152, [], true, true, []⟩) (ks := Sh) (AD (X7 N (fun _ => rfl)) (AD (Th N (fun _ => rfl)) (AD (MI N (fun _ => rfl)) (AD (XK N (fun _ => rfl)) Az)))) (c := Iy N) (F := fun ls => Ix (std (CJ N) N) (xOf ls)) (fun ls => rfl) (fun ls => nH (std (CJ N) N) (xOf ls)) h
def dX : Cfg := { gam := [⟨117, [], false, false, []⟩, ⟨148, [], true, true, []⟩, ⟨151, [], true, true, []⟩, ⟨152, [], true, true, []⟩], imm := false, old := false }
theorem pF (O : Alg) (x : Ags O) : XF (O := O) Tryz.prog dX false false [] 118 [] (xr x VE 0) = Kt O x := by kernel_rfl
theorem qp {E : Env} {M : Nat} (N : Nat) (h : ∀ ls, E 118 [] ls = Kj N ls) : VV Tryz.prog E M ⟨118, [], false, false, []⟩ :=
 Ae mix (E := CX N) (N := N) (cfg := dX) (ci := ⟨118, [], false, false, []⟩) (ks := VE) (AD (Th N (fun _ => rfl)) (AD (MI N (fun _ => rfl)) (AD (XK N (fun _ => rfl)) (AD (o9 N (fun _ => rfl)) Az)))) (c := Kj N) (F := fun ls => Kt (std (CX N) N) (xOf ls)) (fun ls => rfl) (fun ls => pF (std (CX N) N) (xOf ls)) h
def kS : Cfg := { gam := [⟨113, [], true, true, []⟩, ⟨114, [], true, true, []⟩, ⟨115, [], true, true, []⟩, ⟨116, [], false, false, [true, false]⟩, ⟨117, [], false, false, []⟩, ⟨118, [], false, false, []⟩], imm := false, old := false }
theorem sn (O : Alg) (x : Ags O) : XF (O := O) Tryz.prog kS false false [] 102 [] (xr x Zf 0) = OU O x := by kernel_rfl
theorem uF {E : Env} {M : Nat} (N : Nat) (h : ∀ ls, E 102 [] ls = Om N ls) : VV Tryz.prog E M ⟨102, [], false, false, []⟩ :=
 Ae mix (E := CS N) (N := N) (cfg := kS) (ci := ⟨102, [], false, false, []⟩) (ks := Zf) (AD (tQ N (fun _ => rfl)) (AD (X7 N (fun _ => rfl)) (AD (gQ N (fun _ => rfl)) (AD (wJ N (fun _ => rfl)) (AD (Th N (fun _ => rfl)) (AD (qp N (fun _ => rfl)) Az)))))) (c := Om N) (F := fun ls => OU (std (CS N) N) (xOf ls)) (fun ls => rfl) (fun ls => sn (std (CS N) N) (xOf ls)) h
def lJ : Cfg := { gam := [⟨102, [], false, false, []⟩], imm := true, old := true }
theorem su (O : Alg) (x : Ags O) : XF (O := O) Tryz.prog lJ false false [] 83 [] (xr x Zl 0) = Oz O x := by kernel_rfl
theorem uk {E : Env} {M : Nat} (N : Nat) (h : ∀ ls, E 83 [] ls = PE N ls) : VV Tryz.prog E M ⟨83, [], false, false, []⟩ :=
 Ae mix (E := Hg N) (N := N) (cfg := lJ) (ci := ⟨83, [], false, false, []⟩) (ks := Zl) (AD (uF N (fun _ => rfl)) Az) (c := PE N) (F := fun ls => Oz (std (Hg N) N) (xOf ls)) (fun ls => rfl) (fun ls => su (std (Hg N) N) (xOf ls)) h
def dN : Cfg := { gam := [⟨82, [], true, true, []⟩, ⟨83, [], false, false, []⟩], imm := false, old := false }
theorem od (O : Alg) (x : Ags O) : XF (O := O) Tryz.prog dN false false [] 50 [] (xr x Ux 0) = KZ O x := by kernel_rfl
theorem eh {E : Env} {M : Nat} (N : Nat) (h : ∀ ls, E 50 [] ls = FV N ls) : VV Tryz.prog E M ⟨50, [], false, false, []⟩ :=
 Ae mix (E := Dr N) (N := N) (cfg := dN) (ci := ⟨50, [], false, false, []⟩) (ks := Ux) (AD (wc N (fun _ => rfl)) (AD (uk N (fun _ => rfl)) Az)) (c := FV N) (F := fun ls => KZ (std (Dr N) N) (xOf ls)) (fun ls => rfl) (fun ls => od (std (Dr N) N) (xOf ls)) h
def iY : Cfg := { gam := [⟨49, [], true, true, []⟩, ⟨50, [], false, false, []⟩], imm := false, old := false }
theorem qg (O : Alg) (x : Ags O) : XF (O := O) Tryz.prog iY true true [] 30 [] (xr x Xx 0) = MB O x := by kernel_rfl
theorem XS : Vd Tryz.prog 30 D0 := fun N h =>
 Ae mix (E := EZ N) (N := N) (cfg := iY) (ci := ⟨30, [], true, true, []⟩) (ks := Xx) (AD (D1 N (fun _ => rfl)) (AD (eh N (fun _ => rfl)) Az)) (c := D0 N) (F := fun ls => MB (std (EZ N) N) (xOf ls)) (fun ls => rfl) (fun ls => qg (std (EZ N) N) (xOf ls)) h
def bI : Cfg := { gam := [⟨50, [], false, false, []⟩], imm := false, old := false }
theorem mZ (O : Alg) (x : Ags O) : XF (O := O) Tryz.prog bI false false [] 38 [] (xr x Sr 0) = JD O x := by kernel_rfl
theorem S9 {E : Env} {M : Nat} (N : Nat) (h : ∀ ls, E 38 [] ls = Bi N ls) : VV Tryz.prog E M ⟨38, [], false, false, []⟩ :=
 Ae mix (E := EP N) (N := N) (cfg := bI) (ci := ⟨38, [], false, false, []⟩) (ks := Sr) (AD (eh N (fun _ => rfl)) Az) (c := Bi N) (F := fun ls => JD (std (EP N) N) (xOf ls)) (fun ls => rfl) (fun ls => mZ (std (EP N) N) (xOf ls)) h
def bL : Cfg := { gam := [⟨30, [], true, true, []⟩, ⟨38, [], false, false, []⟩], imm := false, old := false }
theorem mc (O : Alg) (x : Ags O) : XF (O := O) Tryz.prog bL false false [] 18 [] (xr x Su 0) = JF O x := by kernel_rfl
theorem oj {E : Env} {M : Nat} (N : Nat) (h : ∀ ls, E 18 [] ls = JM N ls) : VV Tryz.prog E M ⟨18, [], false, false, []⟩ :=
 Ae mix (E := DE N) (N := N) (cfg := bL) (ci := ⟨18, [], false, false, []⟩) (ks := Su) (AD (XS N (fun _ => rfl)) (AD (S9 N (fun _ => rfl)) Az)) (c := JM N) (F := fun ls => JF (std (DE N) N) (xOf ls)) (fun ls => rfl) (fun ls => mc (std (DE N) N) (xOf ls)) h
theorem Zx : Vd Tryz.prog 19 E3 := vt mix Pe Eu [] g0 rfl (fun _ _ => rfl) fun O x => by kernel_rfl
def Vj : Cfg := { gam := [⟨16, [], true, true, []⟩, ⟨17, [], true, true, []⟩, ⟨34, [], false, false, []⟩], imm := false, old := false }
theorem gM (O : Alg) (x : Ags O) : XF (O := O) Tryz.prog Vj false false [] 20 [] (xr x NL 0) = FI O x := by kernel_rfl
theorem i3 {E : Env} {M : Nat} (N : Nat) (h : ∀ ls, E 20 [] ls = FT N ls) : VV Tryz.prog E M ⟨20, [], false, false, []⟩ :=
 Ae mix (E := Bn N) (N := N) (cfg := Vj) (ci := ⟨20, [], false, false, []⟩) (ks := NL) (AD (RY N (fun _ => rfl)) (AD (N0 N (fun _ => rfl)) (AD (Lu N (fun _ => rfl)) Az))) (c := FT N) (F := fun ls => FI (std (Bn N) N) (xOf ls)) (fun ls => rfl) (fun ls => gM (std (Bn N) N) (xOf ls)) h
def dB : Cfg := { gam := [⟨30, [], true, true, []⟩, ⟨38, [], false, false, []⟩], imm := false, old := false }
theorem ow (O : Alg) (x : Ags O) : XF (O := O) Tryz.prog dB false false [] 21 [] (xr x Vs 0) = Kp O x := by kernel_rfl
theorem rX {E : Env} {M : Nat} (N : Nat) (h : ∀ ls, E 21 [] ls = KE N ls) : VV Tryz.prog E M ⟨21, [], false, false, []⟩ :=
 Ae mix (E := Du N) (N := N) (cfg := dB) (ci := ⟨21, [], false, false, []⟩) (ks := Vs) (AD (XS N (fun _ => rfl)) (AD (S9 N (fun _ => rfl)) Az)) (c := KE N) (F := fun ls => Kp (std (Du N) N) (xOf ls)) (fun ls => rfl) (fun ls => ow (std (Du N) N) (xOf ls)) h
def eZ : Cfg := { gam := [⟨30, [], true, true, []⟩, ⟨38, [], false, false, []⟩], imm := false, old := false }
theorem pD (O : Alg) (x : Ags O) : XF (O := O) Tryz.prog eZ false false [] 22 [] (xr x Uv 0) = J9 O x := by kernel_rfl
theorem ro {E : Env} {M : Nat} (N : Nat) (h : ∀ ls, E 22 [] ls = Kn N ls) : VV Tryz.prog E M ⟨22, [], false, false, []⟩ :=
 Ae mix (E := Dm N) (N := N) (cfg := eZ) (ci := ⟨22, [], false, false, []⟩) (ks := Uv) (AD (XS N (fun _ => rfl)) (AD (S9 N (fun _ => rfl)) Az)) (c := Kn N) (F := fun ls => J9 (std (Dm N) N) (xOf ls)) (fun ls => rfl) (fun ls => pD (std (Dm N) N) (xOf ls)) h
def SO : Cfg := { gam := [⟨8, [], true, true, []⟩, ⟨11, [], false, false, []⟩, ⟨14, [], false, false, []⟩, ⟨15, [], false, false, []⟩, ⟨18, [], false, false, []⟩, ⟨19, [], true, true, []⟩, ⟨20, [], false, false, []⟩, ⟨21, [], false, false, []⟩, ⟨22, [], false, false, []⟩], imm := false, old := false }
theorem cN (O : Alg) (x : Ags O) : XF (O := O) Tryz.prog SO true true [] 6 [] (xr x Kv 0) = D2 O x := by kernel_rfl
theorem fE : Vd Tryz.prog 6 EG := fun N h =>
 Ae mix (E := Al N) (N := N) (cfg := SO) (ci := ⟨6, [], true, true, []⟩) (ks := Kv) (AD (tS N (fun _ => rfl)) (AD (TF N (fun _ => rfl)) (AD (wo N (fun _ => rfl)) (AD (iu N (fun _ => rfl)) (AD (oj N (fun _ => rfl)) (AD (Zx N (fun _ => rfl)) (AD (i3 N (fun _ => rfl)) (AD (rX N (fun _ => rfl)) (AD (ro N (fun _ => rfl)) Az))))))))) (c := EG N) (F := fun ls => D2 (std (Al N) N) (xOf ls)) (fun ls => rfl) (fun ls => cN (std (Al N) N) (xOf ls)) h
end Go.Px
