/- Part 14. -/
import Derived.Test.YtmpgkalgfmnpjaaGreatPart07
import Derived.Test.YtmpgkalgfmnpjaaGreatProg
import Derived.Test.YtmpgkalgfmnpjaaGreatPart08
import Derived.KernelRfl
import Derived.WalkKit
import Derived.Lib.Walk
import Derived.BigCall
import Derived.BigGuard
set_option linter.unusedVariables false
set_option linter.unusedSimpArgs false
namespace Go.Px
open Go.Proofs
set_option maxRecDepth 100000
theorem mix : Tryz.prog.follows .mixedOrders = true := by kernel_rfl
theorem Tc : Vd Tryz.prog 11 C5 := vt mix L8 Eb [] g0 rfl (fun _ _ => rfl) fun O x => by kernel_rfl
theorem Ig : Vd Tryz.prog 12 A2 := vt mix Rr Ip [] g0 rfl (fun _ _ => rfl) fun O x => by kernel_rfl
theorem Zp : Vd Tryz.prog 27 HD := vt mix TD Jo [] g0 rfl (fun _ _ => rfl) fun O x => by kernel_rfl
theorem Zt : Vd Tryz.prog 15 G8 := vt mix TB Jt [(12, A2), (27, HD)] (gs Ig (gs Zp g0)) rfl (fun _ _ => rfl) fun O x => by kernel_rfl
theorem cn : Vd Tryz.prog 51 JP := vt mix Vw M0 [] g0 rfl (fun _ _ => rfl) fun O x => by kernel_rfl
theorem QC : Vd Tryz.prog 65 CG := vt mix Qq QJ [] g0 rfl (fun _ _ => rfl) fun O x => by kernel_rfl
theorem YH : Vd Tryz.prog 52 FM := vt mix Qv Hk [(65, CG)] (gs QC g0) rfl (fun _ _ => rfl) fun O x => by kernel_rfl
theorem Ye : Vd Tryz.prog 53 GO := vt mix Rq Iq [(65, CG)] (gs QC g0) rfl (fun _ _ => rfl) fun O x => by kernel_rfl
theorem CR : Vd Tryz.prog 39 AN := vt mix TG Js [(51, JP), (52, FM), (53, GO)] (gs cn (gs YH (gs Ye g0))) rfl (fun _ _ => rfl) fun O x => by kernel_rfl
theorem SV : Vd Tryz.prog 70 Ci := fun N h =>
 Mx mix (T := 33) (e := 107) (b := 24) Tryz.func70 Tryz.underlying33 (by kernel_rfl) (by decide) (fun O l => by kernel_rfl) (fun O l => by kernel_rfl) h
theorem S6 : Vd Tryz.prog 63 Cu := vt mix S8 Ju [(70, Ci)] (gs SV g0) rfl (fun _ _ => rfl) fun O x => by kernel_rfl
theorem da : Vd Tryz.prog 48 M3 := vt mix VY M5 [(39, AN), (63, Cu)] (gs CR (gs S6 g0)) rfl (fun _ _ => rfl) fun O x => by kernel_rfl
theorem Du : Vd Tryz.prog 107 Ae := vt mix OK OV [] g0 rfl (fun _ _ => rfl) fun O x => by kernel_rfl
theorem VT : Vd Tryz.prog 108 Dy := vt mix OT Fl [(107, Ae)] (gs Du g0) rfl (fun _ _ => rfl) fun O x => by kernel_rfl
theorem Tu : Vd Tryz.prog 144 DS := vt mix NN Fb [] g0 rfl (fun _ _ => rfl) fun O x => by kernel_rfl
theorem GT : Vd Tryz.prog 130 Ak := vt mix Ka DZ [(144, DS)] (gs Tu g0) rfl (fun _ _ => rfl) fun O x => by kernel_rfl
theorem Tb : Vd Tryz.prog 109 C4 := vt mix MF Ea [(107, Ae), (130, Ak)] (gs Du (gs GT g0)) rfl (fun _ _ => rfl) fun O x => by kernel_rfl
theorem Tl : Vd Tryz.prog 132 C3 := vt mix MB Ef [(107, Ae)] (gs Du g0) rfl (fun _ _ => rfl) fun O x => by kernel_rfl
theorem VQ : Vd Tryz.prog 110 Dw := vt mix OA Fm [(132, C3)] (gs Tl g0) rfl (fun _ _ => rfl) fun O x => by kernel_rfl
theorem LG : Vd Tryz.prog 82 BI := vt mix Qa Hx [(39, AN), (107, Ae), (108, Dy), (109, C4), (110, Dw)] (gs CR (gs Du (gs VT (gs Tb (gs VQ g0))))) rfl (fun _ _ => rfl) fun O x => by kernel_rfl
theorem J9 : Vd Tryz.prog 90 BH := vt mix S9 Jq [] g0 rfl (fun _ _ => rfl) fun O x => by kernel_rfl
theorem TQ : Vd Tryz.prog 83 Cw := vt mix TX Jp [(90, BH)] (gs J9 g0) rfl (fun _ _ => rfl) fun O x => by kernel_rfl
theorem Ze : Vd Tryz.prog 84 G7 := vt mix S7 Jw [] g0 rfl (fun _ _ => rfl) fun O x => by kernel_rfl
theorem Sw : Vd Tryz.prog 71 Cy := vt mix Sx J7 [(39, AN), (82, BI), (83, Cw), (84, G7)] (gs CR (gs LG (gs TQ (gs Ze g0)))) rfl (fun _ _ => rfl) fun O x => by kernel_rfl
theorem Yd : Vd Tryz.prog 85 GP := vt mix Rm I9 [] g0 rfl (fun _ _ => rfl) fun O x => by kernel_rfl
theorem YB : Vd Tryz.prog 86 FA := vt mix QH LQ [] g0 rfl (fun _ _ => rfl) fun O x => by kernel_rfl
open Go.RowKit Go.Lib in
set_option maxHeartbeats 1000000 in
theorem Ol (s : ByteArray) (c : Int) (w : World) : Calls Tryz.prog 133 #[.string s, .int .u8 c] w fun e w' => e = .returned (.int .i64 (Lib.indexByte s.data.toList c.toNat.toUInt8)) ∧ w' = w := by
 go_enter Tryz.func133, Tryz.ntmps133
 go_wp2
 rw [run_callFunc_extern Tryz.func146 (by kernel_rfl) (by kernel_rfl) (by kernel_rfl) (e := Extern.BytealgIndexByte.indexByte) (by kernel_rfl), Lib.run_indexByteString]
 simp only [Result.andThen]
 rw [Oper.upon_value]
 go_wp2
 go_ret
 exact ⟨rfl, rfl⟩
theorem P8 : Vd Tryz.prog 133 CB := fun N h =>
 cu Tryz.func133 (T9 := 9) (T5 := 5) (T3 := 3) rfl rfl Tryz.underlying9 Tryz.underlying5 Tryz.underlying3 (by kernel_rfl) Ol h
theorem Tf : Vd Tryz.prog 111 C6 := vt mix L9 Eh [(133, CB)] (gs P8 g0) rfl (fun _ _ => rfl) fun O x => by kernel_rfl
theorem Zf : Vd Tryz.prog 112 Et := vt mix TF TA [] g0 rfl (fun _ _ => rfl) fun O x => by kernel_rfl
theorem aO : Vd Tryz.prog 87 H5 := vt mix UD Lh [(111, C6), (112, Et)] (gs Tf (gs Zf g0)) rfl (fun _ _ => rfl) fun O x => by kernel_rfl
theorem Tt : Vd Tryz.prog 113 DV := vt mix NR IM [] g0 rfl (fun _ _ => rfl) fun O x => by kernel_rfl
theorem WJ : Vd Tryz.prog 88 EO := vt mix Pt G1 [(113, DV)] (gs Tt g0) rfl (fun _ _ => rfl) fun O x => by kernel_rfl
theorem TH : Vd Tryz.prog 72 Cv := vt mix TO G6 [(85, GP), (86, FA), (87, H5), (88, EO)] (gs Yd (gs YB (gs aO (gs WJ g0)))) rfl (fun _ _ => rfl) fun O x => by kernel_rfl
theorem De : Vd Tryz.prog 114 AO := fun N h =>
 Mx mix (T := 64) (e := 144) (b := 1) Tryz.func114 Tryz.underlying64 (by kernel_rfl) (by decide) (fun O l => by kernel_rfl) (fun O l => by kernel_rfl) h
theorem FF : Vd Tryz.prog 115 AZ := fun N h =>
 Mx mix (T := 30) (e := 3) (b := 8) Tryz.func115 Tryz.underlying30 (by kernel_rfl) (by decide) (fun O l => by kernel_rfl) (fun O l => by kernel_rfl) h
theorem Ei : Vd Tryz.prog 116 AW := fun N h =>
 Mx mix (T := 65) (e := 4) (b := 1) Tryz.func116 Tryz.underlying65 (by kernel_rfl) (by decide) (fun O l => by kernel_rfl) (fun O l => by kernel_rfl) h
theorem CF : Vd Tryz.prog 89 AM := vt mix Qc Hj [(114, AO), (115, AZ), (116, AW)] (gs De (gs FF (gs Ei g0))) rfl (fun _ _ => rfl) fun O x => by kernel_rfl
theorem Zl : Vd Tryz.prog 73 HP := vt mix TP KB [(63, Cu), (89, AM)] (gs S6 (gs CF g0)) rfl (fun _ _ => rfl) fun O x => by kernel_rfl
theorem N6 : Vd Tryz.prog 94 Bm := vt mix TU J2 [] g0 rfl (fun _ _ => rfl) fun O x => by kernel_rfl
theorem NE : Vd Tryz.prog 120 Be := vt mix NY E5 [] g0 rfl (fun _ _ => rfl) fun O x => by kernel_rfl
theorem Xv : Vd Tryz.prog 95 FU := vt mix QE H2 [(71, Cy), (90, BH), (94, Bm), (120, Be)] (gs Sw (gs J9 (gs N6 (gs NE g0)))) rfl (fun _ _ => rfl) fun O x => by kernel_rfl
theorem W2 : Vd Tryz.prog 117 E4 := vt mix QI Hv [(39, AN), (107, Ae)] (gs CR (gs Du g0)) rfl (fun _ _ => rfl) fun O x => by kernel_rfl
theorem Yy : Vd Tryz.prog 118 GQ := vt mix Rt I2 [(90, BH), (94, Bm)] (gs J9 (gs N6 g0)) rfl (fun _ _ => rfl) fun O x => by kernel_rfl
theorem VJ : Vd Tryz.prog 148 Dz := vt mix OB JD [] g0 rfl (fun _ _ => rfl) fun O x => by kernel_rfl
theorem XR : Vd Tryz.prog 134 FC := vt mix Qp Hm [(148, Dz)] (gs VJ g0) rfl (fun _ _ => rfl) fun O x => by kernel_rfl
theorem Fz : Vd Tryz.prog 180 Av := vt mix Ub Ll [(114, AO), (115, AZ), (116, AW)] (gs De (gs FF (gs Ei g0))) rfl (fun _ _ => rfl) fun O x => by kernel_rfl
theorem WD : Vd Tryz.prog 206 CW := vt mix Pr KF [] g0 rfl (fun _ _ => rfl) fun O x => by kernel_rfl
theorem Ru : Vd Tryz.prog 181 Bq := vt mix Ri EE [(206, CW)] (gs WD g0) rfl (fun _ _ => rfl) fun O x => by kernel_rfl
theorem GX : Vd Tryz.prog 182 Au := vt mix Rj Ii [] g0 rfl (fun _ _ => rfl) fun O x => by kernel_rfl
theorem Zq : Vd Tryz.prog 149 HJ := vt mix TL J8 [(180, Av), (181, Bq), (182, Au)] (gs Fz (gs Ru (gs GX g0))) rfl (fun _ _ => rfl) fun O x => by kernel_rfl
theorem RI : Vd Tryz.prog 183 CM := vt mix V3 M9 [(114, AO), (115, AZ), (116, AW)] (gs De (gs FF (gs Ei g0))) rfl (fun _ _ => rfl) fun O x => by kernel_rfl
theorem Nn : Vd Tryz.prog 207 Bl := vt mix S0 J6 [] g0 rfl (fun _ _ => rfl) fun O x => by kernel_rfl
theorem bG : Vd Tryz.prog 208 Ib := vt mix UB LX [(39, AN), (207, Bl)] (gs CR (gs Nn g0)) rfl (fun _ _ => rfl) fun O x => by kernel_rfl
theorem dT : Vd Tryz.prog 184 Jd := vt mix Ve Mz [(39, AN), (130, Ak), (207, Bl), (208, Ib)] (gs CR (gs GT (gs Nn (gs bG g0)))) rfl (fun _ _ => rfl) fun O x => by kernel_rfl
theorem cE : Vd Tryz.prog 150 IH := vt mix Tv LC [(183, CM), (184, Jd)] (gs RI (gs dT g0)) rfl (fun _ _ => rfl) fun O x => by kernel_rfl
theorem TZ : Vd Tryz.prog 55 C2 := vt mix ME Ee [] g0 rfl (fun _ _ => rfl) fun O x => by kernel_rfl
theorem Pg : Vd Tryz.prog 42 B2 := vt mix Pe Gh [(55, C2)] (gs TZ g0) rfl (fun _ _ => rfl) fun O x => by kernel_rfl
theorem Th : Vd Tryz.prog 43 C7 := vt mix MA Ec [] g0 rfl (fun _ _ => rfl) fun O x => by kernel_rfl
theorem Fq : Vd Tryz.prog 30 As := vt mix OE Fx [(42, B2), (43, C7)] (gs Pg (gs Th g0)) rfl (fun _ _ => rfl) fun O x => by kernel_rfl
theorem PP : Vd Tryz.prog 31 B6 := vt mix PM PJ [] g0 rfl (fun _ _ => rfl) fun O x => by kernel_rfl
theorem LZ : Vd Tryz.prog 163 BF := vt mix Qe Dc [(181, Bq)] (gs Ru g0) rfl (fun _ _ => rfl) fun O x => by kernel_rfl
theorem HO : Vd Tryz.prog 192 Ax := vt mix S4 KA [] g0 rfl (fun _ _ => rfl) fun O x => by kernel_rfl
theorem Gt : Vd Tryz.prog 193 Aw := vt mix Pk Gq [(192, Ax)] (gs HO g0) rfl (fun _ _ => rfl) fun O x => by kernel_rfl
theorem XO : Vd Tryz.prog 219 FP := vt mix Qk Hn [] g0 rfl (fun _ _ => rfl) fun O x => by kernel_rfl
theorem Zw : Vd Tryz.prog 209 HA := vt mix TE Jr [(192, Ax), (193, Aw), (219, FP)] (gs HO (gs Gt (gs XO g0))) rfl (fun _ _ => rfl) fun O x => by kernel_rfl
theorem OG : Vd Tryz.prog 224 BX := vt mix N9 OQ [] g0 rfl (fun _ _ => rfl) fun O x => by kernel_rfl
theorem YS : Vd Tryz.prog 220 GH := vt mix RX I3 [(224, BX)] (gs OG g0) rfl (fun _ _ => rfl) fun O x => by kernel_rfl
theorem Ue : Vd Tryz.prog 225 DJ := vt mix NS FL [] g0 rfl (fun _ _ => rfl) fun O x => by kernel_rfl
theorem Rw : Vd Tryz.prog 221 CX := vt mix Kh Dd [(225, DJ)] (gs Ue g0) rfl (fun _ _ => rfl) fun O x => by kernel_rfl
theorem Uu : Vd Tryz.prog 226 DM := vt mix NO FW [] g0 rfl (fun _ _ => rfl) fun O x => by kernel_rfl
theorem Wv : Vd Tryz.prog 222 EY := vt mix PO Gl [(224, BX), (226, DM)] (gs OG (gs Uu g0)) rfl (fun _ _ => rfl) fun O x => by kernel_rfl
theorem RN : Vd Tryz.prog 227 CK := vt mix JN DD [] g0 rfl (fun _ _ => rfl) fun O x => by kernel_rfl
theorem Sf : Vd Tryz.prog 223 Cp := vt mix LT D9 [(227, CK)] (gs RN g0) rfl (fun _ _ => rfl) fun O x => by kernel_rfl
theorem SO : Vd Tryz.prog 210 Cm := vt mix Le D8 [(220, GH), (221, CX), (222, EY), (223, Cp)] (gs YS (gs Rw (gs Wv (gs Sf g0)))) rfl (fun _ _ => rfl) fun O x => by kernel_rfl
theorem Zi : Vd Tryz.prog 211 G5 := vt mix TT Jx [(192, Ax), (193, Aw)] (gs HO (gs Gt g0)) rfl (fun _ _ => rfl) fun O x => by kernel_rfl
theorem VH : Vd Tryz.prog 185 Dm := vt mix OO Ft [(42, B2), (163, BF), (209, HA), (210, Cm), (211, G5)] (gs Pg (gs LZ (gs Zw (gs SO (gs Zi g0))))) rfl (fun _ _ => rfl) fun O x => by kernel_rfl
theorem cX : Vd Tryz.prog 186 H6 := vt mix UE LA [(180, Av), (182, Au)] (gs Fz (gs GX g0)) rfl (fun _ _ => rfl) fun O x => by kernel_rfl
theorem bN : Vd Tryz.prog 187 ID := vt mix UK Lt [(39, AN), (130, Ak), (183, CM), (207, Bl)] (gs CR (gs GT (gs RI (gs Nn g0)))) rfl (fun _ _ => rfl) fun O x => by kernel_rfl
theorem YI : Vd Tryz.prog 188 FB := vt mix QY Hs [(180, Av)] (gs Fz g0) rfl (fun _ _ => rfl) fun O x => by kernel_rfl
theorem Yx : Vd Tryz.prog 151 GL := vt mix Rs Is [(30, As), (31, B6), (89, AM), (185, Dm), (186, H6), (187, ID), (188, FB)] (gs Fq (gs PP (gs CF (gs VH (gs cX (gs bN (gs YI g0))))))) rfl (fun _ _ => rfl) fun O x => by kernel_rfl
theorem Uv : Vd Tryz.prog 189 DL := vt mix UI K9 [(163, BF), (182, Au)] (gs LZ (gs GX g0)) rfl (fun _ _ => rfl) fun O x => by kernel_rfl
theorem WG : Vd Tryz.prog 152 EM := vt mix PS Gm [(180, Av), (182, Au), (189, DL)] (gs Fz (gs GX (gs Uv g0))) rfl (fun _ _ => rfl) fun O x => by kernel_rfl
theorem Yq : Vd Tryz.prog 153 GA := vt mix R0 Iy [(180, Av), (189, DL)] (gs Fz (gs Uv g0)) rfl (fun _ _ => rfl) fun O x => by kernel_rfl
theorem TR : Vd Tryz.prog 164 CV := vt mix TC Eu [] g0 rfl (fun _ _ => rfl) fun O x => by kernel_rfl
theorem Xn : Vd Tryz.prog 154 FN := vt mix Qm Hy [(164, CV), (180, Av), (182, Au)] (gs TR (gs Fz (gs GX g0))) rfl (fun _ _ => rfl) fun O x => by kernel_rfl
theorem RP : Vd Tryz.prog 191 CP := vt mix Vy My [(114, AO), (115, AZ), (116, AW)] (gs De (gs FF (gs Ei g0))) rfl (fun _ _ => rfl) fun O x => by kernel_rfl
theorem Xi : Vd Tryz.prog 155 FV := vt mix QX Hp [(191, CP)] (gs RP g0) rfl (fun _ _ => rfl) fun O x => by kernel_rfl
theorem YZ : Vd Tryz.prog 156 GW := vt mix Rz Ie [(191, CP), (192, Ax), (193, Aw)] (gs RP (gs HO (gs Gt g0))) rfl (fun _ _ => rfl) fun O x => by kernel_rfl
theorem Un : Vd Tryz.prog 157 DK := vt mix Nh FO [(191, CP), (192, Ax), (193, Aw)] (gs RP (gs HO (gs Gt g0))) rfl (fun _ _ => rfl) fun O x => by kernel_rfl
theorem XE : Vd Tryz.prog 158 FX := vt mix Qu Hq [(39, AN), (183, CM)] (gs CR (gs RI g0)) rfl (fun _ _ => rfl) fun O x => by kernel_rfl
theorem VF : Vd Tryz.prog 159 Dt := vt mix OU Fn [(89, AM)] (gs CF g0) rfl (fun _ _ => rfl) fun O x => by kernel_rfl
theorem OH : Vd Tryz.prog 137 Bt := vt mix OL Fu [(89, AM)] (gs CF g0) rfl (fun _ _ => rfl) fun O x => by kernel_rfl
theorem VK : Vd Tryz.prog 160 Dq := vt mix OM Fr [(89, AM), (137, Bt)] (gs CF (gs OH g0)) rfl (fun _ _ => rfl) fun O x => by kernel_rfl
theorem WY : Vd Tryz.prog 161 EI := vt mix Pc EW [(89, AM)] (gs CF g0) rfl (fun _ _ => rfl) fun O x => by kernel_rfl
theorem Xj : Vd Tryz.prog 54 FE := vt mix Qn Qh [] g0 rfl (fun _ _ => rfl) fun O x => by kernel_rfl
theorem WX : Vd Tryz.prog 162 ES := vt mix Po G0 [(54, FE), (89, AM)] (gs Xj (gs CF g0)) rfl (fun _ _ => rfl) fun O x => by kernel_rfl
theorem VP : Vd Tryz.prog 135 Dp := vt mix OJ Dv [(149, HJ), (150, IH), (151, GL), (152, EM), (153, GA), (154, FN), (155, FV), (156, GW), (157, DK), (158, FX), (159, Dt), (160, Dq), (161, EI), (162, ES)] (gs Zq (gs cE (gs Yx (gs WG (gs Yq (gs Xn (gs Xi (gs YZ (gs Un (gs XE (gs VF (gs VK (gs WY (gs WX g0)))))))))))))) rfl (fun _ _ => rfl) fun O x => by kernel_rfl
theorem WI : Vd Tryz.prog 136 DA := vt mix Pv Gy [(82, BI), (163, BF), (164, CV)] (gs LG (gs LZ (gs TR g0))) rfl (fun _ _ => rfl) fun O x => by kernel_rfl
theorem Yn : Vd Tryz.prog 119 GF := vt mix RY Iw [(72, Cv), (82, BI), (89, AM), (134, FC), (135, Dp), (136, DA)] (gs TH (gs LG (gs CF (gs XR (gs VP (gs WI g0)))))) rfl (fun _ _ => rfl) fun O x => by kernel_rfl
theorem be : Vd Tryz.prog 64 LV := vt mix Tx Li [(71, Cy), (72, Cv), (73, HP), (83, Cw), (90, BH), (94, Bm), (95, FU), (117, E4), (118, GQ), (119, GF), (120, Be), (137, Bt)] (gs Sw (gs TH (gs Zl (gs TQ (gs J9 (gs N6 (gs Xv (gs W2 (gs Yy (gs Yn (gs NE (gs OH g0)))))))))))) rfl (fun _ _ => rfl) fun O x => by kernel_rfl
def Xe : Cfg := { gam := [⟨64, [], true, true, []⟩], imm := false, old := false }
theorem dE (O : Alg) (x : Ags O) : XF (O := O) Tryz.prog Xe false false [] 49 [] (xr x SF 0) = K2 O x := by kernel_rfl
theorem eT {E : Env} {M : Nat} (N : Nat) (h : ∀ ls, E 49 [] ls = K0 N ls) : VV Tryz.prog E M ⟨49, [], false, false, []⟩ :=
 IP mix (E := GS N) (N := N) (cfg := Xe) (ci := ⟨49, [], false, false, []⟩) (ks := SF) (EH (be N (fun _ => rfl)) O8) (c := K0 N) (F := fun ls => K2 (std (GS N) N) (xOf ls)) (fun ls => rfl) (fun ls => dE (std (GS N) N) (xOf ls)) h
theorem YJ : Vd Tryz.prog 50 Hz := vt mix Qs Hl [(30, As)] (gs Fq g0) rfl (fun _ _ => rfl) fun O x => by kernel_rfl
def XK : Cfg := { gam := [⟨48, [], true, true, []⟩, ⟨49, [], false, false, []⟩, ⟨50, [], true, true, []⟩], imm := false, old := true, ie := [77, 27, 3, 107, 45, 67, 144, 4, 5, 124, 140, 59, 73, 190] }
theorem cp (O : Alg) (x : Ags O) : XF (O := O) Tryz.prog XK false false [] 38 [] (xr x SN 0) = LY O x := by kernel_rfl
theorem fJ {E : Env} {M : Nat} (N : Nat) (h : ∀ ls, E 38 [] ls = Lj N ls) : VV Tryz.prog E M ⟨38, [], false, false, []⟩ :=
 IP mix (E := DX N) (N := N) (cfg := XK) (ci := ⟨38, [], false, false, []⟩) (ks := SN) (EH (da N (fun _ => rfl)) (EH (eT N (fun _ => rfl)) (EH (YJ N (fun _ => rfl)) O8))) (c := Lj N) (F := fun ls => LY (std (DX N) N) (xOf ls)) (fun ls => rfl) (fun ls => cp (std (DX N) N) (xOf ls)) h
def Ur : Cfg := { gam := [⟨38, [], false, false, []⟩], imm := false, old := false }
theorem Zr (O : Alg) (x : Ags O) : XF (O := O) Tryz.prog Ur false false [] 22 [] (xr x PY 0) = H8 O x := by kernel_rfl
theorem aV {E : Env} {M : Nat} (N : Nat) (h : ∀ ls, E 22 [] ls = Ia N ls) : VV Tryz.prog E M ⟨22, [], false, false, []⟩ :=
 IP mix (E := ED N) (N := N) (cfg := Ur) (ci := ⟨22, [], false, false, []⟩) (ks := PY) (EH (fJ N (fun _ => rfl)) O8) (c := Ia N) (F := fun ls => H8 (std (ED N) N) (xOf ls)) (fun ls => rfl) (fun ls => Zr (std (ED N) N) (xOf ls)) h
def Vm : Cfg := { gam := [⟨22, [], false, false, []⟩, ⟨39, [], true, true, []⟩], imm := false, old := false }
theorem cd (O : Alg) (x : Ags O) : XF (O := O) Tryz.prog Vm true true [] 23 [] (xr x RL 0) = Jc O x := by kernel_rfl
theorem Vq : Vd Tryz.prog 23 DC := fun N h =>
 IP mix (E := Di N) (N := N) (cfg := Vm) (ci := ⟨23, [], true, true, []⟩) (ks := RL) (EH (aV N (fun _ => rfl)) (EH (CR N (fun _ => rfl)) O8)) (c := DC N) (F := fun ls => Jc (std (Di N) N) (xOf ls)) (fun ls => rfl) (fun ls => cd (std (Di N) N) (xOf ls)) h
theorem dZ : Vd Tryz.prog 29 Jg := vt mix V8 M8 [] g0 rfl (fun _ _ => rfl) fun O x => by kernel_rfl
theorem dA : Vd Tryz.prog 32 HR := vt mix Vn M1 [] g0 rfl (fun _ _ => rfl) fun O x => by kernel_rfl
theorem RZ : Vd Tryz.prog 17 Ca := vt mix Re I0 [(12, A2), (15, G8), (23, DC), (29, Jg), (30, As), (31, B6), (32, HR)] (gs Ig (gs Zt (gs Vq (gs dZ (gs Fq (gs PP (gs dA g0))))))) rfl (fun _ _ => rfl) fun O x => by kernel_rfl
theorem Sl : Vd Tryz.prog 19 Ch := vt mix LE D5 [] g0 rfl (fun _ _ => rfl) fun O x => by kernel_rfl
theorem QS : Vd Tryz.prog 20 CH := vt mix Qt H1 [(12, A2), (23, DC), (30, As)] (gs Ig (gs Vq (gs Fq g0))) rfl (fun _ _ => rfl) fun O x => by kernel_rfl
theorem cm : Vd Tryz.prog 25 JQ := vt mix V7 WA [] g0 rfl (fun _ _ => rfl) fun O x => by kernel_rfl
theorem dR : Vd Tryz.prog 41 RE := vt mix Vv Vg [] g0 rfl (fun _ _ => rfl) fun O x => by kernel_rfl
theorem gq : Vd Tryz.prog 26 NV := vt mix ZK ZT [(41, RE)] (gs dR g0) rfl (fun _ _ => rfl) fun O x => by kernel_rfl
theorem dU : Vd Tryz.prog 9 Jj := vt mix Vs NA [(11, C5), (12, A2), (17, Ca), (19, Ch), (20, CH), (25, JQ), (26, NV)] (gs Tc (gs Ig (gs RZ (gs Sl (gs QS (gs cm (gs gq g0))))))) rfl (fun _ _ => rfl) fun O x => by kernel_rfl
def ZS : Cfg := { gam := [], imm := false, old := false }
theorem fP (O : Alg) (x : Ags O) : XF (O := O) Tryz.prog ZS false false [] 10 [] (xr x To 0) = Na O x := by kernel_rfl
theorem gh {E : Env} {M : Nat} (N : Nat) (h : ∀ ls, E 10 [] ls = Nc N ls) : VV Tryz.prog E M ⟨10, [], false, false, []⟩ :=
 IP mix (E := Ja N) (N := N) (cfg := ZS) (ci := ⟨10, [], false, false, []⟩) (ks := To) O8 (c := Nc N) (F := fun ls => Na (std (Ja N) N) (xOf ls)) (fun ls => rfl) (fun ls => fP (std (Ja N) N) (xOf ls)) h
def OI : Cfg := { gam := [⟨9, [], true, true, []⟩, ⟨10, [], false, false, []⟩, ⟨17, [], true, true, []⟩, ⟨20, [], true, true, []⟩], imm := false, old := false }
theorem US (O : Alg) (x : Ags O) : XF (O := O) Tryz.prog OI true true [] 6 [] (xr x JH 0) = Dr O x := by kernel_rfl
theorem VG : Vd Tryz.prog 6 Dn := fun N h =>
 IP mix (E := BL N) (N := N) (cfg := OI) (ci := ⟨6, [], true, true, []⟩) (ks := JH) (EH (dU N (fun _ => rfl)) (EH (gh N (fun _ => rfl)) (EH (RZ N (fun _ => rfl)) (EH (QS N (fun _ => rfl)) O8)))) (c := Dn N) (F := fun ls => Dr (std (BL N) N) (xOf ls)) (fun ls => rfl) (fun ls => US (std (BL N) N) (xOf ls)) h
end Go.Px
