/- Part 12. -/
import Derived.Test.YtapipgdcgmmkaaaGreatPart06
import Derived.Test.YtapipgdcgmmkaaaGreatProg
import Derived.Test.YtapipgdcgmmkaaaGreatPart08
import Derived.KernelRfl
import Derived.WalkKit
import Derived.Lib.Walk
import Derived.BigCall
import Derived.BigGuard
set_option linter.unusedVariables false
set_option linter.unusedSimpArgs false
namespace Go.Px
open Go.Proofs
set_option maxRecDepth 100000
theorem mix : Tryz.prog.follows .mixedOrders = true := by kernel_rfl
theorem R1 : Vd Tryz.prog 31 Du := vt mix Nf Fr [] g0 rfl (fun _ _ => rfl) fun O x => by kernel_rfl
theorem Ig : Vd Tryz.prog 47 BG := vt mix IK IV [] g0 rfl (fun _ _ => rfl) fun O x => by kernel_rfl
theorem O4 : Vd Tryz.prog 32 B6 := vt mix ID DC [(47, BG)] (gs Ig g0) rfl (fun _ _ => rfl) fun O x => by kernel_rfl
theorem Pz : Vd Tryz.prog 33 CR := vt mix Jv Db [(47, BG)] (gs Ig g0) rfl (fun _ _ => rfl) fun O x => by kernel_rfl
theorem A4 : Vd Tryz.prog 17 AH := vt mix Km D7 [(31, Du), (32, B6), (33, CR)] (gs R1 (gs O4 (gs Pz g0))) rfl (fun _ _ => rfl) fun O x => by kernel_rfl
theorem Dk : Vd Tryz.prog 19 A9 := vt mix G0 CM [(17, AH)] (gs A4 g0) rfl (fun _ _ => rfl) fun O x => by kernel_rfl
theorem J3 : Vd Tryz.prog 81 Cj := fun N h =>
 Fn mix (T := 22) (e := 88) (b := 24) Tryz.func81 Tryz.underlying22 (by kernel_rfl) (by decide) (fun O l => by kernel_rfl) (fun O l => by kernel_rfl) h
theorem LB : Vd Tryz.prog 59 Cq := vt mix Kt Kz [(81, Cj)] (gs J3 g0) rfl (fun _ _ => rfl) fun O x => by kernel_rfl
theorem R4 : Vd Tryz.prog 42 I8 := vt mix NZ Ns [(17, AH), (59, Cq)] (gs A4 (gs LB g0)) rfl (fun _ _ => rfl) fun O x => by kernel_rfl
theorem PL : Vd Tryz.prog 29 Eh := vt mix Ic H9 [(42, I8)] (gs R4 g0) rfl (fun _ _ => rfl) fun O x => by kernel_rfl
theorem Bn : Vd Tryz.prog 48 Ab := vt mix Gz Gm [] g0 rfl (fun _ _ => rfl) fun O x => by kernel_rfl
theorem M9 : Vd Tryz.prog 49 Di := vt mix Gu Gd [(48, Ab)] (gs Bn g0) rfl (fun _ _ => rfl) fun O x => by kernel_rfl
theorem Lo : Vd Tryz.prog 93 DG := vt mix F4 F7 [] g0 rfl (fun _ _ => rfl) fun O x => by kernel_rfl
theorem Ca : Vd Tryz.prog 70 Ax := vt mix EU EX [(93, DG)] (gs Lo g0) rfl (fun _ _ => rfl) fun O x => by kernel_rfl
theorem LI : Vd Tryz.prog 50 C9 := vt mix FQ FP [(48, Ab), (70, Ax)] (gs Bn (gs Ca g0)) rfl (fun _ _ => rfl) fun O x => by kernel_rfl
theorem LW : Vd Tryz.prog 72 C6 := vt mix FM FO [(48, Ab)] (gs Bn g0) rfl (fun _ _ => rfl) fun O x => by kernel_rfl
theorem ND : Vd Tryz.prog 51 Dg := vt mix Gp Gk [(72, C6)] (gs LW g0) rfl (fun _ _ => rfl) fun O x => by kernel_rfl
theorem E4 : Vd Tryz.prog 34 BU := vt mix Il IU [(17, AH), (48, Ab), (49, Di), (50, C9), (51, Dg)] (gs A4 (gs Bn (gs M9 (gs LI (gs ND g0))))) rfl (fun _ _ => rfl) fun O x => by kernel_rfl
theorem D1 : Vd Tryz.prog 52 BL := vt mix K0 K7 [] g0 rfl (fun _ _ => rfl) fun O x => by kernel_rfl
theorem LH : Vd Tryz.prog 35 Cx := vt mix Ki Ky [(52, BL)] (gs D1 g0) rfl (fun _ _ => rfl) fun O x => by kernel_rfl
theorem Qe : Vd Tryz.prog 36 GS := vt mix K9 K6 [] g0 rfl (fun _ _ => rfl) fun O x => by kernel_rfl
theorem Kr : Vd Tryz.prog 18 Cr := vt mix Kv Kn [(17, AH), (34, BU), (35, Cx), (36, GS)] (gs A4 (gs E4 (gs LH (gs Qe g0)))) rfl (fun _ _ => rfl) fun O x => by kernel_rfl
theorem Ph : Vd Tryz.prog 60 FT := vt mix JH Ju [] g0 rfl (fun _ _ => rfl) fun O x => by kernel_rfl
theorem Pe : Vd Tryz.prog 61 Ek := vt mix IC Ij [] g0 rfl (fun _ _ => rfl) fun O x => by kernel_rfl
open Go.RowKit Go.Lib in
set_option maxHeartbeats 1000000 in
theorem G5 (s : ByteArray) (c : Int) (w : World) : Calls Tryz.prog 108 #[.string s, .int .u8 c] w fun e w' => e = .returned (.int .i64 (Lib.indexByte s.data.toList c.toNat.toUInt8)) ∧ w' = w := by
 go_enter Tryz.func108, Tryz.ntmps108
 go_wp2
 rw [run_callFunc_extern Tryz.func120 (by kernel_rfl) (by kernel_rfl) (by kernel_rfl) (e := Extern.BytealgIndexByte.indexByte) (by kernel_rfl), Lib.run_indexByteString]
 simp only [Result.andThen]
 rw [Oper.upon_value]
 go_wp2
 go_ret
 exact ⟨rfl, rfl⟩
theorem H1 : Vd Tryz.prog 108 B0 := fun N h =>
 Rz Tryz.func108 (T9 := 9) (T5 := 5) (T3 := 3) rfl rfl Tryz.underlying9 Tryz.underlying5 Tryz.underlying3 (by kernel_rfl) G5 h
theorem LR : Vd Tryz.prog 82 DA := vt mix FN FH [(108, B0)] (gs H1 g0) rfl (fun _ _ => rfl) fun O x => by kernel_rfl
theorem Qh : Vd Tryz.prog 83 GR := vt mix Kf LF [] g0 rfl (fun _ _ => rfl) fun O x => by kernel_rfl
theorem RN : Vd Tryz.prog 62 Hk := vt mix MH MP [(82, DA), (83, GR)] (gs LR (gs Qh g0)) rfl (fun _ _ => rfl) fun O x => by kernel_rfl
theorem Mc : Vd Tryz.prog 84 DK := vt mix GG GD [] g0 rfl (fun _ _ => rfl) fun O x => by kernel_rfl
theorem ON : Vd Tryz.prog 63 EG := vt mix Ho Hq [(84, DK)] (gs Mc g0) rfl (fun _ _ => rfl) fun O x => by kernel_rfl
theorem K3 : Vd Tryz.prog 43 Cv := vt mix Kc Kp [(60, FT), (61, Ek), (62, Hk), (63, EG)] (gs Ph (gs Pe (gs RN (gs ON g0)))) rfl (fun _ _ => rfl) fun O x => by kernel_rfl
theorem Bg : Vd Tryz.prog 85 AZ := fun N h =>
 Fn mix (T := 65) (e := 103) (b := 1) Tryz.func85 Tryz.underlying65 (by kernel_rfl) (by decide) (fun O l => by kernel_rfl) (fun O l => by kernel_rfl) h
theorem CA : Vd Tryz.prog 86 Ao := fun N h =>
 Fn mix (T := 66) (e := 3) (b := 8) Tryz.func86 Tryz.underlying66 (by kernel_rfl) (by decide) (fun O l => by kernel_rfl) (fun O l => by kernel_rfl) h
theorem Bz : Vd Tryz.prog 87 Ah := fun N h =>
 Fn mix (T := 67) (e := 4) (b := 1) Tryz.func87 Tryz.underlying67 (by kernel_rfl) (by decide) (fun O l => by kernel_rfl) (fun O l => by kernel_rfl) h
theorem BF : Vd Tryz.prog 64 AS := vt mix Ix IG [(85, AZ), (86, Ao), (87, Ah)] (gs Bg (gs CA (gs Bz g0))) rfl (fun _ _ => rfl) fun O x => by kernel_rfl
theorem QY : Vd Tryz.prog 44 GU := vt mix Kq K1 [(59, Cq), (64, AS)] (gs LB (gs BF g0)) rfl (fun _ _ => rfl) fun O x => by kernel_rfl
theorem GT : Vd Tryz.prog 68 Bl := vt mix Kk Kl [] g0 rfl (fun _ _ => rfl) fun O x => by kernel_rfl
theorem GE : Vd Tryz.prog 91 Be := vt mix F5 GM [] g0 rfl (fun _ _ => rfl) fun O x => by kernel_rfl
theorem Oj : Vd Tryz.prog 69 E9 := vt mix Iw Ia [(18, Cr), (52, BL), (68, Bl), (91, Be)] (gs Kr (gs D1 (gs GT (gs GE g0)))) rfl (fun _ _ => rfl) fun O x => by kernel_rfl
theorem PX : Vd Tryz.prog 88 Ef := vt mix Iv Iu [(17, AH), (48, Ab)] (gs A4 (gs Bn g0)) rfl (fun _ _ => rfl) fun O x => by kernel_rfl
theorem QB : Vd Tryz.prog 89 FV := vt mix JG JJ [(52, BL), (68, Bl)] (gs D1 (gs GT g0)) rfl (fun _ _ => rfl) fun O x => by kernel_rfl
theorem NJ : Vd Tryz.prog 122 Df := vt mix Gj Gc [] g0 rfl (fun _ _ => rfl) fun O x => by kernel_rfl
theorem PD : Vd Tryz.prog 109 E0 := vt mix IL Ie [(122, Df)] (gs NJ g0) rfl (fun _ _ => rfl) fun O x => by kernel_rfl
theorem CY : Vd Tryz.prog 142 Ay := vt mix MO Mb [(85, AZ), (86, Ao), (87, Ah)] (gs Bg (gs CA (gs Bz g0))) rfl (fun _ _ => rfl) fun O x => by kernel_rfl
theorem N4 : Vd Tryz.prog 173 D9 := vt mix HL Hc [] g0 rfl (fun _ _ => rfl) fun O x => by kernel_rfl
theorem JP : Vd Tryz.prog 143 CN := vt mix Jb Jt [(173, D9)] (gs N4 g0) rfl (fun _ _ => rfl) fun O x => by kernel_rfl
theorem CZ : Vd Tryz.prog 144 Aw := vt mix Ji JI [] g0 rfl (fun _ _ => rfl) fun O x => by kernel_rfl
theorem Qb : Vd Tryz.prog 123 GZ := vt mix Kh LC [(142, Ay), (143, CN), (144, Aw)] (gs CY (gs JP (gs CZ g0))) rfl (fun _ _ => rfl) fun O x => by kernel_rfl
theorem I3 : Vd Tryz.prog 145 CE := vt mix NR NV [(85, AZ), (86, Ao), (87, Ah)] (gs Bg (gs CA (gs Bz g0))) rfl (fun _ _ => rfl) fun O x => by kernel_rfl
theorem GP : Vd Tryz.prog 174 Bk := vt mix Kg LE [] g0 rfl (fun _ _ => rfl) fun O x => by kernel_rfl
theorem RZ : Vd Tryz.prog 175 HR := vt mix Lh Ly [(17, AH), (174, Bk)] (gs A4 (gs GP g0)) rfl (fun _ _ => rfl) fun O x => by kernel_rfl
theorem SB : Vd Tryz.prog 146 I0 := vt mix NW Nn [(17, AH), (70, Ax), (174, Bk), (175, HR)] (gs A4 (gs Ca (gs GP (gs RZ g0)))) rfl (fun _ _ => rfl) fun O x => by kernel_rfl
theorem RS : Vd Tryz.prog 124 Hl := vt mix LZ MK [(145, CE), (146, I0)] (gs I3 (gs SB g0)) rfl (fun _ _ => rfl) fun O x => by kernel_rfl
theorem El : Vd Tryz.prog 137 BQ := vt mix Ip IQ [(143, CN)] (gs JP g0) rfl (fun _ _ => rfl) fun O x => by kernel_rfl
theorem Ct : Vd Tryz.prog 156 A3 := vt mix LD Ke [] g0 rfl (fun _ _ => rfl) fun O x => by kernel_rfl
theorem Ci : Vd Tryz.prog 157 A2 := vt mix HM Hf [(156, A3)] (gs Ct g0) rfl (fun _ _ => rfl) fun O x => by kernel_rfl
theorem PO : Vd Tryz.prog 196 E1 := vt mix H5 IH [] g0 rfl (fun _ _ => rfl) fun O x => by kernel_rfl
theorem Ql : Vd Tryz.prog 176 GW := vt mix Ku K2 [(156, A3), (157, A2), (196, E1)] (gs Ct (gs Ci (gs PO g0))) rfl (fun _ _ => rfl) fun O x => by kernel_rfl
theorem LQ : Vd Tryz.prog 197 C8 := vt mix FK FL [] g0 rfl (fun _ _ => rfl) fun O x => by kernel_rfl
theorem Hw : Vd Tryz.prog 177 Bu := vt mix Hd Hy [(197, C8)] (gs LQ g0) rfl (fun _ _ => rfl) fun O x => by kernel_rfl
theorem Gh : Vd Tryz.prog 213 Bq := vt mix Gn Gw [] g0 rfl (fun _ _ => rfl) fun O x => by kernel_rfl
theorem Pq : Vd Tryz.prog 198 FY := vt mix Jl JX [(213, Bq)] (gs Gh g0) rfl (fun _ _ => rfl) fun O x => by kernel_rfl
theorem Lm : Vd Tryz.prog 214 DU := vt mix F6 GF [] g0 rfl (fun _ _ => rfl) fun O x => by kernel_rfl
theorem JU : Vd Tryz.prog 199 CU := vt mix EY ES [(214, DU)] (gs Lm g0) rfl (fun _ _ => rfl) fun O x => by kernel_rfl
theorem MY : Vd Tryz.prog 215 DR := vt mix GA GL [] g0 rfl (fun _ _ => rfl) fun O x => by kernel_rfl
theorem OV : Vd Tryz.prog 200 EC := vt mix Hx HW [(213, Bq), (215, DR)] (gs Gh (gs MY g0)) rfl (fun _ _ => rfl) fun O x => by kernel_rfl
theorem I2 : Vd Tryz.prog 216 CH := vt mix Dn Ds [] g0 rfl (fun _ _ => rfl) fun O x => by kernel_rfl
theorem J4 : Vd Tryz.prog 201 Ck := vt mix E5 Ep [(216, CH)] (gs I2 g0) rfl (fun _ _ => rfl) fun O x => by kernel_rfl
theorem KK : Vd Tryz.prog 178 Ce := vt mix E7 Eu [(198, FY), (199, CU), (200, EC), (201, Ck)] (gs Pq (gs JU (gs OV (gs J4 g0)))) rfl (fun _ _ => rfl) fun O x => by kernel_rfl
theorem QZ : Vd Tryz.prog 179 GN := vt mix K5 K8 [(156, A3), (157, A2)] (gs Ct (gs Ci g0)) rfl (fun _ _ => rfl) fun O x => by kernel_rfl
theorem My : Vd Tryz.prog 147 Dd := vt mix Gg G1 [(137, BQ), (176, GW), (177, Bu), (178, Ce), (179, GN)] (gs El (gs Ql (gs Hw (gs KK (gs QZ g0))))) rfl (fun _ _ => rfl) fun O x => by kernel_rfl
theorem LX : Vd Tryz.prog 180 C5 := vt mix FI FJ [] g0 rfl (fun _ _ => rfl) fun O x => by kernel_rfl
theorem NE : Vd Tryz.prog 148 Dh := vt mix Gr Gy [(177, Bu), (180, C5)] (gs Hw (gs LX g0)) rfl (fun _ _ => rfl) fun O x => by kernel_rfl
theorem Ri : Vd Tryz.prog 149 Hp := vt mix Lp Lx [(142, Ay), (144, Aw)] (gs CY (gs CZ g0)) rfl (fun _ _ => rfl) fun O x => by kernel_rfl
theorem OK : Vd Tryz.prog 150 EE := vt mix Hi Ha [] g0 rfl (fun _ _ => rfl) fun O x => by kernel_rfl
theorem Rj : Vd Tryz.prog 151 Hm := vt mix Lg Lq [(17, AH), (70, Ax), (145, CE), (174, Bk)] (gs A4 (gs Ca (gs I3 (gs GP g0)))) rfl (fun _ _ => rfl) fun O x => by kernel_rfl
theorem O6 : Vd Tryz.prog 152 Ei := vt mix IB Ik [(142, Ay)] (gs CY g0) rfl (fun _ _ => rfl) fun O x => by kernel_rfl
theorem Pp : Vd Tryz.prog 125 FW := vt mix JT Jd [(64, AS), (147, Dd), (148, Dh), (149, Hp), (150, EE), (151, Hm), (152, Ei)] (gs BF (gs My (gs NE (gs Ri (gs OK (gs Rj (gs O6 g0))))))) rfl (fun _ _ => rfl) fun O x => by kernel_rfl
theorem Me : Vd Tryz.prog 153 DV := vt mix MT Lb [(137, BQ), (144, Aw)] (gs El (gs CZ g0)) rfl (fun _ _ => rfl) fun O x => by kernel_rfl
theorem N8 : Vd Tryz.prog 126 ER := vt mix H0 HY [(142, Ay), (144, Aw), (153, DV)] (gs CY (gs CZ (gs Me g0))) rfl (fun _ _ => rfl) fun O x => by kernel_rfl
theorem P5 : Vd Tryz.prog 127 Fm := vt mix JN JZ [(142, Ay), (153, DV)] (gs CY (gs Me g0)) rfl (fun _ _ => rfl) fun O x => by kernel_rfl
theorem Kd : Vd Tryz.prog 138 Cm := vt mix LG Ko [] g0 rfl (fun _ _ => rfl) fun O x => by kernel_rfl
theorem PR : Vd Tryz.prog 128 Ey := vt mix IZ Is [(138, Cm), (142, Ay), (144, Aw)] (gs Kd (gs CY (gs CZ g0))) rfl (fun _ _ => rfl) fun O x => by kernel_rfl
theorem I7 : Vd Tryz.prog 155 CF := vt mix Ni NO [(85, AZ), (86, Ao), (87, Ah)] (gs Bg (gs CA (gs Bz g0))) rfl (fun _ _ => rfl) fun O x => by kernel_rfl
theorem Pd : Vd Tryz.prog 129 Eg := vt mix IA IR [(155, CF)] (gs I7 g0) rfl (fun _ _ => rfl) fun O x => by kernel_rfl
theorem Pl : Vd Tryz.prog 130 Fd := vt mix JS Jm [(155, CF), (156, A3), (157, A2)] (gs I7 (gs Ct (gs Ci g0))) rfl (fun _ _ => rfl) fun O x => by kernel_rfl
theorem L6 : Vd Tryz.prog 131 DS := vt mix GC F8 [(155, CF), (156, A3), (157, A2)] (gs I7 (gs Ct (gs Ci g0))) rfl (fun _ _ => rfl) fun O x => by kernel_rfl
theorem Oa : Vd Tryz.prog 132 Er := vt mix H4 IX [(17, AH), (145, CE)] (gs A4 (gs I3 g0)) rfl (fun _ _ => rfl) fun O x => by kernel_rfl
theorem NB : Vd Tryz.prog 133 Dl := vt mix G2 Gl [(64, AS)] (gs BF g0) rfl (fun _ _ => rfl) fun O x => by kernel_rfl
theorem Gt : Vd Tryz.prog 112 Bp := vt mix Gv Gq [(64, AS)] (gs BF g0) rfl (fun _ _ => rfl) fun O x => by kernel_rfl
theorem M6 : Vd Tryz.prog 134 Dm := vt mix Gf Gx [(64, AS), (112, Bp)] (gs BF (gs Gt g0)) rfl (fun _ _ => rfl) fun O x => by kernel_rfl
theorem OW : Vd Tryz.prog 135 EI := vt mix HO Ht [(64, AS)] (gs BF g0) rfl (fun _ _ => rfl) fun O x => by kernel_rfl
theorem PT : Vd Tryz.prog 158 FD := vt mix II Iz [] g0 rfl (fun _ _ => rfl) fun O x => by kernel_rfl
theorem OQ : Vd Tryz.prog 136 ED := vt mix Hb HV [(64, AS), (158, FD)] (gs BF (gs PT g0)) rfl (fun _ _ => rfl) fun O x => by kernel_rfl
theorem NA : Vd Tryz.prog 110 De := vt mix Gi G3 [(123, GZ), (124, Hl), (125, FW), (126, ER), (127, Fm), (128, Ey), (129, Eg), (130, Fd), (131, DS), (132, Er), (133, Dl), (134, Dm), (135, EI), (136, ED)] (gs Qb (gs RS (gs Pp (gs N8 (gs P5 (gs PR (gs Pd (gs Pl (gs L6 (gs Oa (gs NB (gs M6 (gs OW (gs OQ g0)))))))))))))) rfl (fun _ _ => rfl) fun O x => by kernel_rfl
theorem OL : Vd Tryz.prog 111 EP := vt mix He HQ [(34, BU), (137, BQ), (138, Cm)] (gs E4 (gs El (gs Kd g0))) rfl (fun _ _ => rfl) fun O x => by kernel_rfl
theorem Pw : Vd Tryz.prog 90 FU := vt mix JW Jn [(34, BU), (43, Cv), (64, AS), (109, E0), (110, De), (111, EP)] (gs E4 (gs K3 (gs BF (gs PD (gs NA (gs OL g0)))))) rfl (fun _ _ => rfl) fun O x => by kernel_rfl
theorem Q3 : Vd Tryz.prog 30 HX := vt mix MA MZ [(18, Cr), (35, Cx), (43, Cv), (44, GU), (52, BL), (68, Bl), (69, E9), (88, Ef), (89, FV), (90, FU), (91, Be), (112, Bp)] (gs Kr (gs LH (gs K3 (gs QY (gs D1 (gs GT (gs Oj (gs PX (gs QB (gs Pw (gs GE (gs Gt g0)))))))))))) rfl (fun _ _ => rfl) fun O x => by kernel_rfl
theorem MV : Vd Tryz.prog 16 DQ := vt mix GK F3 [(19, A9), (29, Eh), (30, HX)] (gs Dk (gs PL (gs Q3 g0))) rfl (fun _ _ => rfl) fun O x => by kernel_rfl
theorem Mh : Vd Tryz.prog 12 DE := vt mix F0 GB [(16, DQ), (19, A9)] (gs MV (gs Dk g0)) rfl (fun _ _ => rfl) fun O x => by kernel_rfl
theorem Sy : Vd Tryz.prog 14 J2 := vt mix Om Ou [] g0 rfl (fun _ _ => rfl) fun O x => by kernel_rfl
theorem Te : Vd Tryz.prog 15 Lz := vt mix QF QO [] g0 rfl (fun _ _ => rfl) fun O x => by kernel_rfl
theorem SI : Vd Tryz.prog 9 Dy := vt mix Nh Ng [(12, DE), (14, J2), (15, Lz)] (gs Mh (gs Sy (gs Te g0))) rfl (fun _ _ => rfl) fun O x => by kernel_rfl
def Kj : Cfg := { gam := [], imm := false, old := false }
theorem Pu (O : Alg) (x : Ags O) : XF (O := O) Tryz.prog Kj false false [] 10 [] (xr x Ga 0) = Cp O x := by kernel_rfl
theorem Qc {E : Env} {M : Nat} (N : Nat) (h : ∀ ls, E 10 [] ls = Cu N ls) : VV Tryz.prog E M ⟨10, [], false, false, []⟩ :=
 L4 mix (E := CC N) (N := N) (cfg := Kj) (ci := ⟨10, [], false, false, []⟩) (ks := Ga) SQ (c := Cu N) (F := fun ls => Cp (std (CC N) N) (xOf ls)) (fun ls => rfl) (fun ls => Pu (std (CC N) N) (xOf ls)) h
theorem Sr : Vd Tryz.prog 53 Ee := vt mix On G9 [] g0 rfl (fun _ _ => rfl) fun O x => by kernel_rfl
theorem Tu : Vd Tryz.prog 54 Hn := vt mix Rd Q7 [] g0 rfl (fun _ _ => rfl) fun O x => by kernel_rfl
theorem R5 : Vd Tryz.prog 37 C4 := vt mix Nd Fy [(53, Ee), (54, Hn)] (gs Sr (gs Tu g0)) rfl (fun _ _ => rfl) fun O x => by kernel_rfl
theorem R0 : Vd Tryz.prog 20 Fp := vt mix Nc Fw [(37, C4)] (gs R5 g0) rfl (fun _ _ => rfl) fun O x => by kernel_rfl
theorem Ss : Vd Tryz.prog 21 G8 := vt mix Pb G6 [] g0 rfl (fun _ _ => rfl) fun O x => by kernel_rfl
theorem Rg : Vd Tryz.prog 22 FE := vt mix MJ Ez [(17, AH)] (gs A4 g0) rfl (fun _ _ => rfl) fun O x => by kernel_rfl
def Eo : Cfg := { gam := [⟨9, [], true, true, []⟩, ⟨10, [], false, false, []⟩, ⟨17, [], true, true, []⟩, ⟨19, [], true, true, []⟩, ⟨20, [], true, true, []⟩, ⟨21, [], true, true, []⟩, ⟨22, [], true, true, []⟩], imm := false, old := false }
theorem Jp (O : Alg) (x : Ags O) : XF (O := O) Tryz.prog Eo true true [] 6 [] (xr x Cf 0) = BR O x := by kernel_rfl
theorem J0 : Vd Tryz.prog 6 BS := fun N h =>
 L4 mix (E := AP N) (N := N) (cfg := Eo) (ci := ⟨6, [], true, true, []⟩) (ks := Cf) (EB (SI N (fun _ => rfl)) (EB (Qc N (fun _ => rfl)) (EB (A4 N (fun _ => rfl)) (EB (Dk N (fun _ => rfl)) (EB (R0 N (fun _ => rfl)) (EB (Ss N (fun _ => rfl)) (EB (Rg N (fun _ => rfl)) SQ))))))) (c := BS N) (F := fun ls => BR (std (AP N) N) (xOf ls)) (fun ls => rfl) (fun ls => Jp (std (AP N) N) (xOf ls)) h
end Go.Px
