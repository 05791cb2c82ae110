/- Part 12. -/
import Derived.Test.YtapipgdcgmmkaaaGreatPart06
import Derived.Test.YtapipgdcgmmkaaaGreatProg
import Derived.Test.YtapipgdcgmmkaaaGreatPart08
import Derived.KernelRfl
import Derived.WalkKit
import Derived.Lib.Walk
import Derived.BigCall
import Derived.BigGuard
set_option linter.unusedVariables false
set_option linter.unusedSimpArgs false
namespace Go.Px
open Go.Proofs
set_option maxRecDepth 100000
theorem mix : Tryz.prog.follows .mixedOrders = true := by kernel_rfl
theorem YT : Vd Tryz.prog 31 IK := vt mix TP LR [] g0 rfl (fun _ _ => rfl) fun O x => by kernel_rfl
theorem Oh : Vd Tryz.prog 47 Bp := vt mix OM OT [] g0 rfl (fun _ _ => rfl) fun O x => by kernel_rfl
theorem UQ : Vd Tryz.prog 32 Eo := vt mix OY Gx [(47, Bp)] (gs Oh g0) rfl (fun _ _ => rfl) fun O x => by kernel_rfl
theorem Vm : Vd Tryz.prog 33 Fi := vt mix Pq Hu [(47, Bp)] (gs Oh g0) rfl (fun _ _ => rfl) fun O x => by kernel_rfl
theorem B6 : Vd Tryz.prog 17 AL := vt mix QU Ir [(31, IK), (32, Eo), (33, Fi)] (gs YT (gs UQ (gs Vm g0))) rfl (fun _ _ => rfl) fun O x => by kernel_rfl
theorem MK : Vd Tryz.prog 19 BX := vt mix Me FA [(17, AL)] (gs B6 g0) rfl (fun _ _ => rfl) fun O x => by kernel_rfl
theorem QO : Vd Tryz.prog 81 CK := fun N h =>
 LM mix (T := 22) (e := 88) (b := 24) Tryz.func81 Tryz.underlying22 (by kernel_rfl) (by decide) (fun O l => by kernel_rfl) (fun O l => by kernel_rfl) h
theorem Qg : Vd Tryz.prog 59 CR := vt mix Qq Ij [(81, CK)] (gs QO g0) rfl (fun _ _ => rfl) fun O x => by kernel_rfl
theorem Yd : Vd Tryz.prog 42 IV := vt mix TK LD [(17, AL), (59, CR)] (gs B6 (gs Qg g0)) rfl (fun _ _ => rfl) fun O x => by kernel_rfl
theorem Up : Vd Tryz.prog 29 EW := vt mix OO Gw [(42, IV)] (gs Yd g0) rfl (fun _ _ => rfl) fun O x => by kernel_rfl
theorem DN : Vd Tryz.prog 48 AX := vt mix Mb MS [] g0 rfl (fun _ _ => rfl) fun O x => by kernel_rfl
theorem Sf : Vd Tryz.prog 49 DF := vt mix MO FC [(48, AX)] (gs DN g0) rfl (fun _ _ => rfl) fun O x => by kernel_rfl
theorem SC : Vd Tryz.prog 93 Cj := vt mix Lp EY [] g0 rfl (fun _ _ => rfl) fun O x => by kernel_rfl
theorem Fk : Vd Tryz.prog 70 Ab := vt mix JL C8 [(93, Cj)] (gs SC g0) rfl (fun _ _ => rfl) fun O x => by kernel_rfl
theorem Q0 : Vd Tryz.prog 50 CW := vt mix Kb D7 [(48, AX), (70, Ab)] (gs DN (gs Fk g0)) rfl (fun _ _ => rfl) fun O x => by kernel_rfl
theorem Qz : Vd Tryz.prog 72 CY := vt mix KZ D5 [(48, AX)] (gs DN g0) rfl (fun _ _ => rfl) fun O x => by kernel_rfl
theorem Si : Vd Tryz.prog 51 DM := vt mix MW FI [(72, CY)] (gs Qz g0) rfl (fun _ _ => rfl) fun O x => by kernel_rfl
theorem Ja : Vd Tryz.prog 34 Aw := vt mix Oe G3 [(17, AL), (48, AX), (49, DF), (50, CW), (51, DM)] (gs B6 (gs DN (gs Sf (gs Q0 (gs Si g0))))) rfl (fun _ _ => rfl) fun O x => by kernel_rfl
theorem Ik : Vd Tryz.prog 52 Az := vt mix Qw Ib [] g0 rfl (fun _ _ => rfl) fun O x => by kernel_rfl
theorem Qh : Vd Tryz.prog 35 CM := vt mix QX Id [(52, Az)] (gs Ik g0) rfl (fun _ _ => rfl) fun O x => by kernel_rfl
theorem Wj : Vd Tryz.prog 36 GJ := vt mix Qb Il [] g0 rfl (fun _ _ => rfl) fun O x => by kernel_rfl
theorem Qf : Vd Tryz.prog 18 CO := vt mix Qk Ii [(17, AL), (34, Aw), (35, CM), (36, GJ)] (gs B6 (gs Ja (gs Qh (gs Wj g0)))) rfl (fun _ _ => rfl) fun O x => by kernel_rfl
theorem Vy : Vd Tryz.prog 60 FP := vt mix Pj HY [] g0 rfl (fun _ _ => rfl) fun O x => by kernel_rfl
theorem UZ : Vd Tryz.prog 61 Ei := vt mix N9 KJ [] g0 rfl (fun _ _ => rfl) fun O x => by kernel_rfl
open Go.RowKit Go.Lib in
set_option maxHeartbeats 1000000 in
theorem Mn (s : ByteArray) (c : Int) (w : World) : Calls Tryz.prog 108 #[.string s, .int .u8 c] w fun e w' => e = .returned (.int .i64 (Lib.indexByte s.data.toList c.toNat.toUInt8)) ∧ w' = w := by
 go_enter Tryz.func108, Tryz.ntmps108
 go_wp2
 rw [run_callFunc_extern Tryz.func120 (by kernel_rfl) (by kernel_rfl) (by kernel_rfl) (e := Extern.BytealgIndexByte.indexByte) (by kernel_rfl), Lib.run_indexByteString]
 simp only [Result.andThen]
 rw [Oper.upon_value]
 go_wp2
 go_ret
 exact ⟨rfl, rfl⟩
theorem N4 : Vd Tryz.prog 108 Bn := fun N h =>
 YU Tryz.func108 (T9 := 9) (T5 := 5) (T3 := 3) rfl rfl Tryz.underlying9 Tryz.underlying5 Tryz.underlying3 (by kernel_rfl) Mn h
theorem Q9 : Vd Tryz.prog 82 CV := vt mix KX D0 [(108, Bn)] (gs N4 g0) rfl (fun _ _ => rfl) fun O x => by kernel_rfl
theorem Wl : Vd Tryz.prog 83 EK := vt mix Qt Qr [] g0 rfl (fun _ _ => rfl) fun O x => by kernel_rfl
theorem Xi : Vd Tryz.prog 62 HV := vt mix RG KE [(82, CV), (83, EK)] (gs Q9 (gs Wl g0)) rfl (fun _ _ => rfl) fun O x => by kernel_rfl
theorem RZ : Vd Tryz.prog 84 Cp := vt mix LZ G7 [] g0 rfl (fun _ _ => rfl) fun O x => by kernel_rfl
theorem Tu : Vd Tryz.prog 63 Dh := vt mix Nd GB [(84, Cp)] (gs RZ g0) rfl (fun _ _ => rfl) fun O x => by kernel_rfl
theorem Qj : Vd Tryz.prog 43 CP := vt mix QZ GW [(60, FP), (61, Ei), (62, HV), (63, Dh)] (gs Vy (gs UZ (gs Xi (gs Tu g0)))) rfl (fun _ _ => rfl) fun O x => by kernel_rfl
theorem C7 : Vd Tryz.prog 85 AM := fun N h =>
 LM mix (T := 65) (e := 103) (b := 1) Tryz.func85 Tryz.underlying65 (by kernel_rfl) (by decide) (fun O l => by kernel_rfl) (fun O l => by kernel_rfl) h
theorem ES : Vd Tryz.prog 86 AU := fun N h =>
 LM mix (T := 66) (e := 3) (b := 8) Tryz.func86 Tryz.underlying66 (by kernel_rfl) (by decide) (fun O l => by kernel_rfl) (fun O l => by kernel_rfl) h
theorem D4 : Vd Tryz.prog 87 AQ := fun N h =>
 LM mix (T := 67) (e := 4) (b := 1) Tryz.func87 Tryz.underlying67 (by kernel_rfl) (by decide) (fun O l => by kernel_rfl) (fun O l => by kernel_rfl) h
theorem Br : Vd Tryz.prog 64 AK := vt mix Ov Gv [(85, AM), (86, AU), (87, AQ)] (gs C7 (gs ES (gs D4 g0))) rfl (fun _ _ => rfl) fun O x => by kernel_rfl
theorem Wf : Vd Tryz.prog 44 GT := vt mix Qi Ih [(59, CR), (64, AK)] (gs Qg (gs Br g0)) rfl (fun _ _ => rfl) fun O x => by kernel_rfl
theorem MB : Vd Tryz.prog 68 BN := vt mix Qu Iu [] g0 rfl (fun _ _ => rfl) fun O x => by kernel_rfl
theorem Ld : Vd Tryz.prog 91 BI := vt mix Lr Ec [] g0 rfl (fun _ _ => rfl) fun O x => by kernel_rfl
theorem UF : Vd Tryz.prog 69 El := vt mix OV G0 [(18, CO), (52, Az), (68, BN), (91, BI)] (gs Qf (gs Ik (gs MB (gs Ld g0)))) rfl (fun _ _ => rfl) fun O x => by kernel_rfl
theorem VJ : Vd Tryz.prog 88 EV := vt mix OS G4 [(17, AL), (48, AX)] (gs B6 (gs DN g0)) rfl (fun _ _ => rfl) fun O x => by kernel_rfl
theorem VS : Vd Tryz.prog 89 FZ := vt mix PM He [(52, Az), (68, BN)] (gs Ik (gs MB g0)) rfl (fun _ _ => rfl) fun O x => by kernel_rfl
theorem Sd : Vd Tryz.prog 122 DR := vt mix MT H0 [] g0 rfl (fun _ _ => rfl) fun O x => by kernel_rfl
theorem Un : Vd Tryz.prog 109 Es := vt mix Oi Gq [(122, DR)] (gs Sd g0) rfl (fun _ _ => rfl) fun O x => by kernel_rfl
theorem Ff : Vd Tryz.prog 142 Ae := vt mix SE J1 [(85, AM), (86, AU), (87, AQ)] (gs C7 (gs ES (gs D4 g0))) rfl (fun _ _ => rfl) fun O x => by kernel_rfl
theorem TT : Vd Tryz.prog 173 B7 := vt mix Ng Iy [] g0 rfl (fun _ _ => rfl) fun O x => by kernel_rfl
theorem PO : Vd Tryz.prog 143 BS := vt mix PY Dc [(173, B7)] (gs TT g0) rfl (fun _ _ => rfl) fun O x => by kernel_rfl
theorem Fa : Vd Tryz.prog 144 Ah := vt mix PL Hd [] g0 rfl (fun _ _ => rfl) fun O x => by kernel_rfl
theorem Wb : Vd Tryz.prog 123 GN := vt mix Qe IZ [(142, Ae), (143, BS), (144, Ah)] (gs Ff (gs PO (gs Fa g0))) rfl (fun _ _ => rfl) fun O x => by kernel_rfl
theorem PH : Vd Tryz.prog 145 Bt := vt mix TB LQ [(85, AM), (86, AU), (87, AQ)] (gs C7 (gs ES (gs D4 g0))) rfl (fun _ _ => rfl) fun O x => by kernel_rfl
theorem L7 : Vd Tryz.prog 174 BO := vt mix Qs Ig [] g0 rfl (fun _ _ => rfl) fun O x => by kernel_rfl
theorem XQ : Vd Tryz.prog 175 HR := vt mix SB Jm [(17, AL), (174, BO)] (gs B6 (gs L7 g0)) rfl (fun _ _ => rfl) fun O x => by kernel_rfl
theorem YZ : Vd Tryz.prog 146 IU := vt mix TN LH [(17, AL), (70, Ab), (174, BO), (175, HR)] (gs B6 (gs Fk (gs L7 (gs XQ g0)))) rfl (fun _ _ => rfl) fun O x => by kernel_rfl
theorem Xh : Vd Tryz.prog 124 HI := vt mix Rb KG [(145, Bt), (146, IU)] (gs PH (gs YZ g0)) rfl (fun _ _ => rfl) fun O x => by kernel_rfl
theorem J3 : Vd Tryz.prog 137 Ay := vt mix Om C4 [(143, BS)] (gs PO g0) rfl (fun _ _ => rfl) fun O x => by kernel_rfl
theorem GO : Vd Tryz.prog 156 Aj := vt mix Qn Im [] g0 rfl (fun _ _ => rfl) fun O x => by kernel_rfl
theorem F5 : Vd Tryz.prog 157 Ai := vt mix NY Fz [(156, Aj)] (gs GO g0) rfl (fun _ _ => rfl) fun O x => by kernel_rfl
theorem Ub : Vd Tryz.prog 196 EX := vt mix Od Gp [] g0 rfl (fun _ _ => rfl) fun O x => by kernel_rfl
theorem WV : Vd Tryz.prog 176 GR := vt mix QV It [(156, Aj), (157, Ai), (196, EX)] (gs GO (gs F5 (gs Ub g0))) rfl (fun _ _ => rfl) fun O x => by kernel_rfl
theorem Q3 : Vd Tryz.prog 197 CX := vt mix KW D3 [] g0 rfl (fun _ _ => rfl) fun O x => by kernel_rfl
theorem NR : Vd Tryz.prog 177 Bj := vt mix Nw F8 [(197, CX)] (gs Q3 g0) rfl (fun _ _ => rfl) fun O x => by kernel_rfl
theorem MZ : Vd Tryz.prog 213 BE := vt mix MM MX [] g0 rfl (fun _ _ => rfl) fun O x => by kernel_rfl
theorem VK : Vd Tryz.prog 198 Fg := vt mix PW Hl [(213, BE)] (gs MZ g0) rfl (fun _ _ => rfl) fun O x => by kernel_rfl
theorem R8 : Vd Tryz.prog 214 Cw := vt mix Lk Er [] g0 rfl (fun _ _ => rfl) fun O x => by kernel_rfl
theorem PZ : Vd Tryz.prog 199 CC := vt mix JK C2 [(214, Cw)] (gs R8 g0) rfl (fun _ _ => rfl) fun O x => by kernel_rfl
theorem RU : Vd Tryz.prog 215 Cr := vt mix Ll EZ [] g0 rfl (fun _ _ => rfl) fun O x => by kernel_rfl
theorem To : Vd Tryz.prog 200 Ds := vt mix NO F0 [(213, BE), (215, Cr)] (gs MZ (gs RU g0)) rfl (fun _ _ => rfl) fun O x => by kernel_rfl
theorem PB : Vd Tryz.prog 216 Bz := vt mix IG Cg [] g0 rfl (fun _ _ => rfl) fun O x => by kernel_rfl
theorem P2 : Vd Tryz.prog 201 CH := vt mix KC DU [(216, Bz)] (gs PB g0) rfl (fun _ _ => rfl) fun O x => by kernel_rfl
theorem P1 : Vd Tryz.prog 178 CE := vt mix Jd DW [(198, Fg), (199, CC), (200, Ds), (201, CH)] (gs VK (gs PZ (gs To (gs P2 g0)))) rfl (fun _ _ => rfl) fun O x => by kernel_rfl
theorem Wk : Vd Tryz.prog 179 GK := vt mix Qd Ie [(156, Aj), (157, Ai)] (gs GO (gs F5 g0)) rfl (fun _ _ => rfl) fun O x => by kernel_rfl
theorem Se : Vd Tryz.prog 147 DI := vt mix MN FH [(137, Ay), (176, GR), (177, Bj), (178, CE), (179, GK)] (gs J3 (gs WV (gs NR (gs P1 (gs Wk g0))))) rfl (fun _ _ => rfl) fun O x => by kernel_rfl
theorem Q5 : Vd Tryz.prog 180 Ca := vt mix Ka D2 [] g0 rfl (fun _ _ => rfl) fun O x => by kernel_rfl
theorem Sh : Vd Tryz.prog 148 DG := vt mix MQ FF [(177, Bj), (180, Ca)] (gs NR (gs Q5 g0)) rfl (fun _ _ => rfl) fun O x => by kernel_rfl
theorem XS : Vd Tryz.prog 149 HF := vt mix Rz Ji [(142, Ae), (144, Ah)] (gs Ff (gs Fa g0)) rfl (fun _ _ => rfl) fun O x => by kernel_rfl
theorem Td : Vd Tryz.prog 150 Dn := vt mix Nf Nv [] g0 rfl (fun _ _ => rfl) fun O x => by kernel_rfl
theorem Xg : Vd Tryz.prog 151 HE := vt mix R0 Ju [(17, AL), (70, Ab), (145, Bt), (174, BO)] (gs B6 (gs Fk (gs PH (gs L7 g0)))) rfl (fun _ _ => rfl) fun O x => by kernel_rfl
theorem Ua : Vd Tryz.prog 152 Em := vt mix Oa G2 [(142, Ae)] (gs Ff g0) rfl (fun _ _ => rfl) fun O x => by kernel_rfl
theorem Vj : Vd Tryz.prog 125 Fj := vt mix Pm Hv [(64, AK), (147, DI), (148, DG), (149, HF), (150, Dn), (151, HE), (152, Em)] (gs Br (gs Se (gs Sh (gs XS (gs Td (gs Xg (gs Ua g0))))))) rfl (fun _ _ => rfl) fun O x => by kernel_rfl
theorem RW : Vd Tryz.prog 153 Co := vt mix Re Jx [(137, Ay), (144, Ah)] (gs J3 (gs Fa g0)) rfl (fun _ _ => rfl) fun O x => by kernel_rfl
theorem Tt : Vd Tryz.prog 126 Dt := vt mix NZ Fy [(142, Ae), (144, Ah), (153, Co)] (gs Ff (gs Fa (gs RW g0))) rfl (fun _ _ => rfl) fun O x => by kernel_rfl
theorem VR : Vd Tryz.prog 127 FL := vt mix Pk Hn [(142, Ae), (153, Co)] (gs Ff (gs RW g0)) rfl (fun _ _ => rfl) fun O x => by kernel_rfl
theorem Qv : Vd Tryz.prog 138 B4 := vt mix Qp EJ [] g0 rfl (fun _ _ => rfl) fun O x => by kernel_rfl
theorem U8 : Vd Tryz.prog 128 Eb := vt mix OL Gt [(138, B4), (142, Ae), (144, Ah)] (gs Qv (gs Ff (gs Fa g0))) rfl (fun _ _ => rfl) fun O x => by kernel_rfl
theorem Oy : Vd Tryz.prog 155 B1 := vt mix S1 LF [(85, AM), (86, AU), (87, AQ)] (gs C7 (gs ES (gs D4 g0))) rfl (fun _ _ => rfl) fun O x => by kernel_rfl
theorem UD : Vd Tryz.prog 129 Ek := vt mix Oj Gn [(155, B1)] (gs Oy g0) rfl (fun _ _ => rfl) fun O x => by kernel_rfl
theorem Vr : Vd Tryz.prog 130 FM := vt mix PR Hm [(155, B1), (156, Aj), (157, Ai)] (gs Oy (gs GO (gs F5 g0))) rfl (fun _ _ => rfl) fun O x => by kernel_rfl
theorem RH : Vd Tryz.prog 131 Cs := vt mix Lo Ef [(155, B1), (156, Aj), (157, Ai)] (gs Oy (gs GO (gs F5 g0))) rfl (fun _ _ => rfl) fun O x => by kernel_rfl
theorem Um : Vd Tryz.prog 132 EP := vt mix OK G1 [(17, AL), (145, Bt)] (gs B6 (gs PH g0)) rfl (fun _ _ => rfl) fun O x => by kernel_rfl
theorem Sr : Vd Tryz.prog 133 DJ := vt mix Ma E7 [(64, AK)] (gs Br g0) rfl (fun _ _ => rfl) fun O x => by kernel_rfl
theorem Md : Vd Tryz.prog 112 BZ := vt mix MJ FG [(64, AK)] (gs Br g0) rfl (fun _ _ => rfl) fun O x => by kernel_rfl
theorem Sq : Vd Tryz.prog 134 DL := vt mix MR E8 [(64, AK), (112, BZ)] (gs Br (gs Md g0)) rfl (fun _ _ => rfl) fun O x => by kernel_rfl
theorem Ty : Vd Tryz.prog 135 Dd := vt mix Nu Dk [(64, AK)] (gs Br g0) rfl (fun _ _ => rfl) fun O x => by kernel_rfl
theorem Uo : Vd Tryz.prog 158 Ej := vt mix On Ou [] g0 rfl (fun _ _ => rfl) fun O x => by kernel_rfl
theorem T6 : Vd Tryz.prog 136 Dq := vt mix Ny F7 [(64, AK), (158, Ej)] (gs Br (gs Uo g0)) rfl (fun _ _ => rfl) fun O x => by kernel_rfl
theorem Sc : Vd Tryz.prog 110 DD := vt mix MV DQ [(123, GN), (124, HI), (125, Fj), (126, Dt), (127, FL), (128, Eb), (129, Ek), (130, FM), (131, Cs), (132, EP), (133, DJ), (134, DL), (135, Dd), (136, Dq)] (gs Wb (gs Xh (gs Vj (gs Tt (gs VR (gs U8 (gs UD (gs Vr (gs RH (gs Um (gs Sr (gs Sq (gs Ty (gs T6 g0)))))))))))))) rfl (fun _ _ => rfl) fun O x => by kernel_rfl
theorem Tv : Vd Tryz.prog 111 Cc := vt mix NI F4 [(34, Aw), (137, Ay), (138, B4)] (gs Ja (gs J3 (gs Qv g0))) rfl (fun _ _ => rfl) fun O x => by kernel_rfl
theorem Va : Vd Tryz.prog 90 FT := vt mix Po Hh [(34, Aw), (43, CP), (64, AK), (109, Es), (110, DD), (111, Cc)] (gs Ja (gs Qj (gs Br (gs Un (gs Sc (gs Tv g0)))))) rfl (fun _ _ => rfl) fun O x => by kernel_rfl
theorem Xu : Vd Tryz.prog 30 HB := vt mix Rd KB [(18, CO), (35, CM), (43, CP), (44, GT), (52, Az), (68, BN), (69, El), (88, EV), (89, FZ), (90, FT), (91, BI), (112, BZ)] (gs Qf (gs Qh (gs Qj (gs Wf (gs Ik (gs MB (gs UF (gs VJ (gs VS (gs Va (gs Ld (gs Md g0)))))))))))) rfl (fun _ _ => rfl) fun O x => by kernel_rfl
theorem RD : Vd Tryz.prog 16 Cy := vt mix Ls Et [(19, BX), (29, EW), (30, HB)] (gs MK (gs Up (gs Xu g0))) rfl (fun _ _ => rfl) fun O x => by kernel_rfl
theorem Lg : Vd Tryz.prog 12 Bk := vt mix Lm Ep [(16, Cy), (19, BX)] (gs RD (gs MK g0)) rfl (fun _ _ => rfl) fun O x => by kernel_rfl
theorem UU : Vd Tryz.prog 14 B2 := vt mix VC U9 [] g0 rfl (fun _ _ => rfl) fun O x => by kernel_rfl
theorem Vz : Vd Tryz.prog 15 HW := vt mix WN WL [] g0 rfl (fun _ _ => rfl) fun O x => by kernel_rfl
theorem YM : Vd Tryz.prog 9 GZ := vt mix TF TE [(12, Bk), (14, B2), (15, HW)] (gs Lg (gs UU (gs Vz g0))) rfl (fun _ _ => rfl) fun O x => by kernel_rfl
theorem Q6 : Vd Tryz.prog 4 Dz := vt mix KY D6 [(9, GZ), (12, Bk), (14, B2), (15, HW)] (gs YM (gs Lg (gs UU (gs Vz g0)))) rfl (fun _ _ => rfl) fun O x => by kernel_rfl
end Go.Px
