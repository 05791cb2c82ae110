/- Part 14. -/
import Derived.Test.YtmpgkalgfmnpjaaGreatPart07
import Derived.Test.YtmpgkalgfmnpjaaGreatProg
import Derived.Test.YtmpgkalgfmnpjaaGreatPart08
import Derived.KernelRfl
import Derived.WalkKit
import Derived.Lib.Walk
import Derived.BigCall
import Derived.BigGuard
set_option linter.unusedVariables false
set_option linter.unusedSimpArgs false
namespace Go.Px
open Go.Proofs
set_option maxRecDepth 100000
theorem mix : Tryz.prog.follows .mixedOrders = true := by kernel_rfl
theorem MP : Vd Tryz.prog 11 Bx := vt mix ML Ee [] g0 rfl (fun _ _ => rfl) fun O x => by kernel_rfl
theorem GD : Vd Tryz.prog 12 A0 := vt mix SM Ip [] g0 rfl (fun _ _ => rfl) fun O x => by kernel_rfl
theorem aE : Vd Tryz.prog 27 HK := vt mix TW J2 [] g0 rfl (fun _ _ => rfl) fun O x => by kernel_rfl
theorem Tp : Vd Tryz.prog 15 Dl := vt mix TT J3 [(12, A0), (27, HK)] (gs GD (gs aE g0)) rfl (fun _ _ => rfl) fun O x => by kernel_rfl
theorem de : Vd Tryz.prog 51 Jl := vt mix WK NT [] g0 rfl (fun _ _ => rfl) fun O x => by kernel_rfl
theorem Qq : Vd Tryz.prog 65 CE := vt mix QW RI [] g0 rfl (fun _ _ => rfl) fun O x => by kernel_rfl
theorem XY : Vd Tryz.prog 52 FZ := vt mix Qa H0 [(65, CE)] (gs Qq g0) rfl (fun _ _ => rfl) fun O x => by kernel_rfl
theorem ZT : Vd Tryz.prog 53 GS := vt mix R2 I1 [(65, CE)] (gs Qq g0) rfl (fun _ _ => rfl) fun O x => by kernel_rfl
theorem CU : Vd Tryz.prog 39 AN := vt mix Tm J1 [(51, Jl), (52, FZ), (53, GS)] (gs de (gs XY (gs ZT g0))) rfl (fun _ _ => rfl) fun O x => by kernel_rfl
theorem Sp : Vd Tryz.prog 70 Cg := fun N h =>
 NM mix (T := 33) (e := 107) (b := 24) Tryz.func70 Tryz.underlying33 (by kernel_rfl) (by decide) (fun O l => by kernel_rfl) (fun O l => by kernel_rfl) h
theorem Tr : Vd Tryz.prog 63 Cu := vt mix TN Jw [(70, Cg)] (gs Sp g0) rfl (fun _ _ => rfl) fun O x => by kernel_rfl
theorem eX : Vd Tryz.prog 48 NE := vt mix WB NS [(39, AN), (63, Cu)] (gs CU (gs Tr g0)) rfl (fun _ _ => rfl) fun O x => by kernel_rfl
theorem Dr : Vd Tryz.prog 107 Ae := vt mix Og Om [] g0 rfl (fun _ _ => rfl) fun O x => by kernel_rfl
theorem Vg : Vd Tryz.prog 108 Dq := vt mix OZ Fq [(107, Ae)] (gs Dr g0) rfl (fun _ _ => rfl) fun O x => by kernel_rfl
theorem UD : Vd Tryz.prog 144 DJ := vt mix Ng Fa [] g0 rfl (fun _ _ => rfl) fun O x => by kernel_rfl
theorem Ga : Vd Tryz.prog 130 Aj := vt mix Kr De [(144, DJ)] (gs UD g0) rfl (fun _ _ => rfl) fun O x => by kernel_rfl
theorem Tx : Vd Tryz.prog 109 C4 := vt mix MR En [(107, Ae), (130, Aj)] (gs Dr (gs Ga g0)) rfl (fun _ _ => rfl) fun O x => by kernel_rfl
theorem Tz : Vd Tryz.prog 132 C1 := vt mix MU Ej [(107, Ae)] (gs Dr g0) rfl (fun _ _ => rfl) fun O x => by kernel_rfl
theorem Vi : Vd Tryz.prog 110 D1 := vt mix Oc Fr [(132, C1)] (gs Tz g0) rfl (fun _ _ => rfl) fun O x => by kernel_rfl
theorem LV : Vd Tryz.prog 82 BJ := vt mix RF Hx [(39, AN), (107, Ae), (108, Dq), (109, C4), (110, D1)] (gs CU (gs Dr (gs Vg (gs Tx (gs Vi g0))))) rfl (fun _ _ => rfl) fun O x => by kernel_rfl
theorem J9 : Vd Tryz.prog 90 BK := vt mix Tf J0 [] g0 rfl (fun _ _ => rfl) fun O x => by kernel_rfl
theorem TF : Vd Tryz.prog 83 Ct := vt mix TJ KL [(90, BK)] (gs J9 g0) rfl (fun _ _ => rfl) fun O x => by kernel_rfl
theorem aR : Vd Tryz.prog 84 HA := vt mix TU J5 [] g0 rfl (fun _ _ => rfl) fun O x => by kernel_rfl
theorem TX : Vd Tryz.prog 71 Cr := vt mix TE KI [(39, AN), (82, BJ), (83, Ct), (84, HA)] (gs CU (gs LV (gs TF (gs aR g0)))) rfl (fun _ _ => rfl) fun O x => by kernel_rfl
theorem Yn : Vd Tryz.prog 85 GV := vt mix Ry Iz [] g0 rfl (fun _ _ => rfl) fun O x => by kernel_rfl
theorem Ye : Vd Tryz.prog 86 FW := vt mix Qx LP [] g0 rfl (fun _ _ => rfl) fun O x => by kernel_rfl
open Go.RowKit Go.Lib in
set_option maxHeartbeats 1000000 in
theorem PK (s : ByteArray) (c : Int) (w : World) : Calls Tryz.prog 133 #[.string s, .int .u8 c] w fun e w' => e = .returned (.int .i64 (Lib.indexByte s.data.toList c.toNat.toUInt8)) ∧ w' = w := by
 go_enter Tryz.func133, Tryz.ntmps133
 go_wp2
 rw [run_callFunc_extern Tryz.func146 (by kernel_rfl) (by kernel_rfl) (by kernel_rfl) (e := Extern.BytealgIndexByte.indexByte) (by kernel_rfl), Lib.run_indexByteString]
 simp only [Result.andThen]
 rw [Oper.upon_value]
 go_wp2
 go_ret
 exact ⟨rfl, rfl⟩
theorem QN : Vd Tryz.prog 133 CB := fun N h =>
 eF Tryz.func133 (T9 := 9) (T5 := 5) (T3 := 3) rfl rfl Tryz.underlying9 Tryz.underlying5 Tryz.underlying3 (by kernel_rfl) PK h
theorem Tw : Vd Tryz.prog 111 C0 := vt mix MO Ef [(133, CB)] (gs QN g0) rfl (fun _ _ => rfl) fun O x => by kernel_rfl
theorem Z6 : Vd Tryz.prog 112 E1 := vt mix Td To [] g0 rfl (fun _ _ => rfl) fun O x => by kernel_rfl
theorem cY : Vd Tryz.prog 87 IC := vt mix Us Ly [(111, C0), (112, E1)] (gs Tw (gs Z6 g0)) rfl (fun _ _ => rfl) fun O x => by kernel_rfl
theorem VJ : Vd Tryz.prog 113 DY := vt mix Ns IK [] g0 rfl (fun _ _ => rfl) fun O x => by kernel_rfl
theorem Wn : Vd Tryz.prog 88 Ec := vt mix QF G8 [(113, DY)] (gs VJ g0) rfl (fun _ _ => rfl) fun O x => by kernel_rfl
theorem Tk : Vd Tryz.prog 72 Cs := vt mix Tq HT [(85, GV), (86, FW), (87, IC), (88, Ec)] (gs Yn (gs Ye (gs cY (gs Wn g0)))) rfl (fun _ _ => rfl) fun O x => by kernel_rfl
theorem Dg : Vd Tryz.prog 114 AO := fun N h =>
 NM mix (T := 64) (e := 144) (b := 1) Tryz.func114 Tryz.underlying64 (by kernel_rfl) (by decide) (fun O l => by kernel_rfl) (fun O l => by kernel_rfl) h
theorem E8 : Vd Tryz.prog 115 Aa := fun N h =>
 NM mix (T := 30) (e := 3) (b := 8) Tryz.func115 Tryz.underlying30 (by kernel_rfl) (by decide) (fun O l => by kernel_rfl) (fun O l => by kernel_rfl) h
theorem Eg : Vd Tryz.prog 116 AY := fun N h =>
 NM mix (T := 65) (e := 4) (b := 1) Tryz.func116 Tryz.underlying65 (by kernel_rfl) (by decide) (fun O l => by kernel_rfl) (fun O l => by kernel_rfl) h
theorem CG : Vd Tryz.prog 89 AM := vt mix Q1 Hz [(114, AO), (115, Aa), (116, AY)] (gs Dg (gs E8 (gs Eg g0))) rfl (fun _ _ => rfl) fun O x => by kernel_rfl
theorem Z8 : Vd Tryz.prog 73 HV := vt mix Tl J6 [(63, Cu), (89, AM)] (gs Tr (gs CG g0)) rfl (fun _ _ => rfl) fun O x => by kernel_rfl
theorem OG : Vd Tryz.prog 94 Bn := vt mix TP KF [] g0 rfl (fun _ _ => rfl) fun O x => by kernel_rfl
theorem NY : Vd Tryz.prog 120 Bg := vt mix Nn Ff [] g0 rfl (fun _ _ => rfl) fun O x => by kernel_rfl
theorem YK : Vd Tryz.prog 95 FK := vt mix Qg H6 [(71, Cr), (90, BK), (94, Bn), (120, Bg)] (gs TX (gs J9 (gs OG (gs NY g0)))) rfl (fun _ _ => rfl) fun O x => by kernel_rfl
theorem YB : Vd Tryz.prog 117 FJ := vt mix Q0 H5 [(39, AN), (107, Ae)] (gs CU (gs Dr g0)) rfl (fun _ _ => rfl) fun O x => by kernel_rfl
theorem Y4 : Vd Tryz.prog 118 F7 := vt mix SN JE [(90, BK), (94, Bn)] (gs J9 (gs OG g0)) rfl (fun _ _ => rfl) fun O x => by kernel_rfl
theorem Vq : Vd Tryz.prog 148 D4 := vt mix Oe JL [] g0 rfl (fun _ _ => rfl) fun O x => by kernel_rfl
theorem Xj : Vd Tryz.prog 134 FB := vt mix Qf Hp [(148, D4)] (gs Vq g0) rfl (fun _ _ => rfl) fun O x => by kernel_rfl
theorem GN : Vd Tryz.prog 180 Av := vt mix U1 LI [(114, AO), (115, Aa), (116, AY)] (gs Dg (gs E8 (gs Eg g0))) rfl (fun _ _ => rfl) fun O x => by kernel_rfl
theorem XR : Vd Tryz.prog 206 CW := vt mix PT Kf [] g0 rfl (fun _ _ => rfl) fun O x => by kernel_rfl
theorem SF : Vd Tryz.prog 181 Bt := vt mix R1 EJ [(206, CW)] (gs XR g0) rfl (fun _ _ => rfl) fun O x => by kernel_rfl
theorem GP : Vd Tryz.prog 182 Aw := vt mix R7 I4 [] g0 rfl (fun _ _ => rfl) fun O x => by kernel_rfl
theorem Z9 : Vd Tryz.prog 149 HI := vt mix Tg KK [(180, Av), (181, Bt), (182, Aw)] (gs GN (gs SF (gs GP g0))) rfl (fun _ _ => rfl) fun O x => by kernel_rfl
theorem Rb : Vd Tryz.prog 183 CL := vt mix Vy ND [(114, AO), (115, Aa), (116, AY)] (gs Dg (gs E8 (gs Eg g0))) rfl (fun _ _ => rfl) fun O x => by kernel_rfl
theorem OB : Vd Tryz.prog 207 Bm := vt mix Tb Jz [] g0 rfl (fun _ _ => rfl) fun O x => by kernel_rfl
theorem ct : Vd Tryz.prog 208 Ic := vt mix Ur Lo [(39, AN), (207, Bm)] (gs CU (gs OB g0)) rfl (fun _ _ => rfl) fun O x => by kernel_rfl
theorem eB : Vd Tryz.prog 184 Jp := vt mix WX NN [(39, AN), (130, Aj), (207, Bm), (208, Ic)] (gs CU (gs Ga (gs OB (gs ct g0)))) rfl (fun _ _ => rfl) fun O x => by kernel_rfl
theorem bX : Vd Tryz.prog 150 IR := vt mix VI LE [(183, CL), (184, Jp)] (gs Rb (gs eB g0)) rfl (fun _ _ => rfl) fun O x => by kernel_rfl
theorem T0 : Vd Tryz.prog 55 C5 := vt mix MT Ei [] g0 rfl (fun _ _ => rfl) fun O x => by kernel_rfl
theorem P7 : Vd Tryz.prog 42 B5 := vt mix PU G0 [(55, C5)] (gs T0 g0) rfl (fun _ _ => rfl) fun O x => by kernel_rfl
theorem T6 : Vd Tryz.prog 43 C7 := vt mix MN Ek [] g0 rfl (fun _ _ => rfl) fun O x => by kernel_rfl
theorem Fw : Vd Tryz.prog 30 Au := vt mix Ok Fz [(42, B5), (43, C7)] (gs P7 (gs T6 g0)) rfl (fun _ _ => rfl) fun O x => by kernel_rfl
theorem QM : Vd Tryz.prog 31 B7 := vt mix Pa Ph [] g0 rfl (fun _ _ => rfl) fun O x => by kernel_rfl
theorem Le : Vd Tryz.prog 163 BI := vt mix RA Dh [(181, Bt)] (gs SF g0) rfl (fun _ _ => rfl) fun O x => by kernel_rfl
theorem HD : Vd Tryz.prog 192 A1 := vt mix Ts Jx [] g0 rfl (fun _ _ => rfl) fun O x => by kernel_rfl
theorem G2 : Vd Tryz.prog 193 Ay := vt mix Pj Gv [(192, A1)] (gs HD g0) rfl (fun _ _ => rfl) fun O x => by kernel_rfl
theorem X6 : Vd Tryz.prog 219 FM := vt mix RD Ho [] g0 rfl (fun _ _ => rfl) fun O x => by kernel_rfl
theorem aI : Vd Tryz.prog 209 HF := vt mix Ta J7 [(192, A1), (193, Ay), (219, FM)] (gs HD (gs G2 (gs X6 g0))) rfl (fun _ _ => rfl) fun O x => by kernel_rfl
theorem OY : Vd Tryz.prog 224 Ba := vt mix Oj OT [] g0 rfl (fun _ _ => rfl) fun O x => by kernel_rfl
theorem Yp : Vd Tryz.prog 220 GC := vt mix R3 JF [(224, Ba)] (gs OY g0) rfl (fun _ _ => rfl) fun O x => by kernel_rfl
theorem Ua : Vd Tryz.prog 225 DW := vt mix Nb FL [] g0 rfl (fun _ _ => rfl) fun O x => by kernel_rfl
theorem SP : Vd Tryz.prog 221 CX := vt mix Kq Da [(225, DW)] (gs Ua g0) rfl (fun _ _ => rfl) fun O x => by kernel_rfl
theorem UJ : Vd Tryz.prog 226 DN := vt mix Nq FV [] g0 rfl (fun _ _ => rfl) fun O x => by kernel_rfl
theorem W7 : Vd Tryz.prog 222 EU := vt mix PS Gx [(224, Ba), (226, DN)] (gs OY (gs UJ g0)) rfl (fun _ _ => rfl) fun O x => by kernel_rfl
theorem Ri : Vd Tryz.prog 227 CN := vt mix JU DC [] g0 rfl (fun _ _ => rfl) fun O x => by kernel_rfl
theorem Sj : Vd Tryz.prog 223 Ck := vt mix LG D9 [(227, CN)] (gs Ri g0) rfl (fun _ _ => rfl) fun O x => by kernel_rfl
theorem SS : Vd Tryz.prog 210 Co := vt mix LH EB [(220, GC), (221, CX), (222, EU), (223, Ck)] (gs Yp (gs SP (gs W7 (gs Sj g0)))) rfl (fun _ _ => rfl) fun O x => by kernel_rfl
theorem aA : Vd Tryz.prog 211 HP := vt mix Ti KE [(192, A1), (193, Ay)] (gs HD (gs G2 g0)) rfl (fun _ _ => rfl) fun O x => by kernel_rfl
theorem Vl : Vd Tryz.prog 185 Du := vt mix OV F2 [(42, B5), (163, BI), (209, HF), (210, Co), (211, HP)] (gs P7 (gs Le (gs aI (gs SS (gs aA g0))))) rfl (fun _ _ => rfl) fun O x => by kernel_rfl
theorem cj : Vd Tryz.prog 186 Ie := vt mix UY L4 [(180, Av), (182, Aw)] (gs GN (gs GP g0)) rfl (fun _ _ => rfl) fun O x => by kernel_rfl
theorem bu : Vd Tryz.prog 187 IY := vt mix Ub LX [(39, AN), (130, Aj), (183, CL), (207, Bm)] (gs CU (gs Ga (gs Rb (gs OB g0)))) rfl (fun _ _ => rfl) fun O x => by kernel_rfl
theorem YS : Vd Tryz.prog 188 FN := vt mix Qi H4 [(180, Av)] (gs GN g0) rfl (fun _ _ => rfl) fun O x => by kernel_rfl
theorem Y8 : Vd Tryz.prog 151 GT := vt mix R5 Ix [(30, Au), (31, B7), (89, AM), (185, Du), (186, Ie), (187, IY), (188, FN)] (gs Fw (gs QM (gs CG (gs Vl (gs cj (gs bu (gs YS g0))))))) rfl (fun _ _ => rfl) fun O x => by kernel_rfl
theorem UF : Vd Tryz.prog 189 DU := vt mix U6 K9 [(163, BI), (182, Aw)] (gs Le (gs GP g0)) rfl (fun _ _ => rfl) fun O x => by kernel_rfl
theorem Wu : Vd Tryz.prog 152 EL := vt mix QJ Gt [(180, Av), (182, Aw), (189, DU)] (gs GN (gs GP (gs UF g0))) rfl (fun _ _ => rfl) fun O x => by kernel_rfl
theorem ZG : Vd Tryz.prog 153 GH := vt mix R9 I6 [(180, Av), (189, DU)] (gs GN (gs UF g0)) rfl (fun _ _ => rfl) fun O x => by kernel_rfl
theorem Tc : Vd Tryz.prog 164 CR := vt mix TL E0 [] g0 rfl (fun _ _ => rfl) fun O x => by kernel_rfl
theorem Ya : Vd Tryz.prog 154 FA := vt mix Q9 H8 [(164, CR), (180, Av), (182, Aw)] (gs Tc (gs GN (gs GP g0))) rfl (fun _ _ => rfl) fun O x => by kernel_rfl
theorem RK : Vd Tryz.prog 191 CP := vt mix V3 NR [(114, AO), (115, Aa), (116, AY)] (gs Dg (gs E8 (gs Eg g0))) rfl (fun _ _ => rfl) fun O x => by kernel_rfl
theorem Xb : Vd Tryz.prog 155 E9 := vt mix Q4 Ht [(191, CP)] (gs RK g0) rfl (fun _ _ => rfl) fun O x => by kernel_rfl
theorem ZE : Vd Tryz.prog 156 GK := vt mix Rn Iq [(191, CP), (192, A1), (193, Ay)] (gs RK (gs HD (gs G2 g0))) rfl (fun _ _ => rfl) fun O x => by kernel_rfl
theorem VB : Vd Tryz.prog 157 DX := vt mix Nd Fh [(191, CP), (192, A1), (193, Ay)] (gs RK (gs HD (gs G2 g0))) rfl (fun _ _ => rfl) fun O x => by kernel_rfl
theorem Yj : Vd Tryz.prog 158 Fj := vt mix Qn H1 [(39, AN), (183, CL)] (gs CU (gs Rb g0)) rfl (fun _ _ => rfl) fun O x => by kernel_rfl
theorem Vf : Vd Tryz.prog 159 D3 := vt mix Ob Fv [(89, AM)] (gs CG g0) rfl (fun _ _ => rfl) fun O x => by kernel_rfl
theorem OU : Vd Tryz.prog 137 Bv := vt mix Of Fx [(89, AM)] (gs CG g0) rfl (fun _ _ => rfl) fun O x => by kernel_rfl
theorem Vk : Vd Tryz.prog 160 Dx := vt mix Oa Fu [(89, AM), (137, Bv)] (gs CG (gs OU g0)) rfl (fun _ _ => rfl) fun O x => by kernel_rfl
theorem XA : Vd Tryz.prog 161 EP := vt mix QC ES [(89, AM)] (gs CG g0) rfl (fun _ _ => rfl) fun O x => by kernel_rfl
theorem X9 : Vd Tryz.prog 54 FE := vt mix Qz RB [] g0 rfl (fun _ _ => rfl) fun O x => by kernel_rfl
theorem Wz : Vd Tryz.prog 162 EW := vt mix PY Gn [(54, FE), (89, AM)] (gs X9 (gs CG g0)) rfl (fun _ _ => rfl) fun O x => by kernel_rfl
theorem Vt : Vd Tryz.prog 135 Dw := vt mix OW Ds [(149, HI), (150, IR), (151, GT), (152, EL), (153, GH), (154, FA), (155, E9), (156, GK), (157, DX), (158, Fj), (159, D3), (160, Dx), (161, EP), (162, EW)] (gs Z9 (gs bX (gs Y8 (gs Wu (gs ZG (gs Ya (gs Xb (gs ZE (gs VB (gs Yj (gs Vf (gs Vk (gs XA (gs Wz g0)))))))))))))) rfl (fun _ _ => rfl) fun O x => by kernel_rfl
theorem Wl : Vd Tryz.prog 136 DB := vt mix P8 Gm [(82, BJ), (163, BI), (164, CR)] (gs LV (gs Le (gs Tc g0))) rfl (fun _ _ => rfl) fun O x => by kernel_rfl
theorem ZN : Vd Tryz.prog 119 GX := vt mix SH Is [(72, Cs), (82, BJ), (89, AM), (134, FB), (135, Dw), (136, DB)] (gs Tk (gs LV (gs CG (gs Xj (gs Vt (gs Wl g0)))))) rfl (fun _ _ => rfl) fun O x => by kernel_rfl
theorem dH : Vd Tryz.prog 64 Lt := vt mix UK Lm [(71, Cr), (72, Cs), (73, HV), (83, Ct), (90, BK), (94, Bn), (95, FK), (117, FJ), (118, F7), (119, GX), (120, Bg), (137, Bv)] (gs TX (gs Tk (gs Z8 (gs TF (gs J9 (gs OG (gs YK (gs YB (gs Y4 (gs ZN (gs NY (gs OU g0)))))))))))) rfl (fun _ _ => rfl) fun O x => by kernel_rfl
def XV : Cfg := { gam := [⟨64, [], true, true, []⟩], imm := false, old := false }
theorem dj (O : Alg) (x : Ags O) : XF (O := O) Tryz.prog XV false false [] 49 [] (xr x Sk 0) = LT O x := by kernel_rfl
theorem fx {E : Env} {M : Nat} (N : Nat) (h : ∀ ls, E 49 [] ls = Ll N ls) : VV Tryz.prog E M ⟨49, [], false, false, []⟩ :=
 Ib mix (E := GZ N) (N := N) (cfg := XV) (ci := ⟨49, [], false, false, []⟩) (ks := Sk) (CV (dH N (fun _ => rfl)) PN) (c := Ll N) (F := fun ls => LT (std (GZ N) N) (xOf ls)) (fun ls => rfl) (fun ls => dj (std (GZ N) N) (xOf ls)) h
theorem X1 : Vd Tryz.prog 50 Hv := vt mix QU Hs [(30, Au)] (gs Fw g0) rfl (fun _ _ => rfl) fun O x => by kernel_rfl
def X3 : Cfg := { gam := [⟨48, [], true, true, []⟩, ⟨49, [], false, false, []⟩, ⟨50, [], true, true, []⟩], imm := false, old := true, ie := [77, 27, 3, 107, 45, 67, 144, 4, 5, 124, 140, 59, 73, 190] }
theorem eW (O : Alg) (x : Ags O) : XF (O := O) Tryz.prog X3 false false [] 38 [] (xr x Sh 0) = Ln O x := by kernel_rfl
theorem fX {E : Env} {M : Nat} (N : Nat) (h : ∀ ls, E 38 [] ls = LF N ls) : VV Tryz.prog E M ⟨38, [], false, false, []⟩ :=
 Ib mix (E := DP N) (N := N) (cfg := X3) (ci := ⟨38, [], false, false, []⟩) (ks := Sh) (CV (eX N (fun _ => rfl)) (CV (fx N (fun _ => rfl)) (CV (X1 N (fun _ => rfl)) PN))) (c := LF N) (F := fun ls => Ln (std (DP N) N) (xOf ls)) (fun ls => rfl) (fun ls => eW (std (DP N) N) (xOf ls)) h
def Ul : Cfg := { gam := [⟨38, [], false, false, []⟩], imm := false, old := false }
theorem aC (O : Alg) (x : Ags O) : XF (O := O) Tryz.prog Ul false false [] 22 [] (xr x QB 0) = Ia O x := by kernel_rfl
theorem bl {E : Env} {M : Nat} (N : Nat) (h : ∀ ls, E 22 [] ls = IG N ls) : VV Tryz.prog E M ⟨22, [], false, false, []⟩ :=
 Ib mix (E := EI N) (N := N) (cfg := Ul) (ci := ⟨22, [], false, false, []⟩) (ks := QB) (CV (fX N (fun _ => rfl)) PN) (c := IG N) (F := fun ls => Ia (std (EI N) N) (xOf ls)) (fun ls => rfl) (fun ls => aC (std (EI N) N) (xOf ls)) h
def WU : Cfg := { gam := [⟨22, [], false, false, []⟩, ⟨39, [], true, true, []⟩], imm := false, old := false }
theorem bZ (O : Alg) (x : Ags O) : XF (O := O) Tryz.prog WU true true [] 23 [] (xr x Rh 0) = Jh O x := by kernel_rfl
theorem V8 : Vd Tryz.prog 23 DE := fun N h =>
 Ib mix (E := Dn N) (N := N) (cfg := WU) (ci := ⟨23, [], true, true, []⟩) (ks := Rh) (CV (bl N (fun _ => rfl)) (CV (CU N (fun _ => rfl)) PN)) (c := DE N) (F := fun ls => Jh (std (Dn N) N) (xOf ls)) (fun ls => rfl) (fun ls => bZ (std (Dn N) N) (xOf ls)) h
theorem dx : Vd Tryz.prog 29 Jr := vt mix WO NQ [] g0 rfl (fun _ _ => rfl) fun O x => by kernel_rfl
theorem du : Vd Tryz.prog 32 Hc := vt mix WQ NI [] g0 rfl (fun _ _ => rfl) fun O x => by kernel_rfl
theorem Yy : Vd Tryz.prog 17 EF := vt mix Rt Ir [(12, A0), (15, Dl), (23, DE), (29, Jr), (30, Au), (31, B7), (32, Hc)] (gs GD (gs Tp (gs V8 (gs dx (gs Fw (gs QM (gs du g0))))))) rfl (fun _ _ => rfl) fun O x => by kernel_rfl
theorem Sq : Vd Tryz.prog 19 Ch := vt mix LC D6 [] g0 rfl (fun _ _ => rfl) fun O x => by kernel_rfl
theorem Xu : Vd Tryz.prog 20 DZ := vt mix Q6 H7 [(12, A0), (23, DE), (30, Au)] (gs GD (gs V8 (gs Fw g0))) rfl (fun _ _ => rfl) fun O x => by kernel_rfl
theorem dq : Vd Tryz.prog 25 Jt := vt mix Vv WT [] g0 rfl (fun _ _ => rfl) fun O x => by kernel_rfl
theorem eE : Vd Tryz.prog 41 Rk := vt mix Vx WL [] g0 rfl (fun _ _ => rfl) fun O x => by kernel_rfl
theorem iD : Vd Tryz.prog 26 Nl := vt mix Zf Z2 [(41, Rk)] (gs eE g0) rfl (fun _ _ => rfl) fun O x => by kernel_rfl
theorem di : Vd Tryz.prog 9 Jf := vt mix Wa NG [(11, Bx), (12, A0), (17, EF), (19, Ch), (20, DZ), (25, Jt), (26, Nl)] (gs MP (gs GD (gs Yy (gs Sq (gs Xu (gs dq (gs iD g0))))))) rfl (fun _ _ => rfl) fun O x => by kernel_rfl
def Z3 : Cfg := { gam := [], imm := false, old := false }
theorem fm (O : Alg) (x : Ags O) : XF (O := O) Tryz.prog Z3 false false [] 10 [] (xr x UQ 0) = Ni O x := by kernel_rfl
theorem hO {E : Env} {M : Nat} (N : Nat) (h : ∀ ls, E 10 [] ls = NZ N ls) : VV Tryz.prog E M ⟨10, [], false, false, []⟩ :=
 Ib mix (E := Ja N) (N := N) (cfg := Z3) (ci := ⟨10, [], false, false, []⟩) (ks := UQ) PN (c := NZ N) (F := fun ls => Ni (std (Ja N) N) (xOf ls)) (fun ls => rfl) (fun ls => fm (std (Ja N) N) (xOf ls)) h
theorem Uk : Vd Tryz.prog 13 EM := vt mix UU Lx [] g0 rfl (fun _ _ => rfl) fun O x => by kernel_rfl
theorem Um : Vd Tryz.prog 14 FG := vt mix Nx FF [] g0 rfl (fun _ _ => rfl) fun O x => by kernel_rfl
theorem eS : Vd Tryz.prog 28 Je := vt mix WI NL [] g0 rfl (fun _ _ => rfl) fun O x => by kernel_rfl
theorem dy : Vd Tryz.prog 16 NF := vt mix V7 NB [(13, EM), (28, Je)] (gs Uk (gs eS g0)) rfl (fun _ _ => rfl) fun O x => by kernel_rfl
def Oh : Cfg := { gam := [⟨9, [], true, true, []⟩, ⟨10, [], false, false, []⟩, ⟨11, [], true, true, []⟩, ⟨12, [], true, true, []⟩, ⟨13, [], true, true, []⟩, ⟨14, [], true, true, []⟩, ⟨15, [], true, true, []⟩, ⟨16, [], true, true, []⟩], imm := false, old := false }
theorem VF (O : Alg) (x : Ags O) : XF (O := O) Tryz.prog Oh true true [] 3 [] (xr x JM 0) = D0 O x := by kernel_rfl
theorem Vo : Vd Tryz.prog 3 Dz := fun N h =>
 Ib mix (E := Ao N) (N := N) (cfg := Oh) (ci := ⟨3, [], true, true, []⟩) (ks := JM) (CV (di N (fun _ => rfl)) (CV (hO N (fun _ => rfl)) (CV (MP N (fun _ => rfl)) (CV (GD N (fun _ => rfl)) (CV (Uk N (fun _ => rfl)) (CV (Um N (fun _ => rfl)) (CV (Tp N (fun _ => rfl)) (CV (dy N (fun _ => rfl)) PN)))))))) (c := Dz N) (F := fun ls => D0 (std (Ao N) N) (xOf ls)) (fun ls => rfl) (fun ls => VF (std (Ao N) N) (xOf ls)) h
end Go.Px
