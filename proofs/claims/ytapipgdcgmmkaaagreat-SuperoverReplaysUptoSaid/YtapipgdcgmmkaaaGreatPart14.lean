/- Part 14. -/
import Derived.Test.YtapipgdcgmmkaaaGreatPart06
import Derived.Test.YtapipgdcgmmkaaaGreatProg
import Derived.Test.YtapipgdcgmmkaaaGreatPart09
import Derived.KernelRfl
import Derived.WalkKit
import Derived.Lib.Walk
import Derived.BigCall
import Derived.BigGuard
set_option linter.unusedVariables false
set_option linter.unusedSimpArgs false
namespace Go.Px
open Go.Proofs
set_option maxRecDepth 100000
theorem mix : Tryz.prog.follows .mixedOrders = true := by kernel_rfl
theorem oI : Vd Tryz.prog 31 K6 := vt mix dF P2 [] g0 rfl (fun _ _ => rfl) fun O x => by kernel_rfl
theorem UZ : Vd Tryz.prog 47 CQ := vt mix Uz UA [] g0 rfl (fun _ _ => rfl) fun O x => by kernel_rfl
theorem fR : Vd Tryz.prog 32 Fw := vt mix T7 Iu [(47, CQ)] (gs UZ g0) rfl (fun _ _ => rfl) fun O x => by kernel_rfl
theorem iq : Vd Tryz.prog 33 G3 := vt mix WZ KG [(47, CQ)] (gs UZ g0) rfl (fun _ _ => rfl) fun O x => by kernel_rfl
theorem Cg : Vd Tryz.prog 17 AP := vt mix YM LL [(31, K6), (32, Fw), (33, G3)] (gs oI (gs fR (gs iq g0))) rfl (fun _ _ => rfl) fun O x => by kernel_rfl
theorem RW : Vd Tryz.prog 19 CK := vt mix Rb GA [(17, AP)] (gs Cg g0) rfl (fun _ _ => rfl) fun O x => by kernel_rfl
theorem XK : Vd Tryz.prog 81 C1 := fun N h =>
 PY mix (T := 22) (e := 88) (b := 24) Tryz.func81 Tryz.underlying22 (by kernel_rfl) (by decide) (fun O l => by kernel_rfl) (fun O l => by kernel_rfl) h
theorem Yp : Vd Tryz.prog 59 C6 := vt mix YB LY [(81, C1)] (gs XK g0) rfl (fun _ _ => rfl) fun O x => by kernel_rfl
theorem oO : Vd Tryz.prog 42 Kd := vt mix dK Pu [(17, AP), (59, C6)] (gs Cg (gs Yp g0)) rfl (fun _ _ => rfl) fun O x => by kernel_rfl
theorem gr : Vd Tryz.prog 29 Fa := vt mix Ui Iw [(42, Kd)] (gs oO g0) rfl (fun _ _ => rfl) fun O x => by kernel_rfl
theorem D8 : Vd Tryz.prog 48 Ah := vt mix RS RT [] g0 rfl (fun _ _ => rfl) fun O x => by kernel_rfl
theorem bm : Vd Tryz.prog 49 D7 := vt mix RY GL [(48, Ah)] (gs D8 g0) rfl (fun _ _ => rfl) fun O x => by kernel_rfl
theorem ZP : Vd Tryz.prog 93 DX := vt mix Qo Fn [] g0 rfl (fun _ _ => rfl) fun O x => by kernel_rfl
theorem GX : Vd Tryz.prog 70 Am := vt mix MR Ds [(93, DX)] (gs ZP g0) rfl (fun _ _ => rfl) fun O x => by kernel_rfl
theorem Y9 : Vd Tryz.prog 50 DH := vt mix Oa E0 [(48, Ah), (70, Am)] (gs D8 (gs GX g0)) rfl (fun _ _ => rfl) fun O x => by kernel_rfl
theorem Yt : Vd Tryz.prog 72 DK := vt mix Oi E2 [(48, Ah)] (gs D8 g0) rfl (fun _ _ => rfl) fun O x => by kernel_rfl
theorem bS : Vd Tryz.prog 51 D5 := vt mix RX GB [(72, DK)] (gs Yt g0) rfl (fun _ _ => rfl) fun O x => by kernel_rfl
theorem Mp : Vd Tryz.prog 34 BB := vt mix Ud Im [(17, AP), (48, Ah), (49, D7), (50, DH), (51, D5)] (gs Cg (gs D8 (gs bm (gs Y9 (gs bS g0))))) rfl (fun _ _ => rfl) fun O x => by kernel_rfl
theorem Ll : Vd Tryz.prog 52 A9 := vt mix Yj LO [] g0 rfl (fun _ _ => rfl) fun O x => by kernel_rfl
theorem Ya : Vd Tryz.prog 35 C9 := vt mix Yh Lk [(52, A9)] (gs Ll g0) rfl (fun _ _ => rfl) fun O x => by kernel_rfl
theorem js : Vd Tryz.prog 36 Hq := vt mix YK LG [] g0 rfl (fun _ _ => rfl) fun O x => by kernel_rfl
theorem Q6 : Vd Tryz.prog 18 Bf := vt mix Yr Lq [(17, AP), (34, BB), (35, C9), (36, Hq)] (gs Cg (gs Mp (gs Ya (gs js g0)))) rfl (fun _ _ => rfl) fun O x => by kernel_rfl
theorem iv : Vd Tryz.prog 60 Gi := vt mix We Jr [] g0 rfl (fun _ _ => rfl) fun O x => by kernel_rfl
theorem fU : Vd Tryz.prog 61 FQ := vt mix Um Nw [] g0 rfl (fun _ _ => rfl) fun O x => by kernel_rfl
open Go.RowKit Go.Lib in
set_option maxHeartbeats 1000000 in
theorem Rx (s : ByteArray) (c : Int) (w : World) : Calls Tryz.prog 108 #[.string s, .int .u8 c] w fun e w' => e = .returned (.int .i64 (Lib.indexByte s.data.toList c.toNat.toUInt8)) ∧ w' = w := by
 go_enter Tryz.func108, Tryz.ntmps108
 go_wp2
 rw [run_callFunc_extern Tryz.func120 (by kernel_rfl) (by kernel_rfl) (by kernel_rfl) (e := Extern.BytealgIndexByte.indexByte) (by kernel_rfl), Lib.run_indexByteString]
 simp only [Result.andThen]
 rw [Oper.upon_value]
 go_wp2
 go_ret
 exact ⟨rfl, rfl⟩
theorem Tr : Vd Tryz.prog 108 CF := fun N h =>
 nj Tryz.func108 (T9 := 9) (T5 := 5) (T3 := 3) rfl rfl Tryz.underlying9 Tryz.underlying5 Tryz.underlying3 (by kernel_rfl) Rx h
theorem Y3 : Vd Tryz.prog 82 DJ := vt mix Ok Ew [(108, CF)] (gs Tr g0) rfl (fun _ _ => rfl) fun O x => by kernel_rfl
theorem kC : Vd Tryz.prog 83 FE := vt mix YZ YS [] g0 rfl (fun _ _ => rfl) fun O x => by kernel_rfl
theorem ml : Vd Tryz.prog 62 JK := vt mix Zr N1 [(82, DJ), (83, FE)] (gs Y3 (gs kC g0)) rfl (fun _ _ => rfl) fun O x => by kernel_rfl
theorem Zu : Vd Tryz.prog 84 Db := vt mix Qg JX [] g0 rfl (fun _ _ => rfl) fun O x => by kernel_rfl
theorem eG : Vd Tryz.prog 63 EW := vt mix TP HX [(84, Db)] (gs Zu g0) rfl (fun _ _ => rfl) fun O x => by kernel_rfl
theorem Yq : Vd Tryz.prog 43 C7 := vt mix Ys IA [(60, Gi), (61, FQ), (62, JK), (63, EW)] (gs iv (gs fU (gs ml (gs eG g0)))) rfl (fun _ _ => rfl) fun O x => by kernel_rfl
theorem Dj : Vd Tryz.prog 85 AU := fun N h =>
 PY mix (T := 65) (e := 103) (b := 1) Tryz.func85 Tryz.underlying65 (by kernel_rfl) (by decide) (fun O l => by kernel_rfl) (fun O l => by kernel_rfl) h
theorem Fh : Vd Tryz.prog 86 Ae := fun N h =>
 PY mix (T := 66) (e := 3) (b := 8) Tryz.func86 Tryz.underlying66 (by kernel_rfl) (by decide) (fun O l => by kernel_rfl) (fun O l => by kernel_rfl) h
theorem Et : Vd Tryz.prog 87 Aa := fun N h =>
 PY mix (T := 67) (e := 4) (b := 1) Tryz.func87 Tryz.underlying67 (by kernel_rfl) (by decide) (fun O l => by kernel_rfl) (fun O l => by kernel_rfl) h
theorem CS : Vd Tryz.prog 64 AO := vt mix UE Ig [(85, AU), (86, Ae), (87, Aa)] (gs Dj (gs Fh (gs Et g0))) rfl (fun _ _ => rfl) fun O x => by kernel_rfl
theorem jd : Vd Tryz.prog 44 Hv := vt mix YH LD [(59, C6), (64, AO)] (gs Yp (gs CS g0)) rfl (fun _ _ => rfl) fun O x => by kernel_rfl
theorem Q5 : Vd Tryz.prog 68 Bg := vt mix Yg Lh [] g0 rfl (fun _ _ => rfl) fun O x => by kernel_rfl
theorem Ql : Vd Tryz.prog 91 BX := vt mix QX FV [] g0 rfl (fun _ _ => rfl) fun O x => by kernel_rfl
theorem fK : Vd Tryz.prog 69 FJ := vt mix UG Ir [(18, Bf), (52, A9), (68, Bg), (91, BX)] (gs Q6 (gs Ll (gs Q5 (gs Ql g0)))) rfl (fun _ _ => rfl) fun O x => by kernel_rfl
theorem gP : Vd Tryz.prog 88 Fk := vt mix UY Ip [(17, AP), (48, Ah)] (gs Cg (gs D8 g0)) rfl (fun _ _ => rfl) fun O x => by kernel_rfl
theorem iy : Vd Tryz.prog 89 G5 := vt mix WI Jx [(52, A9), (68, Bg)] (gs Ll (gs Q5 g0)) rfl (fun _ _ => rfl) fun O x => by kernel_rfl
theorem bi : Vd Tryz.prog 122 EA := vt mix RN KR [] g0 rfl (fun _ _ => rfl) fun O x => by kernel_rfl
theorem gL : Vd Tryz.prog 109 FX := vt mix Un Is [(122, EA)] (gs bi g0) rfl (fun _ _ => rfl) fun O x => by kernel_rfl
theorem Gg : Vd Tryz.prog 142 Ar := vt mix ZG Mk [(85, AU), (86, Ae), (87, Aa)] (gs Dj (gs Fh (gs Et g0))) rfl (fun _ _ => rfl) fun O x => by kernel_rfl
theorem eR : Vd Tryz.prog 173 Cj := vt mix TF MD [] g0 rfl (fun _ _ => rfl) fun O x => by kernel_rfl
theorem Vr : Vd Tryz.prog 143 Bo := vt mix Vs EO [(173, Cj)] (gs eR g0) rfl (fun _ _ => rfl) fun O x => by kernel_rfl
theorem G6 : Vd Tryz.prog 144 As := vt mix WR KE [] g0 rfl (fun _ _ => rfl) fun O x => by kernel_rfl
theorem jz : Vd Tryz.prog 123 H1 := vt mix Yb Lj [(142, Ar), (143, Bo), (144, As)] (gs Gg (gs Vr (gs G6 g0))) rfl (fun _ _ => rfl) fun O x => by kernel_rfl
theorem Vo : Vd Tryz.prog 145 CV := vt mix dA PW [(85, AU), (86, Ae), (87, Aa)] (gs Dj (gs Fh (gs Et g0))) rfl (fun _ _ => rfl) fun O x => by kernel_rfl
theorem Q1 : Vd Tryz.prog 174 Bi := vt mix YA LU [] g0 rfl (fun _ _ => rfl) fun O x => by kernel_rfl
theorem lK : Vd Tryz.prog 175 JT := vt mix Z6 Ns [(17, AP), (174, Bi)] (gs Cg (gs Q1 g0)) rfl (fun _ _ => rfl) fun O x => by kernel_rfl
theorem oC : Vd Tryz.prog 146 K5 := vt mix cX PP [(17, AP), (70, Am), (174, Bi), (175, JT)] (gs Cg (gs GX (gs Q1 (gs lK g0)))) rfl (fun _ _ => rfl) fun O x => by kernel_rfl
theorem lM : Vd Tryz.prog 124 JQ := vt mix aw M8 [(145, CV), (146, K5)] (gs Vo (gs oC g0)) rfl (fun _ _ => rfl) fun O x => by kernel_rfl
theorem Mm : Vd Tryz.prog 137 BA := vt mix Ur Dp [(143, Bo)] (gs Vr g0) rfl (fun _ _ => rfl) fun O x => by kernel_rfl
theorem IE : Vd Tryz.prog 156 Ay := vt mix YU LW [] g0 rfl (fun _ _ => rfl) fun O x => by kernel_rfl
theorem HN : Vd Tryz.prog 157 Ax := vt mix S0 Hi [(156, Ay)] (gs IE g0) rfl (fun _ _ => rfl) fun O x => by kernel_rfl
theorem fE : Vd Tryz.prog 196 Ft := vt mix T4 Ix [] g0 rfl (fun _ _ => rfl) fun O x => by kernel_rfl
theorem j5 : Vd Tryz.prog 176 H4 := vt mix YQ LF [(156, Ay), (157, Ax), (196, Ft)] (gs IE (gs HN (gs fE g0))) rfl (fun _ _ => rfl) fun O x => by kernel_rfl
theorem Y1 : Vd Tryz.prog 197 DI := vt mix Ob Ez [] g0 rfl (fun _ _ => rfl) fun O x => by kernel_rfl
theorem TU : Vd Tryz.prog 177 CA := vt mix TT Hk [(197, DI)] (gs Y1 g0) rfl (fun _ _ => rfl) fun O x => by kernel_rfl
theorem RK : Vd Tryz.prog 213 BU := vt mix Re Ra [] g0 rfl (fun _ _ => rfl) fun O x => by kernel_rfl
theorem il : Vd Tryz.prog 198 G2 := vt mix Vy KJ [(213, BU)] (gs RK g0) rfl (fun _ _ => rfl) fun O x => by kernel_rfl
theorem Zb : Vd Tryz.prog 214 Dd := vt mix QY Ff [] g0 rfl (fun _ _ => rfl) fun O x => by kernel_rfl
theorem Wb : Vd Tryz.prog 199 Cr := vt mix MM Dk [(214, Dd)] (gs Zb g0) rfl (fun _ _ => rfl) fun O x => by kernel_rfl
theorem Zh : Vd Tryz.prog 215 Df := vt mix Qh Fd [] g0 rfl (fun _ _ => rfl) fun O x => by kernel_rfl
theorem dz : Vd Tryz.prog 200 Es := vt mix Sn He [(213, BU), (215, Df)] (gs RK (gs Zh g0)) rfl (fun _ _ => rfl) fun O x => by kernel_rfl
theorem VJ : Vd Tryz.prog 216 CY := vt mix K8 DR [] g0 rfl (fun _ _ => rfl) fun O x => by kernel_rfl
theorem X5 : Vd Tryz.prog 201 Cz := vt mix Ni EC [(216, CY)] (gs VJ g0) rfl (fun _ _ => rfl) fun O x => by kernel_rfl
theorem W2 : Vd Tryz.prog 178 Cw := vt mix Nc EB [(198, G2), (199, Cr), (200, Es), (201, Cz)] (gs il (gs Wb (gs dz (gs X5 g0)))) rfl (fun _ _ => rfl) fun O x => by kernel_rfl
theorem kP : Vd Tryz.prog 179 Hw := vt mix Yl Li [(156, Ay), (157, Ax)] (gs IE (gs HN g0)) rfl (fun _ _ => rfl) fun O x => by kernel_rfl
theorem bW : Vd Tryz.prog 147 D6 := vt mix RU GK [(137, BA), (176, H4), (177, CA), (178, Cw), (179, Hw)] (gs Mm (gs j5 (gs TU (gs W2 (gs kP g0))))) rfl (fun _ _ => rfl) fun O x => by kernel_rfl
theorem Yu : Vd Tryz.prog 180 DL := vt mix Od E1 [] g0 rfl (fun _ _ => rfl) fun O x => by kernel_rfl
theorem bV : Vd Tryz.prog 148 Dx := vt mix RQ GD [(177, CA), (180, DL)] (gs TU (gs Yu g0)) rfl (fun _ _ => rfl) fun O x => by kernel_rfl
theorem lC : Vd Tryz.prog 149 JI := vt mix Zd Nm [(142, Ar), (144, As)] (gs Gg (gs G6 g0)) rfl (fun _ _ => rfl) fun O x => by kernel_rfl
theorem dr : Vd Tryz.prog 150 Em := vt mix TG TI [] g0 rfl (fun _ _ => rfl) fun O x => by kernel_rfl
theorem md : Vd Tryz.prog 151 JO := vt mix ZO Nr [(17, AP), (70, Am), (145, CV), (174, Bi)] (gs Cg (gs GX (gs Vo (gs Q1 g0)))) rfl (fun _ _ => rfl) fun O x => by kernel_rfl
theorem fe : Vd Tryz.prog 152 Fq := vt mix Ut Ih [(142, Ar)] (gs Gg g0) rfl (fun _ _ => rfl) fun O x => by kernel_rfl
theorem g8 : Vd Tryz.prog 125 Gx := vt mix WB KL [(64, AO), (147, D6), (148, Dx), (149, JI), (150, Em), (151, JO), (152, Fq)] (gs CS (gs bW (gs bV (gs lC (gs dr (gs md (gs fe g0))))))) rfl (fun _ _ => rfl) fun O x => by kernel_rfl
theorem Z8 : Vd Tryz.prog 153 DW := vt mix ZS N0 [(137, BA), (144, As)] (gs Mm (gs G6 g0)) rfl (fun _ _ => rfl) fun O x => by kernel_rfl
theorem db : Vd Tryz.prog 126 Ee := vt mix TE Hg [(142, Ar), (144, As), (153, DW)] (gs Gg (gs G6 (gs Z8 g0))) rfl (fun _ _ => rfl) fun O x => by kernel_rfl
theorem ia : Vd Tryz.prog 127 Gp := vt mix V8 KI [(142, Ar), (153, DW)] (gs Gg (gs Z8 g0)) rfl (fun _ _ => rfl) fun O x => by kernel_rfl
theorem YC : Vd Tryz.prog 138 Ch := vt mix Ye FF [] g0 rfl (fun _ _ => rfl) fun O x => by kernel_rfl
theorem gl : Vd Tryz.prog 128 Fe := vt mix T6 I3 [(138, Ch), (142, Ar), (144, As)] (gs YC (gs Gg (gs G6 g0))) rfl (fun _ _ => rfl) fun O x => by kernel_rfl
theorem Vh : Vd Tryz.prog 155 CU := vt mix cz Pc [(85, AU), (86, Ae), (87, Aa)] (gs Dj (gs Fh (gs Et g0))) rfl (fun _ _ => rfl) fun O x => by kernel_rfl
theorem fZ : Vd Tryz.prog 129 FL := vt mix T8 It [(155, CU)] (gs Vh g0) rfl (fun _ _ => rfl) fun O x => by kernel_rfl
theorem iR : Vd Tryz.prog 130 Gr := vt mix WA J2 [(155, CU), (156, Ay), (157, Ax)] (gs Vh (gs IE (gs HN g0))) rfl (fun _ _ => rfl) fun O x => by kernel_rfl
theorem ab : Vd Tryz.prog 131 DV := vt mix QR FM [(155, CU), (156, Ay), (157, Ax)] (gs Vh (gs IE (gs HN g0))) rfl (fun _ _ => rfl) fun O x => by kernel_rfl
theorem fQ : Vd Tryz.prog 132 FN := vt mix UL Il [(17, AP), (145, CV)] (gs Cg (gs Vo g0)) rfl (fun _ _ => rfl) fun O x => by kernel_rfl
theorem bh : Vd Tryz.prog 133 D3 := vt mix Rf GH [(64, AO)] (gs CS g0) rfl (fun _ _ => rfl) fun O x => by kernel_rfl
theorem RO : Vd Tryz.prog 112 Bt := vt mix RV GC [(64, AO)] (gs CS g0) rfl (fun _ _ => rfl) fun O x => by kernel_rfl
theorem bR : Vd Tryz.prog 134 D4 := vt mix RZ GF [(64, AO), (112, Bt)] (gs CS (gs RO g0)) rfl (fun _ _ => rfl) fun O x => by kernel_rfl
theorem dv : Vd Tryz.prog 135 EV := vt mix TH Eh [(64, AO)] (gs CS g0) rfl (fun _ _ => rfl) fun O x => by kernel_rfl
theorem fj : Vd Tryz.prog 158 FU := vt mix Uq Uj [] g0 rfl (fun _ _ => rfl) fun O x => by kernel_rfl
theorem eg : Vd Tryz.prog 136 El := vt mix Su Hb [(64, AO), (158, FU)] (gs CS (gs fj g0)) rfl (fun _ _ => rfl) fun O x => by kernel_rfl
theorem bo : Vd Tryz.prog 110 Dz := vt mix Rg D9 [(123, H1), (124, JQ), (125, Gx), (126, Ee), (127, Gp), (128, Fe), (129, FL), (130, Gr), (131, DV), (132, FN), (133, D3), (134, D4), (135, EV), (136, El)] (gs jz (gs lM (gs g8 (gs db (gs ia (gs gl (gs fZ (gs iR (gs ab (gs fQ (gs bh (gs bR (gs dv (gs eg g0)))))))))))))) rfl (fun _ _ => rfl) fun O x => by kernel_rfl
theorem eT : Vd Tryz.prog 111 DP := vt mix TW HT [(34, BB), (137, BA), (138, Ch)] (gs Mp (gs Mm (gs YC g0))) rfl (fun _ _ => rfl) fun O x => by kernel_rfl
theorem hZ : Vd Tryz.prog 90 Gw := vt mix Vz KH [(34, BB), (43, C7), (64, AO), (109, FX), (110, Dz), (111, DP)] (gs Mp (gs Yq (gs CS (gs gL (gs bo (gs eT g0)))))) rfl (fun _ _ => rfl) fun O x => by kernel_rfl
theorem ll : Vd Tryz.prog 30 Je := vt mix Zo Mz [(18, Bf), (35, C9), (43, C7), (44, Hv), (52, A9), (68, Bg), (69, FJ), (88, Fk), (89, G5), (90, Gw), (91, BX), (112, Bt)] (gs Q6 (gs Ya (gs Yq (gs jd (gs Ll (gs Q5 (gs fK (gs gP (gs iy (gs hZ (gs Ql (gs RO g0)))))))))))) rfl (fun _ _ => rfl) fun O x => by kernel_rfl
theorem Qk : Vd Tryz.prog 16 Cq := vt mix Qd Fr [(19, CK), (29, Fa), (30, Je)] (gs RW (gs gr (gs ll g0))) rfl (fun _ _ => rfl) fun O x => by kernel_rfl
theorem aY : Vd Tryz.prog 12 Jm := vt mix QU QL [(16, Cq), (19, CK)] (gs Qk (gs RW g0)) rfl (fun _ _ => rfl) fun O x => by kernel_rfl
theorem pp : Vd Tryz.prog 14 XT := vt mix ei fp [] g0 rfl (fun _ _ => rfl) fun O x => by kernel_rfl
theorem qv : Vd Tryz.prog 15 ZL := vt mix jQ jZ [] g0 rfl (fun _ _ => rfl) fun O x => by kernel_rfl
theorem nc : Vd Tryz.prog 9 Kf := vt mix cW cy [(12, Jm), (14, XT), (15, ZL)] (gs aY (gs pp (gs qv g0))) rfl (fun _ _ => rfl) fun O x => by kernel_rfl
def YF : Cfg := { gam := [], imm := false, old := false }
theorem iZ (O : Alg) (x : Ags O) : XF (O := O) Tryz.prog YF false false [] 10 [] (xr x Q4 0) = Hr O x := by kernel_rfl
theorem j8 {E : Env} {M : Nat} (N : Nat) (h : ∀ ls, E 10 [] ls = Hz N ls) : VV Tryz.prog E M ⟨10, [], false, false, []⟩ :=
 BT mix (E := Fx N) (N := N) (cfg := YF) (ci := ⟨10, [], false, false, []⟩) (ks := Q4) Cm (c := Hz N) (F := fun ls => Hr (std (Fx N) N) (xOf ls)) (fun ls => rfl) (fun ls => iZ (std (Fx N) N) (xOf ls)) h
theorem pb : Vd Tryz.prog 53 Nn := vt mix go Rl [] g0 rfl (fun _ _ => rfl) fun O x => by kernel_rfl
theorem sM : Vd Tryz.prog 54 TR := vt mix mH lU [] g0 rfl (fun _ _ => rfl) fun O x => by kernel_rfl
theorem DU : Vd Tryz.prog 37 Ab := vt mix cA PQ [(53, Nn), (54, TR)] (gs pb (gs sM g0)) rfl (fun _ _ => rfl) fun O x => by kernel_rfl
theorem nT : Vd Tryz.prog 20 P4 := vt mix ct Pm [(37, Ab)] (gs DU g0) rfl (fun _ _ => rfl) fun O x => by kernel_rfl
theorem cM : Vd Tryz.prog 73 EG := vt mix cG PS [] g0 rfl (fun _ _ => rfl) fun O x => by kernel_rfl
theorem qK : Vd Tryz.prog 55 Qj := vt mix jI UC [(37, Ab), (73, EG)] (gs DU (gs cM g0)) rfl (fun _ _ => rfl) fun O x => by kernel_rfl
theorem jm : Vd Tryz.prog 38 LJ := vt mix YX LN [(55, Qj)] (gs qK g0) rfl (fun _ _ => rfl) fun O x => by kernel_rfl
theorem eJ : Vd Tryz.prog 105 Eo := vt mix mQ lF [] g0 rfl (fun _ _ => rfl) fun O x => by kernel_rfl
theorem qb : Vd Tryz.prog 106 QH := vt mix jS Ue [(105, Eo)] (gs eJ g0) rfl (fun _ _ => rfl) fun O x => by kernel_rfl
theorem Ps : Vd Tryz.prog 119 BP := vt mix cc IR [] g0 rfl (fun _ _ => rfl) fun O x => by kernel_rfl
theorem kE : Vd Tryz.prog 107 ID := vt mix Yn LV [(119, BP)] (gs Ps g0) rfl (fun _ _ => rfl) fun O x => by kernel_rfl
theorem VH : Vd Tryz.prog 79 CX := vt mix br Pl [(37, Ab), (105, Eo), (106, QH), (107, ID)] (gs DU (gs eJ (gs qb (gs kE g0)))) rfl (fun _ _ => rfl) fun O x => by kernel_rfl
theorem Kz : Vd Tryz.prog 100 Bk := vt mix cm Pj [] g0 rfl (fun _ _ => rfl) fun O x => by kernel_rfl
theorem aA : Vd Tryz.prog 80 Eg := vt mix Z3 Nj [(100, Bk)] (gs Kz g0) rfl (fun _ _ => rfl) fun O x => by kernel_rfl
theorem gW : Vd Tryz.prog 57 Fc := vt mix Uk I2 [(79, CX), (80, Eg)] (gs VH (gs aA g0)) rfl (fun _ _ => rfl) fun O x => by kernel_rfl
theorem P1 : Vd Tryz.prog 40 Cc := vt mix dD Ph [(37, Ab), (57, Fc)] (gs DU (gs gW g0)) rfl (fun _ _ => rfl) fun O x => by kernel_rfl
theorem Br : Vd Tryz.prog 113 AM := vt mix co Pw [] g0 rfl (fun _ _ => rfl) fun O x => by kernel_rfl
theorem VQ : Vd Tryz.prog 95 Cu := vt mix cn P7 [(113, AM)] (gs Br g0) rfl (fun _ _ => rfl) fun O x => by kernel_rfl
theorem nH : Vd Tryz.prog 74 PR := vt mix cZ P8 [(73, EG), (95, Cu)] (gs cM (gs VQ g0)) rfl (fun _ _ => rfl) fun O x => by kernel_rfl
theorem lL : Vd Tryz.prog 96 Jb := vt mix az Mn [] g0 rfl (fun _ _ => rfl) fun O x => by kernel_rfl
theorem o7 : Vd Tryz.prog 97 Nd := vt mix fw R7 [] g0 rfl (fun _ _ => rfl) fun O x => by kernel_rfl
theorem rt : Vd Tryz.prog 98 TC := vt mix mV da [] g0 rfl (fun _ _ => rfl) fun O x => by kernel_rfl
theorem ry : Vd Tryz.prog 114 Sq := vt mix lX dX [] g0 rfl (fun _ _ => rfl) fun O x => by kernel_rfl
theorem nN : Vd Tryz.prog 99 Kw := vt mix dQ Pp [(114, Sq)] (gs ry g0) rfl (fun _ _ => rfl) fun O x => by kernel_rfl
theorem dT : Vd Tryz.prog 75 IM := vt mix cV Pa [(96, Jb), (97, Nd), (98, TC), (99, Kw)] (gs lL (gs o7 (gs rt (gs nN g0)))) rfl (fun _ _ => rfl) fun O x => by kernel_rfl
theorem VU : Vd Tryz.prog 103 EJ := vt mix dN Po [] g0 rfl (fun _ _ => rfl) fun O x => by kernel_rfl
def fY : Cfg := { gam := [], imm := false, old := false }
theorem nY (O : Alg) (x : Ags O) : XF (O := O) Tryz.prog fY false false [] 77 [] (xr x XR 0) = OA O x := by kernel_rfl
theorem Rs {E : Env} {M : Nat} (N : Nat) (h : ∀ ls, E 77 [] ls = C0 N ls) : VV Tryz.prog E M ⟨77, [], false, false, []⟩ :=
 BT mix (E := I4 N) (N := N) (cfg := fY) (ci := ⟨77, [], false, false, []⟩) (ks := XR) Cm (c := C0 N) (F := fun ls => OA (std (I4 N) N) (xOf ls)) (fun ls => rfl) (fun ls => nY (std (I4 N) N) (xOf ls)) h
def X9 : Cfg := { gam := [⟨40, [], true, true, []⟩, ⟨77, [], false, false, []⟩, ⟨80, [], true, true, []⟩], imm := false, old := false }
theorem hG (O : Alg) (x : Ags O) : XF (O := O) Tryz.prog X9 true true [] 115 [] (xr x RE 0) = Hp O x := by kernel_rfl
theorem jp : Vd Tryz.prog 115 Hn := fun N h =>
 BT mix (E := CP N) (N := N) (cfg := X9) (ci := ⟨115, [], true, true, []⟩) (ks := RE) (AF (P1 N (fun _ => rfl)) (AF (Rs N (fun _ => rfl)) (AF (aA N (fun _ => rfl)) Cm))) (c := Hn N) (F := fun ls => Hp (std (CP N) N) (xOf ls)) (fun ls => rfl) (fun ls => hG (std (CP N) N) (xOf ls)) h
theorem nX : Vd Tryz.prog 116 PN := vt mix b9 PM [(37, Ab), (105, Eo)] (gs DU (gs eJ g0)) rfl (fun _ _ => rfl) fun O x => by kernel_rfl
theorem YL : Vd Tryz.prog 118 FA := vt mix YP LH [(95, Cu)] (gs VQ g0) rfl (fun _ _ => rfl) fun O x => by kernel_rfl
theorem N6 : Vd Tryz.prog 181 BM := vt mix Z4 Nu [] g0 rfl (fun _ _ => rfl) fun O x => by kernel_rfl
theorem pI : Vd Tryz.prog 159 R5 := vt mix fB SF [(113, AM), (119, BP), (181, BM)] (gs Br (gs Ps (gs N6 g0))) rfl (fun _ _ => rfl) fun O x => by kernel_rfl
theorem Ge : Vd Tryz.prog 194 Au := vt mix V6 J4 [] g0 rfl (fun _ _ => rfl) fun O x => by kernel_rfl
theorem Sz : Vd Tryz.prog 202 B4 := vt mix Zv Nf [] g0 rfl (fun _ _ => rfl) fun O x => by kernel_rfl
theorem o5 : Vd Tryz.prog 203 Nq := vt mix ge R6 [(37, Ab), (202, B4)] (gs DU (gs Sz g0)) rfl (fun _ _ => rfl) fun O x => by kernel_rfl
theorem i5 : Vd Tryz.prog 204 HI := vt mix i6 Uo [] g0 rfl (fun _ _ => rfl) fun O x => by kernel_rfl
theorem qX : Vd Tryz.prog 182 QQ := vt mix jH UN [(37, Ab), (194, Au), (202, B4), (203, Nq), (204, HI)] (gs DU (gs Ge (gs Sz (gs o5 (gs i5 g0))))) rfl (fun _ _ => rfl) fun O x => by kernel_rfl
theorem pr : Vd Tryz.prog 160 Rk := vt mix gh SK [(113, AM), (182, QQ)] (gs Br (gs qX g0)) rfl (fun _ _ => rfl) fun O x => by kernel_rfl
theorem Tc : Vd Tryz.prog 171 B7 := vt mix aE GS [(119, BP)] (gs Ps g0) rfl (fun _ _ => rfl) fun O x => by kernel_rfl
theorem NK : Vd Tryz.prog 193 BN := vt mix aj NW [] g0 rfl (fun _ _ => rfl) fun O x => by kernel_rfl
theorem ju : Vd Tryz.prog 205 H9 := vt mix Yc LZ [] g0 rfl (fun _ _ => rfl) fun O x => by kernel_rfl
theorem nU : Vd Tryz.prog 183 Pe := vt mix dU P0 [(193, BN), (194, Au), (205, H9)] (gs NK (gs Ge (gs ju g0))) rfl (fun _ _ => rfl) fun O x => by kernel_rfl
theorem sT : Vd Tryz.prog 206 TO := vt mix lO eM [] g0 rfl (fun _ _ => rfl) fun O x => by kernel_rfl
theorem gz : Vd Tryz.prog 207 Gy := vt mix WP Jv [] g0 rfl (fun _ _ => rfl) fun O x => by kernel_rfl
theorem bv : Vd Tryz.prog 184 F2 := vt mix ck PU [(206, TO), (207, Gy)] (gs sT (gs gz g0)) rfl (fun _ _ => rfl) fun O x => by kernel_rfl
theorem iM : Vd Tryz.prog 208 Gj := vt mix Wp J9 [] g0 rfl (fun _ _ => rfl) fun O x => by kernel_rfl
theorem rz : Vd Tryz.prog 209 Se := vt mix mF X3 [] g0 rfl (fun _ _ => rfl) fun O x => by kernel_rfl
theorem mn : Vd Tryz.prog 210 JG := vt mix aD Mr [] g0 rfl (fun _ _ => rfl) fun O x => by kernel_rfl
theorem hY : Vd Tryz.prog 185 Jt := vt mix WG Ju [(208, Gj), (209, Se), (210, JG)] (gs iM (gs rz (gs mn g0))) rfl (fun _ _ => rfl) fun O x => by kernel_rfl
theorem nJ : Vd Tryz.prog 186 P5 := vt mix cF PO [(193, BN), (194, Au)] (gs NK (gs Ge g0)) rfl (fun _ _ => rfl) fun O x => by kernel_rfl
theorem ij : Vd Tryz.prog 211 Gk := vt mix WO Jw [] g0 rfl (fun _ _ => rfl) fun O x => by kernel_rfl
theorem no : Vd Tryz.prog 212 LA := vt mix dJ P6 [] g0 rfl (fun _ _ => rfl) fun O x => by kernel_rfl
theorem lI : Vd Tryz.prog 187 Mj := vt mix ai NR [(184, F2), (211, Gk), (212, LA)] (gs bv (gs ij (gs no g0))) rfl (fun _ _ => rfl) fun O x => by kernel_rfl
theorem Zm : Vd Tryz.prog 190 ET := vt mix aV Nl [(113, AM)] (gs Br g0) rfl (fun _ _ => rfl) fun O x => by kernel_rfl
theorem qg : Vd Tryz.prog 188 UJ := vt mix jT Uf [(113, AM), (181, BM), (190, ET)] (gs Br (gs N6 (gs Zm g0))) rfl (fun _ _ => rfl) fun O x => by kernel_rfl
theorem qA : Vd Tryz.prog 189 SM := vt mix fJ SQ [(37, Ab), (113, AM), (202, B4), (204, HI)] (gs DU (gs Br (gs Sz (gs i5 g0)))) rfl (fun _ _ => rfl) fun O x => by kernel_rfl
theorem nO : Vd Tryz.prog 191 Pb := vt mix cg cx [] g0 rfl (fun _ _ => rfl) fun O x => by kernel_rfl
def et : Cfg := { gam := [⟨171, [], true, true, []⟩, ⟨183, [], true, true, []⟩, ⟨184, [], true, true, []⟩, ⟨185, [], true, true, []⟩, ⟨186, [], true, true, []⟩, ⟨187, [], true, true, []⟩, ⟨188, [], true, true, []⟩, ⟨189, [], true, true, []⟩, ⟨190, [], true, true, []⟩, ⟨191, [], true, true, []⟩], imm := false, old := false }
theorem oH (O : Alg) (x : Ags O) : XF (O := O) Tryz.prog et false false [] 161 [] (xr x XG 0) = NE O x := by kernel_rfl
theorem qC {E : Env} {M : Nat} (N : Nat) (h : ∀ ls, E 161 [] ls = OG N ls) : VV Tryz.prog E M ⟨161, [], false, false, []⟩ :=
 BT mix (E := BC N) (N := N) (cfg := et) (ci := ⟨161, [], false, false, []⟩) (ks := XG) (AF (Tc N (fun _ => rfl)) (AF (nU N (fun _ => rfl)) (AF (bv N (fun _ => rfl)) (AF (hY N (fun _ => rfl)) (AF (nJ N (fun _ => rfl)) (AF (lI N (fun _ => rfl)) (AF (qg N (fun _ => rfl)) (AF (qA N (fun _ => rfl)) (AF (Zm N (fun _ => rfl)) (AF (nO N (fun _ => rfl)) Cm)))))))))) (c := OG N) (F := fun ls => NE (std (BC N) N) (xOf ls)) (fun ls => rfl) (fun ls => oH (std (BC N) N) (xOf ls)) h
theorem dR : Vd Tryz.prog 192 EL := vt mix cd PT [(171, B7), (181, BM)] (gs Tc (gs N6 g0)) rfl (fun _ _ => rfl) fun O x => by kernel_rfl
theorem j6 : Vd Tryz.prog 162 Lm := vt mix Yo LQ [(113, AM), (192, EL)] (gs Br (gs dR g0)) rfl (fun _ _ => rfl) fun O x => by kernel_rfl
theorem oN : Vd Tryz.prog 163 PX := vt mix cH Pt [(113, AM), (192, EL)] (gs Br (gs dR g0)) rfl (fun _ _ => rfl) fun O x => by kernel_rfl
theorem ez : Vd Tryz.prog 172 EF := vt mix fo Jq [] g0 rfl (fun _ _ => rfl) fun O x => by kernel_rfl
theorem mb : Vd Tryz.prog 164 NS := vt mix ZZ Mq [(113, AM), (172, EF), (181, BM)] (gs Br (gs ez (gs N6 g0))) rfl (fun _ _ => rfl) fun O x => by kernel_rfl
theorem jk : Vd Tryz.prog 165 LR := vt mix YE LT [(113, AM)] (gs Br g0) rfl (fun _ _ => rfl) fun O x => by kernel_rfl
theorem lN : Vd Tryz.prog 166 M7 := vt mix aF NB [(113, AM), (193, BN), (194, Au)] (gs Br (gs NK (gs Ge g0))) rfl (fun _ _ => rfl) fun O x => by kernel_rfl
theorem di : Vd Tryz.prog 167 HU := vt mix TK Ha [(113, AM), (193, BN), (194, Au)] (gs Br (gs NK (gs Ge g0))) rfl (fun _ _ => rfl) fun O x => by kernel_rfl
theorem jw : Vd Tryz.prog 168 Lp := vt mix YW LE [(37, Ab), (113, AM)] (gs DU (gs Br g0)) rfl (fun _ _ => rfl) fun O x => by kernel_rfl
def Ze : Cfg := { gam := [], imm := false, old := false }
theorem jx (O : Alg) (x : Ags O) : XF (O := O) Tryz.prog Ze false false [] 169 [] (xr x Sj 0) = HA O x := by kernel_rfl
theorem lu {E : Env} {M : Nat} (N : Nat) (h : ∀ ls, E 169 [] ls = JW N ls) : VV Tryz.prog E M ⟨169, [], false, false, []⟩ :=
 BT mix (E := Gm N) (N := N) (cfg := Ze) (ci := ⟨169, [], false, false, []⟩) (ks := Sj) Cm (c := JW N) (F := fun ls => HA (std (Gm N) N) (xOf ls)) (fun ls => rfl) (fun ls => jx (std (Gm N) N) (xOf ls)) h
theorem nq : Vd Tryz.prog 195 P3 := vt mix cf dH [] g0 rfl (fun _ _ => rfl) fun O x => by kernel_rfl
def ZM : Cfg := { gam := [⟨195, [], true, true, []⟩], imm := false, old := false }
theorem kK (O : Alg) (x : Ags O) : XF (O := O) Tryz.prog ZM false false [] 170 [] (xr x S9 0) = JL O x := by kernel_rfl
theorem mX {E : Env} {M : Nat} (N : Nat) (h : ∀ ls, E 170 [] ls = JY N ls) : VV Tryz.prog E M ⟨170, [], false, false, []⟩ :=
 BT mix (E := EP N) (N := N) (cfg := ZM) (ci := ⟨170, [], false, false, []⟩) (ks := S9) (AF (nq N (fun _ => rfl)) Cm) (c := JY N) (F := fun ls => JL (std (EP N) N) (xOf ls)) (fun ls => rfl) (fun ls => kK (std (EP N) N) (xOf ls)) h
def jC : Cfg := { gam := [⟨118, [], true, true, []⟩, ⟨159, [], true, true, []⟩, ⟨160, [], true, true, []⟩, ⟨161, [], false, false, []⟩, ⟨162, [], true, true, []⟩, ⟨163, [], true, true, []⟩, ⟨164, [], true, true, []⟩, ⟨165, [], true, true, []⟩, ⟨166, [], true, true, []⟩, ⟨167, [], true, true, []⟩, ⟨168, [], true, true, []⟩, ⟨169, [], false, false, []⟩, ⟨170, [], false, false, []⟩], imm := false, old := false }
theorem pw (O : Alg) (x : Ags O) : XF (O := O) Tryz.prog jC false false [] 139 [] (xr x Zy 0) = ML O x := by kernel_rfl
theorem rC {E : Env} {M : Nat} (N : Nat) (h : ∀ ls, E 139 [] ls = QJ N ls) : VV Tryz.prog E M ⟨139, [], false, false, []⟩ :=
 BT mix (E := A1 N) (N := N) (cfg := jC) (ci := ⟨139, [], false, false, []⟩) (ks := Zy) (AF (YL N (fun _ => rfl)) (AF (pI N (fun _ => rfl)) (AF (pr N (fun _ => rfl)) (AF (qC N (fun _ => rfl)) (AF (j6 N (fun _ => rfl)) (AF (oN N (fun _ => rfl)) (AF (mb N (fun _ => rfl)) (AF (jk N (fun _ => rfl)) (AF (lN N (fun _ => rfl)) (AF (di N (fun _ => rfl)) (AF (jw N (fun _ => rfl)) (AF (lu N (fun _ => rfl)) (AF (mX N (fun _ => rfl)) Cm))))))))))))) (c := QJ N) (F := fun ls => ML (std (A1 N) N) (xOf ls)) (fun ls => rfl) (fun ls => pw (std (A1 N) N) (xOf ls)) h
theorem mz : Vd Tryz.prog 140 I6 := vt mix au NG [(79, CX), (171, B7), (172, EF)] (gs VH (gs Tc (gs ez g0))) rfl (fun _ _ => rfl) fun O x => by kernel_rfl
def gk : Cfg := { gam := [⟨75, [], true, true, []⟩, ⟨79, [], true, true, []⟩, ⟨95, [], true, true, []⟩, ⟨119, [], true, true, []⟩, ⟨139, [], false, false, []⟩, ⟨140, [], true, true, []⟩], imm := false, old := false }
theorem nC (O : Alg) (x : Ags O) : XF (O := O) Tryz.prog gk false false [] 117 [] (xr x XE 0) = NZ O x := by kernel_rfl
theorem f6 {E : Env} {M : Nat} (N : Nat) (h : ∀ ls, E 117 [] ls = HM N ls) : VV Tryz.prog E M ⟨117, [], false, false, []⟩ :=
 BT mix (E := B9 N) (N := N) (cfg := gk) (ci := ⟨117, [], false, false, []⟩) (ks := XE) (AF (dT N (fun _ => rfl)) (AF (VH N (fun _ => rfl)) (AF (VQ N (fun _ => rfl)) (AF (Ps N (fun _ => rfl)) (AF (rC N (fun _ => rfl)) (AF (mz N (fun _ => rfl)) Cm)))))) (c := HM N) (F := fun ls => NZ (std (B9 N) N) (xOf ls)) (fun ls => rfl) (fun ls => nC (std (B9 N) N) (xOf ls)) h
def f0 : Cfg := { gam := [⟨100, [], true, true, []⟩, ⟨103, [], true, true, []⟩, ⟨115, [], true, true, []⟩, ⟨116, [], true, true, []⟩, ⟨117, [], false, false, []⟩], imm := false, old := false }
theorem nR (O : Alg) (x : Ags O) : XF (O := O) Tryz.prog f0 false false [true, false] 101 [] (xr x X2 0) = My O x := by kernel_rfl
theorem pP {E : Env} {M : Nat} (N : Nat) (h : ∀ ls, E 101 [] ls = OD N ls) : VV Tryz.prog E M ⟨101, [], false, false, [true, false]⟩ :=
 BT mix (E := Cb N) (N := N) (cfg := f0) (ci := ⟨101, [], false, false, [true, false]⟩) (ks := X2) (AF (Kz N (fun _ => rfl)) (AF (VU N (fun _ => rfl)) (AF (jp N (fun _ => rfl)) (AF (nX N (fun _ => rfl)) (AF (f6 N (fun _ => rfl)) Cm))))) (c := OD N) (F := fun ls => My (std (Cb N) N) (xOf ls)) (fun ls => rfl) (fun ls => nR (std (Cb N) N) (xOf ls)) h
def f8 : Cfg := { gam := [⟨117, [], false, false, []⟩, ⟨118, [], true, true, []⟩], imm := true, old := true }
theorem oB (O : Alg) (x : Ags O) : XF (O := O) Tryz.prog f8 false false [true, false] 102 [] (xr x Wx 0) = N3 O x := by kernel_rfl
theorem ph {E : Env} {M : Nat} (N : Nat) (h : ∀ ls, E 102 [] ls = Mt N ls) : VV Tryz.prog E M ⟨102, [], false, false, [true, false]⟩ :=
 BT mix (E := Ea N) (N := N) (cfg := f8) (ci := ⟨102, [], false, false, [true, false]⟩) (ks := Wx) (AF (f6 N (fun _ => rfl)) (AF (YL N (fun _ => rfl)) Cm)) (c := Mt N) (F := fun ls => N3 (std (Ea N) N) (xOf ls)) (fun ls => rfl) (fun ls => oB (std (Ea N) N) (xOf ls)) h
def jM : Cfg := { gam := [⟨100, [], true, true, []⟩, ⟨101, [], false, false, [true, false]⟩, ⟨102, [], false, false, [true, false]⟩], imm := false, old := false }
theorem pD (O : Alg) (x : Ags O) : XF (O := O) Tryz.prog jM false false [true, false] 76 [] (xr x ZR 0) = QK O x := by kernel_rfl
theorem qS {E : Env} {M : Nat} (N : Nat) (h : ∀ ls, E 76 [] ls = Qe N ls) : VV Tryz.prog E M ⟨76, [], false, false, [true, false]⟩ :=
 BT mix (E := EM N) (N := N) (cfg := jM) (ci := ⟨76, [], false, false, [true, false]⟩) (ks := ZR) (AF (Kz N (fun _ => rfl)) (AF (pP N (fun _ => rfl)) (AF (ph N (fun _ => rfl)) Cm))) (c := Qe N) (F := fun ls => QK (std (EM N) N) (xOf ls)) (fun ls => rfl) (fun ls => pD (std (EM N) N) (xOf ls)) h
def Yk : Cfg := { gam := [⟨40, [], true, true, []⟩, ⟨77, [], false, false, []⟩, ⟨100, [], true, true, []⟩, ⟨103, [], true, true, []⟩], imm := false, old := false }
theorem ic (O : Alg) (x : Ags O) : XF (O := O) Tryz.prog Yk true true [] 104 [] (xr x Qr 0) = IB O x := by kernel_rfl
theorem j9 : Vd Tryz.prog 104 H6 := fun N h =>
 BT mix (E := B0 N) (N := N) (cfg := Yk) (ci := ⟨104, [], true, true, []⟩) (ks := Qr) (AF (P1 N (fun _ => rfl)) (AF (Rs N (fun _ => rfl)) (AF (Kz N (fun _ => rfl)) (AF (VU N (fun _ => rfl)) Cm)))) (c := H6 N) (F := fun ls => IB (std (B0 N) N) (xOf ls)) (fun ls => rfl) (fun ls => ic (std (B0 N) N) (xOf ls)) h
def Zi : Cfg := { gam := [⟨77, [], false, false, []⟩, ⟨100, [], true, true, []⟩, ⟨103, [], true, true, []⟩, ⟨104, [], true, true, []⟩], imm := false, old := false }
theorem ji (O : Alg) (x : Ags O) : XF (O := O) Tryz.prog Zi false false [] 78 [] (xr x Ss 0) = Jl O x := by kernel_rfl
theorem ku {E : Env} {M : Nat} (N : Nat) (h : ∀ ls, E 78 [] ls = JP N ls) : VV Tryz.prog E M ⟨78, [], false, false, []⟩ :=
 BT mix (E := CC N) (N := N) (cfg := Zi) (ci := ⟨78, [], false, false, []⟩) (ks := Ss) (AF (Rs N (fun _ => rfl)) (AF (Kz N (fun _ => rfl)) (AF (VU N (fun _ => rfl)) (AF (j9 N (fun _ => rfl)) Cm)))) (c := JP N) (F := fun ls => Jl (std (CC N) N) (xOf ls)) (fun ls => rfl) (fun ls => ji (std (CC N) N) (xOf ls)) h
def gD : Cfg := { gam := [⟨40, [], true, true, []⟩, ⟨74, [], true, true, []⟩, ⟨75, [], true, true, []⟩, ⟨76, [], false, false, [true, false]⟩, ⟨77, [], false, false, []⟩, ⟨78, [], false, false, []⟩], imm := false, old := false }
theorem nz (O : Alg) (x : Ags O) : XF (O := O) Tryz.prog gD false false [] 56 [] (xr x Xw 0) = NF O x := by kernel_rfl
theorem o6 {E : Env} {M : Nat} (N : Nat) (h : ∀ ls, E 56 [] ls = Mu N ls) : VV Tryz.prog E M ⟨56, [], false, false, []⟩ :=
 BT mix (E := B3 N) (N := N) (cfg := gD) (ci := ⟨56, [], false, false, []⟩) (ks := Xw) (AF (P1 N (fun _ => rfl)) (AF (nH N (fun _ => rfl)) (AF (dT N (fun _ => rfl)) (AF (qS N (fun _ => rfl)) (AF (Rs N (fun _ => rfl)) (AF (ku N (fun _ => rfl)) Cm)))))) (c := Mu N) (F := fun ls => NF (std (B3 N) N) (xOf ls)) (fun ls => rfl) (fun ls => nz (std (B3 N) N) (xOf ls)) h
def fH : Cfg := { gam := [⟨56, [], false, false, []⟩], imm := true, old := true }
theorem ni (O : Alg) (x : Ags O) : XF (O := O) Tryz.prog fH false false [] 39 [] (xr x W9 0) = Nt O x := by kernel_rfl
theorem pN {E : Env} {M : Nat} (N : Nat) (h : ∀ ls, E 39 [] ls = Nb N ls) : VV Tryz.prog E M ⟨39, [], false, false, []⟩ :=
 BT mix (E := GW N) (N := N) (cfg := fH) (ci := ⟨39, [], false, false, []⟩) (ks := W9) (AF (o6 N (fun _ => rfl)) Cm) (c := Nb N) (F := fun ls => Nt (std (GW N) N) (xOf ls)) (fun ls => rfl) (fun ls => ni (std (GW N) N) (xOf ls)) h
def aB : Cfg := { gam := [⟨20, [], true, true, []⟩, ⟨38, [], true, true, []⟩, ⟨39, [], false, false, []⟩], imm := false, old := false }
theorem jy (O : Alg) (x : Ags O) : XF (O := O) Tryz.prog aB false false [] 23 [] (xr x Sk 0) = JA O x := by kernel_rfl
theorem mo {E : Env} {M : Nat} (N : Nat) (h : ∀ ls, E 23 [] ls = JB N ls) : VV Tryz.prog E M ⟨23, [], false, false, []⟩ :=
 BT mix (E := Cl N) (N := N) (cfg := aB) (ci := ⟨23, [], false, false, []⟩) (ks := Sk) (AF (nT N (fun _ => rfl)) (AF (jm N (fun _ => rfl)) (AF (pN N (fun _ => rfl)) Cm))) (c := JB N) (F := fun ls => JA (std (Cl N) N) (xOf ls)) (fun ls => rfl) (fun ls => jy (std (Cl N) N) (xOf ls)) h
theorem bk : Vd Tryz.prog 24 GM := vt mix RJ GP [(18, Bf)] (gs Q6 g0) rfl (fun _ _ => rfl) fun O x => by kernel_rfl
theorem nf : Vd Tryz.prog 25 Pi := vt mix cJ PZ [(40, Cc)] (gs P1 g0) rfl (fun _ _ => rfl) fun O x => by kernel_rfl
theorem o0 : Vd Tryz.prog 21 Mx := vt mix gm R1 [] g0 rfl (fun _ _ => rfl) fun O x => by kernel_rfl
theorem pJ : Vd Tryz.prog 58 Ng := vt mix fI SC [] g0 rfl (fun _ _ => rfl) fun O x => by kernel_rfl
theorem pu : Vd Tryz.prog 41 N2 := vt mix ej SU [(58, Ng)] (gs pJ g0) rfl (fun _ _ => rfl) fun O x => by kernel_rfl
theorem qF : Vd Tryz.prog 26 Rv := vt mix gK Rz [(21, Mx), (41, N2)] (gs o0 (gs pu g0)) rfl (fun _ _ => rfl) fun O x => by kernel_rfl
def K7 : Cfg := { gam := [⟨9, [], true, true, []⟩, ⟨10, [], false, false, []⟩, ⟨16, [], true, true, []⟩, ⟨23, [], false, false, []⟩, ⟨24, [], true, true, []⟩, ⟨25, [], true, true, []⟩, ⟨26, [], true, true, []⟩], imm := false, old := false }
theorem Tw (O : Alg) (x : Ags O) : XF (O := O) Tryz.prog K7 true true [] 7 [] (xr x F4 0) = Ca O x := by kernel_rfl
theorem Vg : Vd Tryz.prog 7 CZ := fun N h =>
 BT mix (E := Ag N) (N := N) (cfg := K7) (ci := ⟨7, [], true, true, []⟩) (ks := F4) (AF (nc N (fun _ => rfl)) (AF (j8 N (fun _ => rfl)) (AF (Qk N (fun _ => rfl)) (AF (mo N (fun _ => rfl)) (AF (bk N (fun _ => rfl)) (AF (nf N (fun _ => rfl)) (AF (qF N (fun _ => rfl)) Cm))))))) (c := CZ N) (F := fun ls => Ca (std (Ag N) N) (xOf ls)) (fun ls => rfl) (fun ls => Tw (std (Ag N) N) (xOf ls)) h
end Go.Px
