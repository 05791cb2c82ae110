/- Part 14. -/
import Derived.Test.YtopmcbahdgfleaaGreatPart06
import Derived.Test.YtopmcbahdgfleaaGreatProg
import Derived.Test.YtopmcbahdgfleaaGreatPart09
import Derived.KernelRfl
import Derived.WalkKit
import Derived.Lib.Walk
import Derived.BigCall
import Derived.BigGuard
set_option linter.unusedVariables false
set_option linter.unusedSimpArgs false
namespace Go.Px
open Go.Proofs
set_option maxRecDepth 100000
theorem mix : Tryz.prog.follows .mixedOrders = true := by kernel_rfl
theorem nv : Vd Tryz.prog 95 KU := vt mix cu PZ [] g0 rfl (fun _ _ => rfl) fun O x => by kernel_rfl
theorem UZ : Vd Tryz.prog 162 CQ := vt mix UB Ud [] g0 rfl (fun _ _ => rfl) fun O x => by kernel_rfl
theorem gA : Vd Tryz.prog 96 Fi := vt mix Tn Ih [(162, CQ)] (gs UZ g0) rfl (fun _ _ => rfl) fun O x => by kernel_rfl
theorem hP : Vd Tryz.prog 97 GV := vt mix Vu Jp [(162, CQ)] (gs UZ g0) rfl (fun _ _ => rfl) fun O x => by kernel_rfl
theorem Cc : Vd Tryz.prog 52 AS := vt mix Xx K8 [(95, KU), (96, Fi), (97, GV)] (gs nv (gs gA (gs hP g0))) rfl (fun _ _ => rfl) fun O x => by kernel_rfl
theorem XA : Vd Tryz.prog 196 Cr := fun N h =>
 Pq mix (T := 22) (e := 122) (b := 24) Tryz.func196 Tryz.underlying22 (by kernel_rfl) (by decide) (fun O l => by kernel_rfl) (fun O l => by kernel_rfl) h
theorem YK : Vd Tryz.prog 141 C2 := vt mix YP LT [(196, Cr)] (gs XA g0) rfl (fun _ _ => rfl) fun O x => by kernel_rfl
theorem nQ : Vd Tryz.prog 81 PX := vt mix cf Pd [(52, AS), (141, C2)] (gs Cc (gs YK g0)) rfl (fun _ _ => rfl) fun O x => by kernel_rfl
theorem Dw : Vd Tryz.prog 53 Ag := vt mix Q0 Qw [] g0 rfl (fun _ _ => rfl) fun O x => by kernel_rfl
theorem bH : Vd Tryz.prog 54 D0 := vt mix Qy GD [(53, Ag)] (gs Dw g0) rfl (fun _ _ => rfl) fun O x => by kernel_rfl
theorem al : Vd Tryz.prog 163 Dd := vt mix QP Fl [] g0 rfl (fun _ _ => rfl) fun O x => by kernel_rfl
theorem GH : Vd Tryz.prog 98 Al := vt mix L2 Dl [(163, Dd)] (gs al g0) rfl (fun _ _ => rfl) fun O x => by kernel_rfl
theorem Yv : Vd Tryz.prog 55 DF := vt mix OP Ew [(53, Ag), (98, Al)] (gs Dw (gs GH g0)) rfl (fun _ _ => rfl) fun O x => by kernel_rfl
theorem Yr : Vd Tryz.prog 100 DC := vt mix OS Et [(53, Ag)] (gs Dw g0) rfl (fun _ _ => rfl) fun O x => by kernel_rfl
theorem bN : Vd Tryz.prog 56 Dx := vt mix Q7 GE [(100, DC)] (gs Yr g0) rfl (fun _ _ => rfl) fun O x => by kernel_rfl
theorem Mw : Vd Tryz.prog 16 BC := vt mix Uj Iv [(52, AS), (53, Ag), (54, D0), (55, DF), (56, Dx)] (gs Cc (gs Dw (gs bH (gs Yv (gs bN g0))))) rfl (fun _ _ => rfl) fun O x => by kernel_rfl
theorem dH : Vd Tryz.prog 165 Ci := vt mix Sy Lt [] g0 rfl (fun _ _ => rfl) fun O x => by kernel_rfl
theorem WK : Vd Tryz.prog 103 Bo := vt mix WB EK [(165, Ci)] (gs dH g0) rfl (fun _ _ => rfl) fun O x => by kernel_rfl
theorem N3 : Vd Tryz.prog 61 BA := vt mix Tq Dm [(103, Bo)] (gs WK g0) rfl (fun _ _ => rfl) fun O x => by kernel_rfl
theorem YY : Vd Tryz.prog 62 Cf := vt mix X0 E8 [] g0 rfl (fun _ _ => rfl) fun O x => by kernel_rfl
theorem dN : Vd Tryz.prog 18 DI := vt mix Sh HH [(16, BC), (61, BA), (62, Cf)] (gs Mw (gs N3 (gs YY g0))) rfl (fun _ _ => rfl) fun O x => by kernel_rfl
theorem Dh : Vd Tryz.prog 77 AU := fun N h =>
 Pq mix (T := 27) (e := 97) (b := 1) Tryz.func77 Tryz.underlying27 (by kernel_rfl) (by decide) (fun O l => by kernel_rfl) (fun O l => by kernel_rfl) h
theorem FW : Vd Tryz.prog 78 Ae := fun N h =>
 Pq mix (T := 28) (e := 3) (b := 8) Tryz.func78 Tryz.underlying28 (by kernel_rfl) (by decide) (fun O l => by kernel_rfl) (fun O l => by kernel_rfl) h
theorem Ey : Vd Tryz.prog 79 Aa := fun N h =>
 Pq mix (T := 29) (e := 4) (b := 1) Tryz.func79 Tryz.underlying29 (by kernel_rfl) (by decide) (fun O l => by kernel_rfl) (fun O l => by kernel_rfl) h
theorem CS : Vd Tryz.prog 30 AP := vt mix UI Il [(77, AU), (78, Ae), (79, Aa)] (gs Dh (gs FW (gs Ey g0))) rfl (fun _ _ => rfl) fun O x => by kernel_rfl
theorem iU : Vd Tryz.prog 104 GJ := vt mix V3 KB [] g0 rfl (fun _ _ => rfl) fun O x => by kernel_rfl
theorem fT : Vd Tryz.prog 105 Fe := vt mix Ug Mm [] g0 rfl (fun _ _ => rfl) fun O x => by kernel_rfl
open Go.RowKit Go.Lib in
set_option maxHeartbeats 1000000 in
theorem RS (s : ByteArray) (c : Int) (w : World) : Calls Tryz.prog 210 #[.string s, .int .u8 c] w fun e w' => e = .returned (.int .i64 (Lib.indexByte s.data.toList c.toNat.toUInt8)) ∧ w' = w := by
 go_enter Tryz.func210, Tryz.ntmps210
 go_wp2
 rw [run_callFunc_extern Tryz.func226 (by kernel_rfl) (by kernel_rfl) (by kernel_rfl) (e := Extern.BytealgIndexByte.indexByte) (by kernel_rfl), Lib.run_indexByteString]
 simp only [Result.andThen]
 rw [Oper.upon_value]
 go_wp2
 go_ret
 exact ⟨rfl, rfl⟩
theorem TR : Vd Tryz.prog 210 CJ := fun N h =>
 nZ Tryz.func210 (T9 := 9) (T5 := 5) (T3 := 3) rfl rfl Tryz.underlying9 Tryz.underlying5 Tryz.underlying3 (by kernel_rfl) RS h
theorem Ym : Vd Tryz.prog 166 DE := vt mix ON Ep [(210, CJ)] (gs TR g0) rfl (fun _ _ => rfl) fun O x => by kernel_rfl
theorem jq : Vd Tryz.prog 167 FB := vt mix Ye YU [] g0 rfl (fun _ _ => rfl) fun O x => by kernel_rfl
theorem lN : Vd Tryz.prog 106 I8 := vt mix ZC Nh [(166, DE), (167, FB)] (gs Ym (gs jq g0)) rfl (fun _ _ => rfl) fun O x => by kernel_rfl
theorem Zq : Vd Tryz.prog 168 DR := vt mix Py I7 [] g0 rfl (fun _ _ => rfl) fun O x => by kernel_rfl
theorem dj : Vd Tryz.prog 107 Ef := vt mix SS HV [(168, DR)] (gs Zq g0) rfl (fun _ _ => rfl) fun O x => by kernel_rfl
theorem YO : Vd Tryz.prog 65 Cz := vt mix YA Hs [(104, GJ), (105, Fe), (106, I8), (107, Ef)] (gs iU (gs fT (gs lN (gs dj g0)))) rfl (fun _ _ => rfl) fun O x => by kernel_rfl
theorem bV : Vd Tryz.prog 109 Dv := vt mix Q4 KP [] g0 rfl (fun _ _ => rfl) fun O x => by kernel_rfl
theorem gV : Vd Tryz.prog 66 Fa := vt mix US Ik [(109, Dv)] (gs bV g0) rfl (fun _ _ => rfl) fun O x => by kernel_rfl
theorem Gw : Vd Tryz.prog 170 Ar := vt mix Zj NY [(77, AU), (78, Ae), (79, Aa)] (gs Dh (gs FW (gs Ey g0))) rfl (fun _ _ => rfl) fun O x => by kernel_rfl
theorem Gb : Vd Tryz.prog 171 Au := vt mix WJ Jh [] g0 rfl (fun _ _ => rfl) fun O x => by kernel_rfl
theorem jw : Vd Tryz.prog 110 IA := vt mix YC LX [(103, Bo), (170, Ar), (171, Au)] (gs WK (gs Gw (gs Gb g0))) rfl (fun _ _ => rfl) fun O x => by kernel_rfl
theorem VL : Vd Tryz.prog 172 CW := vt mix cC PM [(77, AU), (78, Ae), (79, Aa)] (gs Dh (gs FW (gs Ey g0))) rfl (fun _ _ => rfl) fun O x => by kernel_rfl
theorem Qg : Vd Tryz.prog 211 Bk := vt mix X4 LH [] g0 rfl (fun _ _ => rfl) fun O x => by kernel_rfl
theorem mj : Vd Tryz.prog 212 JF := vt mix ZF NW [(52, AS), (211, Bk)] (gs Cc (gs Qg g0)) rfl (fun _ _ => rfl) fun O x => by kernel_rfl
theorem oE : Vd Tryz.prog 173 Kd := vt mix cj Pj [(52, AS), (98, Al), (211, Bk), (212, JF)] (gs Cc (gs GH (gs Qg (gs mj g0)))) rfl (fun _ _ => rfl) fun O x => by kernel_rfl
theorem me : Vd Tryz.prog 111 JT := vt mix ZE N6 [(172, CW), (173, Kd)] (gs VL (gs oE g0)) rfl (fun _ _ => rfl) fun O x => by kernel_rfl
theorem dZ : Vd Tryz.prog 37 EV := vt mix SH TB [] g0 rfl (fun _ _ => rfl) fun O x => by kernel_rfl
theorem Yy : Vd Tryz.prog 223 DD := vt mix OU E0 [] g0 rfl (fun _ _ => rfl) fun O x => by kernel_rfl
theorem SG : Vd Tryz.prog 197 B7 := vt mix TE HX [(223, DD)] (gs Yy g0) rfl (fun _ _ => rfl) fun O x => by kernel_rfl
theorem Yu : Vd Tryz.prog 198 DB := vt mix OM Es [] g0 rfl (fun _ _ => rfl) fun O x => by kernel_rfl
theorem RB : Vd Tryz.prog 142 Bx := vt mix Q6 F6 [(197, B7), (198, DB)] (gs SG (gs Yu g0)) rfl (fun _ _ => rfl) fun O x => by kernel_rfl
theorem H4 : Vd Tryz.prog 181 Aw := vt mix Xw LU [] g0 rfl (fun _ _ => rfl) fun O x => by kernel_rfl
theorem HR : Vd Tryz.prog 182 Av := vt mix S5 He [(181, Aw)] (gs H4 g0) rfl (fun _ _ => rfl) fun O x => by kernel_rfl
theorem fj : Vd Tryz.prog 227 Fb := vt mix UJ IX [] g0 rfl (fun _ _ => rfl) fun O x => by kernel_rfl
theorem kD : Vd Tryz.prog 213 H7 := vt mix YZ K1 [(181, Aw), (182, Av), (227, Fb)] (gs H4 (gs HR (gs fj g0))) rfl (fun _ _ => rfl) fun O x => by kernel_rfl
theorem Qv : Vd Tryz.prog 232 BZ := vt mix RC Q9 [] g0 rfl (fun _ _ => rfl) fun O x => by kernel_rfl
theorem iQ : Vd Tryz.prog 228 Gm := vt mix Vk J4 [(232, BZ)] (gs Qv g0) rfl (fun _ _ => rfl) fun O x => by kernel_rfl
theorem aU : Vd Tryz.prog 233 Db := vt mix Pz FX [] g0 rfl (fun _ _ => rfl) fun O x => by kernel_rfl
theorem V7 : Vd Tryz.prog 229 Ck := vt mix L5 Df [(233, Db)] (gs aU g0) rfl (fun _ _ => rfl) fun O x => by kernel_rfl
theorem aC : Vd Tryz.prog 234 De := vt mix QO FZ [] g0 rfl (fun _ _ => rfl) fun O x => by kernel_rfl
theorem dP : Vd Tryz.prog 230 EO := vt mix SL Hc [(232, BZ), (234, De)] (gs Qv (gs aC g0)) rfl (fun _ _ => rfl) fun O x => by kernel_rfl
theorem VI : Vd Tryz.prog 235 Ca := vt mix Kb DL [] g0 rfl (fun _ _ => rfl) fun O x => by kernel_rfl
theorem XD : Vd Tryz.prog 231 Cu := vt mix Mv D9 [(235, Ca)] (gs VI g0) rfl (fun _ _ => rfl) fun O x => by kernel_rfl
theorem XI : Vd Tryz.prog 214 Ct := vt mix NP D6 [(228, Gm), (229, Ck), (230, EO), (231, Cu)] (gs iQ (gs V7 (gs dP (gs XD g0)))) rfl (fun _ _ => rfl) fun O x => by kernel_rfl
theorem j6 : Vd Tryz.prog 215 H1 := vt mix YT Lb [(181, Aw), (182, Av)] (gs H4 (gs HR g0)) rfl (fun _ _ => rfl) fun O x => by kernel_rfl
theorem bK : Vd Tryz.prog 174 Dt := vt mix RE F9 [(61, BA), (197, B7), (213, H7), (214, Ct), (215, H1)] (gs N3 (gs SG (gs kD (gs XI (gs j6 g0))))) rfl (fun _ _ => rfl) fun O x => by kernel_rfl
theorem lm : Vd Tryz.prog 175 JG := vt mix Zm Nm [(170, Ar), (171, Au)] (gs Gw (gs Gb g0)) rfl (fun _ _ => rfl) fun O x => by kernel_rfl
theorem kZ : Vd Tryz.prog 176 Iy := vt mix aB Ma [(52, AS), (98, Al), (172, CW), (211, Bk)] (gs Cc (gs GH (gs VL (gs Qg g0)))) rfl (fun _ _ => rfl) fun O x => by kernel_rfl
theorem fU : Vd Tryz.prog 177 Fr := vt mix T1 Ib [(170, Ar)] (gs Gw g0) rfl (fun _ _ => rfl) fun O x => by kernel_rfl
theorem iH : Vd Tryz.prog 112 GZ := vt mix WX KA [(30, AP), (37, EV), (142, Bx), (174, Dt), (175, JG), (176, Iy), (177, Fr)] (gs CS (gs dZ (gs RB (gs bK (gs lm (gs kZ (gs fU g0))))))) rfl (fun _ _ => rfl) fun O x => by kernel_rfl
theorem Y7 : Vd Tryz.prog 178 DS := vt mix ZU Mj [(61, BA), (171, Au)] (gs N3 (gs Gb g0)) rfl (fun _ _ => rfl) fun O x => by kernel_rfl
theorem eA : Vd Tryz.prog 113 EW := vt mix ST HK [(170, Ar), (171, Au), (178, DS)] (gs Gw (gs Gb (gs Y7 g0))) rfl (fun _ _ => rfl) fun O x => by kernel_rfl
theorem iZ : Vd Tryz.prog 114 Gr := vt mix Vb J0 [(170, Ar), (178, DS)] (gs Gw (gs Y7 g0)) rfl (fun _ _ => rfl) fun O x => by kernel_rfl
theorem fH : Vd Tryz.prog 115 Ft := vt mix Uc Im [(62, Cf), (170, Ar), (171, Au)] (gs YY (gs Gw (gs Gb g0))) rfl (fun _ _ => rfl) fun O x => by kernel_rfl
theorem U1 : Vd Tryz.prog 180 CX := vt mix dD Pe [(77, AU), (78, Ae), (79, Aa)] (gs Dh (gs FW (gs Ey g0))) rfl (fun _ _ => rfl) fun O x => by kernel_rfl
theorem fg : Vd Tryz.prog 116 FN := vt mix Tk Ia [(180, CX)] (gs U1 g0) rfl (fun _ _ => rfl) fun O x => by kernel_rfl
theorem gm : Vd Tryz.prog 117 G0 := vt mix WH J5 [(180, CX), (181, Aw), (182, Av)] (gs U1 (gs H4 (gs HR g0))) rfl (fun _ _ => rfl) fun O x => by kernel_rfl
theorem Y3 : Vd Tryz.prog 118 DZ := vt mix QH Fj [(180, CX), (181, Aw), (182, Av)] (gs U1 (gs H4 (gs HR g0))) rfl (fun _ _ => rfl) fun O x => by kernel_rfl
theorem fA : Vd Tryz.prog 119 Fo := vt mix UR Iw [(52, AS), (172, CW)] (gs Cc (gs VL g0)) rfl (fun _ _ => rfl) fun O x => by kernel_rfl
theorem bJ : Vd Tryz.prog 120 D4 := vt mix RD F7 [(30, AP)] (gs CS g0) rfl (fun _ _ => rfl) fun O x => by kernel_rfl
theorem RA : Vd Tryz.prog 28 Bw := vt mix Qz F5 [(30, AP)] (gs CS g0) rfl (fun _ _ => rfl) fun O x => by kernel_rfl
theorem bU : Vd Tryz.prog 121 Dz := vt mix Qx GB [(28, Bw), (30, AP)] (gs RA (gs CS g0)) rfl (fun _ _ => rfl) fun O x => by kernel_rfl
theorem eI : Vd Tryz.prog 122 ES := vt mix S0 Ej [(30, AP)] (gs CS g0) rfl (fun _ _ => rfl) fun O x => by kernel_rfl
theorem f6 : Vd Tryz.prog 20 FI := vt mix Tt T2 [] g0 rfl (fun _ _ => rfl) fun O x => by kernel_rfl
theorem du : Vd Tryz.prog 123 Ee := vt mix Sz HZ [(20, FI), (30, AP)] (gs f6 (gs CS g0)) rfl (fun _ _ => rfl) fun O x => by kernel_rfl
theorem bS : Vd Tryz.prog 67 Du := vt mix Q3 Dy [(110, IA), (111, JT), (112, GZ), (113, EW), (114, Gr), (115, Ft), (116, FN), (117, G0), (118, DZ), (119, Fo), (120, D4), (121, Dz), (122, ES), (123, Ee)] (gs jw (gs me (gs iH (gs eA (gs iZ (gs fH (gs fg (gs gm (gs Y3 (gs fA (gs bJ (gs bU (gs eI (gs du g0)))))))))))))) rfl (fun _ _ => rfl) fun O x => by kernel_rfl
theorem hG : Vd Tryz.prog 22 GO := vt mix V9 Je [(16, BC), (18, DI), (30, AP), (65, Cz), (66, Fa), (67, Du)] (gs Mw (gs dN (gs CS (gs YO (gs gV (gs bS g0)))))) rfl (fun _ _ => rfl) fun O x => by kernel_rfl
theorem fq : Vd Tryz.prog 25 Fm := vt mix Tw Ie [(52, AS), (53, Ag)] (gs Cc (gs Dw g0)) rfl (fun _ _ => rfl) fun O x => by kernel_rfl
theorem LO : Vd Tryz.prog 156 BB := vt mix Yf Lc [] g0 rfl (fun _ _ => rfl) fun O x => by kernel_rfl
theorem YV : Vd Tryz.prog 154 C0 := vt mix YL LC [(156, BB)] (gs LO g0) rfl (fun _ _ => rfl) fun O x => by kernel_rfl
theorem jU : Vd Tryz.prog 155 Hq := vt mix X1 LV [] g0 rfl (fun _ _ => rfl) fun O x => by kernel_rfl
theorem X9 : Vd Tryz.prog 91 C3 := vt mix YW LL [(16, BC), (52, AS), (154, C0), (155, Hq)] (gs Mw (gs Cc (gs YV (gs jU g0)))) rfl (fun _ _ => rfl) fun O x => by kernel_rfl
theorem jV : Vd Tryz.prog 92 Hi := vt mix YF LA [(30, AP), (141, C2)] (gs CS (gs YK g0)) rfl (fun _ _ => rfl) fun O x => by kernel_rfl
theorem Qp : Vd Tryz.prog 160 Bi := vt mix X2 LI [] g0 rfl (fun _ _ => rfl) fun O x => by kernel_rfl
theorem QC : Vd Tryz.prog 208 Bc := vt mix Pu FP [] g0 rfl (fun _ _ => rfl) fun O x => by kernel_rfl
theorem eU : Vd Tryz.prog 161 FM := vt mix UT IY [(91, C3), (156, BB), (160, Bi), (208, Bc)] (gs X9 (gs LO (gs Qp (gs QC g0)))) rfl (fun _ _ => rfl) fun O x => by kernel_rfl
theorem ia : Vd Tryz.prog 207 Ga := vt mix Ve Jl [(156, BB), (160, Bi)] (gs LO (gs Qp g0)) rfl (fun _ _ => rfl) fun O x => by kernel_rfl
theorem ka : Vd Tryz.prog 49 N2 := vt mix Zy Mz [(22, GO), (25, Fm), (28, Bw), (65, Cz), (91, C3), (92, Hi), (154, C0), (156, BB), (160, Bi), (161, FM), (207, Ga), (208, Bc)] (gs hG (gs fq (gs RA (gs YO (gs X9 (gs jV (gs YV (gs LO (gs Qp (gs eU (gs ia (gs QC g0)))))))))))) rfl (fun _ _ => rfl) fun O x => by kernel_rfl
def fG : Cfg := { gam := [⟨49, [], true, true, []⟩], imm := false, old := false }
theorem oD (O : Alg) (x : Ags O) : XF (O := O) Tryz.prog fG false false [] 82 [] (xr x Wo 0) = Ny O x := by kernel_rfl
theorem qJ {E : Env} {M : Nat} (N : Nat) (h : ∀ ls, E 82 [] ls = NC N ls) : VV Tryz.prog E M ⟨82, [], false, false, []⟩ :=
 Ax mix (E := Gu N) (N := N) (cfg := fG) (ci := ⟨82, [], false, false, []⟩) (ks := Wo) (AF (ka N (fun _ => rfl)) BU) (c := NC N) (F := fun ls => Ny (std (Gu N) N) (xOf ls)) (fun ls => rfl) (fun ls => oD (std (Gu N) N) (xOf ls)) h
theorem gM : Vd Tryz.prog 83 Ir := vt mix UH Ip [(142, Bx)] (gs RB g0) rfl (fun _ _ => rfl) fun O x => by kernel_rfl
def ez : Cfg := { gam := [⟨81, [], true, true, []⟩, ⟨82, [], false, false, []⟩, ⟨83, [], true, true, []⟩], imm := false, old := true, ie := [122, 97, 3, 4, 47, 33, 45, 125, 5, 159, 48, 43, 185] }
theorem ni (O : Alg) (x : Ags O) : XF (O := O) Tryz.prog ez false false [] 36 [] (xr x XQ 0) = NI O x := by kernel_rfl
theorem gC {E : Env} {M : Nat} (N : Nat) (h : ∀ ls, E 36 [] ls = Jm N ls) : VV Tryz.prog E M ⟨36, [], false, false, []⟩ :=
 Ax mix (E := DQ N) (N := N) (cfg := ez) (ci := ⟨36, [], false, false, []⟩) (ks := XQ) (AF (nQ N (fun _ => rfl)) (AF (qJ N (fun _ => rfl)) (AF (gM N (fun _ => rfl)) BU))) (c := Jm N) (F := fun ls => NI (std (DQ N) N) (xOf ls)) (fun ls => rfl) (fun ls => ni (std (DQ N) N) (xOf ls)) h
def Y2 : Cfg := { gam := [⟨36, [], false, false, []⟩], imm := false, old := false }
theorem jW (O : Alg) (x : Ags O) : XF (O := O) Tryz.prog Y2 false false [] 42 [] (xr x TC 0) = I3 O x := by kernel_rfl
theorem Z5 {E : Env} {M : Nat} (N : Nat) (h : ∀ ls, E 42 [] ls = Ek N ls) : VV Tryz.prog E M ⟨42, [], false, false, []⟩ :=
 Ax mix (E := EM N) (N := N) (cfg := Y2) (ci := ⟨42, [], false, false, []⟩) (ks := TC) (AF (gC N (fun _ => rfl)) BU) (c := Ek N) (F := fun ls => I3 (std (EM N) N) (xOf ls)) (fun ls => rfl) (fun ls => jW (std (EM N) N) (xOf ls)) h
theorem qu : Vd Tryz.prog 80 jK := vt mix ik iy [] g0 rfl (fun _ _ => rfl) fun O x => by kernel_rfl
def bn : Cfg := { gam := [⟨36, [], false, false, []⟩, ⟨42, [], false, false, []⟩, ⟨80, [], true, true, []⟩], imm := false, old := false }
theorem mI (O : Alg) (x : Ags O) : XF (O := O) Tryz.prog bn true true [] 33 [] (xr x U3 0) = Uu O x := by kernel_rfl
theorem my : Vd Tryz.prog 33 IL := fun N h =>
 Ax mix (E := K2 N) (N := N) (cfg := bn) (ci := ⟨33, [], true, true, []⟩) (ks := U3) (AF (gC N (fun _ => rfl)) (AF (Z5 N (fun _ => rfl)) (AF (qu N (fun _ => rfl)) BU))) (c := IL N) (F := fun ls => Uu (std (K2 N) N) (xOf ls)) (fun ls => rfl) (fun ls => mI (std (K2 N) N) (xOf ls)) h
def YE : Cfg := { gam := [], imm := false, old := false }
theorem iB (O : Alg) (x : Ags O) : XF (O := O) Tryz.prog YE false false [] 34 [] (xr x Qs 0) = Ho O x := by kernel_rfl
theorem jb {E : Env} {M : Nat} (N : Nat) (h : ∀ ls, E 34 [] ls = Hv N ls) : VV Tryz.prog E M ⟨34, [], false, false, []⟩ :=
 Ax mix (E := FT N) (N := N) (cfg := YE) (ci := ⟨34, [], false, false, []⟩) (ks := Qs) BU (c := Hv N) (F := fun ls => Ho (std (FT N) N) (xOf ls)) (fun ls => rfl) (fun ls => iB (std (FT N) N) (xOf ls)) h
def jO : Cfg := { gam := [], imm := false, old := false }
theorem oo (O : Alg) (x : Ags O) : XF (O := O) Tryz.prog jO false false [] 35 [] (xr x Ze 0) = QB O x := by kernel_rfl
theorem qg {E : Env} {M : Nat} (N : Nat) (h : ∀ ls, E 35 [] ls = P8 N ls) : VV Tryz.prog E M ⟨35, [], false, false, []⟩ :=
 Ax mix (E := KV N) (N := N) (cfg := jO) (ci := ⟨35, [], false, false, []⟩) (ks := Ze) BU (c := P8 N) (F := fun ls => QB (std (KV N) N) (xOf ls)) (fun ls => rfl) (fun ls => oo (std (KV N) N) (xOf ls)) h
theorem pS : Vd Tryz.prog 72 M0 := vt mix ga RI [] g0 rfl (fun _ _ => rfl) fun O x => by kernel_rfl
theorem om : Vd Tryz.prog 24 Mc := vt mix ei Rz [(72, M0)] (gs pS g0) rfl (fun _ _ => rfl) fun O x => by kernel_rfl
theorem pM : Vd Tryz.prog 87 NO := vt mix eg Rh [] g0 rfl (fun _ _ => rfl) fun O x => by kernel_rfl
theorem pW : Vd Tryz.prog 39 Rx := vt mix ej Ru [(24, Mc), (87, NO)] (gs om (gs pM g0)) rfl (fun _ _ => rfl) fun O x => by kernel_rfl
def mV : Cfg := { gam := [⟨42, [], false, false, []⟩, ⟨52, [], true, true, []⟩], imm := false, old := false }
theorem qk (O : Alg) (x : Ags O) : XF (O := O) Tryz.prog mV false false [] 46 [] (xr x dS 0) = SN O x := by kernel_rfl
theorem sM {E : Env} {M : Nat} (N : Nat) (h : ∀ ls, E 46 [] ls = S7 N ls) : VV Tryz.prog E M ⟨46, [], false, false, []⟩ :=
 Ax mix (E := Ha N) (N := N) (cfg := mV) (ci := ⟨46, [], false, false, []⟩) (ks := dS) (AF (Z5 N (fun _ => rfl)) (AF (Cc N (fun _ => rfl)) BU)) (c := S7 N) (F := fun ls => SN (std (Ha N) N) (xOf ls)) (fun ls => rfl) (fun ls => qk (std (Ha N) N) (xOf ls)) h
theorem pZ : Vd Tryz.prog 101 NL := vt mix fh RP [] g0 rfl (fun _ _ => rfl) fun O x => by kernel_rfl
theorem sZ : Vd Tryz.prog 102 SI := vt mix kW mR [] g0 rfl (fun _ _ => rfl) fun O x => by kernel_rfl
theorem DN : Vd Tryz.prog 57 Ad := vt mix cW PK [(101, NL), (102, SI)] (gs pZ (gs sZ g0)) rfl (fun _ _ => rfl) fun O x => by kernel_rfl
theorem cQ : Vd Tryz.prog 143 EH := vt mix cZ PO [] g0 rfl (fun _ _ => rfl) fun O x => by kernel_rfl
theorem rM : Vd Tryz.prog 84 Tm := vt mix im UQ [(57, Ad), (143, EH)] (gs DN (gs cQ g0)) rfl (fun _ _ => rfl) fun O x => by kernel_rfl
theorem lF : Vd Tryz.prog 125 Ja := vt mix ZR Nt [] g0 rfl (fun _ _ => rfl) fun O x => by kernel_rfl
theorem pq : Vd Tryz.prog 126 N7 := vt mix gd R5 [] g0 rfl (fun _ _ => rfl) fun O x => by kernel_rfl
theorem sW : Vd Tryz.prog 127 Su := vt mix ku eF [] g0 rfl (fun _ _ => rfl) fun O x => by kernel_rfl
theorem rx : Vd Tryz.prog 183 SP := vt mix kh eH [] g0 rfl (fun _ _ => rfl) fun O x => by kernel_rfl
theorem nq : Vd Tryz.prog 128 Ka := vt mix ck PW [(183, SP)] (gs rx g0) rfl (fun _ _ => rfl) fun O x => by kernel_rfl
theorem cc : Vd Tryz.prog 69 IG := vt mix cP Pa [(125, Ja), (126, N7), (127, Su), (128, Ka)] (gs lF (gs pq (gs sW (gs nq g0)))) rfl (fun _ _ => rfl) fun O x => by kernel_rfl
theorem Bq : Vd Tryz.prog 124 AM := vt mix bz PF [] g0 rfl (fun _ _ => rfl) fun O x => by kernel_rfl
theorem VC : Vd Tryz.prog 68 Cp := vt mix br PS [(124, AM)] (gs Bq g0) rfl (fun _ _ => rfl) fun O x => by kernel_rfl
theorem nT : Vd Tryz.prog 144 PI := vt mix cq PG [(68, Cp), (143, EH)] (gs VC (gs cQ g0)) rfl (fun _ _ => rfl) fun O x => by kernel_rfl
theorem eD : Vd Tryz.prog 58 Eg := vt mix mC mY [] g0 rfl (fun _ _ => rfl) fun O x => by kernel_rfl
theorem rC : Vd Tryz.prog 59 P2 := vt mix jP T4 [(58, Eg)] (gs eD g0) rfl (fun _ _ => rfl) fun O x => by kernel_rfl
theorem PH : Vd Tryz.prog 70 BS := vt mix cA IC [] g0 rfl (fun _ _ => rfl) fun O x => by kernel_rfl
theorem j7 : Vd Tryz.prog 60 Hl := vt mix Yb K4 [(70, BS)] (gs PH g0) rfl (fun _ _ => rfl) fun O x => by kernel_rfl
theorem VF : Vd Tryz.prog 17 CZ := vt mix ct Pm [(57, Ad), (58, Eg), (59, P2), (60, Hl)] (gs DN (gs eD (gs rC (gs j7 g0)))) rfl (fun _ _ => rfl) fun O x => by kernel_rfl
theorem Km : Vd Tryz.prog 200 Bu := vt mix cM PU [] g0 rfl (fun _ _ => rfl) fun O x => by kernel_rfl
theorem aY : Vd Tryz.prog 224 Ed := vt mix aW Mi [(200, Bu)] (gs Km g0) rfl (fun _ _ => rfl) fun O x => by kernel_rfl
theorem gE : Vd Tryz.prog 199 Ff := vt mix UY Iu [(17, CZ), (224, Ed)] (gs VF (gs aY g0)) rfl (fun _ _ => rfl) fun O x => by kernel_rfl
theorem Ux : Vd Tryz.prog 145 EC := vt mix bo Ph [(57, Ad), (199, Ff)] (gs DN (gs gE g0)) rfl (fun _ _ => rfl) fun O x => by kernel_rfl
theorem SJ : Vd Tryz.prog 63 CE := vt mix aQ GL [(70, BS)] (gs PH g0) rfl (fun _ _ => rfl) fun O x => by kernel_rfl
theorem fk : Vd Tryz.prog 64 EA := vt mix gb Ji [] g0 rfl (fun _ _ => rfl) fun O x => by kernel_rfl
theorem kv : Vd Tryz.prog 19 Ix := vt mix ZS Mk [(17, CZ), (63, CE), (64, EA)] (gs VF (gs SJ (gs fk g0))) rfl (fun _ _ => rfl) fun O x => by kernel_rfl
theorem YR : Vd Tryz.prog 29 E7 := vt mix YM K5 [(68, Cp)] (gs VC g0) rfl (fun _ _ => rfl) fun O x => by kernel_rfl
theorem Ni : Vd Tryz.prog 184 BP := vt mix aO M5 [] g0 rfl (fun _ _ => rfl) fun O x => by kernel_rfl
theorem qC : Vd Tryz.prog 129 Rk := vt mix fE Rn [(70, BS), (124, AM), (184, BP)] (gs PH (gs Bq (gs Ni g0))) rfl (fun _ _ => rfl) fun O x => by kernel_rfl
theorem Gj : Vd Tryz.prog 195 As := vt mix Vr Jg [] g0 rfl (fun _ _ => rfl) fun O x => by kernel_rfl
theorem Sb : Vd Tryz.prog 216 B9 := vt mix ZB N5 [] g0 rfl (fun _ _ => rfl) fun O x => by kernel_rfl
theorem pG : Vd Tryz.prog 217 Mq := vt mix fu RH [(57, Ad), (216, B9)] (gs DN (gs Sb g0)) rfl (fun _ _ => rfl) fun O x => by kernel_rfl
theorem i5 : Vd Tryz.prog 218 HB := vt mix iv UU [] g0 rfl (fun _ _ => rfl) fun O x => by kernel_rfl
theorem rK : Vd Tryz.prog 185 QI := vt mix jM Tx [(57, Ad), (195, As), (216, B9), (217, Mq), (218, HB)] (gs DN (gs Gj (gs Sb (gs pG (gs i5 g0))))) rfl (fun _ _ => rfl) fun O x => by kernel_rfl
theorem pC : Vd Tryz.prog 130 Rm := vt mix gN R3 [(124, AM), (185, QI)] (gs Bq (gs rK g0)) rfl (fun _ _ => rfl) fun O x => by kernel_rfl
theorem sY : Vd Tryz.prog 205 So := vt mix kX eB [] g0 rfl (fun _ _ => rfl) fun O x => by kernel_rfl
theorem g8 : Vd Tryz.prog 206 GU := vt mix V8 KC [] g0 rfl (fun _ _ => rfl) fun O x => by kernel_rfl
theorem cN : Vd Tryz.prog 149 Fw := vt mix cD PR [(205, So), (206, GU)] (gs sY (gs g8 g0)) rfl (fun _ _ => rfl) fun O x => by kernel_rfl
theorem iW : Vd Tryz.prog 150 Gh := vt mix Vj J8 [] g0 rfl (fun _ _ => rfl) fun O x => by kernel_rfl
theorem nD : Vd Tryz.prog 151 Ks := vt mix cm PB [] g0 rfl (fun _ _ => rfl) fun O x => by kernel_rfl
theorem lD : Vd Tryz.prog 86 N8 := vt mix aJ MV [(149, Fw), (150, Gh), (151, Ks)] (gs cN (gs iW (gs nD g0))) rfl (fun _ _ => rfl) fun O x => by kernel_rfl
theorem Md : Vd Tryz.prog 194 BN := vt mix Zt Mp [] g0 rfl (fun _ _ => rfl) fun O x => by kernel_rfl
theorem jY : Vd Tryz.prog 219 Hp := vt mix YI K6 [] g0 rfl (fun _ _ => rfl) fun O x => by kernel_rfl
theorem nR : Vd Tryz.prog 186 Pn := vt mix bi PJ [(194, BN), (195, As), (219, Hp)] (gs Md (gs Gj (gs jY g0))) rfl (fun _ _ => rfl) fun O x => by kernel_rfl
theorem iD : Vd Tryz.prog 220 GQ := vt mix Vc J6 [] g0 rfl (fun _ _ => rfl) fun O x => by kernel_rfl
theorem sQ : Vd Tryz.prog 221 SR := vt mix lP Xj [] g0 rfl (fun _ _ => rfl) fun O x => by kernel_rfl
theorem kY : Vd Tryz.prog 222 I5 := vt mix Zi M3 [] g0 rfl (fun _ _ => rfl) fun O x => by kernel_rfl
theorem gq : Vd Tryz.prog 187 Jx := vt mix Vl J1 [(220, GQ), (221, SR), (222, I5)] (gs iD (gs sQ (gs kY g0))) rfl (fun _ _ => rfl) fun O x => by kernel_rfl
theorem nf : Vd Tryz.prog 188 Pp := vt mix cd PT [(194, BN), (195, As)] (gs Md (gs Gj g0)) rfl (fun _ _ => rfl) fun O x => by kernel_rfl
theorem Zp : Vd Tryz.prog 191 Ea := vt mix aD Mo [(124, AM)] (gs Bq g0) rfl (fun _ _ => rfl) fun O x => by kernel_rfl
theorem rF : Vd Tryz.prog 189 UA := vt mix jL Tu [(124, AM), (184, BP), (191, Ea)] (gs Bq (gs Ni (gs Zp g0))) rfl (fun _ _ => rfl) fun O x => by kernel_rfl
theorem oz : Vd Tryz.prog 190 Rv := vt mix eR RW [(57, Ad), (124, AM), (216, B9), (218, HB)] (gs DN (gs Bq (gs Sb (gs i5 g0)))) rfl (fun _ _ => rfl) fun O x => by kernel_rfl
theorem na : Vd Tryz.prog 192 Pb := vt mix bh cU [] g0 rfl (fun _ _ => rfl) fun O x => by kernel_rfl
def fW : Cfg := { gam := [⟨63, [], true, true, []⟩, ⟨86, [], true, true, []⟩, ⟨149, [], true, true, []⟩, ⟨186, [], true, true, []⟩, ⟨187, [], true, true, []⟩, ⟨188, [], true, true, []⟩, ⟨189, [], true, true, []⟩, ⟨190, [], true, true, []⟩, ⟨191, [], true, true, []⟩, ⟨192, [], true, true, []⟩], imm := false, old := false }
theorem oF (O : Alg) (x : Ags O) : XF (O := O) Tryz.prog fW false false [] 131 [] (xr x W0 0) = N0 O x := by kernel_rfl
theorem ol {E : Env} {M : Nat} (N : Nat) (h : ∀ ls, E 131 [] ls = Nk N ls) : VV Tryz.prog E M ⟨131, [], false, false, []⟩ :=
 Ax mix (E := BD N) (N := N) (cfg := fW) (ci := ⟨131, [], false, false, []⟩) (ks := W0) (AF (SJ N (fun _ => rfl)) (AF (lD N (fun _ => rfl)) (AF (cN N (fun _ => rfl)) (AF (nR N (fun _ => rfl)) (AF (gq N (fun _ => rfl)) (AF (nf N (fun _ => rfl)) (AF (rF N (fun _ => rfl)) (AF (oz N (fun _ => rfl)) (AF (Zp N (fun _ => rfl)) (AF (na N (fun _ => rfl)) BU)))))))))) (c := Nk N) (F := fun ls => N0 (std (BD N) N) (xOf ls)) (fun ls => rfl) (fun ls => oF (std (BD N) N) (xOf ls)) h
theorem cT : Vd Tryz.prog 193 EB := vt mix cJ Pk [(63, CE), (184, BP)] (gs SJ (gs Ni g0)) rfl (fun _ _ => rfl) fun O x => by kernel_rfl
theorem j4 : Vd Tryz.prog 132 LD := vt mix Xz LB [(124, AM), (193, EB)] (gs Bq (gs cT g0)) rfl (fun _ _ => rfl) fun O x => by kernel_rfl
theorem nA : Vd Tryz.prog 133 PQ := vt mix cF PC [(124, AM), (193, EB)] (gs Bq (gs cT g0)) rfl (fun _ _ => rfl) fun O x => by kernel_rfl
theorem mn : Vd Tryz.prog 134 NX := vt mix Zu Mh [(64, EA), (124, AM), (184, BP)] (gs fk (gs Bq (gs Ni g0))) rfl (fun _ _ => rfl) fun O x => by kernel_rfl
theorem ju : Vd Tryz.prog 135 K9 := vt mix Yc LQ [(124, AM)] (gs Bq g0) rfl (fun _ _ => rfl) fun O x => by kernel_rfl
theorem mo : Vd Tryz.prog 136 M7 := vt mix Z2 NV [(124, AM), (194, BN), (195, As)] (gs Bq (gs Md (gs Gj g0))) rfl (fun _ _ => rfl) fun O x => by kernel_rfl
theorem dT : Vd Tryz.prog 137 HJ := vt mix Sf HY [(124, AM), (194, BN), (195, As)] (gs Bq (gs Md (gs Gj g0))) rfl (fun _ _ => rfl) fun O x => by kernel_rfl
theorem jg : Vd Tryz.prog 138 LP := vt mix YX LY [(57, Ad), (124, AM)] (gs DN (gs Bq g0)) rfl (fun _ _ => rfl) fun O x => by kernel_rfl
def aX : Cfg := { gam := [], imm := false, old := false }
theorem ji (O : Alg) (x : Ags O) : XF (O := O) Tryz.prog aX false false [] 139 [] (xr x SU 0) = GW O x := by kernel_rfl
theorem ll {E : Env} {M : Nat} (N : Nat) (h : ∀ ls, E 139 [] ls = JK N ls) : VV Tryz.prog E M ⟨139, [], false, false, []⟩ :=
 Ax mix (E := Gz N) (N := N) (cfg := aX) (ci := ⟨139, [], false, false, []⟩) (ks := SU) BU (c := JK N) (F := fun ls => GW (std (Gz N) N) (xOf ls)) (fun ls => rfl) (fun ls => ji (std (Gz N) N) (xOf ls)) h
theorem nK : Vd Tryz.prog 21 Pf := vt mix cY cp [] g0 rfl (fun _ _ => rfl) fun O x => by kernel_rfl
def Zh : Cfg := { gam := [⟨21, [], true, true, []⟩], imm := false, old := false }
theorem jm (O : Alg) (x : Ags O) : XF (O := O) Tryz.prog Zh false false [] 140 [] (xr x Sd 0) = JR O x := by kernel_rfl
theorem kc {E : Env} {M : Nat} (N : Nat) (h : ∀ ls, E 140 [] ls = JL N ls) : VV Tryz.prog E M ⟨140, [], false, false, []⟩ :=
 Ax mix (E := EL N) (N := N) (cfg := Zh) (ci := ⟨140, [], false, false, []⟩) (ks := Sd) (AF (nK N (fun _ => rfl)) BU) (c := JL N) (F := fun ls => JR (std (EL N) N) (xOf ls)) (fun ls => rfl) (fun ls => jm (std (EL N) N) (xOf ls)) h
def ii : Cfg := { gam := [⟨29, [], true, true, []⟩, ⟨129, [], true, true, []⟩, ⟨130, [], true, true, []⟩, ⟨131, [], false, false, []⟩, ⟨132, [], true, true, []⟩, ⟨133, [], true, true, []⟩, ⟨134, [], true, true, []⟩, ⟨135, [], true, true, []⟩, ⟨136, [], true, true, []⟩, ⟨137, [], true, true, []⟩, ⟨138, [], true, true, []⟩, ⟨139, [], false, false, []⟩, ⟨140, [], false, false, []⟩], imm := false, old := false }
theorem pR (O : Alg) (x : Ags O) : XF (O := O) Tryz.prog ii false false [] 71 [] (xr x ab 0) = MB O x := by kernel_rfl
theorem qW {E : Env} {M : Nat} (N : Nat) (h : ∀ ls, E 71 [] ls = QL N ls) : VV Tryz.prog E M ⟨71, [], false, false, []⟩ :=
 Ax mix (E := A2 N) (N := N) (cfg := ii) (ci := ⟨71, [], false, false, []⟩) (ks := ab) (AF (YR N (fun _ => rfl)) (AF (qC N (fun _ => rfl)) (AF (pC N (fun _ => rfl)) (AF (ol N (fun _ => rfl)) (AF (j4 N (fun _ => rfl)) (AF (nA N (fun _ => rfl)) (AF (mn N (fun _ => rfl)) (AF (ju N (fun _ => rfl)) (AF (mo N (fun _ => rfl)) (AF (dT N (fun _ => rfl)) (AF (jg N (fun _ => rfl)) (AF (ll N (fun _ => rfl)) (AF (kc N (fun _ => rfl)) BU))))))))))))) (c := QL N) (F := fun ls => MB (std (A2 N) N) (xOf ls)) (fun ls => rfl) (fun ls => pR (std (A2 N) N) (xOf ls)) h
def gD : Cfg := { gam := [⟨17, [], true, true, []⟩, ⟨19, [], true, true, []⟩, ⟨68, [], true, true, []⟩, ⟨69, [], true, true, []⟩, ⟨70, [], true, true, []⟩, ⟨71, [], false, false, []⟩], imm := false, old := false }
theorem oH (O : Alg) (x : Ags O) : XF (O := O) Tryz.prog gD false false [] 23 [] (xr x XU 0) = Ns O x := by kernel_rfl
theorem fZ {E : Env} {M : Nat} (N : Nat) (h : ∀ ls, E 23 [] ls = HI N ls) : VV Tryz.prog E M ⟨23, [], false, false, []⟩ :=
 Ax mix (E := CA N) (N := N) (cfg := gD) (ci := ⟨23, [], false, false, []⟩) (ks := XU) (AF (VF N (fun _ => rfl)) (AF (kv N (fun _ => rfl)) (AF (VC N (fun _ => rfl)) (AF (cc N (fun _ => rfl)) (AF (PH N (fun _ => rfl)) (AF (qW N (fun _ => rfl)) BU)))))) (c := HI N) (F := fun ls => Ns (std (CA N) N) (xOf ls)) (fun ls => rfl) (fun ls => oH (std (CA N) N) (xOf ls)) h
theorem nG : Vd Tryz.prog 26 PD := vt mix bp Pi [(57, Ad), (58, Eg)] (gs DN (gs eD g0)) rfl (fun _ _ => rfl) fun O x => by kernel_rfl
theorem Um : Vd Tryz.prog 203 EE := vt mix bu Pr [] g0 rfl (fun _ _ => rfl) fun O x => by kernel_rfl
def gU : Cfg := { gam := [], imm := false, old := false }
theorem nP (O : Alg) (x : Ags O) : XF (O := O) Tryz.prog gU false false [] 147 [] (xr x Xq 0) = Nj O x := by kernel_rfl
theorem RU {E : Env} {M : Nat} (N : Nat) (h : ∀ ls, E 147 [] ls = Cw N ls) : VV Tryz.prog E M ⟨147, [], false, false, []⟩ :=
 Ax mix (E := JY N) (N := N) (cfg := gU) (ci := ⟨147, [], false, false, []⟩) (ks := Xq) BU (c := Cw N) (F := fun ls => Nj (std (JY N) N) (xOf ls)) (fun ls => rfl) (fun ls => nP (std (JY N) N) (xOf ls)) h
def YS : Cfg := { gam := [⟨145, [], true, true, []⟩, ⟨147, [], false, false, []⟩, ⟨224, [], true, true, []⟩], imm := false, old := false }
theorem iG (O : Alg) (x : Ags O) : XF (O := O) Tryz.prog YS true true [] 225 [] (xr x Qr 0) = Hj O x := by kernel_rfl
theorem jh : Vd Tryz.prog 225 Hm := fun N h =>
 Ax mix (E := CR N) (N := N) (cfg := YS) (ci := ⟨225, [], true, true, []⟩) (ks := Qr) (AF (Ux N (fun _ => rfl)) (AF (RU N (fun _ => rfl)) (AF (aY N (fun _ => rfl)) BU))) (c := Hm N) (F := fun ls => Hj (std (CR N) N) (xOf ls)) (fun ls => rfl) (fun ls => iG (std (CR N) N) (xOf ls)) h
def gK : Cfg := { gam := [⟨23, [], false, false, []⟩, ⟨26, [], true, true, []⟩, ⟨200, [], true, true, []⟩, ⟨203, [], true, true, []⟩, ⟨225, [], true, true, []⟩], imm := false, old := false }
theorem ng (O : Alg) (x : Ags O) : XF (O := O) Tryz.prog gK false false [true, false] 201 [] (xr x XV 0) = NB O x := by kernel_rfl
theorem ox {E : Env} {M : Nat} (N : Nat) (h : ∀ ls, E 201 [] ls = N4 N ls) : VV Tryz.prog E M ⟨201, [], false, false, [true, false]⟩ :=
 Ax mix (E := CY N) (N := N) (cfg := gK) (ci := ⟨201, [], false, false, [true, false]⟩) (ks := XV) (AF (fZ N (fun _ => rfl)) (AF (nG N (fun _ => rfl)) (AF (Km N (fun _ => rfl)) (AF (Um N (fun _ => rfl)) (AF (jh N (fun _ => rfl)) BU))))) (c := N4 N) (F := fun ls => NB (std (CY N) N) (xOf ls)) (fun ls => rfl) (fun ls => ng (std (CY N) N) (xOf ls)) h
def fF : Cfg := { gam := [⟨23, [], false, false, []⟩, ⟨29, [], true, true, []⟩], imm := true, old := true }
theorem nC (O : Alg) (x : Ags O) : XF (O := O) Tryz.prog fF false false [true, false] 202 [] (xr x Ww 0) = N9 O x := by kernel_rfl
theorem o8 {E : Env} {M : Nat} (N : Nat) (h : ∀ ls, E 202 [] ls = MW N ls) : VV Tryz.prog E M ⟨202, [], false, false, [true, false]⟩ :=
 Ax mix (E := Ec N) (N := N) (cfg := fF) (ci := ⟨202, [], false, false, [true, false]⟩) (ks := Ww) (AF (fZ N (fun _ => rfl)) (AF (YR N (fun _ => rfl)) BU)) (c := MW N) (F := fun ls => N9 (std (Ec N) N) (xOf ls)) (fun ls => rfl) (fun ls => nC (std (Ec N) N) (xOf ls)) h
def jN : Cfg := { gam := [⟨200, [], true, true, []⟩, ⟨201, [], false, false, [true, false]⟩, ⟨202, [], false, false, [true, false]⟩], imm := false, old := false }
theorem pH (O : Alg) (x : Ags O) : XF (O := O) Tryz.prog jN false false [true, false] 146 [] (xr x aM 0) = Pv O x := by kernel_rfl
theorem qN {E : Env} {M : Nat} (N : Nat) (h : ∀ ls, E 146 [] ls = Pt N ls) : VV Tryz.prog E M ⟨146, [], false, false, [true, false]⟩ :=
 Ax mix (E := EG N) (N := N) (cfg := jN) (ci := ⟨146, [], false, false, [true, false]⟩) (ks := aM) (AF (Km N (fun _ => rfl)) (AF (ox N (fun _ => rfl)) (AF (o8 N (fun _ => rfl)) BU))) (c := Pt N) (F := fun ls => Pv (std (EG N) N) (xOf ls)) (fun ls => rfl) (fun ls => pH (std (EG N) N) (xOf ls)) h
def Xy : Cfg := { gam := [⟨145, [], true, true, []⟩, ⟨147, [], false, false, []⟩, ⟨200, [], true, true, []⟩, ⟨203, [], true, true, []⟩], imm := false, old := false }
theorem iA (O : Alg) (x : Ags O) : XF (O := O) Tryz.prog Xy true true [] 204 [] (xr x QZ 0) = H6 O x := by kernel_rfl
theorem ja : Vd Tryz.prog 204 Hn := fun N h =>
 Ax mix (E := B0 N) (N := N) (cfg := Xy) (ci := ⟨204, [], true, true, []⟩) (ks := QZ) (AF (Ux N (fun _ => rfl)) (AF (RU N (fun _ => rfl)) (AF (Km N (fun _ => rfl)) (AF (Um N (fun _ => rfl)) BU)))) (c := Hn N) (F := fun ls => H6 (std (B0 N) N) (xOf ls)) (fun ls => rfl) (fun ls => iA (std (B0 N) N) (xOf ls)) h
def aP : Cfg := { gam := [⟨147, [], false, false, []⟩, ⟨200, [], true, true, []⟩, ⟨203, [], true, true, []⟩, ⟨204, [], true, true, []⟩], imm := false, old := false }
theorem jc (O : Alg) (x : Ags O) : XF (O := O) Tryz.prog aP false false [] 148 [] (xr x Sc 0) = JM O x := by kernel_rfl
theorem mB {E : Env} {M : Nat} (N : Nat) (h : ∀ ls, E 148 [] ls = I4 N ls) : VV Tryz.prog E M ⟨148, [], false, false, []⟩ :=
 Ax mix (E := CG N) (N := N) (cfg := aP) (ci := ⟨148, [], false, false, []⟩) (ks := Sc) (AF (RU N (fun _ => rfl)) (AF (Km N (fun _ => rfl)) (AF (Um N (fun _ => rfl)) (AF (ja N (fun _ => rfl)) BU)))) (c := I4 N) (F := fun ls => JM (std (CG N) N) (xOf ls)) (fun ls => rfl) (fun ls => jc (std (CG N) N) (xOf ls)) h
def gW : Cfg := { gam := [⟨69, [], true, true, []⟩, ⟨144, [], true, true, []⟩, ⟨145, [], true, true, []⟩, ⟨146, [], false, false, [true, false]⟩, ⟨147, [], false, false, []⟩, ⟨148, [], false, false, []⟩], imm := false, old := false }
theorem mv (O : Alg) (x : Ags O) : XF (O := O) Tryz.prog gW false false [] 85 [] (xr x Wm 0) = Mu O x := by kernel_rfl
theorem pQ {E : Env} {M : Nat} (N : Nat) (h : ∀ ls, E 85 [] ls = Ne N ls) : VV Tryz.prog E M ⟨85, [], false, false, []⟩ :=
 Ax mix (E := B8 N) (N := N) (cfg := gW) (ci := ⟨85, [], false, false, []⟩) (ks := Wm) (AF (cc N (fun _ => rfl)) (AF (nT N (fun _ => rfl)) (AF (Ux N (fun _ => rfl)) (AF (qN N (fun _ => rfl)) (AF (RU N (fun _ => rfl)) (AF (mB N (fun _ => rfl)) BU)))))) (c := Ne N) (F := fun ls => Mu (std (B8 N) N) (xOf ls)) (fun ls => rfl) (fun ls => mv (std (B8 N) N) (xOf ls)) h
def gX : Cfg := { gam := [⟨85, [], false, false, []⟩], imm := true, old := true }
theorem nz (O : Alg) (x : Ags O) : XF (O := O) Tryz.prog gX false false [] 88 [] (xr x XK 0) = NT O x := by kernel_rfl
theorem pD {E : Env} {M : Nat} (N : Nat) (h : ∀ ls, E 88 [] ls = Nq N ls) : VV Tryz.prog E M ⟨88, [], false, false, []⟩ :=
 Ax mix (E := GX N) (N := N) (cfg := gX) (ci := ⟨88, [], false, false, []⟩) (ks := XK) (AF (pQ N (fun _ => rfl)) BU) (c := Nq N) (F := fun ls => NT (std (GX N) N) (xOf ls)) (fun ls => rfl) (fun ls => nz (std (GX N) N) (xOf ls)) h
def Zb : Cfg := { gam := [⟨84, [], true, true, []⟩, ⟨88, [], false, false, []⟩], imm := false, old := false }
theorem je (O : Alg) (x : Ags O) : XF (O := O) Tryz.prog Zb false false [] 43 [] (xr x S1 0) = JS O x := by kernel_rfl
theorem mh {E : Env} {M : Nat} (N : Nat) (h : ∀ ls, E 43 [] ls = Gx N ls) : VV Tryz.prog E M ⟨43, [], false, false, []⟩ :=
 Ax mix (E := DH N) (N := N) (cfg := Zb) (ci := ⟨43, [], false, false, []⟩) (ks := S1) (AF (rM N (fun _ => rfl)) (AF (pD N (fun _ => rfl)) BU)) (c := Gx N) (F := fun ls => JS (std (DH N) N) (xOf ls)) (fun ls => rfl) (fun ls => je (std (DH N) N) (xOf ls)) h
def lC : Cfg := { gam := [⟨43, [], false, false, []⟩, ⟨57, [], true, true, []⟩], imm := false, old := false }
theorem qi (O : Alg) (x : Ags O) : XF (O := O) Tryz.prog lC false false [] 47 [] (xr x dl 0) = Sa O x := by kernel_rfl
theorem sg {E : Env} {M : Nat} (N : Nat) (h : ∀ ls, E 47 [] ls = Sg N ls) : VV Tryz.prog E M ⟨47, [], false, false, []⟩ :=
 Ax mix (E := HN N) (N := N) (cfg := lC) (ci := ⟨47, [], false, false, []⟩) (ks := dl) (AF (mh N (fun _ => rfl)) (AF (DN N (fun _ => rfl)) BU)) (c := Sg N) (F := fun ls => Sa (std (HN N) N) (xOf ls)) (fun ls => rfl) (fun ls => qi (std (HN N) N) (xOf ls)) h
def cO : Cfg := { gam := [⟨33, [], true, true, []⟩, ⟨34, [], false, false, []⟩, ⟨35, [], false, false, []⟩, ⟨39, [], true, true, []⟩, ⟨46, [], false, false, []⟩, ⟨47, [], false, false, []⟩], imm := false, old := false }
theorem mA (O : Alg) (x : Ags O) : XF (O := O) Tryz.prog cO true true [] 10 [] (xr x VM 0) = Kv O x := by kernel_rfl
theorem nB : Vd Tryz.prog 10 Kh := fun N h =>
 Ax mix (E := Bl N) (N := N) (cfg := cO) (ci := ⟨10, [], true, true, []⟩) (ks := VM) (AF (my N (fun _ => rfl)) (AF (jb N (fun _ => rfl)) (AF (qg N (fun _ => rfl)) (AF (pW N (fun _ => rfl)) (AF (sM N (fun _ => rfl)) (AF (sg N (fun _ => rfl)) BU)))))) (c := Kh N) (F := fun ls => Kv (std (Bl N) N) (xOf ls)) (fun ls => rfl) (fun ls => mA (std (Bl N) N) (xOf ls)) h
end Go.Px
